/- A library of readings of Go values with their ownership,and of walks on them. No statement of the program. -/
import Derived.Calls
import Derived.Orders
import Derived.Laws.AppendOwn
import Derived.Laws.Cells
import Derived.Laws.Tables
import Derived.Laws.Entries
import Derived.Deep.AppendSrc
import Derived.Laws.BytesString
import Derived.Great.BuildSlice
set_option linter.unusedSimpArgs false
set_option linter.defProp false
namespace Go.Abs
def cb:=@Option.some.injEq
def cc:=@Option.bind_some
def cd:=@List.getElem?_eq_some_iff
def cg:=@List.mem_of_getElem?
def cj:=@Option.map_eq_some_iff
def ck:=@Option.bind_eq_some_iff
def cn:=@List.all_eq_true
def cq:=@List.getElem?_eq_getElem
def cr:=@Nat.le_refl
def cu:=@List.getElem?_cons_zero
def cv:=@List.getElem?_map
def cw:=@Bool.and_eq_true
def cx:=@Option.map_some
def cy:=@List.length_map
def cz:=@Prod.mk.injEq
def cC:=@List.getElem?_of_mem
def cE:=@List.mem_map
def cF:=@List.mem_cons
def cG:=@List.length_cons
def cH:=@List.mem_append
def cI:=@Nat.add_mul
def cJ:=@List.getElem?_append_left
def cK:=@List.nil_append
def cL:=@List.getElem?_append_right
def cO:=@List.mem_singleton
def cP:=@Int.toNat_natCast
def cQ:=@List.eq_nil_of_length_eq_zero
def cR:=@Bool.false_eq_true
def cS:=@List.append_nil
def cT:=@Nat.zero_le
def cU:=@Nat.sub_zero
def cV:=@Nat.zero_add
def cW:=@List.getElem?_take
def cX:=@List.getElem?_drop
def cY:=@List.length_nil
def cZ:=@Nat.lt_succ_self
def hC:=@List.length_set
def hU:=@List.getElem?_set
def na:=@List.pairwise_iff_getElem
def nb:=@Nat.le_of_ble_eq_true
def nc:=@Array.getElem?_eq_some_iff
def nf:=@Nat.add_assoc
def ng:=@Option.some.inj
def ni:=@List.length_append
def nj:=@List.take_of_length_le
def nk:=@Option.getD_some
def nn:=@List.getElem?_cons_succ
def nq:=@List.map_cons
def nr:=@List.append_assoc
def nt:=@List.map_append
def nu:=@Nat.le_trans
def nv:=@Nat.mul_le_mul_right
def nw:=@Bool.false_or
def nx:=@List.getElem_mem
def ny:=@Bool.or_eq_true
def nz:=@Bool.not_true
def nA:=@Bool.and_false
def nB:=@List.mem_of_mem_take
def nC:=@List.length_take
def nD:=@Bool.not_eq_true'
def nE:=@Bool.or_true
def nF:=@Bool.or_self
def nG:=@Bool.or_false
def nH:=@List.cons_append
def nI:=@List.mem_filter
def nJ:=@Bool.and_true
def nK:=@Int.natCast_zero
def nL:=@Int.cast_ofNat_Int
def nM:=@List.not_mem_nil
def nN:=@List.ext_getElem?
def nO:=@List.size_toArray
def nP:=@Nat.lt_or_ge
def nQ:=@List.map_drop
def nR:=@Nat.le_max_left
def nS:=@Bool.false_and
def nT:=@List.mem_range
def nU:=@List.drop_zero
def nV:=@List.mem_iff_getElem?
def nW:=@List.getElem?_set_ne
def nX:=@Bool.true_or
def nY:=@Bool.not_false
def nZ:=@List.pairwise_map
def n5:=@List.getElem?_modify
def n7:=@Nat.mul_comm
def n8:=@Nat.le_max_right
def n9:=@Nat.add_zero
def xa:=@List.eq_of_mem_replicate
def xb:=@List.map_take
def xd:=@List.drop_eq_nil_of_le
def xe:=@Nat.le_succ
def xf:=@List.map_nil
def xg:=@Array.getElem?_append_left
def xh:=@Nat.sub_self
def xi:=@Nat.lt_trichotomy
def xj:=@Bool.true_and
def xk:=@List.getElem?_take_of_lt
def xl:=@Int.ofNat_lt
def xm:=@Int.natCast_nonneg
def xo:=@List.getElem?_set_self
def xp:=@Bool.not_eq_true
def xq:=@List.length_replicate
def xr:=@List.pairwise_append
def xt:=@List.take_append
def xu:=@Int.toNat_zero
def xv:=@List.any_eq_false
def xw:=@List.mem_of_mem_drop
def xx:=@Array.getD_eq_getD_getElem?
def xy:=@List.length_pos_iff
def xz:=@List.take_length
def xA:=@List.getElem?_mapIdx
def xB:=@List.filter_append
def xC:=@List.drop_eq_getElem_cons
def xD:=@List.take_append_drop
def xE:=@List.take_add_one
def xF:=@Array.getElem?_setIfInBounds
def xG:=@Ne.symm
def xH:=@Array.length_toList
def xI:=@List.map_eq_nil_iff
def xJ:=@Nat.succ_ne_zero
def xK:=@Classical.choose_spec
def xL:=@List.foldl_cons
def xM:=@Array.toArray_toList
def xN:=@Array.getElem?_toList
def xO:=@List.getD_eq_getElem?_getD
def xP:=@List.filter_eq_self
def xQ:=@Option.toList_some
def xR:=@List.pairwise_cons
def xS:=@List.singleton_append
def xT:=@List.getElem?_eq_none_iff
def xU:=@Array.eq_empty_of_size_eq_zero
def xV:=@List.all_cons
def xW:=@List.map_set
def xX:=@List.mem_range'
def xY:=@Iff.rfl
def xZ:=@List.nodup_cons
def acx:=@List.range'_succ
def acy:=@Option.isNone_iff_eq_none
def acz:=@Array.getElem?_eq_getElem
def acA:=@List.drop_drop
def acB:=@List.drop_append
def acC:=@Nat.not_succ_le_self
def acD:=@Array.getElem?_modify
def acE:=@Nat.min_eq_left
def acF:=@Option.isSome_iff_exists
def acG:=@Array.toList_map
def acH:=@Array.getElem?_append_right
def acI:=@Nat.zero_mul
def acJ:=@Array.size_append
def acK:=@List.length_drop
def acL:=@List.getD_nil
def acM:=@Bool.eq_iff_iff
def acN:=@List.getElem_of_mem
def acO:=@List.take_zero
def acP:=@List.isEmpty_nil
def acQ:=@Int.fdiv_eq_ediv_of_nonneg
def acR:=@Nat.lt_of_lt_of_le
def acS:=@List.cons.injEq
def acT:=@Array.getElem?_push
def acU:=@List.length_range
def acV:=@List.getElem?_range
def acW:=@Nat.le_of_eq
def acX:=@List.getElem?_toArray
def acY:=@Nat.mul_add_mod
def acZ:=@Nat.mod_eq_of_lt
def ac0:=@List.flatMap_cons
def ac1:=@List.map_congr_left
def ac2:=@List.set_comm
def ac3:=@List.isEmpty_iff
def ac4:=@Nat.blt_eq
def ac5:=@List.filterMap_cons
def ac6:=@List.filter_cons
def ac7:=@Array.getElem?_replicate
def ac8:=@List.all_map
def ac9:=@List.mem_range'_1
def ada:=@Nat.min_self
def adb:=@List.exists_mem_of_ne_nil
def ade:=@List.nodup_append
def adf:=@List.take_sublist
def adg:=@List.length_filter_le
def adh:=@List.ne_nil_of_mem
def adi:=@Nat.mul_add_div
def adj:=@Nat.div_eq_of_lt
def adk:=@Nat.mul_le_mul_left
def adl:=@List.zipIdx_cons
def adm:=@Array.foldl_toList
def adn:=@Array.toList_zipIdx
def ado:=@Array.ext_getElem?
def adp:=@Option.isSome_none
def adq:=@List.flatten_cons
def adr:=@List.getElem?_replicate
def ads:=@Array.getElem?_map
def adt:=@Array.getElem?_range
def adv:=@List.set_set
def adw:=@List.any_cons
def adx:=@List.contains_eq_mem
def ady:=@List.mem_filterMap
def adz:=@Bool.eq_false_iff
def adA:=@Array.any_eq_true'
def adB:=@List.rel_of_pairwise_cons
def adC:=@List.length_eq_zero_iff
def adD:=@List.length_eq_one_iff
def adE:=@List.map_map
def adF:=@List.take_append_of_le_length
def adG:=@List.mem_append_left
def adH:=@Array.getElem?_append
def adI:=@List.drop_sublist
def adJ:=@Classical.not_not
def adK:=@Bool.not_not
def adL:=@List.mem_iff_getElem
def adM:=@List.any_eq_true
def adN:=@List.mem_cons_of_mem
def adO:=@List.append_cancel_left_eq
def adP:=@List.append_cancel_left
def adS:=@List.extract_toArray
def adT:=@List.extract_eq_take_drop
def adU:=@Array.getElem?_eq_none
def adX:=@Nat.div_lt_of_lt_mul
def ad1:=@List.set_eq_of_length_le
def ad2:=@List.append_toArray
def ad4:=@Array.all_eq_true'
def ad5:=@List.range_eq_range'
def ad6:=@Array.size_replicate
def ad7:=@List.mem_or_eq_of_mem_set
def ad8:=@List.set_append_right
def ad9:=@List.set_cons_zero
def aea:=@List.take_set_of_le
def aeb:=@List.getElem?_eq_none
def aec:=@List.map_replicate
def aed:=@List.drop_of_length_le
def aee:=@List.isEmpty_eq_false_iff
def aef:=@Array.getElem?_mapIdx
def aeh:=@List.length_mapIdx
def aej:=@List.takeWhile_cons
def ael:=@Nat.lt_or_eq_of_le
def aem:=@List.find?_eq_none
def aeo:=@List.length_pos_of_mem
def aep:=@Nat.lt_of_le_of_ne
def aeq:=@List.length_filter_eq_length_iff
def aes:=@Int.emod_lt_of_pos
def aet:=@List.countP_mono_left
end Go.Abs
namespace Go.Abs
abbrev aq:=List (Nat × Nat)
inductive C where
 | dead
 | val (v:Value)
 | sl (own:Bool) (nl:Option Bool) (es:Nat) (cap:Option Nat) (rows:List (List C))
 | agg (cs:List C)
 | tup (cs:List C)
 | clo (f:Nat) (caps:List C)
 | iref (es:Nat) (rows:List (List C)) (i j:Nat)
 | pref (n:Nat) (p:aq) (i j:Nat)
 | pal (n:Nat) (p:aq) (lo len:Nat) (cap:Option Nat)
 deriving Inhabited
def C.kid:C->Nat × Nat->Option C
 | .sl true _ _ _ rows,s=>(rows[s.1]?).bind (·[s.2]?)
 | .agg cs,s=>if s.1=0 then cs[s.2]? else none
 | .tup cs,s=>if s.1=0 then cs[s.2]? else none
 | _,_=>none
def C.at:C->aq->Option C
 | c,[]=>some c
 | c,s::p=>(c.kid s).bind (·.at p)
def C.turn (f:C->C):C->aq->C
 | c,[]=>f c
 | .sl own nl es cap rows,s::p=>.sl own nl es cap (rows.modify s.1 (·.modify s.2 (C.turn f · p)))
 | .agg cs,s::p=>.agg (cs.modify s.2 (C.turn f · p))
 | .tup cs,s::p=>.tup (cs.modify s.2 (C.turn f · p))
 | c,_=>c
def blk:Value->Option Nat
 | .slice (some a) _ k=>if k=0 then none else some a.block
 | _=>none
def C.isOwn:C->Bool
 | .sl true _ _ _ _=>true
 | _=>false
def B0:Nat:=1000000000
def Dw (f:Nat) (arr:Array Value):Value:=if f < B0 then .func (.func f) #[] arr else .func (.func (f - B0)) arr #[]
def GF (f:Nat):Nat:=if f < B0 then f else f - B0
def I0 {α:Type} (f:Nat) (args caps:List α):List α:=if f < B0 then args++caps else caps++args
def KL (f:Nat):Nat:=if f < B0 then f else f+B0
def Zt (f:Nat):Dw (KL f) #[]=.func (.func f) #[] #[]:=by
 unfold Dw KL;by_cases h:f < B0
 ·simp [h]
 ·have hB:¬ (f+B0 < B0):=by omega
  simp [h,hB]
def L0:C->Value->Prop:=fun _ _=>False
def rel (w:World) (S:Nat->Prop) (L:C->Value->Prop) (m:aq->Value):(o:Bool)->Nat->aq->C->Value->Prop
 | _,0,_,_,_=>False
 | o,d+1,p,c,u=>match c with
  | .dead=>True
  | .val v=>u=v
  | .sl own nl es cap rows=>∃ a k,u=.slice a rows.length k/\rows.length<=k/\k<=maxLen/\(∀ c,cap=some c->k=c)/\((∀ b,nl=some b->(b=true↔a=none))/\(a=none->k=0))/\(∀ row∈rows,row.length=es) ∧
    ((own && o)=true->u=m p) ∧
    (k=0∨((own && o)=false/\rows=[])∨∃ b off arr elem frz,a=some ⟨b,off,none⟩/\w.heap[b]?=some (.cells arr elem frz) ∧
     ((own && o)=false->S b)/\((own && o)=true->frz=(0,0)/\off+k * es<=arr.size) ∧
     ∀ i j row c',rows[i]?=some row->row[j]?=some c'->∃ u',arr[off+i * es+j]?=some u'/\rel w S L0 m (own && o) d (p++[(i,j)]) c' u')
  | .agg cs=>∃ arr:Array Value,u=.agg arr/\arr.size=cs.length/\∀ (j:Nat) (c':C),cs[j]?=some c'->∃ u',arr[j]?=some u'/\rel w S L m o d (p++[(0,j)]) c' u'
  | .tup cs=>∃ arr:Array Value,u=.tuple arr/\arr.size=cs.length/\∀ (j:Nat) (c':C),cs[j]?=some c'->∃ u',arr[j]?=some u'/\rel w S L m o d (p++[(0,j)]) c' u'
  | .clo f caps=>∃ arr:Array Value,u=Dw f arr/\arr.size=caps.length/\∀ (j:Nat) (c':C),caps[j]?=some c'->∃ u',arr[j]?=some u'/\rel w S L m false d p c' u'
  | .iref es rows i j=>∃ b off arr elem frz,u=.pointer (some ⟨b,off+i * es+j,none⟩)/\w.heap[b]?=some (.cells arr elem frz)/\S b/\(∀ row∈rows,row.length=es) ∧
     ∀ i' j' row c',rows[i']?=some row->row[j']?=some c'->∃ u',arr[off+i' * es+j']?=some u'/\rel w S L0 m false d p c' u'
  | .pref ..=>L c u
  | .pal ..=>L c u
def aS {w:World} {S:Nat->Prop} {m:aq->Value}:∀ (d:Nat) {L:C->Value->Prop} {o:Bool} {p:aq} {c:C} {u:Value} (d':Nat),d<=d'->rel w S L m o d p c u->rel w S L m o d' p c u:=by
 intro d
 induction d with
 | zero=>intro L o p c u d' _ h; exact h.elim
 | succ d ih=>
  intro L o p c u d' hd h;obtain ⟨d',rfl⟩:∃ k,d'=k+1:=⟨d' - 1,by omega⟩;have hd:d<=d':=by omega
  cases c with
  | dead=>trivial
  | val v=>exact h
  | sl own nl es cap rows=>
   obtain ⟨a,k,h1,h2,h3,h4,hz,h5,h6,h7⟩:=h;refine ⟨a,k,h1,h2,h3,h4,hz,h5,h6,?_⟩;rcases h7 with h7|h7|⟨b,off,arr,elem,frz,g1,g2,g3,g4,g5⟩
   ·exact .inl h7
   ·exact .inr (.inl h7)
   ·exact .inr (.inr ⟨b,off,arr,elem,frz,g1,g2,g3,g4,fun i j row c' e1 e2=>let ⟨u',e3,e4⟩:=g5 i j row c' e1 e2; ⟨u',e3,ih d' hd e4⟩⟩)
  | agg cs=>obtain ⟨arr,h1,h2,h3⟩:=h; exact ⟨arr,h1,h2,fun j c' e=>let ⟨u',e1,e2⟩:=h3 j c' e; ⟨u',e1,ih d' hd e2⟩⟩
  | tup cs=>obtain ⟨arr,h1,h2,h3⟩:=h; exact ⟨arr,h1,h2,fun j c' e=>let ⟨u',e1,e2⟩:=h3 j c' e; ⟨u',e1,ih d' hd e2⟩⟩
  | clo f cs=>obtain ⟨arr,h1,h2,h3⟩:=h; exact ⟨arr,h1,h2,fun j c' e=>let ⟨u',e1,e2⟩:=h3 j c' e; ⟨u',e1,ih d' hd e2⟩⟩
  | iref es rows i j=>
   obtain ⟨b,off,arr,elem,frz,g1,g2,g3,g4,g5⟩:=h;exact ⟨b,off,arr,elem,frz,g1,g2,g3,g4,fun i j row c' e1 e2=>let ⟨u',e3,e4⟩:=g5 i j row c' e1 e2; ⟨u',e3,ih d' hd e4⟩⟩
  | pref n p i j=>exact h
  | pal n p lo len cap=>exact h
def C.ment (f:Nat->aq->Bool):Nat->C->Bool
 | _,.dead=>false
 | _,.val _=>false
 | _,.sl ..=>false
 | _,.iref ..=>false
 | _,.pref n p _ _=>f n p
 | _,.pal n p _ _ _=>f n p
 | 0,_=>true
 | k+1,.agg cs=>cs.any (C.ment f k)
 | k+1,.tup cs=>cs.any (C.ment f k)
 | k+1,.clo _ cs=>cs.any (C.ment f k)
def C.place:C->Option (Nat × aq)
 | .pref n p _ _=>some (n,p)
 | .pal n p _ _ _=>some (n,p)
 | _=>none
def occ:Nat->C->C->Prop
 | 0,_,_=>False
 | d+1,c,v=>match c with
  | .pref ..=>v=c
  | .pal ..=>v=c
  | .agg cs=>∃ c'∈cs,occ d c' v
  | .tup cs=>∃ c'∈cs,occ d c' v
  | .clo _ cs=>∃ c'∈cs,occ d c' v
  | _=>False
def ir {f:Nat->aq->Bool}:∀ (d k:Nat) (c v:C),c.ment f k=false->occ d c v->∃ n p,v.place=some (n,p)/\f n p=false:=by
 intro d
 induction d with
 | zero=>intro k c v _ h; exact h.elim
 | succ d ih=>
  intro k c v hf h;cases c with
  | pref n p i j=>simp only [occ] at h; subst h; exact ⟨n,p,rfl,by cases k<;>simpa [C.ment] using hf⟩
  | pal n p lo len cap=>simp only [occ] at h; subst h; exact ⟨n,p,rfl,by cases k<;>simpa [C.ment] using hf⟩
  | agg cs=>
   cases k with
   | zero=>simp [C.ment] at hf
   | succ k=>obtain ⟨c',hm,ho⟩:=h; simp only [C.ment,xv,xp] at hf; exact ih k c' v (hf c' hm) ho
  | tup cs=>
   cases k with
   | zero=>simp [C.ment] at hf
   | succ k=>obtain ⟨c',hm,ho⟩:=h; simp only [C.ment,xv,xp] at hf; exact ih k c' v (hf c' hm) ho
  | clo g cs=>
   cases k with
   | zero=>simp [C.ment] at hf
   | succ k=>obtain ⟨c',hm,ho⟩:=h; simp only [C.ment,xv,xp] at hf; exact ih k c' v (hf c' hm) ho
  | dead=>exact h.elim
  | val _=>exact h.elim
  | sl _ _ _ _ _=>exact h.elim
  | iref _ _ _ _=>exact h.elim
def av {w w':World} {S S':Nat->Prop} {m m':aq->Value} (hS:∀ b,b < w.heap.size->S b->S' b/\w'.heap[b]?=w.heap[b]?) :
  ∀ (d:Nat) {L L':C->Value->Prop} {o:Bool} {p p':aq} {c:C} {u:Value},
   (∀ v u,occ d c v->L v u->L' v u) ->
   (o=true->∀ q b,((c.at q).map C.isOwn)=some true->blk (m (p++q))=some b->b < w.heap.size->w'.heap[b]?=w.heap[b]?) ->
   (o=true->∀ q,((c.at q).map C.isOwn)=some true->m' (p'++q)=m (p++q)) ->
   rel w S L m o d p c u->rel w' S' L' m' o d p' c u:=by
 intro d
 induction d with
 | zero=>intro L L' o p p' c u _ _ _ h; exact h.elim
 | succ d ih=>
  intro L L' o p p' c u hL hO hm h;cases c with
  | dead=>trivial
  | val v=>exact h
  | sl own nl es cap rows=>
   obtain ⟨a,k,h1,h2,h3,h4,hz,h5,h6,h7⟩:=h;refine ⟨a,k,h1,h2,h3,h4,hz,h5,?_,?_⟩
   ·intro ho;simp only [cw] at ho;obtain ⟨rfl,rfl⟩:=ho;have e:=hm rfl [] (by simp [C.at,C.isOwn]);simp only [cS] at e;rw [e];exact h6 rfl
   ·rcases h7 with h7|h7|⟨b,off,arr,elem,frz,g1,g2,g3,g4,g5⟩
    ·exact .inl h7
    ·exact .inr (.inl h7)
    ·by_cases hk:k=0
     ·exact .inl hk
     have hb:b < w.heap.size:=(nc.1 g2).1;refine .inr (.inr ⟨b,off,arr,elem,frz,g1,?_,fun e=>(hS b hb (g3 e)).1,g4,?_⟩)
     ·cases ho:(own && o) with
      | false=>rw [(hS b hb (g3 ho)).2]; exact g2
      | true=>
       have ho':=ho;simp only [cw] at ho';obtain ⟨rfl,rfl⟩:=ho';have e:=h6 rfl;rw [hO rfl [] b (by simp [C.at,C.isOwn]) (by rw [cS,<-e,h1,g1]; simp [blk,hk]) hb];exact g2
     ·intro i j row c' e1 e2;obtain ⟨u',e3,e4⟩:=g5 i j row c' e1 e2;refine ⟨u',e3,ih (fun _ _ _ h=>h.elim) ?_ ?_ e4⟩
      ·intro ho q b' hq hbk;simp only [cw] at ho;obtain ⟨rfl,rfl⟩:=ho;exact hO rfl ((i,j)::q) b' (by simp only [C.at,C.kid,e1,cc,e2]; exact hq) (by simpa using hbk)
      ·intro ho q hq;simp only [cw] at ho;obtain ⟨rfl,rfl⟩:=ho;have:=hm rfl ((i,j)::q) (by simp only [C.at,C.kid,e1,cc,e2]; exact hq);simpa using this
  | agg cs=>
   obtain ⟨arr,h1,h2,h3⟩:=h;refine ⟨arr,h1,h2,fun j c' e=>?_⟩;obtain ⟨u',e1,e2⟩:=h3 j c' e;refine ⟨u',e1,ih (fun v u hv=>hL v u ⟨c',cg e,hv⟩) ?_ ?_ e2⟩
   ·intro ho q b' hq hbk;exact hO ho ((0,j)::q) b' (by simp only [C.at,C.kid,if_true,e,cc]; exact hq) (by simpa using hbk)
   ·intro ho q hq;have:=hm ho ((0,j)::q) (by simp only [C.at,C.kid,if_true,e,cc]; exact hq);simpa using this
  | tup cs=>
   obtain ⟨arr,h1,h2,h3⟩:=h;refine ⟨arr,h1,h2,fun j c' e=>?_⟩;obtain ⟨u',e1,e2⟩:=h3 j c' e;refine ⟨u',e1,ih (fun v u hv=>hL v u ⟨c',cg e,hv⟩) ?_ ?_ e2⟩
   ·intro ho q b' hq hbk;exact hO ho ((0,j)::q) b' (by simp only [C.at,C.kid,if_true,e,cc]; exact hq) (by simpa using hbk)
   ·intro ho q hq;have:=hm ho ((0,j)::q) (by simp only [C.at,C.kid,if_true,e,cc]; exact hq);simpa using this
  | clo f cs=>obtain ⟨arr,h1,h2,h3⟩:=h; exact ⟨arr,h1,h2,fun j c' e=>let ⟨u',e1,e2⟩:=h3 j c' e; ⟨u',e1,ih (fun v u hv=>hL v u ⟨c',cg e,hv⟩) (fun ho=>by simp at ho) (fun ho=>by simp at ho) e2⟩⟩
  | iref es rows i j=>
   obtain ⟨b,off,arr,elem,frz,g1,g2,g3,g4,g5⟩:=h;have hb:b < w.heap.size:=(nc.1 g2).1;exact ⟨b,off,arr,elem,frz,g1,by rw [(hS b hb g3).2]; exact g2,(hS b hb g3).1,g4,fun i j row c' e1 e2=>let ⟨u',e3,e4⟩:=g5 i j row c' e1 e2; ⟨u',e3,ih (fun _ _ _ h=>h.elim) (fun ho=>by simp at ho) (fun ho=>by simp at ho) e4⟩⟩
  | pref n p i j=>exact hL _ _ rfl h
  | pal n p lo len cap=>exact hL _ _ rfl h
end Go.Abs
namespace Go.Abs
structure St where
 tmps:List C
 roots:Nat->C
def ak (c:C) (q:aq):Prop:=((c.at q).map C.isOwn)=some true
def aG (R:Nat->C) (m:Nat->aq->Value) (b:Nat):Prop:=∃ n p,ak (R n) p/\blk (m n p)=some b
structure Ctx where
 w0:World
 S0:Nat->Prop
 K:Nat->Prop
 kS:∀ b,K b->S0 b
def Ctx.S (X:Ctx) (R:Nat->C) (m:Nat->aq->Value) (b:Nat):Prop:=(X.S0 b∨X.w0.heap.size<=b)/\¬ aG R m b
def Lv (R:Nat->C) (m:Nat->aq->Value):C->Value->Prop
 | .pref n p i j,u=>∃ nl es cap rows b off k,(R n).at p=some (.sl true nl es cap rows)/\m n p=.slice (some ⟨b,off,none⟩) rows.length k/\u=.pointer (some ⟨b,off+i * es+j,none⟩)
 | .pal n p lo len cap,u=>∃ nl es cap' rows a k a' k',(R n).at p=some (.sl true nl es cap' rows)/\m n p=.slice a rows.length k/\lo+len<=rows.length/\u=.slice a' len k'/\len<=k'/\lo+k'<=k ∧
   (∀ c,cap=some c->k'=c)/\(cap=none->lo+k'=k)/\(k'=0∨∃ b off,a=some ⟨b,off,none⟩/\a'=some ⟨b,off+lo * es,none⟩)
 | _,_=>False
def Ba (w:World) (S K:Nat->Prop):Ctx:={ w0:=w,S0:=fun b=>S b∨K b,K:=K,kS:=fun _ h=>.inr h }
structure Fr (X:Ctx) (w:World):Prop where
 os:w.os=X.w0.os
 tape:w.tape=X.w0.tape
 output:w.output=X.w0.output
 drawn:X.w0.drawn<=w.drawn
 size:X.w0.heap.size<=w.heap.size
 block:∀ b,b < X.w0.heap.size->¬ X.K b->w.heap[b]?=X.w0.heap[b]?
def dm:aq->Value:=fun _=>undef
structure ar (X:Ctx) (m:Nat->aq->Value) (st:St) (a:Act) (w:World):Prop where
 len:a.tmps.size=st.tmps.length
 tmp:∀ (t:Nat) (c:C),st.tmps[t]?=some c->∃ u d,a.tmps[t]?=some u/\rel w (X.S st.roots m) (Lv st.roots m) dm false d [] c u
 root:∀ n,∃ u d,rel w (X.S st.roots m) L0 (m n) true d [] (st.roots n) u
 inj:∀ n p n' p' b,ak (st.roots n) p->ak (st.roots n') p'->blk (m n p)=some b->blk (m n' p')=some b->n=n'/\p=p'
 own:∀ n p b,ak (st.roots n) p->blk (m n p)=some b->X.w0.heap.size<=b∨X.K b
 fr:Fr X w
 df:a.defers=[]
def Inv (X:Ctx) (st:St) (a:Act) (w:World):Prop:=∃ m,ar X m st a w
def db {w:World} {S:Nat->Prop} {m m':aq->Value} {d:Nat} {L:C->Value->Prop} {p p':aq} {c:C} {u:Value} (h:rel w S L m false d p c u):rel w S L m' false d p' c u:=
 av (fun _ _ h=>⟨h,rfl⟩) d (fun _ _ _ h=>h) (fun h=>by simp at h) (fun h=>by simp at h) h
def St.put (st:St) (d:Option Tmp) (c:C):St:=match d with|some d=>{ st with tmps:=st.tmps.set d c }|none=>st
def ar.put {X:Ctx} {m:Nat->aq->Value} {st:St} {a:Act} {w:World} (h:ar X m st a w) (d:Option Tmp) {c:C} {u:Value} {k:Nat}
  (hr:rel w (X.S st.roots m) (Lv st.roots m) dm false k [] c u):ar X m (st.put d c) (a.put d u) w:=by
 cases d with
 | none=>exact h
 | some d=>
  refine ⟨by simp [St.put,Act.put,h.len],?_,h.root,h.inj,h.own,h.fr,h.df⟩;intro t c' ht;simp only [St.put,hU] at ht;split at ht
  ·rename_i e;subst e;split at ht
   ·rename_i hl;simp only [cb] at ht;subst ht;exact ⟨u,k,by simp [Act.put,xF,h.len,hl],hr⟩
   ·simp at ht
  ·rename_i e;obtain ⟨u',d',h1,h2⟩:=h.tmp t c' ht;exact ⟨u',d',by simp [Act.put,xF,e,h1],h2⟩
def ar.forget {X:Ctx} {m:Nat->aq->Value} {st:St} {a:Act} {w:World} (h:ar X m st a w) (ts:List C) (hl:ts.length=st.tmps.length)
  (ht:∀ (t:Nat) (c:C),ts[t]?=some c->c=.dead∨st.tmps[t]?=some c):ar X m { st with tmps:=ts } a w:=by
 refine ⟨by simp [h.len,hl],?_,h.root,h.inj,h.own,h.fr,h.df⟩;intro t c hc;rcases ht t c hc with rfl|h1
 ·have:t < a.tmps.size:=by rw [h.len,<-hl]; exact (cd.1 hc).1
  exact ⟨a.tmps[t],1,by simp [this],trivial⟩
 ·exact h.tmp t c h1
def poi (f:Nat->aq->Bool) (c:C):C:=if c.ment f 3 then .dead else c
def js (f:Nat->aq->Bool) (c:C):poi f c=.dead∨(poi f c=c/\c.ment f 3=false):=by
 unfold poi;cases h:c.ment f 3
 ·right; simp
 ·left; simp
def kE:aq->aq->Bool
 | [],_=>true
 | _::_,[]=>false
 | (_,j)::q,(_,j')::p=>j == j' && kE q p
def Ex (q r:aq):kE q (q++r)=true:=by
 induction q with
 | nil=>rfl
 | cons x q ih=>simp [kE,ih]
def C.at_append (c:C) (p q:aq):c.at (p++q)=(c.at p).bind (·.at q):=by
 induction p generalizing c with
 | nil=>simp [C.at]
 | cons s p ih=>
  simp only [nH,C.at];cases h:c.kid s with
  | none=>simp
  | some c'=>simp [ih]
def C.kid_turn_self (f:C->C) (c:C) (s:Nat × Nat) (q:aq) (c':C) (h:c.kid s=some c'):(c.turn f (s::q)).kid s=some (c'.turn f q):=by
 obtain ⟨i,j⟩:=s;cases c with
 | sl own nl es cap rows=>
  cases own with
  | false=>simp [C.kid] at h
  | true=>
   simp only [C.kid] at h ⊢;simp only [C.turn,C.kid];cases hr:rows[i]? with
   | none=>simp [hr] at h
   | some row=>simp [hr] at h; simp [n5,hr,h]
 | agg cs=>simp only [C.kid] at h; simp only [C.turn,C.kid]; split at h<;>simp_all [n5]
 | tup cs=>simp only [C.kid] at h; simp only [C.turn,C.kid]; split at h<;>simp_all [n5]
 | _=>simp [C.kid] at h
def C.kid_turn_ne (f:C->C) (c:C) (s s':Nat × Nat) (q:aq) (hs:s≠s') (h0:(∃ cs,c=.agg cs)∨(∃ cs,c=.tup cs)->s.1=0):(c.turn f (s::q)).kid s'=c.kid s':=by
 obtain ⟨i,j⟩:=s;obtain ⟨i',j'⟩:=s';cases c with
 | sl own nl es cap rows=>
  cases own with
  | false=>simp [C.turn,C.kid]
  | true=>
   simp only [C.turn,C.kid];simp only [n5];by_cases hi:i=i'
   ·subst hi;have hj:j≠j':=fun e=>hs (by rw [e]);cases hr:rows[i]? with
    | none=>simp
    | some row=>simp [n5,hj]
   ·cases hr:rows[i']? with
    | none=>simp
    | some row=>simp [hi]
 | agg cs=>
  have:=h0 (.inl ⟨cs,rfl⟩);simp only at this;subst this;simp only [C.turn,C.kid];split
  ·rename_i e;subst e;have hj:j≠j':=fun e=>hs (by rw [e]);simp [n5,hj]
  ·rfl
 | tup cs=>
  have:=h0 (.inr ⟨cs,rfl⟩);simp only at this;subst this;simp only [C.turn,C.kid];split
  ·rename_i e;subst e;have hj:j≠j':=fun e=>hs (by rw [e]);simp [n5,hj]
  ·rfl
 | _=>simp [C.turn]
def C.at_turn_self (f:C->C):∀ (q r:aq) (c c':C),c.at q=some c'->(c.turn f q).at (q++r)=(f c').at r:=by
 intro q
 induction q with
 | nil=>intro r c c' h; simp only [C.at,cb] at h; subst h; simp [C.turn]
 | cons s q ih=>
  intro r c c' h;simp only [C.at] at h;cases hk:c.kid s with
  | none=>simp [hk] at h
  | some c1=>
   simp only [hk,cc] at h;simp only [nH,C.at,C.kid_turn_self f c s q c1 hk,cc];exact ih r c1 c' h
def C.kid_zero {c c':C} {s:Nat × Nat} (h:c.kid s=some c'):(∃ cs,c=.agg cs)∨(∃ cs,c=.tup cs)->s.1=0:=by
 rintro (⟨cs,rfl⟩|⟨cs,rfl⟩)<;>simp only [C.kid] at h<;>split at h<;>simp_all
def C.at_turn_off (f:C->C):∀ (q p:aq) (c c' x:C),c.at q=some c'->(∀ r,p≠q++r)->c.at p=some x ->
  ∃ x',(c.turn f q).at p=some x'/\x'.isOwn=x.isOwn/\∀ nl es cap rows,x=.sl true nl es cap rows->∃ rows',x'=.sl true nl es cap rows'/\rows'.length=rows.length:=by
 intro q
 induction q with
 | nil=>intro p c c' x _ h2 _; exact absurd rfl (h2 p)
 | cons s q ih=>
  intro p c c' x h1 h2 h3;simp only [C.at] at h1;cases hk:c.kid s with
  | none=>simp [hk] at h1
  | some c1=>
   simp only [hk,cc] at h1;cases p with
   | nil=>
    simp only [C.at,cb] at h3;subst h3;refine ⟨_,rfl,?_,?_⟩
    ·cases c<;>first|rfl|(rename_i o _ _ _ _; cases o<;>rfl)
    ·intro nl es cap rows e;subst e;exact ⟨_,rfl,by simp⟩
   | cons s' p=>
    by_cases hs:s=s'
    ·subst hs;simp only [C.at,hk,cc] at h3;obtain ⟨x',e1,e2⟩:=ih p c1 c' x h1 (fun r e=>h2 r (by rw [e]; rfl)) h3;exact ⟨x',by simp only [C.at,C.kid_turn_self f c s q c1 hk,cc]; exact e1,e2⟩
    ·refine ⟨x,?_,rfl,fun nl es cap rows e=>⟨rows,e,rfl⟩⟩;simp only [C.at,C.kid_turn_ne f c s s' q hs (C.kid_zero hk)];simpa [C.at] using h3
def ak.of_turn {f:C->C}:∀ {q p:aq} {c c':C},c.at q=some c'->ak (c.turn f q) p->(∃ r,p=q++r/\ak (f c') r)∨((∀ r,p≠q++r)/\ak c p):=by
 intro q
 induction q with
 | nil=>intro p c c' h1 h2; simp only [C.at,cb] at h1; subst h1; exact .inl ⟨p,rfl,by simpa [C.turn] using h2⟩
 | cons s q ih=>
  intro p c c' h1 h2;simp only [C.at] at h1;cases hk:c.kid s with
  | none=>simp [hk] at h1
  | some c1=>
   simp only [hk,cc] at h1;cases p with
   | nil=>
    refine .inr ⟨fun r e=>by simp at e,?_⟩;unfold ak at h2 ⊢;simp only [C.at,cx,cb] at h2 ⊢;rw [<-h2];cases c<;>first|rfl|(rename_i o _ _ _ _; cases o<;>rfl)
   | cons s' p=>
    by_cases hs:s=s'
    ·subst hs;have h2':ak (c1.turn f q) p:=by
      unfold ak at h2 ⊢;simpa only [C.at,C.kid_turn_self f c s q c1 hk,cc] using h2
     rcases ih h1 h2' with ⟨r,e1,e2⟩|⟨e1,e2⟩
     ·exact .inl ⟨r,by rw [e1]; rfl,e2⟩
     ·refine .inr ⟨fun r e=>e1 r (by simpa using e),?_⟩;unfold ak at e2 ⊢;simpa only [C.at,hk,cc] using e2
    ·refine .inr ⟨fun r e=>hs (by simp at e; exact e.1.symm),?_⟩;unfold ak at h2 ⊢;simpa only [C.at,C.kid_turn_ne f c s s' q hs (C.kid_zero hk)] using h2
def va {w:World} {S:Nat->Prop} {m:aq->Value}:∀ (q:aq) {d:Nat} {p:aq} {c c':C} {u:Value},rel w S L0 m true d p c u->c.at q=some c' ->
  ∃ u' d',rel w S L0 m true d' (p++q) c' u':=by
 intro q
 induction q with
 | nil=>intro d p c c' u h e; simp only [C.at,cb] at e; subst e; exact ⟨u,d,by simpa using h⟩
 | cons s q ih=>
  intro d p c c' u h e;simp only [C.at] at e;cases hk:c.kid s with
  | none=>simp [hk] at e
  | some c1=>
   simp only [hk,cc] at e;obtain ⟨i,j⟩:=s;have step:∃ u' d',rel w S L0 m true d' (p++[(i,j)]) c1 u':=by
    cases d with
    | zero=>exact h.elim
    | succ d=>
     cases c with
     | sl own nl es cap rows=>
      cases own with
      | false=>simp [C.kid] at hk
      | true=>
       simp only [C.kid] at hk;cases hr:rows[i]? with
       | none=>simp [hr] at hk
       | some row=>
        simp only [hr,cc] at hk;obtain ⟨a,k,h1,h2,h3,h4,hz,h5,h6,h7⟩:=h;rcases h7 with h7|h7|⟨b,off,arr,elem,frz,g1,g2,g3,g4,g5⟩
        ·have:rows.length=0:=by omega
         have:rows=[]:=cQ this;simp [this] at hr
        ·simp at h7
        ·obtain ⟨u',e3,e4⟩:=g5 i j row c1 hr hk;exact ⟨u',d,e4⟩
     | agg cs=>
      simp only [C.kid] at hk;split at hk
      ·rename_i e0;obtain rfl:i=0:=e0;obtain ⟨arr,h1,h2,h3⟩:=h;obtain ⟨u',e1,e2⟩:=h3 j c1 hk;exact ⟨u',d,e2⟩
      ·simp at hk
     | tup cs=>
      simp only [C.kid] at hk;split at hk
      ·rename_i e0;obtain rfl:i=0:=e0;obtain ⟨arr,h1,h2,h3⟩:=h;obtain ⟨u',e1,e2⟩:=h3 j c1 hk;exact ⟨u',d,e2⟩
      ·simp at hk
     | _=>simp [C.kid] at hk
   obtain ⟨u1,d1,h1⟩:=step;obtain ⟨u',d',h2⟩:=ih h1 e;exact ⟨u',d',by simpa using h2⟩
def eb {w:World} {S:Nat->Prop} {m:aq->Value} {L:C->Value->Prop} {d:Nat} {p:aq} {nl:Option Bool} {es:Nat} {cap:Option Nat} {rows:List (List C)} {u:Value}
  (h:rel w S L m true d p (.sl true nl es cap rows) u):∃ a k d',u=m p/\m p=.slice a rows.length k/\rows.length<=k/\k<=maxLen/\(∀ c,cap=some c->k=c)/\((∀ b,nl=some b->(b=true↔a=none))/\(a=none->k=0))/\(∀ row∈rows,row.length=es) ∧
   (k=0∨∃ b off arr elem,a=some ⟨b,off,none⟩/\w.heap[b]?=some (.cells arr elem (0,0))/\off+k * es<=arr.size ∧
     ∀ (i j:Nat) (row:List C) (c':C),rows[i]?=some row->row[j]?=some c'->∃ u',arr[off+i * es+j]?=some u'/\rel w S L0 m true d' (p++[(i,j)]) c' u'):=by
 cases d with
 | zero=>exact h.elim
 | succ d=>
  obtain ⟨a,k,h1,h2,h3,h4,hz,h5,h6,h7⟩:=h;have e:=h6 rfl;refine ⟨a,k,d,e,by rw [<-e]; exact h1,h2,h3,h4,hz,h5,?_⟩;rcases h7 with h7|h7|⟨b,off,arr,elem,frz,g1,g2,g3,g4,g5⟩
  ·exact .inl h7
  ·simp at h7
  ·obtain ⟨hz,g4'⟩:=g4 rfl;subst hz;exact .inr ⟨b,off,arr,elem,g1,g2,g4',fun i j row c' e1 e2=>by simpa using g5 i j row c' e1 e2⟩
def mQ {w:World} {S:Nat->Prop} {m:aq->Value} {L:C->Value->Prop} {d:Nat} {p:aq} {nl:Option Bool} {es:Nat} {cap:Option Nat} {rows:List (List C)} {a:Option Addr} {k:Nat}
  (h1:m p=.slice a rows.length k) (h2:rows.length<=k) (h3:k<=maxLen) (h4:∀ c,cap=some c->k=c) (hz:(∀ b,nl=some b->(b=true↔a=none))/\(a=none->k=0)) (h5:∀ row∈rows,row.length=es)
  (h7:k=0∨∃ b off arr elem,a=some ⟨b,off,none⟩/\w.heap[b]?=some (.cells arr elem (0,0))/\off+k * es<=arr.size ∧
     ∀ (i j:Nat) (row:List C) (c':C),rows[i]?=some row->row[j]?=some c'->∃ u',arr[off+i * es+j]?=some u'/\rel w S L0 m true d (p++[(i,j)]) c' u') :
  rel w S L m true (d+1) p (.sl true nl es cap rows) (m p):=by
 refine ⟨a,k,h1,h2,h3,h4,hz,h5,fun _=>rfl,?_⟩;rcases h7 with h7|⟨b,off,arr,elem,g1,g2,g4,g5⟩
 ·exact .inl h7
 ·exact .inr (.inr ⟨b,off,arr,elem,(0,0),g1,g2,by simp,fun _=>⟨rfl,g4⟩,fun i j row c' e1 e2=>by simpa using g5 i j row c' e1 e2⟩)
end Go.Abs
namespace Go.Abs
def YY {es off i j i' j':Nat} (hj:j < es) (hj':j' < es) (h:(i',j')≠(i,j)):off+i' * es+j'≠off+i * es+j:=by
 intro e;apply h;have e1:i' * es+j'=i * es+j:=by omega
 have hi:i'=i:=by
  have h1:(i' * es+j') / es=i':=by rw [n7,adi (by omega),adj hj']; omega
  have h2:(i * es+j) / es=i:=by rw [n7,adi (by omega),adj hj]; omega
  rw [<-h1,e1,h2]
 subst hi;simp; omega
theorem AN {α:Type} (l:List α) (i j:Nat) (f:α->α):(l.modify i f)[j]?=if i=j then (l[j]?).map f else l[j]?:=by
 rw [n5];cases l[j]? with
 | none=>simp
 | some x=>by_cases h:i=j<;>simp [h]
def AF {w w':World} {S S':Nat->Prop} {m m':aq->Value} {f:C->C} (hS:∀ b,b < w.heap.size->S b->S' b/\w'.heap[b]?=w.heap[b]?) :
  ∀ (q:aq) {d:Nat} {p:aq} {c c0:C} {u:Value},rel w S L0 m true d p c u->c.at q=some c0 ->
   (∀ q1 b,ak c q1->(∀ r,q1≠q++r)->blk (m (p++q1))=some b->b < w.heap.size->w'.heap[b]?=w.heap[b]?) ->
   (∀ q1,ak c q1->(∀ r,q1≠q++r)->m' (p++q1)=m (p++q1)) ->
   (∀ u0 d0,rel w S L0 m true d0 (p++q) c0 u0->∃ d1,rel w' S' L0 m' true d1 (p++q) (f c0) u0) ->
   ∃ d',rel w' S' L0 m' true d' p (c.turn f q) u:=by
 intro q
 induction q with
 | nil=>
  intro d p c c0 u h e _ _ hf;simp only [C.at,cb] at e;subst e;simpa [C.turn] using hf u d (by simpa using h)
 | cons s q ih=>
  intro d p c c0 u h e hO hm hf;obtain ⟨i,j⟩:=s;simp only [C.at] at e;cases hk:c.kid (i,j) with
  | none=>simp [hk] at e
  | some c1=>
   simp only [hk,cc] at e;have onpath:∀ {u1:Value} {d1:Nat},rel w S L0 m true d1 (p++[(i,j)]) c1 u1->∃ d',rel w' S' L0 m' true d' (p++[(i,j)]) (c1.turn f q) u1:=by
    intro u1 d1 h1;refine ih h1 e ?_ ?_ ?_
    ·intro q1 b ho hne hb hlt;refine hO ((i,j)::q1) b ?_ ?_ (by simpa using hb) hlt
     ·unfold ak at ho ⊢; simpa only [C.at,hk,cc] using ho
     ·intro r er; exact hne r (by simpa using er)
    ·intro q1 ho hne;have:=hm ((i,j)::q1) (by unfold ak at ho ⊢; simpa only [C.at,hk,cc] using ho) (by intro r er; exact hne r (by simpa using er));simpa using this
    ·intro u0 d0 h0;have:=hf u0 d0 (by simpa using h0);simpa using this
   have offpath:∀ {s:Nat × Nat} {c2:C} {u2:Value} {d2:Nat},s≠(i,j)->c.kid s=some c2->rel w S L0 m true d2 (p++[s]) c2 u2->rel w' S' L0 m' true d2 (p++[s]) c2 u2:=by
    intro s c2 u2 d2 hs hks h2;refine av hS d2 (fun _ _ _ h=>h) ?_ ?_ h2
    ·intro _ q1 b ho hb hlt;refine hO (s::q1) b ?_ ?_ (by simpa using hb) hlt
     ·unfold ak; simpa only [C.at,hks,cc] using ho
     ·intro r er; exact hs (by simp at er; exact er.1)
    ·intro _ q1 ho;have:=hm (s::q1) (by unfold ak; simpa only [C.at,hks,cc] using ho) (by intro r er; exact hs (by simp at er; exact er.1));simpa using this
   cases d with
   | zero=>exact h.elim
   | succ d=>
    cases c with
    | sl own nl es cap rows=>
     cases own with
     | false=>simp [C.kid] at hk
     | true=>
      obtain ⟨a,k,dd,hu,h1,h2,h3,h4,hz,h5,h7⟩:=eb h;have hk':=hk;simp only [C.kid] at hk';cases hr:rows[i]? with
      | none=>simp [hr] at hk'
      | some row=>
       simp only [hr,cc] at hk';rcases h7 with h7|⟨b,off,arr,elem,g1,g2,g4,g5⟩
       ·have:rows.length=0:=by omega
        have:rows=[]:=cQ this;simp [this] at hr
       ·have hk0:k≠0:=by
         intro e0;have:rows.length=0:=by omega
         have:rows=[]:=cQ this;simp [this] at hr
        have hown0:ak (.sl true nl es cap rows) []:=by simp [ak,C.at,C.isOwn]
        have hne0:∀ r,([]:aq)≠(i,j)::q++r:=by intro r er; simp at er
        have hblt:b < w.heap.size:=(nc.1 g2).1;have hb:w'.heap[b]?=w.heap[b]?:=hO [] b hown0 hne0 (by rw [cS,h1,g1]; simp [blk,hk0]) hblt;have hm0:=hm [] hown0 hne0;simp only [cS] at hm0;obtain ⟨u1,e1,r1⟩:=g5 i j row c1 hr hk';obtain ⟨d1,r1'⟩:=onpath r1;refine ⟨max dd d1+1,?_⟩;rw [hu,<-hm0];refine mQ (a:=a) (k:=k) (by rw [hm0,h1]; simp) (by simpa using h2) h3 h4 hz ?_ (.inr ⟨b,off,arr,elem,g1,by rw [hb]; exact g2,g4,?_⟩)
        ·intro row' hrow';obtain ⟨x,hx⟩:=cC hrow';rw [AN] at hx;split at hx
         ·cases hrx:rows[x]? with
          | none=>simp [hrx] at hx
          | some rx=>
           simp only [hrx,cx,cb] at hx;have:=h5 rx (cg hrx);rw [<-hx]; simp [this]
         ·exact h5 row' (cg hx)
        ·intro i' j' row' c' e2 e3;rw [AN] at e2;by_cases hi:i=i'
         ·subst hi;simp only [if_true,hr,cx,cb] at e2;subst e2;rw [AN] at e3;by_cases hj:j=j'
          ·subst hj;simp only [if_true,hk',cx,cb] at e3;subst e3;exact ⟨u1,e1,aS _ _ (n8 _ _) r1'⟩
          ·simp only [hj,if_false] at e3;obtain ⟨u',e4,e5⟩:=g5 i j' row c' hr e3;exact ⟨u',e4,aS _ _ (nR _ _) (offpath (by intro e; simp at e; exact hj e.symm) (by simp [C.kid,hr,e3]) e5)⟩
         ·simp only [hi,if_false] at e2;obtain ⟨u',e4,e5⟩:=g5 i' j' row' c' e2 e3;exact ⟨u',e4,aS _ _ (nR _ _) (offpath (by intro e; simp at e; exact hi e.1.symm) (by simp [C.kid,e2,e3]) e5)⟩
    | agg cs=>
     have h0:=C.kid_zero hk (.inl ⟨cs,rfl⟩);obtain rfl:i=0:=h0;have hk':cs[j]?=some c1:=by simpa [C.kid] using hk
     obtain ⟨arr,h1,h2,h3⟩:=h;obtain ⟨u1,e1,r1⟩:=h3 j c1 hk';obtain ⟨d1,r1'⟩:=onpath r1;refine ⟨max d d1+1,arr,h1,by simpa using h2,?_⟩;intro j' c' e2;rw [AN] at e2;by_cases hj:j=j'
     ·subst hj;simp only [if_true,hk',cx,cb] at e2;subst e2;exact ⟨u1,e1,aS _ _ (n8 _ _) r1'⟩
     ·simp only [hj,if_false] at e2;obtain ⟨u',e4,e5⟩:=h3 j' c' e2;exact ⟨u',e4,aS _ _ (nR _ _) (offpath (by intro e; simp at e; exact hj e.symm) (by simp [C.kid,e2]) e5)⟩
    | tup cs=>
     have h0:=C.kid_zero hk (.inr ⟨cs,rfl⟩);obtain rfl:i=0:=h0;have hk':cs[j]?=some c1:=by simpa [C.kid] using hk
     obtain ⟨arr,h1,h2,h3⟩:=h;obtain ⟨u1,e1,r1⟩:=h3 j c1 hk';obtain ⟨d1,r1'⟩:=onpath r1;refine ⟨max d d1+1,arr,h1,by simpa using h2,?_⟩;intro j' c' e2;rw [AN] at e2;by_cases hj:j=j'
     ·subst hj;simp only [if_true,hk',cx,cb] at e2;subst e2;exact ⟨u1,e1,aS _ _ (n8 _ _) r1'⟩
     ·simp only [hj,if_false] at e2;obtain ⟨u',e4,e5⟩:=h3 j' c' e2;exact ⟨u',e4,aS _ _ (nR _ _) (offpath (by intro e; simp at e; exact hj e.symm) (by simp [C.kid,e2]) e5)⟩
    | _=>simp [C.kid] at hk
end Go.Abs
namespace Go.Abs
def upd (R:Nat->C) (n:Nat) (c:C):Nat->C:=fun k=>if k=n then c else R k
def aC (R:Nat->C) (n:Nat) (c:C):upd R n c n=c:=by simp [upd]
def aO {R:Nat->C} {n k:Nat} {c:C} (h:k≠n):upd R n c k=R k:=by simp [upd,h]
def aM {q:aq}:¬ ak .dead q:=by
 cases q with
 | nil=>simp [ak,C.at,C.isOwn]
 | cons s q=>simp [ak,C.at,C.kid]
structure eC (X:Ctx) (m:Nat->aq->Value) (st:St) (w:World) (m':Nat->aq->Value) (st':St) (w':World) (ch:List Nat):Prop where
 len:st'.tmps.length=st.tmps.length
 tmps:∀ (t:Nat) (c:C),st'.tmps[t]?=some c->c=.dead∨(st.tmps[t]?=some c/\∀ v u d,occ d c v->Lv st.roots m v u->Lv st'.roots m' v u)
 heap:∀ b,b < w.heap.size->¬ aG st.roots m b->w'.heap[b]?=w.heap[b]?
 size:w.heap.size<=w'.heap.size
 org:∃ (org:Nat->aq->Nat × aq) (fresh:Option (Nat × aq)),
  (∀ n p b,ak (st'.roots n) p->blk (m' n p)=some b->(fresh=some (n,p)/\w.heap.size<=b)∨(fresh≠some (n,p)/\ak (st.roots (org n p).1) (org n p).2/\blk (m (org n p).1 (org n p).2)=some b/\b < w.heap.size)) ∧
  (∀ n p n' p',ak (st'.roots n) p->ak (st'.roots n') p'->fresh≠some (n,p)->fresh≠some (n',p')->org n p=org n' p'->n=n'/\p=p')
 keep:∀ n,n∉ch->st'.roots n=st.roots n/\(∀ q,ak (st.roots n) q->m' n q=m n q)/\(∀ q b,ak (st.roots n) q->blk (m n q)=some b->b < w.heap.size->w'.heap[b]?=w.heap[b]?)
 roots:(∀ b,b < w.heap.size->X.S st.roots m b->X.S st'.roots m' b/\w'.heap[b]?=w.heap[b]?)->∀ n,n∈ch->∃ u d,rel w' (X.S st'.roots m') L0 (m' n) true d [] (st'.roots n) u
 os:w'.os=w.os
 tape:w'.tape=w.tape
 output:w'.output=w.output
 drawn:w.drawn<=w'.drawn
def eC.S {X:Ctx} {m m':Nat->aq->Value} {st st':St} {w w':World} {ch:List Nat} (s:eC X m st w m' st' w' ch):∀ b,b < w.heap.size->X.S st.roots m b->X.S st'.roots m' b/\w'.heap[b]?=w.heap[b]?:=by
 intro b hlt hs;obtain ⟨org,fresh,hb,_⟩:=s.org;refine ⟨⟨hs.1,?_⟩,s.heap b hlt hs.2⟩;rintro ⟨n,p,ho,hbk⟩;rcases hb n p b ho hbk with ⟨_,hge⟩|⟨_,ho',hbk',_⟩
 ·omega
 ·exact hs.2 ⟨_,_,ho',hbk'⟩
def I2 (X:Ctx) (m:Nat->aq->Value) (st:St) (w:World) (m':Nat->aq->Value) (st':St) (w':World) (n:Nat):Prop:=
 st'.roots n=st.roots n/\(∀ q,ak (st.roots n) q->m' n q=m n q)/\∀ u d,rel w (X.S st.roots m) L0 (m n) true d [] (st.roots n) u->rel w' (X.S st'.roots m') L0 (m' n) true d [] (st'.roots n) u
def eC.keeps {X:Ctx} {m m':Nat->aq->Value} {st st':St} {w w':World} {ch:List Nat} (s:eC X m st w m' st' w' ch) {n:Nat} (hn:n∉ch):I2 X m st w m' st' w' n:=by
 obtain ⟨e,hm,hO⟩:=s.keep n hn;refine ⟨e,hm,fun u d hr=>?_⟩;rw [e];exact av s.S d (fun _ _ _ h=>h) (fun _ q b ho hbk hlt=>hO q b ho (by simpa using hbk) hlt) (fun _ q ho=>by simpa using hm q ho) hr
def ar.go {X:Ctx} {m m':Nat->aq->Value} {st st':St} {a:Act} {w w':World} {ch:List Nat} (h:ar X m st a w) (s:eC X m st w m' st' w' ch):ar X m' st' a w':=by
 obtain ⟨org,fresh,hb,hi⟩:=s.org;have hS:∀ b,b < w.heap.size->X.S st.roots m b->X.S st'.roots m' b/\w'.heap[b]?=w.heap[b]?:=by
  intro b hlt hs;refine ⟨⟨hs.1,?_⟩,s.heap b hlt hs.2⟩;rintro ⟨n,p,ho,hbk⟩;rcases hb n p b ho hbk with ⟨_,hge⟩|⟨_,ho',hbk',_⟩
  ·omega
  ·exact hs.2 ⟨_,_,ho',hbk'⟩
 refine ⟨by rw [h.len,s.len],?_,?_,?_,?_,?_,h.df⟩
 ·intro t c ht;rcases s.tmps t c ht with rfl|⟨h1,hv⟩
  ·have:t < a.tmps.size:=by rw [h.len,<-s.len]; exact (cd.1 ht).1
   exact ⟨a.tmps[t],1,by simp [this],trivial⟩
  ·obtain ⟨u,d,e1,e2⟩:=h.tmp t c h1;exact ⟨u,d,e1,av hS d (fun v u' ho hl=>hv v u' d ho hl) (fun h=>by simp at h) (fun h=>by simp at h) e2⟩
 ·intro n;by_cases hn:n∈ch
  ·exact s.roots hS n hn
  ·obtain ⟨u,d,hr⟩:=h.root n;exact ⟨u,d,(s.keeps hn).2.2 u d hr⟩
 ·intro n p n' p' b ho ho' hbk hbk';rcases hb n p b ho hbk with ⟨hf,hge⟩|⟨hf,h1,h2,h3⟩<;>rcases hb n' p' b ho' hbk' with ⟨hf',hge'⟩|⟨hf',h1',h2',h3'⟩
  ·rw [hf] at hf'; simp at hf'; exact hf'
  ·omega
  ·omega
  ·have:=h.inj _ _ _ _ b h1 h1' h2 h2';exact hi n p n' p' ho ho' hf hf' (Prod.ext this.1 this.2)
 ·intro n p b ho hbk;rcases hb n p b ho hbk with ⟨hf,hge⟩|⟨hf,h1,h2,h3⟩
  ·exact .inl (nu h.fr.size hge)
  ·exact h.own _ _ b h1 h2
 ·refine ⟨s.os.trans h.fr.os,s.tape.trans h.fr.tape,s.output.trans h.fr.output,nu h.fr.drawn s.drawn,nu h.fr.size s.size,?_⟩;intro b hlt hk;have hlt':b < w.heap.size:=acR hlt h.fr.size;rw [s.heap b hlt' ?_]
  ·exact h.fr.block b hlt hk
  ·rintro ⟨n,p,ho,hbk⟩;rcases h.own n p b ho hbk with h1|h1
   ·omega
   ·exact hk h1
def ar.lt {X:Ctx} {m:Nat->aq->Value} {st:St} {a:Act} {w:World} (h:ar X m st a w) {n:Nat} {p:aq} {b:Nat} (ho:ak (st.roots n) p) (hb:blk (m n p)=some b):b < w.heap.size:=by
 obtain ⟨u,d,hr⟩:=h.root n;unfold ak at ho;cases hc:(st.roots n).at p with
 | none=>simp [hc] at ho
 | some c=>
  obtain ⟨u',d',hr'⟩:=va p hr hc;simp only [hc,cx,cb] at ho;cases c with
  | sl own nl es cap rows=>
   cases own with
   | false=>simp [C.isOwn] at ho
   | true=>
    obtain ⟨a,k,dd,hu,h1,h2,h3,h4,hz,h5,h7⟩:=eb hr';simp only [cK] at h1;rw [h1] at hb;rcases h7 with h7|⟨b',off,arr,elem,g1,g2,g4,g5⟩
    ·cases a<;>simp [blk,h7] at hb
    ·subst g1;simp only [blk] at hb;split at hb
     ·simp at hb
     ·simp only [cb] at hb;subst hb;exact (nc.1 g2).1
  | _=>simp [C.isOwn] at ho
def kn {R R':Nat->C} {m m':Nat->aq->Value} {v:C} {u:Value} {n:Nat} {p:aq} (hp:v.place=some (n,p)) (hm:m' n p=m n p)
  (hR:∀ nl es cap rows,(R n).at p=some (.sl true nl es cap rows)->∃ cap' rows',(R' n).at p=some (.sl true nl es cap' rows')/\rows'.length=rows.length) (h:Lv R m v u):Lv R' m' v u:=by
 cases v with
 | pref n' p' i j=>
  simp only [C.place,cb,cz] at hp;obtain ⟨rfl,rfl⟩:=hp;obtain ⟨nl,es,cap,rows,b,off,k,h1,h2,h3⟩:=h;obtain ⟨cap',rows',h4,h5⟩:=hR nl es cap rows h1;exact ⟨nl,es,cap',rows',b,off,k,h4,by rw [hm,h5]; exact h2,h3⟩
 | pal n' p' lo len cap=>
  simp only [C.place,cb,cz] at hp;obtain ⟨rfl,rfl⟩:=hp;obtain ⟨nl,es,cap',rows,a,k,a',k',h1,h2,h3,h4⟩:=h;obtain ⟨cap'',rows',h5,h6⟩:=hR nl es cap' rows h1;exact ⟨nl,es,cap'',rows',a,k,a',k',h5,by rw [hm,h6]; exact h2,by rw [h6]; exact h3,h4⟩
 | _=>simp [C.place] at hp
def Al {f:Nat->aq->Bool} {R R':Nat->C} {m m':Nat->aq->Value} {ts:List C}
  (hv:∀ v u n p,v.place=some (n,p)->f n p=false->Lv R m v u->Lv R' m' v u) :
  ∀ (t:Nat) (c:C),(ts.map (poi f))[t]?=some c->c=.dead∨(ts[t]?=some c/\∀ v u d,occ d c v->Lv R m v u->Lv R' m' v u):=by
 intro t c hc;simp only [cv,cj] at hc;obtain ⟨c0,h0,rfl⟩:=hc;rcases js f c0 with h|⟨h,hm⟩
 ·exact .inl h
 ·rw [h];refine .inr ⟨h0,fun v u d ho hl=>?_⟩;obtain ⟨n,p,e1,e2⟩:=ir d 3 c0 v hm ho;exact hv v u n p e1 e2 hl
def St.drop (st:St) (n:Nat):St:={ tmps:=st.tmps.map (poi fun n' _=>n' == n),roots:=upd st.roots n .dead }
def ar.drop {X:Ctx} {m:Nat->aq->Value} {st:St} {a:Act} {w:World} (h:ar X m st a w) (n:Nat):ar X m (st.drop n) a w:=by
 refine h.go (ch:=[n]) ⟨by simp [St.drop],?_,fun _ _ _=>rfl,cr _,⟨fun n p=>(n,p),none,?_,?_⟩,?_,?_,rfl,rfl,rfl,cr _⟩
 ·refine Al fun v u n' p hp hf hl=>kn hp rfl ?_ hl;intro nl es cap rows he;have:n'≠n:=by simpa using hf
  exact ⟨cap,rows,by simpa [St.drop,aO this] using he,rfl⟩
 ·intro n' p b ho hb;by_cases e:n'=n
  ·subst e; simp only [St.drop,aC] at ho; exact (aM ho).elim
  ·simp only [St.drop,aO e] at ho; exact .inr ⟨by simp,ho,hb,h.lt ho hb⟩
 ·intro n p n' p' _ _ _ _ e; simpa using e
 ·intro n' e;have e:n'≠n:=by simpa using e
  exact ⟨by simp [St.drop,aO e],fun _ _=>rfl,fun _ _ _ _ _=>rfl⟩
 ·intro hS n' e;obtain rfl:n'=n:=by simpa using e
  exact ⟨undef,1,by simp [St.drop,aC,rel]⟩
def C.frz:C->C
 | .sl _ nl es cap rows=>.sl false nl es cap rows
 | c=>c
def C.cellOk:C->Bool
 | .dead=>false
 | .val v=>v.oneCell'
 | .sl ..=>true
 | .iref ..=>true
 | .clo _ cs=>cs.all fun c=>match c with|.val _|.sl ..|.iref ..=>true|_=>false
 | _=>false
def oa {c:C} (hc:c.cellOk=true) {q:aq}:¬ ak c.frz q:=by
 cases c<;>(try simp [C.cellOk] at hc)<;>cases q<;>simp [ak,C.at,C.kid,C.frz,C.isOwn]
def Au {w:World} {S:Nat->Prop} {L:C->Value->Prop} {m m':aq->Value} {d:Nat} {p p':aq} {c:C} {u:Value} (hc:c.cellOk=true) (h:rel w S L m false d p c u):rel w S L0 m' true d p' c.frz u:=by
 cases d with
 | zero=>exact h.elim
 | succ d=>
  cases c with
  | dead=>trivial
  | val v=>exact h
  | sl own nl es cap rows=>
   obtain ⟨a,k,h1,h2,h3,h4,hz,h5,h6,h7⟩:=h;refine ⟨a,k,h1,h2,h3,h4,hz,h5,by simp,?_⟩;rcases h7 with h7|h7|⟨b,off,arr,elem,frz,g1,g2,g3,g4,g5⟩
   ·exact .inl h7
   ·exact .inr (.inl ⟨by simp,h7.2⟩)
   ·refine .inr (.inr ⟨b,off,arr,elem,frz,g1,g2,fun _=>g3 (by simp),by simp,fun i j row c' e1 e2=>?_⟩);obtain ⟨u',e3,e4⟩:=g5 i j row c' e1 e2;simp only [nA] at e4;exact ⟨u',e3,by simpa using db e4⟩
  | iref es rows i j=>
   obtain ⟨b,off,arr,elem,frz,g1,g2,g3,g4,g5⟩:=h;exact ⟨b,off,arr,elem,frz,g1,g2,g3,g4,fun i j row c' e1 e2=>let ⟨u',e3,e4⟩:=g5 i j row c' e1 e2; ⟨u',e3,db e4⟩⟩
  | clo f cs=>
   obtain ⟨arr,h1,h2,h3⟩:=h;refine ⟨arr,h1,h2,fun j c' e=>?_⟩;obtain ⟨u',e1,e2⟩:=h3 j c' e;refine ⟨u',e1,?_⟩;simp only [C.cellOk,cn] at hc;have:=hc c' (cg e);refine av (fun _ _ h=>⟨h,rfl⟩) d (L:=L) ?_ (fun h=>by simp at h) (fun h=>by simp at h) e2;intro v u ho hl;cases d with
   | zero=>exact ho.elim
   | succ d=>cases c'<;>simp at this<;>exact ho.elim
  | agg cs=>simp [C.cellOk] at hc
  | tup cs=>simp [C.cellOk] at hc
  | pref n q i j=>simp [C.cellOk] at hc
  | pal n q lo len cap=>simp [C.cellOk] at hc
def ar.hand {X:Ctx} {m:Nat->aq->Value} {st:St} {a:Act} {w:World} (h:ar X m st a w) {n:Nat} (hd:st.roots n=.dead) {c:C} (hc:c.cellOk=true) {u:Value} {d:Nat} {L:C->Value->Prop}
  (hr:rel w (X.S st.roots m) L dm false d [] c u):ar X m { st with roots:=upd st.roots n c.frz } a w/\(∃ d',rel w (X.S (upd st.roots n c.frz) m) L0 (m n) true d' [] c.frz u)/\∃ ch,ch=[n]/\eC X m st w m { st with roots:=upd st.roots n c.frz } w ch:=by
 have hS:∀ b,X.S st.roots m b->X.S (upd st.roots n c.frz) m b:=by
  intro b hb;refine ⟨hb.1,?_⟩;rintro ⟨n',p,ho,hbk⟩;by_cases e:n'=n
  ·subst e; simp only [aC] at ho; exact oa hc ho
  ·simp only [aO e] at ho; exact hb.2 ⟨n',p,ho,hbk⟩
 have hr':=av (w':=w) (fun b _ hb=>⟨hS b hb,rfl⟩) d (fun _ _ _ h=>h) (fun h=>by simp at h) (fun _ _ _=>rfl) hr
 suffices step:eC X m st w m { st with roots:=upd st.roots n c.frz } w [n] from ⟨h.go step,⟨d,Au hc hr'⟩,_,rfl,step⟩
 refine ⟨rfl,?_,fun _ _ _=>rfl,cr _,⟨fun n p=>(n,p),none,?_,?_⟩,?_,?_,rfl,rfl,rfl,cr _⟩
 ·intro t c0 ht;refine .inr ⟨ht,fun v u d ho hl=>?_⟩;cases hp:v.place with
  | none=>cases v<;>simp [C.place] at hp<;>exact hl.elim
  | some np=>
   obtain ⟨n',p⟩:=np;refine kn hp rfl ?_ hl;intro nl es cap rows he;have:n'≠n:=by
    rintro rfl;rw [hd] at he;cases p<;>simp [C.at,C.kid] at he
   exact ⟨cap,rows,by simpa [aO this] using he,rfl⟩
 ·intro n' p b ho hb;by_cases e:n'=n
  ·subst e; simp only [aC] at ho; exact (oa hc ho).elim
  ·simp only [aO e] at ho; exact .inr ⟨by simp,ho,hb,h.lt ho hb⟩
 ·intro n p n' p' _ _ _ _ e; simpa using e
 ·intro n' e;have e:n'≠n:=by simpa using e
  exact ⟨by simp [aO e],fun _ _=>rfl,fun _ _ _ _ _=>rfl⟩
 ·intro _ n' e;obtain rfl:n'=n:=by simpa using e
  exact ⟨u,d,by simpa [aC] using Au hc hr'⟩
end Go.Abs
namespace Go.Abs
def C.turn_append (f:C->C):∀ (q r:aq) (c:C),c.turn f (q++r)=c.turn (fun x=>x.turn f r) q:=by
 intro q
 induction q with
 | nil=>intro r c; simp [C.turn]
 | cons s q ih=>
  intro r c;cases c<;>simp [C.turn,ih]
def ar.world {X:Ctx} {m:Nat->aq->Value} {st:St} {a:Act} {w w':World} (h:ar X m st a w) (hh:w'.heap=w.heap) (ho:w'.os=w.os) (ht:w'.tape=w.tape) (hu:w'.output=w.output) (hdr:w.drawn<=w'.drawn:=by first|exact cr _|exact xe _):ar X m st a w':=by
 refine h.go (ch:=[]) ⟨rfl,fun t c ht=>.inr ⟨ht,fun _ _ _ _ h=>h⟩,fun b _ _=>by rw [hh],by rw [hh]; exact cr _,⟨fun n p=>(n,p),none,?_,?_⟩,?_,fun _ n hn=>by simp at hn,ho,ht,hu,hdr⟩
 ·intro n p b ho hb; exact .inr ⟨by simp,ho,hb,h.lt ho hb⟩
 ·intro n p n' p' _ _ _ _ e; simpa using e
 ·intro n _; exact ⟨rfl,fun _ _=>rfl,fun _ _ _ _ _=>by rw [hh]⟩
def St.move (st:St) (n:Nat) (p:aq) (lo len:Nat) (cap:Option Nat) (h es:Nat) (rows:List (List C)):St:=
 {tmps:=st.tmps.map (poi fun n' p'=>n' == n && kE p p'),
  roots:=upd (upd st.roots n ((st.roots n).turn (fun _=>.dead) p)) h (.sl true none es cap ((rows.drop lo).take len)) }
def il (m:Nat->aq->Value) (n:Nat) (p:aq) (lo h:Nat) (u:Value):Nat->aq->Value:=fun n' p'=>
 if n'=h then (match p' with|[]=>u|(i,j)::r=>m n (p++(lo+i,j)::r)) else m n' p'
def ar.move {X:Ctx} {m:Nat->aq->Value} {st:St} {a:Act} {w:World} (H:ar X m st a w) {n h:Nat} {p:aq} {lo len:Nat} {cap cap0:Option Nat} {nl:Option Bool} {es:Nat} {rows:List (List C)}
  (hh:st.roots h=.dead) (hn:h≠n) (hat:(st.roots n).at p=some (.sl true nl es cap0 rows)) {u:Value} (hv:Lv st.roots m (.pal n p lo len cap) u) :
  ar X (il m n p lo h u) (st.move n p lo len cap h es rows) a w/\(∃ d,rel w (X.S (st.move n p lo len cap h es rows).roots (il m n p lo h u)) L0 (il m n p lo h u h) true d [] (.sl true none es cap ((rows.drop lo).take len)) u) ∧
   eC X m st w (il m n p lo h u) (st.move n p lo len cap h es rows) w [n,h]:=by
 obtain ⟨nl',es',cap',rows',ad,k,a',k',h1,h2,h3,h4,h5,h6,h7,h8,h9⟩:=hv;rw [hat] at h1;simp only [cb,C.sl.injEq,true_and] at h1;obtain ⟨rfl,rfl,rfl,rfl⟩:=h1;have hRh:(st.move n p lo len cap h es rows).roots h=.sl true none es cap ((rows.drop lo).take len):=by simp [St.move,aC]
 have hRn:(st.move n p lo len cap h es rows).roots n=(st.roots n).turn (fun _=>.dead) p:=by simp [St.move,upd,hn.symm]
 have hRo:∀ k,k≠h->k≠n->(st.move n p lo len cap h es rows).roots k=st.roots k:=by intro k e1 e2; simp [St.move,upd,e1,e2]
 have hrow:∀ i,((rows.drop lo).take len)[i]?=if i < len then rows[lo+i]? else none:=by
  intro i; rw [cW]; split<;>simp
 have hkidsOwn:∀ i j r,ak (.sl true none es cap ((rows.drop lo).take len)) ((i,j)::r)->ak (st.roots n) (p++(lo+i,j)::r):=by
  intro i j r ho;unfold ak at ho ⊢;rw [C.at_append,hat];simp only [cc,C.at,C.kid,hrow] at ho ⊢;split at ho
  ·exact ho
  ·simp at ho
 have hnew:(∀ b,b < w.heap.size->X.S st.roots m b->X.S (st.move n p lo len cap h es rows).roots (il m n p lo h u) b/\w.heap[b]?=w.heap[b]?) ->
   ∃ d,rel w (X.S (st.move n p lo len cap h es rows).roots (il m n p lo h u)) L0 (il m n p lo h u h) true d [] (.sl true none es cap ((rows.drop lo).take len)) u:=by
  intro hS;obtain ⟨u0,d0,hr0⟩:=H.root n;obtain ⟨u1,d1,hr1⟩:=va p hr0 hat;simp only [cK] at hr1;obtain ⟨a1,k1,dd,e1,e2,e3,e4,e5,ez,e6,e7⟩:=eb hr1;rw [h2] at e2;simp only [Value.slice.injEq] at e2;obtain ⟨rfl,_,rfl⟩:=e2;have hl:((rows.drop lo).take len).length=len:=by simp; omega
  have hu:il m n p lo h u h []=u:=by simp [il]
  have hmk:∃ d,rel w (X.S (st.move n p lo len cap h es rows).roots (il m n p lo h u)) L0 (il m n p lo h u h) true d [] (.sl true none es cap ((rows.drop lo).take len)) (il m n p lo h u h []):=by
   refine ⟨dd+1,mQ (a:=a') (k:=k') (by rw [hu,h4,hl]) (by rw [hl]; exact h5) (by omega) h7 ?_ ?_ ?_⟩
   ·refine ⟨by simp,?_⟩;intro e; rcases h9 with h9|⟨b,off,hb1,hb2⟩
    ·exact h9
    ·rw [hb2] at e; simp at e
   ·intro row hr;exact e6 row (xw (nB hr))
   ·rcases h9 with h9|⟨b,off,hb1,hb2⟩
    ·exact .inl h9
    ·rcases e7 with e7|⟨b',off',arr,elem,g1,g2,g4,g5⟩
     ·exact .inl (by omega)
     ·rw [hb1] at g1;simp only [cb,Addr.mk.injEq] at g1;obtain ⟨rfl,rfl,_⟩:=g1;refine .inr ⟨b,off+lo * es,arr,elem,hb2,g2,?_,?_⟩
      ·have:(lo+k') * es<=k * es:=nv _ h6;rw [cI] at this;omega
      ·intro i j row c' f1 f2;rw [hrow] at f1;split at f1
       ·obtain ⟨u',f3,f4⟩:=g5 (lo+i) j row c' f1 f2;refine ⟨u',by rw [<-f3]; congr 1; rw [cI]; omega,?_⟩;refine av hS dd (fun _ _ _ h=>h) (fun _ _ _ _ _ _=>rfl) ?_ f4;intro _ q _;simp [il]
       ·simp at f1
  rw [hu] at hmk;exact hmk
 have step:eC X m st w (il m n p lo h u) (st.move n p lo len cap h es rows) w [n,h]:=by
  refine ⟨by simp [St.move],?_,fun _ _ _=>rfl,cr _,⟨fun n' p'=>if n'=h then (match p' with|[]=>(n,p)|(i,j)::r=>(n,p++(lo+i,j)::r)) else (n',p'),none,?_,?_⟩,?_,?_,rfl,rfl,rfl,cr _⟩
  ·refine Al fun v u' n' p' hp hf hl=>?_;have hnh:n'≠h:=by
    rintro rfl;cases v with
    | pref n2 p2 i j=>
     simp only [C.place,cb,cz] at hp;obtain ⟨rfl,rfl⟩:=hp;obtain ⟨_,_,_,_,_,_,_,g,_⟩:=hl;rw [hh] at g; cases p2<;>simp [C.at,C.kid] at g
    | pal n2 p2 l2 len2 cap2=>
     simp only [C.place,cb,cz] at hp;obtain ⟨rfl,rfl⟩:=hp;obtain ⟨_,_,_,_,_,_,_,_,g,_⟩:=hl;rw [hh] at g; cases p2<;>simp [C.at,C.kid] at g
    | _=>simp [C.place] at hp
   refine kn hp (by simp [il,hnh]) ?_ hl;intro nl es2 cap2 rows2 he;by_cases e:n'=n
   ·subst e;rw [hRn];have hf':kE p p'=false:=by simpa using hf
    obtain ⟨x',f1,f2,f3⟩:=C.at_turn_off (fun _=>.dead) p p' (st.roots n') _ _ hat (by intro r; rintro rfl; rw [Ex] at hf'; simp at hf') he;obtain ⟨rows3,f4,f5⟩:=f3 _ _ _ _ rfl;exact ⟨_,rows3,by rw [f1,f4],f5⟩
   ·rw [hRo n' hnh e]; exact ⟨_,_,he,rfl⟩
  ·intro n' p' b ho hb;refine .inr ⟨by simp,?_⟩;by_cases e:n'=h
   ·subst e;rw [hRh] at ho;simp only [if_true];cases p' with
    | nil=>
     have hb':blk u=some b:=by simpa [il] using hb
     have hbk:blk (m n p)=some b:=by
      rw [h4] at hb';rcases h9 with h9|⟨b0,off,hb1,hb2⟩
      ·cases a'<;>simp [blk,h9] at hb'
      ·subst hb1 hb2;simp only [blk] at hb';split at hb'
       ·simp at hb'
       ·rw [h2]; simp only [cb] at hb';have:k≠0:=by omega
        simp [blk,this,hb']
     have ho':ak (st.roots n) p:=by unfold ak; rw [hat]; rfl
     exact ⟨ho',hbk,H.lt ho' hbk⟩
    | cons s r=>
     obtain ⟨i,j⟩:=s;have hb':blk (m n (p++(lo+i,j)::r))=some b:=by simpa [il] using hb
     exact ⟨hkidsOwn i j r ho,hb',H.lt (hkidsOwn i j r ho) hb'⟩
   ·have hb':blk (m n' p')=some b:=by simpa [il,e] using hb
    simp only [e,if_false];by_cases e2:n'=n
    ·subst e2;rw [hRn] at ho;rcases ak.of_turn hat ho with ⟨r,_,hx⟩|⟨_,hx⟩
     ·exact (aM hx).elim
     ·exact ⟨hx,hb',H.lt hx hb'⟩
    ·rw [hRo n' e e2] at ho;exact ⟨ho,hb',H.lt ho hb'⟩
  ·intro n1 p1 n2 p2 ho1 ho2 _ _ e;have off:∀ {p'},ak ((st.move n p lo len cap h es rows).roots n) p'->∀ r,p'≠p++r:=by
    intro p' ho;rw [hRn] at ho;rcases ak.of_turn hat ho with ⟨r,_,hx⟩|⟨hx,_⟩
    ·exact (aM hx).elim
    ·exact hx
   by_cases c1:n1=h<;>by_cases c2:n2=h
   ·subst c1; subst c2;simp only [if_true] at e;cases p1 with
    | nil=>cases p2 with
     | nil=>exact ⟨rfl,rfl⟩
     | cons s r=>simp at e
    | cons s r=>cases p2 with
     | nil=>simp at e
     | cons s2 r2=>
      obtain ⟨i,j⟩:=s;obtain ⟨i2,j2⟩:=s2;simp only [cz,true_and,adO,acS] at e;obtain ⟨⟨e1,e2⟩,e3⟩:=e;exact ⟨rfl,by rw [show i=i2 by omega,e2,e3]⟩
   ·subst c1;simp only [if_true,c2,if_false] at e;exfalso;cases p1 with
    | nil=>simp only [cz] at e; obtain ⟨rfl,rfl⟩:=e; exact off ho2 [] (by simp)
    | cons s r=>obtain ⟨i,j⟩:=s; simp only [cz] at e; obtain ⟨rfl,rfl⟩:=e; exact off ho2 _ rfl
   ·subst c2;simp only [if_true,c1,if_false] at e;exfalso;cases p2 with
    | nil=>simp only [cz] at e; obtain ⟨rfl,rfl⟩:=e; exact off ho1 [] (by simp)
    | cons s r=>obtain ⟨i,j⟩:=s; simp only [cz] at e; obtain ⟨rfl,rfl⟩:=e; exact off ho1 _ rfl
   ·simp only [c1,c2,if_false] at e; simpa using e
  ·intro n' hn';simp only [cF,nM,or_false,not_or] at hn';exact ⟨hRo n' hn'.2 hn'.1,fun q _=>by simp [il,hn'.2],fun _ _ _ _ _=>rfl⟩
  ·intro hS n' hn';by_cases e:n'=h
   ·subst e;obtain ⟨d,hd⟩:=hnew hS;exact ⟨u,d,by rw [hRh]; exact hd⟩
   ·obtain rfl:n'=n:=by simpa [e] using hn'
    rw [hRn];obtain ⟨u0,d0,hr0⟩:=H.root n';obtain ⟨d',hd⟩:=AF (f:=fun _=>.dead) (m':=il m n' p lo h u n') hS p hr0 hat (fun _ _ _ _ _ _=>rfl) (fun q1 _ _=>by simp [il,e]) (fun u0 d0 _=>⟨1,trivial⟩);exact ⟨u0,d',hd⟩
 exact ⟨H.go step,hnew step.S,step⟩
end Go.Abs
namespace Go.Abs
def yS {R:Nat->C} {m:Nat->aq->Value} {v:C} {u:Value} {n:Nat} {p:aq} (hp:v.place=some (n,p)) (hl:Lv R m v u):R n≠.dead:=by
 intro hd;cases v with
 | pref n2 p2 i j=>
  simp only [C.place,cb,cz] at hp;obtain ⟨rfl,rfl⟩:=hp;obtain ⟨_,_,_,_,_,_,_,g,_⟩:=hl;rw [hd] at g; cases p2<;>simp [C.at,C.kid] at g
 | pal n2 p2 l2 len2 cap2=>
  simp only [C.place,cb,cz] at hp;obtain ⟨rfl,rfl⟩:=hp;obtain ⟨_,_,_,_,_,_,_,_,g,_⟩:=hl;rw [hd] at g; cases p2<;>simp [C.at,C.kid] at g
 | _=>simp [C.place] at hp
def H9 (w:World) (b o:Nat) (u:Value) (arr:Array Value) (elem:TypeId) (fz:Nat × Nat) (h:w.heap[b]?=some (.cells arr elem fz)) :
  (w.setCell ⟨b,o,none⟩ u).heap[b]?=some (.cells (arr.setIfInBounds o u) elem fz):=by
 simp [World.setCell,acD,h]
def qC (w:World) (b o:Nat) (u:Value) (b':Nat) (h:b'≠b):(w.setCell ⟨b,o,none⟩ u).heap[b']?=w.heap[b']?:=by
 simp [World.setCell,acD,xG h]
def St.plug (st:St) (f:Nat->aq->Bool) (n:Nat) (q:aq) (i j h:Nat):St:=
 {tmps:=st.tmps.map (poi f),
  roots:=upd (upd st.roots n ((st.roots n).turn (fun _=>st.roots h) (q++[(i,j)]))) h .dead }
def St.plugG (st:St) (g:List C->List C) (n:Nat) (q:aq) (i j h:Nat):St:=
 {tmps:=g st.tmps,
  roots:=upd (upd st.roots n ((st.roots n).turn (fun _=>st.roots h) (q++[(i,j)]))) h .dead }
open Classical in
noncomputable def pk (m:Nat->aq->Value) (n:Nat) (Q:aq) (h:Nat):Nat->aq->Value:=fun n' p'=>
 if n'=n then (if e:∃ r,p'=Q++r then m h (Classical.choose e) else m n p') else m n' p'
def N7 (Q r:aq) (e:∃ r',Q++r=Q++r'):Classical.choose e=r:=
 (adP (xK e)).symm
def Px (m:Nat->aq->Value) (n:Nat) (Q r:aq) (h:Nat):pk m n Q h n (Q++r)=m h r:=by
 have e:∃ r',Q++r=Q++r':=⟨r,rfl⟩;simp only [pk,if_true,dif_pos e];rw [N7]
def qP (m:Nat->aq->Value) (n:Nat) (Q p':aq) (h:Nat) (hp:∀ r,p'≠Q++r):pk m n Q h n p'=m n p':=by
 have e:¬ ∃ r,p'=Q++r:=fun ⟨r,hr⟩=>hp r hr;simp only [pk,if_true,dif_neg e]
def F5 (m:Nat->aq->Value) (n:Nat) (Q:aq) (h:Nat) {n':Nat} (p':aq) (hn:n'≠n):pk m n Q h n' p'=m n' p':=by
 simp [pk,hn]
def ar.plugG {X:Ctx} {m:Nat->aq->Value} {st:St} {a:Act} {w:World} (H:ar X m st a w) {n h:Nat} {q:aq} {i j:Nat} {cap:Option Nat} {nl:Option Bool} {es:Nat} {rows:List (List C)} {row:List C} {c0:C}
  {f:List C->List C} (hgl:(f st.tmps).length=st.tmps.length)
  (hg:∀ (t:Nat) (c:C),(f st.tmps)[t]?=some c->c=.dead∨(st.tmps[t]?=some c/\∀ v u d n' p',occ d c v->v.place=some (n',p')->Lv st.roots m v u->(n'=h->¬ ak (st.roots h) p')/\(n'=n->∀ r,p'≠q++[(i,j)]++r)))
  (hn:h≠n) (hat:(st.roots n).at q=some (.sl true nl es cap rows)) (hrow:rows[i]?=some row) (hc0:row[j]?=some c0)
  {b off k:Nat} (hm:m n q=.slice (some ⟨b,off,none⟩) rows.length k) {u1:Value} {d1:Nat} (hu:rel w (X.S st.roots m) L0 (m h) true d1 [] (st.roots h) u1) :
  ar X (pk m n (q++[(i,j)]) h) (st.plugG f n q i j h) a (w.setCell ⟨b,off+i * es+j,none⟩ u1)/\eC X m st w (pk m n (q++[(i,j)]) h) (st.plugG f n q i j h) (w.setCell ⟨b,off+i * es+j,none⟩ u1) [n,h]:=by
 have hRh:(st.plugG f n q i j h).roots h=.dead:=by simp [St.plugG,aC]
 have hRn:(st.plugG f n q i j h).roots n=(st.roots n).turn (fun _=>st.roots h) (q++[(i,j)]):=by simp [St.plugG,upd,hn.symm]
 have hRo:∀ k,k≠h->k≠n->(st.plugG f n q i j h).roots k=st.roots k:=by intro k e1 e2; simp [St.plugG,upd,e1,e2]
 have hatc:(st.roots n).at (q++[(i,j)])=some c0:=by simp [C.at_append,hat,C.at,C.kid,hrow,hc0]
 have hk0:k≠0:=by
  obtain ⟨u0,d0,hr0⟩:=H.root n;obtain ⟨u2,d2,hr2⟩:=va q hr0 hat;simp only [cK] at hr2;obtain ⟨a1,k1,dd,e1,e2,e3,_⟩:=eb hr2;rw [hm] at e2;simp only [Value.slice.injEq] at e2;have:=(cd.1 hrow).1;omega
 have hoq:ak (st.roots n) q:=by unfold ak; rw [hat]; rfl
 have hbq:blk (m n q)=some b:=by rw [hm]; simp [blk,hk0]
 have step:eC X m st w (pk m n (q++[(i,j)]) h) (st.plugG f n q i j h) (w.setCell ⟨b,off+i * es+j,none⟩ u1) [n,h]:=by
  refine ⟨by simp [St.plugG,hgl],?_,?_,by simp [World.setCell],?_,?_,?_,rfl,rfl,rfl,cr _⟩
  ·intro t c ht;rcases hg t c ht with h0|⟨h0,h1⟩
   ·exact .inl h0
   refine .inr ⟨h0,fun v u d ho hl=>?_⟩;obtain ⟨n',p',hp⟩:∃ n' p',v.place=some (n',p'):=by
    cases v<;>first|exact ⟨_,_,rfl⟩|exact hl.elim
   obtain ⟨hh,hoff0⟩:=h1 v u d n' p' ho hp hl;have hnh:n'≠h:=by
    rintro rfl;refine hh rfl ?_;cases v with
    | pref n2 p2 i j=>
     simp only [C.place,cb,cz] at hp;obtain ⟨rfl,rfl⟩:=hp;obtain ⟨_,_,_,_,_,_,_,g,_⟩:=hl;unfold ak; rw [g]; rfl
    | pal n2 p2 l2 len2 cap2=>
     simp only [C.place,cb,cz] at hp;obtain ⟨rfl,rfl⟩:=hp;obtain ⟨_,_,_,_,_,_,_,_,g,_⟩:=hl;unfold ak; rw [g]; rfl
    | _=>simp [C.place] at hp
   by_cases e:n'=n
   ·subst e;have hoff:∀ r,p'≠q++[(i,j)]++r:=hoff0 rfl;refine kn hp (qP m n' _ p' h hoff) ?_ hl;intro nl es2 cap2 rows2 he;rw [hRn];obtain ⟨x',f1,f2,f3⟩:=C.at_turn_off (fun _=>st.roots h) _ p' (st.roots n') _ _ hatc hoff he;obtain ⟨rows3,f4,f5⟩:=f3 _ _ _ _ rfl;exact ⟨_,rows3,by rw [f1,f4],f5⟩
   ·refine kn hp (F5 m n _ h p' e) ?_ hl;intro nl es2 cap2 rows2 he;exact ⟨_,_,by rw [hRo n' hnh e]; exact he,rfl⟩
  ·intro b' hlt hno;refine qC w b _ u1 b' ?_;rintro rfl;exact hno ⟨n,q,hoq,hbq⟩
  ·refine ⟨fun n' p'=>by classical exact if n'=n then (if e:∃ r,p'=q++[(i,j)]++r then (h,Classical.choose e) else (n,p')) else (n',p'),none,?_,?_⟩
   ·intro n' p' b' ho hb;refine .inr ⟨by simp,?_⟩;by_cases e:n'=n
    ·subst e;rw [hRn] at ho;simp only [if_true];rcases ak.of_turn hatc ho with ⟨r,rfl,hx⟩|⟨hoff,hx⟩
     ·have e:∃ r',q++[(i,j)]++r=q++[(i,j)]++r':=⟨r,rfl⟩;rw [dif_pos e,N7];rw [Px] at hb;exact ⟨hx,hb,H.lt hx hb⟩
     ·rw [dif_neg (fun ⟨r,hr⟩=>hoff r hr)];rw [qP _ _ _ _ _ hoff] at hb;exact ⟨hx,hb,H.lt hx hb⟩
    ·simp only [e,if_false];rw [F5 _ _ _ _ _ e] at hb;by_cases e2:n'=h
     ·subst e2; rw [hRh] at ho; exact (aM ho).elim
     ·rw [hRo n' e2 e] at ho; exact ⟨ho,hb,H.lt ho hb⟩
   ·intro n1 p1 n2 p2 ho1 ho2 _ _ e;have nh:∀ {n' p'},ak ((st.plugG f n q i j h).roots n') p'->n'≠h:=by
     rintro n' p' ho rfl; rw [hRh] at ho; exact aM ho
    have g1:=nh ho1;have g2:=nh ho2;by_cases c1:n1=n<;>by_cases c2:n2=n
    ·subst c1; subst c2;refine ⟨rfl,?_⟩;simp only [if_true] at e;by_cases x1:∃ r,p1=q++[(i,j)]++r<;>by_cases x2:∃ r,p2=q++[(i,j)]++r
     ·rw [dif_pos x1,dif_pos x2] at e;simp only [cz,true_and] at e;rw [xK x1,xK x2,e]
     ·rw [dif_pos x1,dif_neg x2] at e; simp only [cz] at e; exact absurd e.1 hn
     ·rw [dif_neg x1,dif_pos x2] at e; simp only [cz] at e; exact absurd e.1.symm hn
     ·rw [dif_neg x1,dif_neg x2] at e; simpa using e
    ·subst c1;simp only [if_true,c2,if_false] at e;by_cases x1:∃ r,p1=q++[(i,j)]++r
     ·rw [dif_pos x1] at e; simp only [cz] at e; exact absurd e.1.symm g2
     ·rw [dif_neg x1] at e; simp only [cz] at e; exact absurd e.1.symm c2
    ·subst c2;simp only [if_true,c1,if_false] at e;by_cases x2:∃ r,p2=q++[(i,j)]++r
     ·rw [dif_pos x2] at e; simp only [cz] at e; exact absurd e.1 g1
     ·rw [dif_neg x2] at e; simp only [cz] at e; exact absurd e.1 c1
    ·simp only [c1,c2,if_false] at e; simpa using e
  ·intro n' hn';simp only [cF,nM,or_false,not_or] at hn';refine ⟨hRo n' hn'.2 hn'.1,fun q1 _=>F5 m n _ h q1 hn'.1,?_⟩;intro q1 b' ho hb' _;refine qC w b _ u1 b' ?_;rintro rfl;exact hn'.1 (H.inj _ _ _ _ _ ho hoq hb' hbq).1
  ·intro hS n' hn';by_cases e:n'=h
   ·subst e; exact ⟨undef,1,by rw [hRh]; trivial⟩
   ·have e2:n'=n:=by simpa [e] using hn'
    subst e2;rw [hRn,C.turn_append];obtain ⟨u0,d0,hr0⟩:=H.root n';refine ⟨u0,?_⟩;have other:∀ q1,ak (st.roots n') q1->q1≠q->∀ b',blk (m n' q1)=some b'->b' < w.heap.size->(w.setCell ⟨b,off+i * es+j,none⟩ u1).heap[b']?=w.heap[b']?:=by
     intro q1 ho hne b' hb' _;refine qC w b _ u1 b' ?_;rintro rfl;exact hne (H.inj _ _ _ _ _ ho hoq hb' hbq).2
    refine AF (f:=fun x=>x.turn (fun _=>st.roots h) [(i,j)]) hS q hr0 hat ?_ ?_ ?_
    ·intro q1 b' ho hne hb' hlt;exact other q1 ho (by rintro rfl; exact hne [] (by simp)) b' (by simpa using hb') hlt
    ·intro q1 ho hne;simp only [cK];exact qP m n' _ q1 h (by intro r; rintro rfl; exact hne ((i,j)::r) (by simp))
    ·intro u2 d2 hr2;simp only [cK] at hr2 ⊢;obtain ⟨a1,k1,dd,e1,e2,e3,e4,e5,ez,e6,e7⟩:=eb hr2;rw [hm] at e2;simp only [Value.slice.injEq] at e2;obtain ⟨rfl,_,rfl⟩:=e2;rcases e7 with e7|⟨b',off',arr,elem,g1,g2,g4,g5⟩
     ·exact absurd e7 hk0
     ·simp only [cb,Addr.mk.injEq] at g1;obtain ⟨rfl,rfl,_⟩:=g1;have hmq:pk m n' (q++[(i,j)]) h n' q=m n' q:=qP m n' _ q h (by intro r hr; have:=congrArg List.length hr; simp at this);refine ⟨max dd d1+1,?_⟩;rw [e1,<-hmq];simp only [C.turn];have hre:row.length=es:=e6 row (cg hrow);have hj:j < es:=by rw [<-hre]; exact (cd.1 hc0).1
      have hlen:∀ (f:List C->List C),(rows.modify i f).length=rows.length:=by intro f; simp
      refine mQ (a:=some ⟨b,off,none⟩) (k:=k) (by rw [hmq,hm,hlen]) (by rw [hlen]; exact e3) e4 e5 ⟨ez.1,by simp⟩ ?_ (.inr ⟨b,off,arr.setIfInBounds (off+i * es+j) u1,elem,rfl,H9 w b _ u1 arr elem (0,0) g2,by simpa using g4,?_⟩)
      ·intro row' hrow';obtain ⟨x,hx⟩:=cC hrow';rw [AN] at hx;split at hx
       ·cases hrx:rows[x]? with
        | none=>simp [hrx] at hx
        | some rx=>
         simp only [hrx,cx,cb] at hx;rw [<-hx]; simp [e6 rx (cg hrx)]
       ·exact e6 row' (cg hx)
      ·have keep:∀ (i' j':Nat) (row':List C) (c':C),(i',j')≠(i,j)->rows[i']?=some row'->row'[j']?=some c' ->
         ∃ u',(arr.setIfInBounds (off+i * es+j) u1)[off+i' * es+j']?=some u'/\rel (w.setCell ⟨b,off+i * es+j,none⟩ u1) (X.S (st.plugG f n' q i j h).roots (pk m n' (q++[(i,j)]) h)) L0 (pk m n' (q++[(i,j)]) h n') true (max dd d1) (q++[(i',j')]) c' u':=by
        intro i' j' row' c' hne f1 f2;obtain ⟨u',f3,f4⟩:=g5 i' j' row' c' f1 f2;have hj':j' < es:=by rw [<-e6 row' (cg f1)]; exact (cd.1 f2).1
        refine ⟨u',?_,aS dd _ (nR _ _) ?_⟩
        ·rw [Array.getElem?_setIfInBounds_ne (xG (YY hj hj' hne))]; exact f3
        ·have up:∀ {q1},ak c' q1->ak (st.roots n') (q++(i',j')::q1):=by
          intro q1 ho;unfold ak at ho ⊢;rw [C.at_append,hat];simpa [C.at,C.kid,f1,f2] using ho
         refine av hS dd (fun _ _ _ h=>h) ?_ ?_ f4
         ·intro _ q1 b' ho hb' hlt;exact other _ (up ho) (by intro hr; have:=congrArg List.length hr; simp at this) b' (by simpa using hb') hlt
         ·intro _ q1 ho;refine qP m n' _ _ h ?_;intro r hr;simp only [nr,adO,xS,acS] at hr;exact hne hr.1
       intro i' j' row' c' f1 f2;rw [AN] at f1;by_cases hi:i=i'
       ·subst hi;simp only [if_true,hrow,cx,cb] at f1;subst f1;rw [AN] at f2;by_cases hjj:j=j'
        ·subst hjj;simp only [if_true,hc0,cx,cb] at f2;subst f2;obtain ⟨_,hcell,_⟩:=g5 i j row c0 hrow hc0;have hin:off+i * es+j < arr.size:=(nc.1 hcell).1;refine ⟨u1,by simp [xF,hin],aS d1 _ (n8 _ _) ?_⟩;refine av (p:=[]) hS d1 (fun _ _ _ h=>h) ?_ ?_ hu
         ·intro _ q1 b' ho hb' _;refine qC w b _ u1 b' ?_;rintro rfl;exact hn (H.inj _ _ _ _ _ ho hoq (by simpa using hb') hbq).1
         ·intro _ q1 _;rw [Px]; rfl
        ·simp only [hjj,if_false] at f2;exact keep i j' row c' (by intro e; simp at e; exact hjj e.symm) hrow f2
       ·simp only [hi,if_false] at f1;exact keep i' j' row' c' (by intro e; simp at e; exact hi e.1.symm) f1 f2
 exact ⟨H.go step,step⟩
def ar.plug {X:Ctx} {m:Nat->aq->Value} {st:St} {a:Act} {w:World} (H:ar X m st a w) {n h:Nat} {q:aq} {i j:Nat} {cap:Option Nat} {nl:Option Bool} {es:Nat} {rows:List (List C)} {row:List C} {c0:C}
  {f:Nat->aq->Bool} (hf1:∀ p',f n p'=false->kE (q++[(i,j)]) p'=false) (hf2:∀ p',f h p'=false->¬ ak (st.roots h) p')
  (hn:h≠n) (hat:(st.roots n).at q=some (.sl true nl es cap rows)) (hrow:rows[i]?=some row) (hc0:row[j]?=some c0)
  {b off k:Nat} (hm:m n q=.slice (some ⟨b,off,none⟩) rows.length k) {u1:Value} {d1:Nat} (hu:rel w (X.S st.roots m) L0 (m h) true d1 [] (st.roots h) u1) :
  ar X (pk m n (q++[(i,j)]) h) (st.plug f n q i j h) a (w.setCell ⟨b,off+i * es+j,none⟩ u1)/\eC X m st w (pk m n (q++[(i,j)]) h) (st.plug f n q i j h) (w.setCell ⟨b,off+i * es+j,none⟩ u1) [n,h]:=by
 refine H.plugG (f:=fun ts=>ts.map (poi f)) (by simp) ?_ hn hat hrow hc0 hm hu;intro t c hc;simp only [cv,cj] at hc;obtain ⟨c1,h0,rfl⟩:=hc;rcases js f c1 with h1|⟨h1,hme⟩
 ·exact .inl h1
 ·rw [h1];refine .inr ⟨h0,fun v u d n' p' ho hp hl=>?_⟩;obtain ⟨n2,p2,e1,e2⟩:=ir d 3 c1 v hme ho;rw [hp] at e1;simp only [cb,cz] at e1;obtain ⟨rfl,rfl⟩:=e1;refine ⟨fun e=>hf2 p' (by rw [<-e]; exact e2),fun e r=>?_⟩;rintro rfl;have:=hf1 _ (by rw [<-e]; exact e2);rw [Ex] at this;simp at this
def zm:C->Bool
 | .sl true _ _ _ _=>false
 | .agg _=>false
 | .tup _=>false
 | _=>true
def Wd {c:C} (h:zm c=true) (q:aq):¬ ak c q:=by
 intro ho;cases c with
 | sl o _ _ _ _=>cases o<;>cases q<;>simp [zm,ak,C.at,C.kid,C.isOwn] at h ho
 | agg _=>simp [zm] at h
 | tup _=>simp [zm] at h
 | _=>cases q<;>simp [ak,C.at,C.kid,C.isOwn] at ho
def Ze {R:Nat->C} {m:Nat->aq->Value} {v:C} {u:Value} {n:Nat} {p:aq} (hp:v.place=some (n,p)) (hl:Lv R m v u):ak (R n) p:=by
 cases v with
 | pref n2 p2 i j=>
  simp only [C.place,cb,cz] at hp;obtain ⟨rfl,rfl⟩:=hp;obtain ⟨_,_,_,_,_,_,_,g,_⟩:=hl;unfold ak; rw [g]; rfl
 | pal n2 p2 l2 len2 cap2=>
  simp only [C.place,cb,cz] at hp;obtain ⟨rfl,rfl⟩:=hp;obtain ⟨_,_,_,_,_,_,_,_,g,_⟩:=hl;unfold ak; rw [g]; rfl
 | _=>simp [C.place] at hp
def ar.plugN {X:Ctx} {m:Nat->aq->Value} {st:St} {a:Act} {w:World} (H:ar X m st a w) {n h:Nat} {q:aq} {i j:Nat} {cap:Option Nat} {nl:Option Bool} {es:Nat} {rows:List (List C)} {row:List C} {c0:C}
  (hh:∀ p,¬ ak (st.roots h) p) (hleaf:zm c0=true)
  (hn:h≠n) (hat:(st.roots n).at q=some (.sl true nl es cap rows)) (hrow:rows[i]?=some row) (hc0:row[j]?=some c0)
  {b off k:Nat} (hm:m n q=.slice (some ⟨b,off,none⟩) rows.length k) {u1:Value} {d1:Nat} (hu:rel w (X.S st.roots m) L0 (m h) true d1 [] (st.roots h) u1) :
  ar X (pk m n (q++[(i,j)]) h) (st.plugG id n q i j h) a (w.setCell ⟨b,off+i * es+j,none⟩ u1)/\eC X m st w (pk m n (q++[(i,j)]) h) (st.plugG id n q i j h) (w.setCell ⟨b,off+i * es+j,none⟩ u1) [n,h]:=by
 refine H.plugG rfl ?_ hn hat hrow hc0 hm hu;intro t c hc;refine .inr ⟨hc,fun v u d n' p' ho hp hl=>⟨fun e=>hh p',fun e r=>?_⟩⟩;rintro rfl;subst e;have h1:=Ze hp hl;have hatc:(st.roots n').at (q++[(i,j)])=some c0:=by simp [C.at_append,hat,C.at,C.kid,hrow,hc0]
 unfold ak at h1;rw [C.at_append,hatc] at h1;exact Wd hleaf r h1
end Go.Abs
namespace Go.Abs
def kG (m:Nat->aq->Value) (d:Nat) (u:Value):Nat->aq->Value:=fun n p=>if n=d/\p=[] then u else m n p
def br (m:Nat->aq->Value) (d:Nat) (u:Value):kG m d u d []=u:=by simp [kG]
def gI (m:Nat->aq->Value) (d:Nat) (u:Value) {n:Nat} {p:aq} (h:¬ (n=d/\p=[])):kG m d u n p=m n p:=by simp [kG,h]
def bG (w:World) (S:Nat->Prop) (D:Nat) (c:C) (u:Value):Prop:=c=.dead/\D≠0∨∃ c0,c=c0.frz/\c0.cellOk=true/\rel w S L0 dm false D [] c0 u
def bG.notOwn {w:World} {S:Nat->Prop} {D:Nat} {c:C} {u:Value} (h:bG w S D c u) {q:aq}:¬ ak c q:=by
 rcases h with ⟨rfl,_⟩|⟨c0,rfl,h1,_⟩
 ·exact aM
 ·exact oa h1
def bG.rel {w w':World} {S S':Nat->Prop} {D:Nat} {c:C} {u:Value} {m:aq->Value} {p:aq} (h:bG w S D c u) (hS:∀ b,b < w.heap.size->S b->S' b/\w'.heap[b]?=w.heap[b]?):Go.Abs.rel w' S' L0 m true D p c u:=by
 rcases h with ⟨rfl,h⟩|⟨c0,rfl,h1,h2⟩
 ·cases D with
  | zero=>exact absurd rfl h
  | succ D=>trivial
 exact Au h1 (av (m':=dm) (p':=[]) hS D (L':=L0) (fun _ _ _ h=>h) (fun h=>by simp at h) (fun h=>by simp at h) h2)
def bG.dead {w:World} {S:Nat->Prop} {D:Nat} {u:Value}:bG w S (D+1) .dead u:=.inl ⟨rfl,by omega⟩
theorem bG.val {w:World} {S:Nat->Prop} {D:Nat} {u:Value} (h:u.oneCell'=true):bG w S (D+1) (.val u) u:=.inr ⟨.val u,rfl,h,rfl⟩
def A8 {X:Ctx} {m m':Nat->aq->Value} {st st':St} {a:Act} {w w':World} {ch:List Nat} (h:ar X m st a w) (s:eC X m st w m' st' w' ch):ar X m' st' a w'/\eC X m st w m' st' w' ch:=⟨h.go s,s⟩
def ar.newRoot {X:Ctx} {m:Nat->aq->Value} {st:St} {a:Act} {w w':World} (H:ar X m st a w) {d:Nat} (hd:st.roots d=.dead) {arr:Array Value} {elem:TypeId} {rows:List (List C)} {es k D:Nat} {cap:Option Nat}
  (hw:w'.heap=w.heap.push (.cells arr elem)) (hos:w'.os=w.os) (htp:w'.tape=w.tape) (hou:w'.output=w.output)
  (h1:rows.length<=k) (h2:k<=maxLen) (h3:∀ c,cap=some c->k=c) (h4:∀ row∈rows,row.length=es) (h5:k * es<=arr.size)
  (h6:∀ (i j:Nat) (row:List C) (c:C),rows[i]?=some row->row[j]?=some c->∃ u,arr[i * es+j]?=some u/\bG w (X.S st.roots m) D c u) (hdr:w.drawn<=w'.drawn:=by first|exact cr _|exact xe _) :
  ar X (kG m d (.slice (some ⟨w.heap.size,0,none⟩) rows.length k)) { st with roots:=upd st.roots d (.sl true none es cap rows) } a w' ∧
   eC X m st w (kG m d (.slice (some ⟨w.heap.size,0,none⟩) rows.length k)) { st with roots:=upd st.roots d (.sl true none es cap rows) } w' [d]:=by
 have hsz:w'.heap.size=w.heap.size+1:=by rw [hw]; simp
 have hold:∀ b,b < w.heap.size->w'.heap[b]?=w.heap[b]?:=by intro b hb; rw [hw,acT,if_neg (by omega)]
 have hownNew:∀ p,ak (.sl true none es cap rows) p->p=[]:=by
  intro p ho;cases p with
  | nil=>rfl
  | cons s p=>
   obtain ⟨i,j⟩:=s;exfalso;unfold ak at ho;simp only [C.at,C.kid] at ho;cases hr:rows[i]? with
   | none=>simp [hr] at ho
   | some row=>
    simp only [hr,cc] at ho;cases hc:row[j]? with
    | none=>simp [hc] at ho
    | some c=>
     obtain ⟨u,_,hf⟩:=h6 i j row c hr hc;exact hf.notOwn (q:=p) (by unfold ak; simpa [hc] using ho)
 refine A8 H ?_;refine ⟨rfl,?_,fun b hb _=>hold b hb,by omega,⟨fun n p=>(n,p),some (d,[]),?_,?_⟩,?_,?_,hos,htp,hou,hdr⟩
 ·intro t c ht;refine .inr ⟨ht,fun v u dd ho hl=>?_⟩;cases hp:v.place with
  | none=>cases v<;>simp [C.place] at hp<;>exact hl.elim
  | some np=>
   obtain ⟨n',p⟩:=np;have hne:n'≠d:=by rintro rfl; exact yS hp hl hd
   refine kn hp (gI _ _ _ (fun e=>hne e.1)) ?_ hl;intro nl es2 cap2 rows2 he;exact ⟨cap2,rows2,by simpa [aO hne] using he,rfl⟩
 ·intro n p b ho hb;by_cases e:n=d
  ·subst e;simp only [aC] at ho;obtain rfl:=hownNew p ho;rw [br] at hb;refine .inl ⟨rfl,?_⟩;simp only [blk] at hb;split at hb
   ·simp at hb
   ·simp only [cb] at hb; omega
  ·simp only [aO e] at ho;rw [gI _ _ _ (fun h=>e h.1)] at hb;exact .inr ⟨by simp; intro h; exact absurd h.symm e,ho,hb,H.lt ho hb⟩
 ·intro n p n' p' _ _ _ _ e; simpa using e
 ·intro n e;have e:n≠d:=by simpa using e
  exact ⟨by simp [aO e],fun q _=>gI _ _ _ (fun h=>e h.1),fun q b ho hb hlt=>hold b hlt⟩
 ·intro hS n e
  ·obtain rfl:n=d:=by simpa using e
   refine ⟨kG m n (.slice (some ⟨w.heap.size,0,none⟩) rows.length k) n [],D+1,?_⟩;simp only [aC];refine mQ (d:=D) (a:=some ⟨w.heap.size,0,none⟩) (k:=k) (br _ _ _) h1 h2 h3 ⟨by simp,by simp⟩ h4 (.inr ⟨w.heap.size,0,arr,elem,rfl,by rw [hw]; simp,by omega,?_⟩);intro i j row c e1 e2;obtain ⟨u,f1,f2⟩:=h6 i j row c e1 e2;exact ⟨u,by rw [<-f1]; congr 1; omega,f2.rel hS⟩
def ar.regrow {X:Ctx} {m:Nat->aq->Value} {st:St} {a:Act} {w w':World} (H:ar X m st a w) {n:Nat} {nl:Option Bool} {es D:Nat} {cap cap':Option Nat} {rows extra:List (List C)} (hR:st.roots n=.sl true nl es cap rows)
  {a0:Option Addr} {k:Nat} (hm:m n []=.slice a0 rows.length k) {b' off' k':Nat} {arr':Array Value} {elem':TypeId}
  (h1:rows.length+extra.length<=k') (h2:k'<=maxLen) (h3:∀ c,cap'=some c->k'=c) (h4:∀ row∈extra,row.length=es)
  (hb':w'.heap[b']?=some (.cells arr' elem')) (hfit:off'+k' * es<=arr'.size)
  (hsame:(b'=w.heap.size/\w'.heap.size=w.heap.size+1/\∀ x,x < w.heap.size->w'.heap[x]?=w.heap[x]?)∨(k≠0/\a0.map Addr.block=some b'/\w'.heap.size=w.heap.size/\∀ x,x≠b'->w'.heap[x]?=w.heap[x]?))
  (hold:∀ b off arr elem,a0=some ⟨b,off,none⟩->w.heap[b]?=some (.cells arr elem)->k≠0->∀ x,x < rows.length * es->arr'[off'+x]?=arr[off+x]?)
  (hnew:∀ (i j:Nat) (row:List C) (c:C),extra[i]?=some row->row[j]?=some c->∃ u,arr'[off'+(rows.length+i) * es+j]?=some u/\bG w (X.S st.roots m) D c u)
  (hos:w'.os=w.os) (htp:w'.tape=w.tape) (hou:w'.output=w.output) (hdr:w.drawn<=w'.drawn:=by first|exact cr _|exact xe _) :
  ar X (kG m n (.slice (some ⟨b',off',none⟩) (rows.length+extra.length) k')) { tmps:=st.tmps.map (poi fun n' _=>n' == n),roots:=upd st.roots n (.sl true none es cap' (rows++extra)) } a w' ∧
   eC X m st w (kG m n (.slice (some ⟨b',off',none⟩) (rows.length+extra.length) k')) { tmps:=st.tmps.map (poi fun n' _=>n' == n),roots:=upd st.roots n (.sl true none es cap' (rows++extra)) } w' [n]:=by
 have hown0:ak (st.roots n) []:=by rw [hR]; rfl
 have hblk:∀ x,x < w.heap.size->(∀ n2 p2,ak (st.roots n2) p2->blk (m n2 p2)=some x->(n2,p2)≠(n,[]))->(k=0∨blk (m n [])≠some x)->w'.heap[x]?=w.heap[x]?:=by
  intro x hx _ hne;rcases hsame with ⟨_,_,hs⟩|⟨hk,ha,_,hs⟩
  ·exact hs x hx
  ·refine hs x ?_;rintro rfl;rcases hne with h|h
   ·exact hk h
   ·apply h;rw [hm];cases a0 with
    | none=>simp at ha
    | some ad=>simp only [cx,cb] at ha; simp [blk,hk,ha]
 have hother:∀ n2 p2 x,ak (st.roots n2) p2->blk (m n2 p2)=some x->(n2,p2)≠(n,[])->x < w.heap.size->w'.heap[x]?=w.heap[x]?:=by
  intro n2 p2 x ho hb hne hx;rcases hsame with ⟨_,_,hs⟩|⟨hk,ha,_,hs⟩
  ·exact hs x hx
  ·refine hs x ?_;rintro rfl;have:blk (m n [])=some x:=by
    rw [hm];cases a0 with
    | none=>simp at ha
    | some ad=>simp only [cx,cb] at ha; simp [blk,hk,ha]
   have:=H.inj _ _ _ _ _ ho hown0 hb this;exact hne (by rw [this.1,this.2])
 have hoNew:∀ p,ak (.sl true none es cap' (rows++extra)) p->ak (st.roots n) p:=by
  intro p ho;rw [hR];cases p with
  | nil=>rfl
  | cons s p=>
   obtain ⟨i,j⟩:=s;unfold ak at ho ⊢;simp only [C.at,C.kid] at ho ⊢;by_cases hi:i < rows.length
   ·rwa [cJ hi] at ho
   ·exfalso;rw [cL (by omega)] at ho;cases hr:extra[i - rows.length]? with
    | none=>simp [hr] at ho
    | some row=>
     simp only [hr,cc] at ho;cases hc:row[j]? with
     | none=>simp [hc] at ho
     | some c=>
      obtain ⟨u,_,hf⟩:=hnew _ j row c hr hc;exact hf.notOwn (q:=p) (by unfold ak; simpa [hc] using ho)
 refine A8 H ?_;refine ⟨by simp,?_,?_,?_,⟨fun n p=>(n,p),if b'=w.heap.size then some (n,[]) else none,?_,?_⟩,?_,?_,hos,htp,hou,hdr⟩
 ·refine Al fun v u n' p' hp hf hl=>?_;have hne:n'≠n:=by simpa using hf
  refine kn hp (gI _ _ _ (fun e=>hne e.1)) ?_ hl;intro nl es2 cap2 rows2 he;exact ⟨cap2,rows2,by simpa [aO hne] using he,rfl⟩
 ·intro b hb hno;rcases hsame with ⟨_,_,hs⟩|⟨hk,ha,_,hs⟩
  ·exact hs b hb
  ·refine hs b ?_;rintro rfl;refine hno ⟨n,[],hown0,?_⟩;rw [hm];cases a0 with
   | none=>simp at ha
   | some ad=>simp only [cx,cb] at ha; simp [blk,hk,ha]
 ·rcases hsame with ⟨_,h,_⟩|⟨_,_,h,_⟩<;>omega
 ·intro n2 p2 b ho hb;by_cases e:n2=n
  ·subst e;simp only [aC] at ho;by_cases ep:p2=[]
   ·subst ep;rw [br] at hb;simp only [blk] at hb;split at hb
    ·simp at hb
    ·simp only [cb] at hb;subst hb;rcases hsame with ⟨e1,_,_⟩|⟨hk,ha,_,_⟩
     ·exact .inl ⟨by simp [e1],by omega⟩
     ·have hbb:blk (m n2 [])=some b':=by
       rw [hm];cases a0 with
       | none=>simp at ha
       | some ad=>simp only [cx,cb] at ha; simp [blk,hk,ha]
      have hlt:=H.lt hown0 hbb;exact .inr ⟨by rw [if_neg (by omega)]; simp,hown0,hbb,hlt⟩
   ·rw [gI _ _ _ (fun h=>ep h.2)] at hb;have:=hoNew p2 ho;exact .inr ⟨by split<;>simp [xG ep],this,hb,H.lt this hb⟩
  ·simp only [aO e] at ho;rw [gI _ _ _ (fun h=>e h.1)] at hb;exact .inr ⟨by split<;>simp [xG e],ho,hb,H.lt ho hb⟩
 ·intro n1 p1 n2 p2 _ _ _ _ e; simpa using e
 ·intro n2 e;have e:n2≠n:=by simpa using e
  refine ⟨by simp [aO e],fun q _=>gI _ _ _ (fun h=>e h.1),?_⟩;intro q x ho hb hlt;exact hother n2 q x ho hb (fun h=>e (by simp at h; exact h.1)) hlt
 ·intro hS n2 e
  ·obtain rfl:n2=n:=by simpa using e
   simp only [aC];obtain ⟨u0,d0,hr0⟩:=H.root n2;rw [hR] at hr0;obtain ⟨a1,k1,dd,e1,e2,e3,e4,e5,ez,e6,e7⟩:=eb hr0;rw [hm] at e2;simp only [Value.slice.injEq] at e2;obtain ⟨rfl,_,rfl⟩:=e2;refine ⟨kG m n2 (.slice (some ⟨b',off',none⟩) (rows.length+extra.length) k') n2 [],max dd D+1,mQ (d:=max dd D) (a:=some ⟨b',off',none⟩) (k:=k') (by rw [br]; simp) (by simpa using h1) h2 h3 ⟨by simp,by simp⟩ ?_ (.inr ⟨b',off',arr',elem',rfl,hb',hfit,?_⟩)⟩
   ·intro row hrow;rcases cH.1 hrow with h|h
    ·exact e6 row h
    ·exact h4 row h
   ·intro i j row c f1 f2;by_cases hi:i < rows.length
    ·rw [cJ hi] at f1;rcases e7 with e7|⟨b,off,arr,elem,g1,g2,g4,g5⟩
     ·omega
     ·obtain ⟨u',f3,f4⟩:=g5 i j row c f1 f2;have hj:j < es:=by rw [<-e6 row (cg f1)]; exact (cd.1 f2).1
      have hx:i * es+j < rows.length * es:=by
       have:(i+1) * es<=rows.length * es:=nv _ (by omega);rw [cI] at this; omega
      refine ⟨u',?_,aS dd _ (nR _ _) ?_⟩
      ·rw [nf,hold b off arr elem g1 g2 (by omega) _ hx,<-nf]; exact f3
      ·have up:∀ {q1},ak c q1->ak (st.roots n2) ((i,j)::q1):=by
        intro q1 ho;rw [hR];unfold ak at ho ⊢;simpa [C.at,C.kid,f1,f2] using ho
       refine av hS dd (fun _ _ _ h=>h) ?_ ?_ f4
       ·intro _ q1 x ho hb hlt;exact hother n2 _ x (up ho) (by simpa using hb) (by simp) hlt
       ·intro _ q1 _;exact gI _ _ _ (fun h=>by simp at h)
    ·rw [cL (by omega)] at f1;obtain ⟨u,f3,f4⟩:=hnew _ j row c f1 f2;exact ⟨u,by rw [<-f3,show rows.length+(i - rows.length)=i by omega],aS D _ (n8 _ _) (f4.rel hS)⟩
end Go.Abs
namespace Go.Abs
def tA (n:Nat):Nat->aq->Bool:=fun n' p'=>n' == n && !p'.isEmpty
def ar.rewrite {X:Ctx} {m:Nat->aq->Value} {st:St} {a:Act} {w w':World} (H:ar X m st a w) {n:Nat} {nl:Option Bool} {es D:Nat} {cap:Option Nat} {rows rows':List (List C)} (hR:st.roots n=.sl true nl es cap rows)
  {b off k:Nat} (hm:m n []=.slice (some ⟨b,off,none⟩) rows.length k) (hk:k≠0) {arr':Array Value} {elem':TypeId}
  (h1:rows'.length<=k) (hge:rows.length<=rows'.length) (h4:∀ row∈rows',row.length=es)
  (hb':w'.heap[b]?=some (.cells arr' elem')) (hfit:off+k * es<=arr'.size) (hsz:w'.heap.size=w.heap.size) (hs:∀ x,x≠b->w'.heap[x]?=w.heap[x]?)
  (hnew:∀ (i j:Nat) (row:List C) (c:C),rows'[i]?=some row->row[j]?=some c->∃ u,arr'[off+i * es+j]?=some u/\bG w (X.S st.roots m) D c u)
  (hos:w'.os=w.os) (htp:w'.tape=w.tape) (hou:w'.output=w.output) (hdr:w.drawn<=w'.drawn:=by first|exact cr _|exact xe _) :
  ar X (kG m n (.slice (some ⟨b,off,none⟩) rows'.length k)) { tmps:=st.tmps.map (poi (tA n)),roots:=upd st.roots n (.sl true nl es cap rows') } a w' ∧
   eC X m st w (kG m n (.slice (some ⟨b,off,none⟩) rows'.length k)) { tmps:=st.tmps.map (poi (tA n)),roots:=upd st.roots n (.sl true nl es cap rows') } w' [n]:=by
 have hown0:ak (st.roots n) []:=by rw [hR]; rfl
 have hblk:blk (m n [])=some b:=by rw [hm]; simp [blk,hk]
 have hother:∀ n2 p2 x,ak (st.roots n2) p2->blk (m n2 p2)=some x->(n2,p2)≠(n,[])->w'.heap[x]?=w.heap[x]?:=by
  intro n2 p2 x ho hb hne;refine hs x ?_;rintro rfl;have:=H.inj _ _ _ _ _ ho hown0 hb hblk;exact hne (by rw [this.1,this.2])
 have hoNew:∀ p,ak (.sl true nl es cap rows') p->p=[]:=by
  intro p ho;cases p with
  | nil=>rfl
  | cons s p=>
   obtain ⟨i,j⟩:=s;exfalso;unfold ak at ho;simp only [C.at,C.kid] at ho;cases hr:rows'[i]? with
   | none=>simp [hr] at ho
   | some row=>
    simp only [hr,cc] at ho;cases hc:row[j]? with
    | none=>simp [hc] at ho
    | some c=>
     obtain ⟨u,_,hf⟩:=hnew _ j row c hr hc;exact hf.notOwn (q:=p) (by unfold ak; simpa [hc] using ho)
 refine A8 H ?_;refine ⟨by simp,?_,?_,by omega,⟨fun n p=>(n,p),none,?_,?_⟩,?_,?_,hos,htp,hou,hdr⟩
 ·refine Al fun v u n' p' hp hf hl=>?_;by_cases hne:n'=n
  ·subst hne;have hp':p'=[]:=by simpa [tA] using hf
   subst hp';cases v with
   | pref n0 p0 i j=>
    simp only [C.place,cb,cz] at hp;obtain ⟨rfl,rfl⟩:=hp;obtain ⟨nl2,es2,cap2,rows2,b2,off2,k2,f1,f2,f3⟩:=hl;rw [hR] at f1;simp only [C.at,cb,C.sl.injEq,true_and] at f1;obtain ⟨rfl,rfl,rfl,rfl⟩:=f1;rw [hm] at f2;simp only [Value.slice.injEq,cb,Addr.mk.injEq,and_true,true_and] at f2;obtain ⟨⟨rfl,rfl⟩,rfl⟩:=f2;exact ⟨nl,es,cap,rows',b,off,k,by simp [aC,C.at],by rw [br],f3⟩
   | pal n0 p0 lo len cp=>
    simp only [C.place,cb,cz] at hp;obtain ⟨rfl,rfl⟩:=hp;obtain ⟨nl2,es2,cap2,rows2,a2,k2,a3,k3,f1,f2,f3,f4,f5,f6,f7,f8,f9⟩:=hl;rw [hR] at f1;simp only [C.at,cb,C.sl.injEq,true_and] at f1;obtain ⟨rfl,rfl,rfl,rfl⟩:=f1;rw [hm] at f2;simp only [Value.slice.injEq,true_and] at f2;obtain ⟨rfl,rfl⟩:=f2;exact ⟨nl,es,cap,rows',_,k,a3,k3,by simp [aC,C.at],by rw [br],by omega,f4,f5,f6,f7,f8,f9⟩
   | _=>exact hl.elim
  ·refine kn hp (gI _ _ _ (fun e=>hne e.1)) ?_ hl;intro nl es2 cap2 rows2 he;exact ⟨cap2,rows2,by simpa [aO hne] using he,rfl⟩
 ·intro x _ hno;refine hs x ?_;rintro rfl;exact hno ⟨n,[],hown0,hblk⟩
 ·intro n2 p2 x ho hb;by_cases e:n2=n
  ·subst e;simp only [aC] at ho;have:=hoNew p2 ho;subst this;rw [br] at hb;simp only [blk,hk,if_false,cb] at hb;subst hb;exact .inr ⟨by simp,hown0,hblk,H.lt hown0 hblk⟩
  ·simp only [aO e] at ho;rw [gI _ _ _ (fun h=>e h.1)] at hb;exact .inr ⟨by simp,ho,hb,H.lt ho hb⟩
 ·intro n1 p1 n2 p2 _ _ _ _ e; simpa using e
 ·intro n2 e;have e:n2≠n:=by simpa using e
  refine ⟨by simp [aO e],fun q _=>gI _ _ _ (fun h=>e h.1),?_⟩;intro q x ho hb _;exact hother n2 q x ho hb (fun h=>e (by simp at h; exact h.1))
 ·intro hS n2 e;obtain rfl:n2=n:=by simpa using e
  simp only [aC];obtain ⟨u0,d0,hr0⟩:=H.root n2;rw [hR] at hr0;obtain ⟨a1,k1,dd,e1,e2,e3,e4,e5,ez,e6,e7⟩:=eb hr0;rw [hm] at e2;simp only [Value.slice.injEq] at e2;obtain ⟨rfl,_,rfl⟩:=e2;refine ⟨kG m n2 (.slice (some ⟨b,off,none⟩) rows'.length k) n2 [],D+1,mQ (d:=D) (a:=some ⟨b,off,none⟩) (k:=k) (by rw [br]) h1 e4 e5 ez h4 (.inr ⟨b,off,arr',elem',rfl,hb',hfit,?_⟩)⟩;intro i j row c f1 f2;obtain ⟨u,f3,f4⟩:=hnew i j row c f1 f2;exact ⟨u,f3,f4.rel hS⟩
end Go.Abs
namespace Go.Abs
inductive TK where
 | slice (elem es:Nat)
 | struct (fs:List (Nat × Nat))
 | arr (n elem es:Nat)
 | str
 | int (k:IntKind)
 | bool
 | other
inductive EK where
 | int
 | str
 | bool
structure TI where
 size:Nat
 agg:Bool
 bytes:Nat
 zero:List Value
 eqs:List EK
 kind:TK
structure FnS where
 own:List Bool
 pure:Bool
 fn:List C->Option C
 peek:Bool:=false
structure FnL where
 k:Nat
 fn:List C->List C->Option (C × List C)
 pure:Bool:=false
structure Env where
 T:Nat->Option TI
 G:Nat->Nat->Option FnS
 F:Nat->Option Bool:=fun _=>none
 L:Nat->Nat->Option FnL:=fun _ _=>none
def St.node (st:St) (n:Nat) (p:aq):Option C:=(st.roots n).at p
def ofV:Value->C
 | .agg cs=>.agg (cs.toList.map .val)
 | v=>.val v
def St.ev (st:St):Operand->C
 | .tmp t=>(st.tmps[t]?).getD .dead
 | .const v=>ofV v
 | .func f=>.clo (KL f) []
 | .global _=>.dead
def inK (k:IntKind) (n:Int):Prop:=k.min<=n/\n<=k.max
def LD (op:BinOp) (k:IntKind) (a b:Int):Option C:=
 match op with
 | .add=>some (.val (.int k (k.wrap (a+b))))
 | .sub=>some (.val (.int k (k.wrap (a - b))))
 | .mul=>some (.val (.int k (k.wrap (a * b))))
 | .quo=>if b=0 then none else some (.val (.int k (k.wrap (a.tdiv b))))
 | .rem=>if b=0 then none else some (.val (.int k (a.tmod b)))
 | .and=>some (.val (.int k (k.wrap (BitVec.ofInt k.bits a &&& BitVec.ofInt k.bits b).toNat)))
 | .or=>some (.val (.int k (k.wrap (BitVec.ofInt k.bits a ||| BitVec.ofInt k.bits b).toNat)))
 | .xor=>some (.val (.int k (k.wrap (BitVec.ofInt k.bits a ^^^ BitVec.ofInt k.bits b).toNat)))
 | .eql=>some (.val (.bool (decide (a=b))))
 | .neq=>some (.val (.bool (!decide (a=b))))
 | .lss=>some (.val (.bool (decide (a < b))))
 | .leq=>some (.val (.bool (decide (a<=b))))
 | .gtr=>some (.val (.bool (decide (b < a))))
 | .geq=>some (.val (.bool (decide (b<=a))))
 | _=>none
def kd (k:IntKind) (a b:Int):Int:=a.fdiv (2 ^ min b.toNat k.bits)
def Xl (k:IntKind) (a b:Int):Int:=k.wrap (a * 2 ^ min b.toNat k.bits)
def Ly (op:BinOp) (k:IntKind) (a b:Int):Option C:=
 match op with
 | .shl=>if b < 0 then none else some (.val (.int k (Xl k a b)))
 | .shr=>if b < 0 then none else some (.val (.int k (kd k a b)))
 | _=>none
def sEq (a b:ByteArray):Bool:=a.toList == b.toList
def sLt (a b:ByteArray):Bool:=Op.bytesLess a.toList b.toList
def Lz (op:BinOp) (a b:ByteArray):Option C:=
 match op with
 | .add=>if (a.size:Int)+b.size<=9223372036854775807 then some (.val (.string (a++b))) else none
 | .eql=>some (.val (.bool (sEq a b)))
 | .neq=>some (.val (.bool (!sEq a b)))
 | .lss=>some (.val (.bool (sLt a b)))
 | .leq=>some (.val (.bool (sLt a b || sEq a b)))
 | .gtr=>some (.val (.bool (!(sLt a b || sEq a b))))
 | .geq=>some (.val (.bool (!sLt a b)))
 | _=>none
def HZ:EK->C->C->Option Bool
 | .int,.val (.int k a),.val (.int k' b)=>if k=k' then some (decide (a=b)) else none
 | .str,.val (.string a),.val (.string b)=>some (sEq a b)
 | .bool,.val (.bool a),.val (.bool b)=>some (decide (a=b))
 | _,_,_=>none
def dB:List EK->List C->List C->Option Bool
 | [],[],[]=>some true
 | k::ks,a::as,b::bs=>match HZ k a b,dB ks as bs with
  | some x,some y=>some (x && y)
  | _,_=>none
 | _,_,_=>none
def Iw:C->Option Bool
 | .val (.slice none 0 0)=>some true
 | .sl _ (some b) _ _ _=>some b
 | .sl _ none _ _ rows=>if rows.length≠0 then some false else none
 | .pal _ _ _ len _=>if len≠0 then some false else none
 | _=>none
def GA (op:BinOp) (b:Bool):Option C:=
 match op with
 | .eql=>some (.val (.bool b))
 | .neq=>some (.val (.bool (!b)))
 | _=>none
def IC (ti:Option TI) (op:BinOp):C->C->Option C
 | .val (.int k a),.val (.int k' b)=>match Ly op k a b with
  | some c=>some c
  | none=>if k=k' then LD op k a b else none
 | .val (.string a),.val (.string b)=>Lz op a b
 | .val (.bool a),.val (.bool b)=>match ti with
  | some ti=>match ti.kind with
   | .bool=>GA op (decide (a=b))
   | _=>none
  | none=>none
 | .agg as,.agg bs=>match ti with
  | some ti=>if ti.eqs.isEmpty=true then none else (dB ti.eqs as bs).bind (GA op)
  | none=>none
 | x,.val (.slice none 0 0)=>match ti with
  | some ti=>match ti.kind with
   | .slice _ _=>(Iw x).bind (GA op)
   | _=>none
  | none=>none
 | _,_=>none
def unC (op:UnOp):C->Option C
 | .val (.bool b)=>match op with
  | .not=>some (.val (.bool (!b)))
  | _=>none
 | .val (.int k n)=>match op with
  | .neg=>some (.val (.int k (k.wrap (0 - n))))
  | _=>none
 | _=>none
def Jd (ti:TI):C->Option C
 | .val (.int _ n)=>match ti.kind with
  | .int k=>some (.val (.int k (k.wrap n)))
  | _=>none
 | .val (.string s)=>match ti.kind with
  | .str=>some (.val (.string s))
  | _=>none
 | _=>none
def Tz:List C->Option Int
 | [.val (.int .u8 n)]=>some n
 | _=>none
def FA:List (List C)->Option (List Int)
 | []=>some []
 | r::rs=>match Tz r,FA rs with
  | some n,some l=>some (n::l)
  | _,_=>none
def QO (l:List Int):ByteArray:=l.foldl (fun r n=>r.push (UInt8.ofNat n.toNat)) ByteArray.empty
def GP (st:St):C->Option (List (List C))
 | .sl _ _ 1 _ rows=>some rows
 | .pal n p lo len _=>match st.node n p with
  | some (.sl true _ 1 _ rows)=>some ((rows.drop lo).take len)
  | _=>none
 | _=>none
def vF:C->Option Nat
 | .val (.int _ n)=>if 0<=n then some n.toNat else none
 | _=>none
def MC (n:Nat) (p:aq) (i j:Nat):C->C
 | .sl true _ _ _ rows=>.pal n (p++[(i,j)]) 0 rows.length none
 | .agg _=>.dead
 | .tup _=>.dead
 | c=>c
def j7 (n:Nat) (p:aq) (i:Nat):Nat->List C->List C
 | _,[]=>[]
 | j,c::cs=>MC n p i j c::j7 n p i (j+1) cs
def Cl (ti:TI) (cs:List C):Option C:=
 if ti.agg then some (.agg cs) else match cs with
  | [c]=>some c
  | _=>none
def C.oneC:C->Bool
 | .val v=>v.oneCell'
 | .sl ..=>true
 | .clo ..=>true
 | .iref ..=>true
 | .pref ..=>true
 | .pal ..=>true
 | _=>false
def sL (ti:TI) (c:C):Option (List C):=
 if ti.agg then match c with
  | .agg cs=>if cs.length=ti.size then some cs else none
  | _=>none
 else if ti.size=1/\c.oneC=true then some [c] else none
def qg (st:St) (ti:TI):C->Option C
 | .pref n p i j=>match st.node n p with
  | some (.sl true _ _ _ rows)=>match rows[i]? with
   | some row=>if j+ti.size<=row.length then Cl ti (j7 n p i j ((row.drop j).take ti.size)) else none
   | none=>none
  | _=>none
 | .iref _ rows i j=>match rows[i]? with
  | some row=>if j+ti.size<=row.length then Cl ti ((row.drop j).take ti.size) else none
  | none=>none
 | _=>none
def qQ (E:Env) (ti:TI) (f:Nat) (x:C):Option C:=
 match ti.kind with
 | .struct fs=>match fs[f]? with
  | some (o,t)=>match E.T t with
   | some ft=>if ft.size=0 then none else match x with
    | .pref n p i j=>some (.pref n p i (j+o))
    | .iref es rows i j=>some (.iref es rows i (j+o))
    | _=>none
   | none=>none
  | none=>none
 | _=>none
def LV (E:Env) (ti:TI) (f:Nat) (x:C):Option C:=
 match ti.kind,x with
 | .struct fs,.agg cs=>match fs[f]? with
  | some (o,t)=>match E.T t with
   | some ft=>if o+ft.size<=cs.length then Cl ft ((cs.drop o).take ft.size) else none
   | none=>none
  | none=>none
 | _,_=>none
def jT (st:St) (ti:TI) (x ix:C):Option C:=
 match ti.kind,ix with
 | .slice _ es,.val (.int _ i)=>match x with
  | .pal n p lo len _=>match st.node n p with
   | some (.sl true _ es' _ _)=>if es'=es/\0<=i/\i < len then some (.pref n p (lo+i.toNat) 0) else none
   | _=>none
  | .sl _ _ es' _ rows=>if es'=es/\0<=i/\i < rows.length then some (.iref es rows i.toNat 0) else none
  | _=>none
 | .arr n _ es,.val (.int _ i)=>if 0<=i/\i < n then match x with
  | .pref n' p i' j=>some (.pref n' p i' (j+i.toNat * es))
  | .iref es' rows i' j=>some (.iref es' rows i' (j+i.toNat * es))
  | _=>none
  else none
 | _,_=>none
def E7 (E:Env) (ti:TI) (x ix:C):Option C:=
 match ti.kind,x,ix with
 | .str,.val (.string s),.val (.int _ i)=>if 0<=i then match s[i.toNat]? with
  | some b=>some (.val (.int .u8 b.toNat))
  | none=>none
  else none
 | .arr n e es,.agg cs,.val (.int _ i)=>match E.T e with
  | some te=>if te.agg=false/\es=1/\0<=i/\i < n then match cs[i.toNat]? with
   | some (.val v)=>some (.val v)
   | _=>none
   else none
  | none=>none
 | _,_,_=>none
def sx (len:Nat) (cap:Option Nat) (lo hi mx:Option C):Option (Nat × Nat × Option Nat):=
 match (match lo with|none=>some 0|some c=>vF c),(match hi with|none=>some len|some c=>vF c) with
 | some l,some h=>match mx with
  | none=>if l<=h/\h<=len then some (l,h,cap.map (· - l)) else none
  | some c=>match vF c,hi with
   | some m,some _=>if l<=h/\h<=m/\(m<=len∨∃ k∈cap,m<=k)/\h<=len then some (l,h,some (m - l)) else none
   | _,_=>none
 | _,_=>none
def BF (st:St) (ti:TI) (x:C) (lo hi mx:Option C):Option C:=
 match ti.kind,x with
 | .str,.val (.string s)=>match mx with
  | none=>match sx s.size none lo hi none with
   | some (l,h,_)=>some (.val (.string (s.extract l h)))
   | none=>none
  | some _=>none
 | .slice _ es,.pal n p lo0 len0 cap0=>match st.node n p with
  | some (.sl true _ es' _ _)=>if es'=es then match sx len0 cap0 lo hi mx with
   | some (l,h,c)=>some (.pal n p (lo0+l) (h - l) c)
   | none=>none
   else none
  | _=>none
 | .slice _ es,.sl _ nl es' cap rows=>if es'=es then match sx rows.length cap lo hi mx with
  | some (l,h,c)=>some (.sl false nl es c ((rows.drop l).take (h - l)))
  | none=>none
  else none
 | .slice _ _,.val (.slice none 0 0)=>match sx 0 (some 0) lo hi mx with
  | some _=>some (.val (.slice none 0 0))
  | none=>none
 | _,_=>none
def Ef (cs:List C) (o:Nat) (new:List C):List C:=cs.take o++new++cs.drop (o+new.length)
def qM (E:Env) (ti:TI):List (Nat × C)->List C->Option (List C)
 | [],cs=>some cs
 | (i,c)::rest,cs=>
  match ti.kind with
  | .struct fs=>match fs[i]? with
   | some (o,t)=>match (E.T t).bind (sL · c) with
    | some new=>if o+new.length<=cs.length then qM E ti rest (Ef cs o new) else none
    | none=>none
   | none=>none
  | .arr _ e es=>match (E.T e).bind (sL · c) with
   | some new=>if new.length=es/\i * es+es<=cs.length then qM E ti rest (Ef cs (i * es) new) else none
   | none=>none
  | _=>none
def uH:C->Option Nat
 | .val (.slice none 0 0)=>some 0
 | .sl _ _ _ _ rows=>some rows.length
 | .pal _ _ _ len _=>some len
 | _=>none
def Lg:C->Option Nat
 | .val (.slice none 0 0)=>some 0
 | .sl _ _ _ cap _=>cap
 | .pal _ _ _ _ cap=>cap
 | _=>none
def mi (f:Int->Int->Int):IntKind->Int->List C->Option C
 | k,x,[]=>some (.val (.int k x))
 | k,x,.val (.int k' y)::rest=>if k=k' then mi f k (f x y) rest else none
 | _,_,_=>none
def kY (ti:Option TI) (b:Builtin) (args:List C):Option C:=
 match b,args with
 | .len,[.val (.string s)]=>match ti with
  | some ti=>match ti.kind with
   | .str=>some (.val (.int .i64 s.size))
   | _=>none
  | none=>none
 | .len,[x]=>match ti with
  | some ti=>match ti.kind with
   | .slice _ _=>match uH x with
    | some n=>some (.val (.int .i64 (n:Int)))
    | none=>none
   | _=>none
  | none=>none
 | .cap,[x]=>match ti with
  | some ti=>match ti.kind with
   | .slice _ _=>match Lg x with
    | some n=>some (.val (.int .i64 (n:Int)))
    | none=>none
   | _=>none
  | none=>none
 | .min,.val (.int k x)::rest=>mi (fun x y=>if y < x then y else x) k x rest
 | .max,.val (.int k x)::rest=>mi (fun x y=>if y > x then y else x) k x rest
 | _,_=>none
def IM (E:Env) (ti:TI) (parts:List (Nat × C)):Option C:=
 match ti.kind with
 | .struct _=>(qM E ti parts (ti.zero.map .val)).map .agg
 | .arr _ _ _=>(qM E ti parts (ti.zero.map .val)).map .agg
 | _=>none
def KW (E:Env) (st:St) (src dst:TypeId) (c:C):Option C:=
 match E.T src,E.T dst with
 | some ts,some td=>match td.kind,ts.kind with
  | .str,.slice e 1=>match E.T e with
   | some te=>match te.kind with
    | .int .u8=>match GP st c with
     | some rows=>match FA rows with
      | some l=>some (.val (.string (QO l)))
      | none=>none
     | none=>none
    | _=>none
   | none=>none
  | _,_=>none
 | _,_=>none
def qop (E:Env) (st:St):Op->Option C
 | .move x=>some (st.ev x)
 | .assign x=>some (st.ev x)
 | .pick c a b=>match st.ev c with
  | .val (.bool t)=>some (if t then st.ev a else st.ev b)
  | _=>none
 | .load t x=>(E.T t).bind fun ti=>qg st ti (st.ev x)
 | .fieldAddr s x f=>(E.T s).bind fun ti=>qQ E ti f (st.ev x)
 | .field s x f=>(E.T s).bind fun ti=>LV E ti f (st.ev x)
 | .indexAddr t x ix=>(E.T t).bind fun ti=>jT st ti (st.ev x) (st.ev ix)
 | .index t x ix=>(E.T t).bind fun ti=>E7 E ti (st.ev x) (st.ev ix)
 | .binOp op t x y _=>IC (E.T t) op (st.ev x) (st.ev y)
 | .unOp op _ x=>unC op (st.ev x)
 | .convert src dst x=>match (if (E.T src).isSome then (E.T dst).bind fun ti=>Jd ti (st.ev x) else none) with
  | some c=>some c
  | none=>KW E st src dst (st.ev x)
 | .extract x i=>match st.ev x with
  | .tup cs=>cs[i]?
  | _=>none
 | .slice t x lo hi mx=>(E.T t).bind fun ti=>BF st ti (st.ev x) (lo.map st.ev) (hi.map st.ev) (mx.map st.ev)
 | .makeFunc (.func f) first caps=>if first.size=0/\f < B0 then some (.clo f (caps.toList.map st.ev)) else if caps.size=0 then some (.clo (f+B0) (first.toList.map st.ev)) else none
 | .nilCheck x=>match st.ev x with
  | .pref n p i j=>some (.pref n p i j)
  | .iref es rows i j=>some (.iref es rows i j)
  | _=>none
 | .build t parts=>(E.T t).bind fun ti=>IM E ti (parts.toList.map fun x=>(x.1,st.ev x.2))
 | .call { callee:=.builtin b,args,argTypes }=>kY ((argTypes[0]?).bind E.T) b (args.toList.map st.ev)
 | _=>none
end Go.Abs
namespace Go.Abs
def U0 (P:Program) (d:TypeDesc):TK->Prop
 | .slice e es=>d=.slice e/\∃ i,P.info? e=some i/\i.size=es
 | .struct fs=>∃ fields:Array Field,d=.struct fields/\(∀ (k o t:Nat),fs[k]?=some (o,t)->∃ f,fields[k]?=some f/\f.offset=o/\f.type=t) ∧
   ∃ places,fields.toList.mapM (fun f=>(P.info? f.type).map fun i=>(f.offset,i.size))=some places
 | .arr n e es=>d=.array n e/\∃ i,P.info? e=some i/\i.size=es
 | .str=>d=.string
 | .int k=>d=.int k
 | .bool=>d=.bool
 | .other=>True
def PF:TypeDesc->Bool
 | .struct _=>true
 | .array _ _=>true
 | _=>false
def C.toV:C->Value
 | .val v=>v
 | _=>undef
def Zp (P:Program) (t:TypeId) (ks:List EK):Prop:=∀ (w:World) (as bs:List C) (b:Bool),dB ks as bs=some b ->
 (∀ (op:BinOp) (x y:Operand),(eqGuard op t x y (.agg (as.map C.toV).toArray) (.agg (bs.map C.toV).toArray)).run P w=.ok () w) ∧
 (Op.equal t (.agg (as.map C.toV).toArray) (.agg (bs.map C.toV).toArray)).run P w=.ok b w
def Lj {n b B:Nat} (h:n * (b - 1+1)<=B):n * b<=B/\n<=B:=⟨nu (adk _ (by omega)) h,nu (Nat.le_mul_of_pos_right _ (by omega)) h⟩
structure eP (P:Program) (t:Nat) (ti:TI):Prop where
 info:∃ i,P.info? t=some i/\i.size=ti.size/\i.bytes=ti.bytes/\∃ z,i.zero=some z/\z.cells.toList=ti.zero
 und:∃ d,P.underlying t=some d/\ti.agg=PF d/\U0 P d ti.kind
 zlen:ti.zero.length=ti.size
 zone:∀ v∈ti.zero,v.oneCell'=true
 eqs:ti.eqs.isEmpty=false->Zp P t ti.eqs
def TOk (P:Program) (E:Env):Prop:=∀ t ti,E.T t=some ti->eP P t ti
section
variable {P:Program} {w:World}
def eP.size {t:Nat} {ti:TI} (h:eP P t ti):(sizeOf t).run P w=.ok ti.size w:=by
 obtain ⟨i,h1,h2,_⟩:=h.info;simp [sizeOf,typeInfo,h1,h2]
def eP.agg_run {t:Nat} {ti:TI} (h:eP P t ti):(isAgg t).run P w=.ok ti.agg w:=by
 obtain ⟨d,h1,h2,_⟩:=h.und;unfold isAgg;rw [h2];cases d<;>simp [run_underlying h1,PF]
def eP.zero_run {t:Nat} {ti:TI} (h:eP P t ti):∃ z,(zeroValue t).run P w=.ok z w/\z.cells.toList=ti.zero:=by
 obtain ⟨i,h1,_,_,z,h2,h3⟩:=h.info;exact ⟨z,by simp [zeroValue,typeInfo,h1,h2],h3⟩
end
def az (X:Ctx) (m:Nat->aq->Value) (st:St) (w:World) (c:C) (u:Value):Prop:=∃ d,rel w (X.S st.roots m) (Lv st.roots m) dm false d [] c u
theorem az.val {X:Ctx} {m:Nat->aq->Value} {st:St} {w:World} {v:Value}:az X m st w (.val v) v:=⟨1,rfl⟩
def az.dead {X:Ctx} {m:Nat->aq->Value} {st:St} {w:World} {v:Value}:az X m st w .dead v:=⟨1,trivial⟩
def az.of_val {X:Ctx} {m:Nat->aq->Value} {st:St} {w:World} {v u:Value} (h:az X m st w (.val v) u):u=v:=by
 obtain ⟨d,h⟩:=h;cases d with
 | zero=>exact h.elim
 | succ d=>exact h
def K6 {X:Ctx} {m:Nat->aq->Value} {st:St} {w:World}:∀ (cs:List C) (us:List Value),us.length=cs.length->(∀ (j:Nat) (c:C),cs[j]?=some c->∃ u,us[j]?=some u/\az X m st w c u) ->
  ∃ d,∀ (j:Nat) (c:C),cs[j]?=some c->∃ u,us[j]?=some u/\rel w (X.S st.roots m) (Lv st.roots m) dm false d [] c u:=by
 intro cs
 induction cs with
 | nil=>intro us _ _; exact ⟨0,by simp⟩
 | cons c cs ih=>
  intro us hl h;cases us with
  | nil=>simp at hl
  | cons u us=>
   obtain ⟨d,hd⟩:=ih us (by simpa using hl) (fun j c' hc=>by simpa using h (j+1) c' (by simpa using hc));obtain ⟨u',h1,d',h2⟩:=h 0 c rfl;simp only [cu,cb] at h1;subst h1;refine ⟨max d d',?_⟩;intro j c' hc;cases j with
   | zero=>simp only [cu,cb] at hc; subst hc; exact ⟨u,rfl,aS _ _ (n8 _ _) h2⟩
   | succ j=>
    obtain ⟨u'',h3,h4⟩:=hd j c' (by simpa using hc);exact ⟨u'',by simpa using h3,aS _ _ (nR _ _) h4⟩
def az.agg {X:Ctx} {m:Nat->aq->Value} {st:St} {w:World} {cs:List C} {us:List Value} (hl:us.length=cs.length) (h:∀ (j:Nat) (c:C),cs[j]?=some c->∃ u,us[j]?=some u/\az X m st w c u):az X m st w (.agg cs) (.agg us.toArray):=by
 obtain ⟨d,hd⟩:=K6 cs us hl h;refine ⟨d+1,us.toArray,rfl,by simp [hl],?_⟩;intro j c hc;obtain ⟨u,h1,h2⟩:=hd j c hc;exact ⟨u,by simpa using h1,db h2⟩
def az.clo {X:Ctx} {m:Nat->aq->Value} {st:St} {w:World} {f:Nat} {cs:List C} {us:List Value} (hl:us.length=cs.length) (h:∀ (j:Nat) (c:C),cs[j]?=some c->∃ u,us[j]?=some u/\az X m st w c u):az X m st w (.clo f cs) (Dw f us.toArray):=by
 obtain ⟨d,hd⟩:=K6 cs us hl h;refine ⟨d+1,us.toArray,rfl,by simp [hl],?_⟩;intro j c hc;obtain ⟨u,h1,h2⟩:=hd j c hc;exact ⟨u,by simpa using h1,h2⟩
def az.of_agg {X:Ctx} {m:Nat->aq->Value} {st:St} {w:World} {cs:List C} {u:Value} (h:az X m st w (.agg cs) u):∃ us:List Value,u=.agg us.toArray/\us.length=cs.length/\∀ (j:Nat) (c:C),cs[j]?=some c->∃ u,us[j]?=some u/\az X m st w c u:=by
 obtain ⟨d,h⟩:=h;cases d with
 | zero=>exact h.elim
 | succ d=>
  obtain ⟨arr,h1,h2,h3⟩:=h;refine ⟨arr.toList,by simp [h1],by simpa using h2,?_⟩;intro j c hc;obtain ⟨u',h4,h5⟩:=h3 j c hc;exact ⟨u',by simpa using h4,d,db h5⟩
def az.of_tup {X:Ctx} {m:Nat->aq->Value} {st:St} {w:World} {cs:List C} {u:Value} (h:az X m st w (.tup cs) u):∃ us:List Value,u=.tuple us.toArray/\us.length=cs.length/\∀ (j:Nat) (c:C),cs[j]?=some c->∃ u,us[j]?=some u/\az X m st w c u:=by
 obtain ⟨d,h⟩:=h;cases d with
 | zero=>exact h.elim
 | succ d=>
  obtain ⟨arr,h1,h2,h3⟩:=h;refine ⟨arr.toList,by simp [h1],by simpa using h2,?_⟩;intro j c hc;obtain ⟨u',h4,h5⟩:=h3 j c hc;exact ⟨u',by simpa using h4,d,db h5⟩
section
variable {X:Ctx} {m:Nat->aq->Value} {st:St} {a:Act} {w:World} {P:Program}
def bm (h:ar X m st a w) (x:Operand):az X m st w (st.ev x) (a.eval x):=by
 cases x with
 | tmp t=>
  simp only [St.ev,Act.eval];cases ht:st.tmps[t]? with
  | none=>exact .dead
  | some c=>
   obtain ⟨u,d,h1,h2⟩:=h.tmp t c ht;refine ⟨d,?_⟩;have:a.tmps.getD t undef=u:=by simp [xx,h1]
   rw [this];exact h2
 | const v=>
  simp only [St.ev,Act.eval];cases v with
  | agg cs=>
   have:=az.agg (X:=X) (m:=m) (st:=st) (w:=w) (cs:=cs.toList.map .val) (us:=cs.toList) (by simp) (by
    intro j c hc;simp only [cv,cj] at hc;obtain ⟨v,h1,rfl⟩:=hc;exact ⟨v,h1,.val⟩)
   simpa [ofV] using this
  | _=>exact .val
 | func f=>
  have:=az.clo (X:=X) (m:=m) (st:=st) (w:=w) (f:=KL f) (cs:=[]) (us:=[]) rfl (by simp);rw [Zt] at this;exact this
 | global g=>exact .dead
def HJ (h:ar X m st a w) (xs:List Operand):∀ (j:Nat) (c:C),(xs.map st.ev)[j]?=some c->∃ u,(xs.map a.eval)[j]?=some u/\az X m st w c u:=by
 intro j c hc;simp only [cv,cj] at hc ⊢;obtain ⟨x,h1,rfl⟩:=hc;exact ⟨_,⟨x,h1,rfl⟩,bm h x⟩
def kg {b o:Nat} {arr:Array Value} {elem:TypeId} {fz:Nat × Nat} (h:w.heap[b]?=some (.cells arr elem fz)):w.cell? ⟨b,o,none⟩=arr[o]?:=cell_of_row w b o arr elem fz h
def Mu {t:Nat} {ti:TI} (ht:eP P t ti) {b o:Nat} {arr:Array Value} {elem:TypeId} {fz:Nat × Nat} (hb:w.heap[b]?=some (.cells arr elem fz)) {cs:List C} (hl:cs.length=ti.size) {c:C} (hp:Cl ti cs=some c)
  (h:∀ (j:Nat) (c:C),cs[j]?=some c->∃ u,arr[o+j]?=some u/\az X m st w c u):∃ u,(loadVar t ⟨b,o,none⟩).run P w=.ok u w/\az X m st w c u:=by
 unfold loadVar;simp only [Sem.run_bind,ht.agg_run,Result.andThen_ok];unfold Cl at hp;have hus:∃ us:List Value,us.length=cs.length/\(∀ (j:Nat) (u:Value),us[j]?=some u->arr[o+j]?=some u)/\∀ (j:Nat) (c:C),cs[j]?=some c->∃ u,us[j]?=some u/\az X m st w c u:=by
  clear hl hp;revert h
  induction cs generalizing o with
  | nil=>intro _; exact ⟨[],rfl,by simp,by simp⟩
  | cons c cs ih=>
   intro h;obtain ⟨u,h1,h2⟩:=h 0 c rfl;obtain ⟨us,g1,g2,g3⟩:=ih (o:=o+1) (fun j c' hc=>by
    obtain ⟨u',e1,e2⟩:=h (j+1) c' (by simpa using hc);exact ⟨u',by rw [<-e1]; congr 1; omega,e2⟩)
   refine ⟨u::us,by simp [g1],?_,?_⟩
   ·intro j u' hj;cases j with
    | zero=>simp only [cu,cb] at hj; subst hj; simpa using h1
    | succ j=>rw [<-g2 j u' (by simpa using hj)]; congr 1; omega
   ·intro j c' hc;cases j with
    | zero=>simp only [cu,cb] at hc; subst hc; exact ⟨u,rfl,h2⟩
    | succ j=>simpa using g3 j c' (by simpa using hc)
 obtain ⟨us,g1,g2,g3⟩:=hus;cases hagg:ti.agg with
 | true=>
  simp only [hagg,if_true,cb] at hp;subst hp;have hlc:=run_loadCells_list (P:=P) (w:=w) ⟨b,o,none⟩ us (by
   intro j v hj;rw [Addr.add_lit,kg hb];exact g2 j v hj)
  rw [g1,hl] at hlc;refine ⟨.agg us.toArray,by simp [Sem.run_bind,ht.size,hlc],az.agg g1 g3⟩
 | false=>
  simp only [hagg,cR,if_false] at hp;cases cs with
  | nil=>simp at hp
  | cons c0 rest=>
   cases rest with
   | cons _ _=>simp at hp
   | nil=>
    simp only [cb] at hp;subst hp;obtain ⟨u,h1,h2⟩:=g3 0 c0 rfl;have h3:=g2 0 u h1;simp only [n9] at h3;refine ⟨u,?_,h2⟩;simp [run_load,kg hb,h3]
def IZ (n:Nat) (p:aq) (i:Nat):∀ (cs:List C) (j k:Nat),(j7 n p i j cs)[k]?=(cs[k]?).map (MC n p i (j+k)):=by
 intro cs
 induction cs with
 | nil=>intro j k; simp [j7]
 | cons c cs ih=>
  intro j k;cases k with
  | zero=>simp [j7]
  | succ k=>simp only [j7,nn,ih]; congr 2; omega
def DW (n:Nat) (p:aq) (i:Nat):∀ (cs:List C) (j:Nat),(j7 n p i j cs).length=cs.length:=by
 intro cs
 induction cs with
 | nil=>intro j; rfl
 | cons c cs ih=>intro j; simp [j7,ih]
def XM {n:Nat} {p:aq} {i j:Nat} {c:C} {u:Value} {d:Nat} (hat:(st.roots n).at (p++[(i,j)])=some c) (h:rel w (X.S st.roots m) L0 (m n) true d (p++[(i,j)]) c u):az X m st w (MC n p i j c) u:=by
 cases d with
 | zero=>exact h.elim
 | succ d=>
  cases c with
  | dead=>exact .dead
  | val v=>exact ⟨1,h⟩
  | sl own nl es cap rows=>
   cases own with
   | false=>
    obtain ⟨a,k,h1,h2,h3,h4,hz,h5,h6,h7⟩:=h;refine ⟨d+1,a,k,h1,h2,h3,h4,hz,h5,by simp,?_⟩;rcases h7 with h7|h7|⟨b,off,arr,elem,frz,g1,g2,g3,g4,g5⟩
    ·exact .inl h7
    ·exact .inr (.inl h7)
    ·exact .inr (.inr ⟨b,off,arr,elem,frz,g1,g2,fun _=>g3 (by simp),by simp,fun i j row c' e1 e2=>by
      obtain ⟨u',e3,e4⟩:=g5 i j row c' e1 e2;simp only [nS] at e4;exact ⟨u',e3,by simpa using db e4⟩⟩)
   | true=>
    obtain ⟨a,k,dd,h1,h2,h3,h4,h5,hz,h6,h7⟩:=eb h;refine ⟨1,nl,es,cap,rows,a,k,a,k,hat,h2,by omega,by rw [h1,h2],h3,by omega,by simp,by simp,?_⟩;rcases h7 with h7|⟨b,off,arr,elem,g1,g2,g4,g5⟩
    ·exact .inl h7
    ·exact .inr ⟨b,off,g1,by simpa using g1⟩
  | agg cs=>exact .dead
  | tup cs=>exact .dead
  | clo f cs=>
   obtain ⟨arr,h1,h2,h3⟩:=h;refine ⟨d+1,arr,h1,h2,fun j c' e=>?_⟩;obtain ⟨u',e1,e2⟩:=h3 j c' e;exact ⟨u',e1,db (av (fun _ _ h=>⟨h,rfl⟩) d (fun _ _ _ h=>h.elim) (fun h=>by simp at h) (fun h=>by simp at h) e2:rel w _ (Lv st.roots m) dm false d [] c' u')⟩
  | iref es rows i j=>
   obtain ⟨b,off,arr,elem,frz,g1,g2,g3,g4,g5⟩:=h;exact ⟨d+1,b,off,arr,elem,frz,g1,g2,g3,g4,fun i j row c' e1 e2=>let ⟨u',e3,e4⟩:=g5 i j row c' e1 e2; ⟨u',e3,db e4⟩⟩
  | pref n p i j=>exact h.elim
  | pal n p lo len cap=>exact h.elim
def FP (h:ar X m st a w) {n:Nat} {p:aq} {nl:Option Bool} {es:Nat} {cap:Option Nat} {rows:List (List C)} (hn:st.node n p=some (.sl true nl es cap rows)) {i:Nat} {row:List C} (hr:rows[i]?=some row) :
  ∃ b off k arr elem,m n p=.slice (some ⟨b,off,none⟩) rows.length k/\k≠0/\w.heap[b]?=some (.cells arr elem (0,0))/\row.length=es/\off+k * es<=arr.size/\rows.length<=k ∧
   ∀ (j:Nat) (c:C),row[j]?=some c->∃ u,arr[off+i * es+j]?=some u/\az X m st w (MC n p i j c) u:=by
 obtain ⟨u0,d0,hr0⟩:=h.root n;obtain ⟨u1,d1,hr1⟩:=va p hr0 hn;simp only [cK] at hr1;obtain ⟨a1,k,dd,e1,e2,e3,e4,e5,ez,e6,e7⟩:=eb hr1;have hlt:=(cd.1 hr).1;rcases e7 with e7|⟨b,off,arr,elem,g1,g2,g4,g5⟩
 ·omega
 ·subst g1;refine ⟨b,off,k,arr,elem,e2,by omega,g2,e6 row (cg hr),g4,e3,?_⟩;intro j c hc;obtain ⟨u,f1,f2⟩:=g5 i j row c hr hc;refine ⟨u,f1,XM ?_ f2⟩;have hn':(st.roots n).at p=some (.sl true nl es cap rows):=hn;simp [C.at_append,hn',C.at,C.kid,hr,hc]
def NI {es:Nat} {rows:List (List C)} {i j:Nat} {u:Value} (h:az X m st w (.iref es rows i j) u):∃ b off arr elem frz,u=.pointer (some ⟨b,off+i * es+j,none⟩)/\w.heap[b]?=some (.cells arr elem frz)/\X.S st.roots m b/\(∀ row∈rows,row.length=es) ∧
  (∃ d,∀ (i' j':Nat) (row:List C) (c':C),rows[i']?=some row->row[j']?=some c'->∃ u',arr[off+i' * es+j']?=some u'/\rel w (X.S st.roots m) L0 dm false d [] c' u'):=by
 obtain ⟨d,h⟩:=h;cases d with
 | zero=>exact h.elim
 | succ d=>
  obtain ⟨b,off,arr,elem,frz,g1,g2,g3,g4,g5⟩:=h;exact ⟨b,off,arr,elem,frz,g1,g2,g3,g4,d,g5⟩
def az.of_L0 {c:C} {u:Value} {d:Nat} (h:rel w (X.S st.roots m) L0 dm false d [] c u):az X m st w c u:=
 ⟨d,av (fun _ _ h=>⟨h,rfl⟩) d (fun _ _ _ h=>h.elim) (fun h=>by simp at h) (fun h=>by simp at h) h⟩
def SP (h:ar X m st a w) {t:Nat} {ti:TI} (ht:eP P t ti) {x c:C} {u:Value} (hx:az X m st w x u) (hc:qg st ti x=some c):∃ v,(Instr.loadAt t u).run P w=.ok v w/\az X m st w c v:=by
 cases x with
 | pref n p i j=>
  simp only [qg] at hc;split at hc
  ·rename_i nl es cap rows hn;split at hc
   ·rename_i row hr;split at hc
    ·rename_i hj;obtain ⟨d,hx⟩:=hx;cases d with
     | zero=>exact hx.elim
     | succ d=>
      obtain ⟨nl',es',cap',rows',b',off',k',f1,f2,rfl⟩:=hx;have f1':st.node n p=some (.sl true nl' es' cap' rows'):=f1;rw [hn] at f1';simp only [cb,C.sl.injEq,true_and] at f1';obtain ⟨rfl,rfl,rfl,rfl⟩:=f1';obtain ⟨b,off,k,arr,elem,g1,g2,g3,g4,g5,g6,g7⟩:=FP h hn hr;rw [g1] at f2;simp only [Value.slice.injEq,cb,Addr.mk.injEq,and_true,true_and] at f2;obtain ⟨⟨rfl,rfl⟩,rfl⟩:=f2;obtain ⟨v,e1,e2⟩:=Mu (X:=X) (m:=m) (st:=st) ht (o:=off+i * es+j) g3 (cs:=j7 n p i j ((row.drop j).take ti.size)) (by rw [DW]; simp; omega) hc (by
       intro k' c' hk;rw [IZ] at hk;simp only [cj] at hk;obtain ⟨c1,hk,rfl⟩:=hk;rw [cW] at hk;split at hk
       ·rw [cX] at hk;obtain ⟨u',e1,e2⟩:=g7 (j+k') c1 hk;exact ⟨u',by rw [<-e1]; congr 1; omega,e2⟩
       ·simp at hk)
      exact ⟨v,by simp [Instr.loadAt,Instr.sureAddr,e1],e2⟩
    ·simp at hc
   ·simp at hc
  ·simp at hc
 | iref es rows i j=>
  simp only [qg] at hc;split at hc
  ·rename_i row hr;split at hc
   ·rename_i hj;obtain ⟨b,off,arr,elem,frz,rfl,g2,g3,g4,d,g5⟩:=NI hx;obtain ⟨v,e1,e2⟩:=Mu (X:=X) (m:=m) (st:=st) ht (o:=off+i * es+j) g2 (cs:=(row.drop j).take ti.size) (by simp; omega) hc (by
     intro k' c' hk;rw [cW] at hk;split at hk
     ·rw [cX] at hk;obtain ⟨u',e1,e2⟩:=g5 i (j+k') row c' hr hk;exact ⟨u',by rw [<-e1]; congr 1; omega,az.of_L0 e2⟩
     ·simp at hk)
    exact ⟨v,by simp [Instr.loadAt,Instr.sureAddr,e1],e2⟩
   ·simp at hc
  ·simp at hc
 | _=>simp [qg] at hc
def Pq {E:Env} (hT:TOk P E) {s:Nat} {ti:TI} (ht:eP P s ti) {f:Nat} {x c:C} {u:Value} (hx:az X m st w x u) (hc:qQ E ti f x=some c):∃ v,(Instr.fieldAt s u f).run P w=.ok v w/\az X m st w c v:=by
 obtain ⟨d,hd,hagg,hk⟩:=ht.und;unfold qQ at hc;split at hc
 ·rename_i fs hkind;rw [hkind] at hk;obtain ⟨fields,rfl,hf,_⟩:=hk;split at hc
  ·rename_i o t hfs;obtain ⟨fl,h1,rfl,rfl⟩:=hf f _ _ hfs;split at hc
   ·rename_i ft hft;split at hc
    ·simp at hc
    ·rename_i hz;have hsz:=(hT _ ft hft).size (w:=w);have hrun:∀ b o',(Instr.fieldAt s (.pointer (some ⟨b,o',none⟩)) f).run P w=.ok (.pointer (some ⟨b,o'+fl.offset,none⟩)) w:=by
      intro b o';simp [Instr.fieldAt,run_underlying hd,h1,Instr.sureAddr,fieldPlace,hsz,hz,Addr.add_lit]
     split at hc
     ·simp only [cb] at hc;subst hc;obtain ⟨d,hx⟩:=hx;cases d with
      | zero=>exact hx.elim
      | succ d=>
       obtain ⟨nl',es',cap',rows',b',off',k',f1,f2,rfl⟩:=hx;exact ⟨_,hrun _ _,1,nl',es',cap',rows',b',off',k',f1,f2,by simp [nf]⟩
     ·simp only [cb] at hc;subst hc;obtain ⟨d,hx⟩:=hx;cases d with
      | zero=>exact hx.elim
      | succ d=>
       obtain ⟨b,off,arr,elem,frz,rfl,g2⟩:=hx;exact ⟨_,hrun _ _,d+1,b,off,arr,elem,frz,by simp [nf],g2⟩
     ·simp at hc
   ·simp at hc
  ·simp at hc
 ·simp at hc
end
end Go.Abs
namespace Go.Abs
def SF {k:IntKind} {n:Int} (h:inK k n):k.wrap n=n:=by
 obtain ⟨h1,h2⟩:=h;cases k<;>simp [IntKind.wrap,IntKind.bits,IntKind.signed,IntKind.min,IntKind.max] at h1 h2 ⊢<;>omega
section
variable {X:Ctx} {m:Nat->aq->Value} {st:St} {a:Act} {w:World} {P:Program}
theorem UQ {op:BinOp} {k:IntKind} {x y:Int} {c:C} (hc:LD op k x y=some c) (t:TypeId):∃ v,(binOp op t (.int k x) (.int k y)).run P w=.ok v w/\c=.val v:=by
 cases op<;>simp only [LD] at hc<;>(try split at hc)<;>simp only [cb,reduceCtorEq] at hc<;>subst hc
 ·exact ⟨.int k (k.wrap (x+y)),by simp [binOp,Op.intArith],rfl⟩
 ·exact ⟨.int k (k.wrap (x - y)),by simp [binOp,Op.intArith],rfl⟩
 ·exact ⟨.int k (k.wrap (x * y)),by simp [binOp,Op.intArith],rfl⟩
 ·rename_i hy; exact ⟨.int k (k.wrap (x.tdiv y)),by simp [binOp,Op.intDiv,hy],rfl⟩
 ·rename_i hy; exact ⟨.int k (x.tmod y),by simp [binOp,Op.intDiv,hy],rfl⟩
 ·exact ⟨_,by simp only [binOp,ne_eq,not_true,if_false,Op.intBits,Sem.run_pure],rfl⟩
 ·exact ⟨_,by simp only [binOp,ne_eq,not_true,if_false,Op.intBits,Sem.run_pure],rfl⟩
 ·exact ⟨_,by simp only [binOp,ne_eq,not_true,if_false,Op.intBits,Sem.run_pure],rfl⟩
 ·exact ⟨.bool (decide (x=y)),by simp only [binOp,Op.intCmp]; by_cases h:x=y<;>simp [h],rfl⟩
 ·exact ⟨.bool (!decide (x=y)),by simp only [binOp,Op.intCmp]; by_cases h:x=y<;>simp [h],rfl⟩
 ·exact ⟨.bool (decide (x < y)),by simp [binOp,Op.intCmp],rfl⟩
 ·exact ⟨.bool (decide (x<=y)),by simp [binOp,Op.intCmp],rfl⟩
 ·exact ⟨.bool (decide (y < x)),by simp [binOp,Op.intCmp],rfl⟩
 ·exact ⟨.bool (decide (y<=x)),by simp [binOp,Op.intCmp],rfl⟩
theorem VP {op:BinOp} {k yk:IntKind} {x y:Int} {c:C} (hc:Ly op k x y=some c) (t:TypeId):∃ v,(binOp op t (.int k x) (.int yk y)).run P w=.ok v w/\c=.val v:=by
 cases op<;>simp only [Ly] at hc<;>(try split at hc)<;>simp only [cb,reduceCtorEq] at hc<;>subst hc
 ·rename_i hy; exact ⟨.int k (Xl k x y),by simp [binOp,Op.shift,hy,Xl],rfl⟩
 ·rename_i hy; exact ⟨.int k (kd k x y),by simp [binOp,Op.shift,hy,kd],rfl⟩
theorem UX {op:BinOp} {x y:ByteArray} {c:C} (hc:Lz op x y=some c) (t:TypeId):∃ v,(binOp op t (.string x) (.string y)).run P w=.ok v w/\c=.val v:=by
 cases op<;>simp only [Lz] at hc<;>(try split at hc)<;>simp only [cb,reduceCtorEq] at hc<;>subst hc
 ·rename_i h;exact ⟨.string (x++y),by simp [binOp,Op.stringOp,h],rfl⟩
 all_goals exact ⟨_,by simp [binOp,Op.stringOp]; rfl,rfl⟩
def Tc {k:EK} {x y:C} {b:Bool} (h:HZ k x y=some b):x=.val x.toV/\y=.val y.toV:=by
 unfold HZ at h;split at h<;>simp [C.toV] at h ⊢
def RC:∀ {ks:List EK} {as bs:List C} {b:Bool},dB ks as bs=some b->as=as.map (fun c=>.val c.toV)/\bs=bs.map (fun c=>.val c.toV):=by
 intro ks
 induction ks with
 | nil=>intro as bs b h; cases as<;>cases bs<;>simp [dB] at h; simp
 | cons k ks ih=>
  intro as bs b h;cases as with
  | nil=>simp [dB] at h
  | cons x as=>
   cases bs with
   | nil=>simp [dB] at h
   | cons y bs=>
    simp only [dB] at h;split at h
    ·rename_i p q hp hq;obtain ⟨h1,h2⟩:=Tc hp;obtain ⟨h3,h4⟩:=ih hq;constructor
     ·rw [nq,<-h1,<-h3]
     ·rw [nq,<-h2,<-h4]
    ·simp at h
theorem az.of_vals {cs:List C} {u:Value} (hv:cs=cs.map (fun c=>.val c.toV)) (h:az X m st w (.agg cs) u):u=.agg (cs.map C.toV).toArray:=by
 obtain ⟨us,rfl,hl,h⟩:=h.of_agg
 congr 2
 apply nN;intro j;cases hj:cs[j]? with
 | none=>
  have:us[j]?=none:=by rw [xT] at hj ⊢; omega
  simp [this,hj]
 | some c=>
  obtain ⟨u,h1,h2⟩:=h j c hj;rw [hv,cv] at hj;simp only [cj] at hj;obtain ⟨c',h3,rfl⟩:=hj;rw [h1,cv,h3,h2.of_val];rfl
def XZ {x:C} {u:Value} {b:Bool} (hx:az X m st w x u) (h:Iw x=some b):∃ a len k,u=.slice a len k/\(b=true↔a=none):=by
 cases x with
 | val v=>
  obtain rfl:=hx.of_val;simp only [Iw] at h;split at h
  ·rename_i e;cases e;simp only [cb] at h;exact ⟨none,0,0,rfl,by simp [<-h]⟩
  ·rename_i e; cases e
  ·rename_i e; cases e
  ·rename_i e; cases e
  ·simp at h
 | sl own nl es cap rows=>
  obtain ⟨d,hx⟩:=hx;cases d with
  | zero=>exact hx.elim
  | succ d=>
   obtain ⟨a,k,h1,h2,h3,h4,hz,h5,h6,h7⟩:=hx;refine ⟨a,_,k,h1,?_⟩;cases nl with
   | some b'=>simp only [Iw,cb] at h; subst h; exact hz.1 _ rfl
   | none=>
    simp only [Iw] at h;split at h
    ·rename_i hne;simp only [cb] at h;subst h;constructor
     ·intro e; simp at e
     ·intro e; have:=hz.2 e; omega
    ·simp at h
 | pal n p lo len cap=>
  obtain ⟨d,hx⟩:=hx;cases d with
  | zero=>exact hx.elim
  | succ d=>
   obtain ⟨nl,es,cap',rows,a,k,a',k',g1,g2,g3,g4,g5,g6,g7,g8,g9⟩:=hx;refine ⟨a',len,k',g4,?_⟩;simp only [Iw] at h;split at h
   ·simp only [cb] at h;subst h;constructor
    ·intro e; simp at e
    ·intro e;rcases g9 with g9|⟨_,_,_,g9⟩
     ·omega
     ·rw [e] at g9; simp at g9
   ·simp at h
 | _=>simp [Iw] at h
theorem DZ (t:TypeId) (x y:Value):Op.equal t x y=Op.equalIn (9999+1) t x y:=rfl
def TM {t:TypeId} (hd:P.underlying t=some .bool) (a b:Bool):(Op.equal t (.bool a) (.bool b)).run P w=.ok (a == b) w:=by
 rw [DZ,Op.equalIn];simp [run_underlying hd]
def Vp {t e:TypeId} (hd:P.underlying t=some (.slice e)) (a:Option Addr) (len k:Nat):(Op.equal t (.slice a len k) (.slice none 0 0)).run P w=.ok a.isNone w:=by
 rw [DZ,Op.equalIn];cases a<;>simp [run_underlying hd]
def YM {E:Env} (hT:TOk P E) {t:Nat} {op:BinOp} {x y c:C} {u v:Value} (hx:az X m st w x u) (hy:az X m st w y v) (hc:IC (E.T t) op x y=some c) (ox oy:Operand) :
  ∃ r,(do eqGuard op t ox oy u v; binOp op t u v:Sem Value).run P w=.ok r w/\c=.val r:=by
 have guard0:∀ (x y:Value),x≠.nilIface->(∀ xs,x≠.agg xs)->(eqGuard op t ox oy x y).run P w=.ok () w:=by
  intro x y h1 h2;unfold eqGuard;cases op<;>simp
  all_goals
   cases x<;>cases y<;>simp at h1 h2 ⊢
 unfold IC at hc;split at hc
 ·obtain rfl:=hx.of_val;obtain rfl:=hy.of_val;split at hc
  ·rename_i k a k' b ox1 c0 hs;obtain rfl:=ng hc;obtain ⟨r,h1,h2⟩:=VP (P:=P) (w:=w) (yk:=k') hs t;exact ⟨r,by simp [guard0 (.int k a) (.int k' b) (by simp) (by simp),h1],h2⟩
  split at hc
  ·rename_i k a k' b ox1 hsh hk;subst hk;obtain ⟨r,h1,h2⟩:=UQ (P:=P) (w:=w) hc t;exact ⟨r,by simp [guard0 (.int k a) (.int k b) (by simp) (by simp),h1],h2⟩
  ·simp at hc
 ·obtain rfl:=hx.of_val;obtain rfl:=hy.of_val;rename_i s1 s2;obtain ⟨r,h1,h2⟩:=UX (P:=P) (w:=w) hc t;exact ⟨r,by simp [guard0 (.string s1) (.string s2) (by simp) (by simp),h1],h2⟩
 ·obtain rfl:=hx.of_val;obtain rfl:=hy.of_val;split at hc
  ·rename_i ti hti;obtain ⟨d,hd,_,hk⟩:=(hT t ti hti).und;split at hc
   ·rename_i hkind;rw [hkind] at hk;have hk:d=.bool:=hk;subst hk;have he:=fun a b=>TM (P:=P) (w:=w) hd a b;cases op<;>simp [GA] at hc<;>subst hc
    ·refine ⟨_,?_,rfl⟩;rw [Sem.run_bind,guard0 _ _ (by simp) (by simp),Result.andThen_ok];simp only [binOp,Sem.run_bind,he,Result.andThen_ok];rename_i a b _ _;cases a<;>cases b<;>simp
    ·refine ⟨_,?_,rfl⟩;rw [Sem.run_bind,guard0 _ _ (by simp) (by simp),Result.andThen_ok];simp only [binOp,Sem.run_bind,he,Result.andThen_ok];rename_i a b _ _;cases a<;>cases b<;>simp
   ·simp at hc
  ·simp at hc
 ·rename_i as bs;split at hc
  ·rename_i ti hti;split at hc
   ·simp at hc
   ·rename_i h1;cases heq:dB ti.eqs as bs with
    | none=>simp [heq] at hc
    | some b=>
     simp only [heq,cc] at hc;obtain ⟨g1,g2⟩:=RC heq;obtain rfl:=hx.of_vals g1;obtain rfl:=hy.of_vals g2;obtain ⟨e1,e2⟩:=(hT t ti hti).eqs (by simpa using h1) w _ _ b heq;cases op<;>simp [GA] at hc<;>subst hc
     ·exact ⟨.bool b,by simp [e1,binOp,e2],rfl⟩
     ·exact ⟨.bool (!b),by simp [e1,binOp,e2],rfl⟩
  ·simp at hc
 ·obtain rfl:=hy.of_val;split at hc
  ·rename_i ti hti;obtain ⟨d,hd,_,hk⟩:=(hT t ti hti).und;split at hc
   ·rename_i e es hkind;rw [hkind] at hk;obtain ⟨rfl,_⟩:=hk;cases hn:Iw x with
    | none=>simp [hn] at hc
    | some b=>
     simp only [hn,cc] at hc;obtain ⟨a',len,k,rfl,hb⟩:=XZ hx hn;have he:(Op.equal t (.slice a' len k) (.slice none 0 0)).run P w=.ok b w:=by
      rw [Vp hd]
      congr 1
      cases a' with
      | none=>simpa using hb
      | some ad=>cases b<;>simp at hb ⊢
     cases op<;>simp [GA] at hc<;>subst hc
     ·exact ⟨.bool b,by simp [guard0 (.slice a' len k) (.slice none 0 0) (by simp) (by simp),binOp,he],rfl⟩
     ·exact ⟨.bool (!b),by simp [guard0 (.slice a' len k) (.slice none 0 0) (by simp) (by simp),binOp,he],rfl⟩
   ·simp at hc
  ·simp at hc
 ·simp at hc
def Zu {op:UnOp} {x c:C} {u:Value} (hx:az X m st w x u) (hc:unC op x=some c):∃ r,(Op.unary op u).run P w=.ok r w/\c=.val r:=by
 unfold unC at hc;split at hc
 ·obtain rfl:=hx.of_val;split at hc
  ·simp only [cb] at hc; subst hc; rename_i b _; exact ⟨.bool (!b),by simp [Op.unary],rfl⟩
  ·simp at hc
 ·obtain rfl:=hx.of_val;split at hc
  ·rename_i k n _; simp only [cb] at hc; subst hc; exact ⟨.int k (k.wrap (0 - n)),by simp [Op.unary,Op.intArith],rfl⟩
  ·simp at hc
 ·simp at hc
def Wh {src t:Nat} {ti:TI} (ht:eP P t ti) (hs:∃ d,P.underlying src=some d) {x c:C} {u:Value} (hx:az X m st w x u) (hc:Jd ti x=some c):∃ r,(convert src t u).run P w=.ok r w/\c=.val r:=by
 obtain ⟨d,hd,_,hk⟩:=ht.und;obtain ⟨ds,hs⟩:=hs;unfold Jd at hc;split at hc
 ·obtain rfl:=hx.of_val;split at hc
  ·rename_i hkind;rw [hkind] at hk;have hk:d=.int _:=hk;subst hk;simp only [cb] at hc; subst hc;exact ⟨_,by simp [convert,run_underlying hd,run_underlying hs,Conv.intToInt],rfl⟩
  ·simp at hc
 ·obtain rfl:=hx.of_val;split at hc
  ·rename_i hkind;rw [hkind] at hk;have hk:d=.string:=hk;subst hk;simp only [cb] at hc; subst hc;exact ⟨_,by simp [convert,run_underlying hd,run_underlying hs],rfl⟩
  ·simp at hc
 ·simp at hc
def Yt {c:C} {u:Value} {n:Nat} (hx:az X m st w c u) (hc:vF c=some n):∃ k,u=.int k n:=by
 unfold vF at hc;split at hc
 ·obtain rfl:=hx.of_val;split at hc
  ·rename_i h;simp only [cb] at hc;exact ⟨_,by rw [<-hc,Int.toNat_of_nonneg h]⟩
  ·simp at hc
 ·simp at hc
def zj {isS:Bool} {len cap:Nat} {capO:Option Nat} {lo hi mx:Option C} {ul uh um:Option Value} {l h:Nat} {c:Option Nat} (hb:sx len capO lo hi mx=some (l,h,c)) (hcap:∀ k,capO=some k->cap=k) (hle:len<=cap)
  (h1:∀ c,lo=some c->∃ u,ul=some u/\az X m st w c u) (h1':lo=none->ul=none) (h2:∀ c,hi=some c->∃ u,uh=some u/\az X m st w c u) (h2':hi=none->uh=none)
  (h3:∀ c,mx=some c->∃ u,um=some u/\az X m st w c u) (h3':mx=none->um=none) :
  ∃ mm,(Instr.sliceBounds isS len cap ul uh um).run P w=.ok (l,h,mm) w/\l<=h/\h<=len/\h<=mm/\mm<=cap/\(∀ k,c=some k->mm - l=k)/\(c=none->mm=cap):=by
 unfold sx at hb;have sb:∀ (c:C) (u:Value) (n y:Nat) (code:BoundsCode),az X m st w c u->vF c=some n->n<=y->(Instr.sliceBound u y code).run P w=.ok n w:=by
  intro c u n y code hr hn hy;obtain ⟨k,rfl⟩:=Yt hr hn;simp [Instr.sliceBound,asIntOf,hy]
 split at hb
 ·rename_i l' h' hl hh;cases mx with
  | none=>
   obtain rfl:=h3' rfl;simp only at hb;split at hb
   ·rename_i hc;simp only [cb,cz] at hb;obtain ⟨rfl,rfl,rfl⟩:=hb;refine ⟨cap,?_,hc.1,hc.2,by omega,cr _,?_,?_⟩
    ·cases hi with
     | none=>
      obtain rfl:=h2' rfl;simp only [cb] at hh;subst hh;cases lo with
      | none=>obtain rfl:=h1' rfl; simp only [cb] at hl; subst hl; simp [Instr.sliceBounds]
      | some cl=>obtain ⟨u,rfl,hr⟩:=h1 cl rfl; simp [Instr.sliceBounds,sb cl u _ _ _ hr hl hc.1]
     | some ch=>
      obtain ⟨v,rfl,hv⟩:=h2 ch rfl;cases lo with
      | none=>obtain rfl:=h1' rfl; simp only [cb] at hl; subst hl; simp [Instr.sliceBounds,sb ch v _ cap _ hv hh (by omega)]
      | some cl=>obtain ⟨u,rfl,hr⟩:=h1 cl rfl; simp [Instr.sliceBounds,sb cl u _ _ _ hr hl hc.1,sb ch v _ cap _ hv hh (by omega)]
    ·intro k hk;cases capO with
     | none=>simp at hk
     | some k0=>simp only [cx,cb] at hk; rw [hcap k0 rfl,hk]
    ·intro _; rfl
   ·simp at hb
  | some cm=>
   obtain ⟨um',rfl,hm⟩:=h3 cm rfl;simp only at hb;cases hi with
   | none=>cases hmm:vF cm<;>simp [hmm] at hb
   | some ch=>
    obtain ⟨v,rfl,hv⟩:=h2 ch rfl;cases hmm:vF cm with
    | none=>simp [hmm] at hb
    | some mm=>
     simp only [hmm] at hb;split at hb
     ·rename_i hc;simp only [cb,cz] at hb;obtain ⟨rfl,rfl,rfl⟩:=hb;obtain ⟨c1,c2,c3,c4⟩:=hc;have hmc:mm<=cap:=by
       rcases c3 with c3|⟨k,hk,c3⟩
       ·omega
       ·rw [hcap k hk]; exact c3
      refine ⟨mm,?_,c1,c4,c2,hmc,by simp,by simp⟩;cases lo with
      | none=>obtain rfl:=h1' rfl; simp only [cb] at hl; subst hl; simp [Instr.sliceBounds,sb cm um' _ cap _ hm hmm hmc,sb ch v _ mm _ hv hh c2]
      | some cl=>obtain ⟨u,rfl,hr⟩:=h1 cl rfl; simp [Instr.sliceBounds,sb cm um' _ cap _ hm hmm hmc,sb ch v _ mm _ hv hh c2,sb cl u _ _ _ hr hl c1]
     ·simp at hb
 ·simp at hb
end
end Go.Abs
set_option linter.unusedVariables false
namespace Go.Abs
section
variable {X:Ctx} {m:Nat->aq->Value} {st:St} {a:Act} {w:World} {P:Program}
def en {n:Nat} {p:aq} {lo len:Nat} {cap:Option Nat} {u:Value} (h:az X m st w (.pal n p lo len cap) u):Lv st.roots m (.pal n p lo len cap) u:=by
 obtain ⟨d,h⟩:=h;cases d with
 | zero=>exact h.elim
 | succ d=>exact h
def lN {n:Nat} {p:aq} {i j:Nat} {u:Value} (h:az X m st w (.pref n p i j) u):Lv st.roots m (.pref n p i j) u:=by
 obtain ⟨d,h⟩:=h;cases d with
 | zero=>exact h.elim
 | succ d=>exact h
def vW {own:Bool} {nl:Option Bool} {es:Nat} {cap:Option Nat} {rows:List (List C)} {u:Value} (h:az X m st w (.sl own nl es cap rows) u) :
  ∃ a k,u=.slice a rows.length k/\rows.length<=k/\k<=maxLen/\(∀ c,cap=some c->k=c)/\((∀ b,nl=some b->(b=true↔a=none))/\(a=none->k=0))/\(∀ row∈rows,row.length=es) ∧
   (rows=[]∨∃ b off arr elem frz,a=some ⟨b,off,none⟩/\w.heap[b]?=some (.cells arr elem frz)/\X.S st.roots m b ∧
    ∃ d,∀ (i j:Nat) (row:List C) (c':C),rows[i]?=some row->row[j]?=some c'->∃ u',arr[off+i * es+j]?=some u'/\rel w (X.S st.roots m) L0 dm false d [] c' u'):=by
 obtain ⟨d,h⟩:=h;cases d with
 | zero=>exact h.elim
 | succ d=>
  obtain ⟨a,k,h1,h2,h3,h4,hz,h5,h6,h7⟩:=h;refine ⟨a,k,h1,h2,h3,h4,hz,h5,?_⟩;rcases h7 with h7|h7|⟨b,off,arr,elem,frz,g1,g2,g3,g4,g5⟩
  ·exact .inl (cQ (by omega))
  ·exact .inl h7.2
  ·refine .inr ⟨b,off,arr,elem,frz,g1,g2,g3 (by simp),d,?_⟩;intro i j row c' e1 e2;obtain ⟨u',e3,e4⟩:=g5 i j row c' e1 e2;simp only [nA] at e4;exact ⟨u',e3,db e4⟩
def aaj {nl:Option Bool} {es:Nat} {cap:Option Nat} {rows:List (List C)} {a:Option Addr} {k:Nat}
  (h2:rows.length<=k) (h3:k<=maxLen) (h4:∀ c,cap=some c->k=c) (hz:(∀ b,nl=some b->(b=true↔a=none))/\(a=none->k=0)) (h5:∀ row∈rows,row.length=es)
  (h7:rows=[]∨∃ b off arr elem frz,a=some ⟨b,off,none⟩/\w.heap[b]?=some (.cells arr elem frz)/\X.S st.roots m b ∧
    ∃ d,∀ (i j:Nat) (row:List C) (c':C),rows[i]?=some row->row[j]?=some c'->∃ u',arr[off+i * es+j]?=some u'/\rel w (X.S st.roots m) L0 dm false d [] c' u') :
  az X m st w (.sl false nl es cap rows) (.slice a rows.length k):=by
 rcases h7 with h7|⟨b,off,arr,elem,frz,g1,g2,g3,d,g5⟩
 ·exact ⟨1,a,k,rfl,h2,h3,h4,hz,h5,by simp,.inr (.inl ⟨rfl,h7⟩)⟩
 ·refine ⟨d+1,a,k,rfl,h2,h3,h4,hz,h5,by simp,.inr (.inr ⟨b,off,arr,elem,frz,g1,g2,fun _=>g3,by simp,?_⟩)⟩;intro i j row c' e1 e2;obtain ⟨u',e3,e4⟩:=g5 i j row c' e1 e2;exact ⟨u',e3,by simpa using db e4⟩
def Ra (h:ar X m st a w) {t:Nat} {ti:TI} (ht:eP P t ti) {x ix c:C} {u v:Value} (hx:az X m st w x u) (hix:az X m st w ix v) (hc:jT st ti x ix=some c) :
  ∃ r,(Instr.indexAt t u v).run P w=.ok r w/\az X m st w c r:=by
 obtain ⟨d,hd,hagg,hk⟩:=ht.und;unfold jT at hc;split at hc
 ·rename_i e es k i hkind;rw [hkind] at hk;obtain ⟨rfl,ie,hi1,hi2⟩:=hk;obtain rfl:=hix.of_val;have hsz:(sizeOf e).run P w=.ok es w:=by simp [sizeOf,typeInfo,hi1,hi2]
  split at hc
  ·rename_i n p lo len cap;split at hc
   ·rename_i nl es' cap' rows hn;split at hc
    ·rename_i hcond;obtain ⟨hes,h0,h1⟩:=hcond;obtain rfl:=hes.symm;simp only [cb] at hc;subst hc;obtain ⟨nl',es',cap'',rows',a0,k0,a',k',g1,g2,g3,rfl,g5,g6,g7,g8,g9⟩:=en hx;have hn':(st.roots n).at p=some (.sl true nl es cap' rows):=hn;rw [hn'] at g1;simp only [cb,C.sl.injEq,true_and] at g1;obtain ⟨rfl,rfl,rfl,rfl⟩:=g1;rcases g9 with g9|⟨b,off,rfl,rfl⟩
     ·omega
     ·refine ⟨.pointer (some ⟨b,off+lo * es+i.toNat * es,none⟩),?_,1,nl,es,cap',rows,b,off,k0,hn',g2,?_⟩
      ·simp [Instr.indexAt,asIntOf,run_underlying hd,h0,h1,hsz,Addr.add_lit]
      ·simp [cI,nf]
    ·simp at hc
   ·simp at hc
  ·rename_i own nl es' cap rows;split at hc
   ·rename_i hcond;obtain ⟨hes,h0,h1⟩:=hcond;obtain rfl:=hes.symm;simp only [cb] at hc;subst hc;obtain ⟨a0,k0,rfl,g2,g3,g4,gz,g5,g6⟩:=vW hx;rcases g6 with rfl|⟨b,off,arr,elem,frz,rfl,e2,e3,dd,e5⟩
    ·simp at h1; omega
    ·refine ⟨.pointer (some ⟨b,off+i.toNat * es,none⟩),?_,dd+1,b,off,arr,elem,frz,by simp,e2,e3,g5,fun i j row c' f1 f2=>?_⟩
     ·simp [Instr.indexAt,asIntOf,run_underlying hd,h0,h1,hsz,Addr.add_lit]
     ·exact e5 i j row c' f1 f2
   ·simp at hc
  ·simp at hc
 ·rename_i n e es k i hkind;rw [hkind] at hk;obtain ⟨rfl,ie,hi1,hi2⟩:=hk;obtain rfl:=hix.of_val;have hsz:(sizeOf e).run P w=.ok es w:=by simp [sizeOf,typeInfo,hi1,hi2]
  split at hc
  ·rename_i hcond;obtain ⟨h0,h1⟩:=hcond;have hrun:∀ b o,(Instr.indexAt t (.pointer (some ⟨b,o,none⟩)) (.int k i)).run P w=.ok (.pointer (some ⟨b,o+i.toNat * es,none⟩)) w:=by
    intro b o;simp [Instr.indexAt,asIntOf,run_underlying hd,Instr.sureAddr,h0,h1,hsz,Addr.add_lit]
   split at hc
   ·simp only [cb] at hc;subst hc;obtain ⟨nl',es',cap',rows',b',off',k',f1,f2,rfl⟩:=lN hx;exact ⟨_,hrun _ _,1,nl',es',cap',rows',b',off',k',f1,f2,by simp [nf]⟩
   ·simp only [cb] at hc;subst hc;obtain ⟨d,hx⟩:=hx;cases d with
    | zero=>exact hx.elim
    | succ d=>
     obtain ⟨b,off,arr,elem,frz,rfl,g2⟩:=hx;exact ⟨_,hrun _ _,d+1,b,off,arr,elem,frz,by simp [nf],g2⟩
   ·simp at hc
  ·simp at hc
 ·simp at hc
def W5 {E:Env} (hT:TOk P E) {t:Nat} {ti:TI} (ht:eP P t ti) {x ix c:C} {u v:Value} (hx:az X m st w x u) (hix:az X m st w ix v) (hc:E7 E ti x ix=some c) :
  ∃ r,(Instr.index t u v).run P w=.ok r w/\az X m st w c r:=by
 obtain ⟨d,hd,hagg,hk⟩:=ht.und;unfold E7 at hc;split at hc
 ·rename_i s k i hkind;rw [hkind] at hk;have hk:d=.string:=hk;subst hk;obtain rfl:=hix.of_val;obtain rfl:=hx.of_val;split at hc
  ·rename_i h0;split at hc
   ·rename_i b hb;simp only [cb] at hc;subst hc;exact ⟨.int .u8 b.toNat,by simp [Instr.index,asIntOf,run_underlying hd,h0,hb],.val⟩
   ·simp at hc
  ·simp at hc
 ·rename_i n e es cs k i hkind;rw [hkind] at hk;obtain ⟨rfl,ie,hi1,hi2⟩:=hk;obtain rfl:=hix.of_val;split at hc
  case h_2=>simp at hc
  rename_i te hte;split at hc
  ·rename_i hcond;obtain ⟨hte2,rfl,h0,h1⟩:=hcond;split at hc
   ·rename_i v' hv;simp only [cb] at hc;subst hc;obtain ⟨us,rfl,hl,hh⟩:=hx.of_agg;obtain ⟨u',e1,e2⟩:=hh _ _ hv;obtain rfl:=e2.of_val;have hpart:(part e us.toArray (i.toNat * 1)).run P w=.ok u' w:=by
     unfold part;have:(isAgg e).run P w=.ok false w:=by rw [<-hte2]; exact (hT e te hte).agg_run
     simp [this,e1]
    have hsz:(sizeOf e).run P w=.ok 1 w:=by simp [sizeOf,typeInfo,hi1,hi2]
    exact ⟨u',by simp only [Instr.index,asIntOf]; simp [run_underlying hd,h0,h1,hsz]; simpa using hpart,.val⟩
   ·simp at hc
  ·simp at hc
 ·simp at hc
def Po (h:ar X m st a w) (o:Option Operand):(∀ c,(o.map st.ev)=some c->∃ u,(o.map a.eval)=some u/\az X m st w c u)/\((o.map st.ev)=none->(o.map a.eval)=none):=by
 cases o with
 | none=>simp
 | some x=>simp [bm h x]
def WM (h:ar X m st a w) {t:Nat} {ti:TI} (ht:eP P t ti) {x c:C} {u:Value} {lo hi mx:Option Operand} (hx:az X m st w x u) (hc:BF st ti x (lo.map st.ev) (hi.map st.ev) (mx.map st.ev)=some c) :
  ∃ r,(Instr.sliceAt t u (lo.map a.eval) (hi.map a.eval) (mx.map a.eval)).run P w=.ok r w/\az X m st w c r:=by
 obtain ⟨d,hd,hagg,hk⟩:=ht.und;obtain ⟨l1,l1'⟩:=Po h lo;obtain ⟨l2,l2'⟩:=Po h hi;obtain ⟨l3,l3'⟩:=Po h mx;unfold BF at hc;split at hc
 ·rename_i s hkind;rw [hkind] at hk;have hk:d=.string:=hk;subst hk;obtain rfl:=hx.of_val;split at hc
  ·rename_i hmx;split at hc
   ·rename_i l hh c' hb;simp only [cb] at hc;subst hc;rw [<-hmx] at hb;obtain ⟨mm,e1,_⟩:=zj (P:=P) (isS:=false) hb (cap:=s.size) (by simp) (cr _) l1 l1' l2 l2' l3 l3';have hn:=l3' hmx;refine ⟨.string (s.extract l hh),?_,.val⟩;rw [hn] at e1 ⊢;simp [Instr.sliceAt,run_underlying hd,Instr.slice,e1]
   ·simp at hc
  ·simp at hc
 ·rename_i e es n p lo0 len0 cap0 hkind;rw [hkind] at hk;obtain ⟨rfl,ie,hi1,hi2⟩:=hk;have hsz:(sizeOf e).run P w=.ok es w:=by simp [sizeOf,typeInfo,hi1,hi2]
  split at hc
  ·rename_i nl es' cap' rows hn;split at hc
   ·rename_i hes;obtain rfl:=hes.symm;split at hc
    ·rename_i l hh c' hb;simp only [cb] at hc;subst hc;obtain ⟨nl',es'',cap'',rows',a0,k0,a',k',g1,g2,g3,rfl,g5,g6,g7,g8,g9⟩:=en hx;have hn':(st.roots n).at p=some (.sl true nl es cap' rows):=hn;rw [hn'] at g1;simp only [cb,C.sl.injEq,true_and] at g1;obtain ⟨rfl,rfl,rfl,rfl⟩:=g1;obtain ⟨mm,e1,e2,e3,e4,e5,e6,e7⟩:=zj (P:=P) (isS:=true) hb (cap:=k') g7 g5 l1 l1' l2 l2' l3 l3';have hrun:(Instr.sliceAt t (.slice a' len0 k') (lo.map a.eval) (hi.map a.eval) (mx.map a.eval)).run P w=.ok (.slice (if mm=l then a' else a'.map (·.add (l * es))) (hh - l) (mm - l)) w:=by
      simp [Instr.sliceAt,run_underlying hd,Instr.slice,e1,hsz]
     refine ⟨_,hrun,1,nl,es,cap',rows,a0,k0,(if mm=l then a' else a'.map (·.add (l * es))),mm - l,hn',g2,by omega,rfl,by omega,by omega,?_,?_,?_⟩
     ·exact e6
     ·intro hcn;have:=e7 hcn;subst this;have:cap0=none:=by
       cases hm:mx with
       | some _=>rw [hm] at hb; unfold sx at hb; simp only [cx] at hb; split at hb<;>(try simp at hb); split at hb<;>(try simp at hb); rw [hcn] at hb; simp at hb
       | none=>
        rw [hm] at hb;unfold sx at hb;simp only [Option.map_none] at hb;split at hb
        ·split at hb
         ·simp only [cb,cz] at hb;cases cap0 with
          | none=>rfl
          | some _=>rw [hcn] at hb; simp at hb
         ·simp at hb
        ·simp at hb
      have:=g8 this;omega
     ·by_cases hz:mm=l
      ·left; omega
      ·rcases g9 with g9|⟨b,off,rfl,rfl⟩
       ·left; omega
       ·right;refine ⟨b,off,rfl,?_⟩;simp [hz,Addr.add_lit,cI,nf]
    ·simp at hc
   ·simp at hc
  ·simp at hc
 ·rename_i e es own nl es' cap rows hkind;rw [hkind] at hk;obtain ⟨rfl,ie,hi1,hi2⟩:=hk;have hsz:(sizeOf e).run P w=.ok es w:=by simp [sizeOf,typeInfo,hi1,hi2]
  split at hc
  ·rename_i hes;obtain rfl:=hes.symm;split at hc
   ·rename_i l hh c' hb;simp only [cb] at hc;subst hc;obtain ⟨a0,k0,rfl,g2,g3,g4,gz,g5,g6⟩:=vW hx;obtain ⟨mm,e1,e2,e3,e4,e5,e6,e7⟩:=zj (P:=P) (isS:=true) hb (cap:=k0) g4 g2 l1 l1' l2 l2' l3 l3';have hrun:(Instr.sliceAt t (.slice a0 rows.length k0) (lo.map a.eval) (hi.map a.eval) (mx.map a.eval)).run P w=.ok (.slice (if mm=l then a0 else a0.map (·.add (l * es))) (hh - l) (mm - l)) w:=by
     simp [Instr.sliceAt,run_underlying hd,Instr.slice,e1,hsz]
    refine ⟨_,hrun,?_⟩;have hl:((rows.drop l).take (hh - l)).length=hh - l:=by simp; omega
    suffices hs:az X m st w (.sl false nl es c' ((rows.drop l).take (hh - l))) (.slice (if mm=l then a0 else a0.map (·.add (l * es))) ((rows.drop l).take (hh - l)).length (mm - l)) by rwa [hl] at hs
    refine aaj (rows:=(rows.drop l).take (hh - l)) (by rw [hl]; omega) (by omega) e6 ⟨?_,?_⟩ ?_ ?_
    ·intro b hb;have:=gz.1 b hb;rw [this];by_cases hz:mm=l<;>simp [hz]
    ·intro hn;have:a0=none:=by
      by_cases hz:mm=l
      ·simpa [hz] using hn
      ·simpa [hz] using hn
     have:=gz.2 this;omega
    ·intro row hr;exact g5 row (xw (nB hr))
    ·rcases g6 with rfl|⟨b,off,arr,elem,frz,rfl,f2,f3,dd,f5⟩
     ·left; simp
     ·by_cases hz:hh - l=0
      ·left; rw [hz]; simp
      ·right;have hml:mm≠l:=by omega
       refine ⟨b,off+l * es,arr,elem,frz,by simp [hml,Addr.add_lit],f2,f3,dd,?_⟩;intro i j row c1 q1 q2;rw [cW] at q1;split at q1
       ·rw [cX] at q1;obtain ⟨u',q3,q4⟩:=f5 (l+i) j row c1 q1 q2;exact ⟨u',by rw [<-q3]; congr 1; rw [cI]; omega,q4⟩
       ·simp at q1
   ·simp at hc
  ·simp at hc
 ·rename_i e es hkind;rw [hkind] at hk;obtain ⟨rfl,ie,hi1,hi2⟩:=hk;have hsz:(sizeOf e).run P w=.ok es w:=by simp [sizeOf,typeInfo,hi1,hi2]
  obtain rfl:=hx.of_val;split at hc
  ·rename_i bb hb;obtain ⟨l,hh,c'⟩:=bb;simp only [cb] at hc;subst hc;obtain ⟨mm,e1,e2,e3,e4,e5,e6,e7⟩:=zj (P:=P) (isS:=true) hb (cap:=0) (by simp) (cr _) l1 l1' l2 l2' l3 l3';have:mm=0:=by omega
   have:l=0:=by omega
   have:hh=0:=by omega
   subst_vars
   exact ⟨_,by simp [Instr.sliceAt,run_underlying hd,Instr.slice,e1,hsz],.val⟩
  ·simp at hc
 ·simp at hc
end
end Go.Abs
namespace Go.Abs
section
variable {X:Ctx} {m:Nat->aq->Value} {st:St} {a:Act} {w:World} {P:Program}
def Jo {c:C} {u:Value} (h:az X m st w c u) (hc:c.oneC=true):u.oneCell'=true:=by
 obtain ⟨d,h⟩:=h;cases d with
 | zero=>exact h.elim
 | succ d=>
  cases c with
  | val v=>have:u=v:=h; subst this; exact hc
  | sl own nl es cap rows=>obtain ⟨a,k,rfl,_⟩:=h; rfl
  | clo f cs=>obtain ⟨arr,rfl,_⟩:=h; unfold Dw; split<;>rfl
  | iref es rows i j=>obtain ⟨b,off,arr,elem,frz,rfl,_⟩:=h; rfl
  | pref n p i j=>obtain ⟨_,_,_,_,_,_,_,_,_,rfl⟩:=h; rfl
  | pal n p lo len cap=>obtain ⟨_,_,_,_,_,_,_,_,_,_,_,rfl,_⟩:=h; rfl
  | _=>simp [C.oneC] at hc
def UD {u:Value} (h:u.oneCell'=true):u.cells=#[u]:=by
 cases u<;>first|rfl|simp [Value.oneCell'] at h
def DP {ti:TI} {c:C} {cs:List C} {u:Value} (h:az X m st w c u) (hc:sL ti c=some cs) :
  cs.length=ti.size/\u.cells.toList.length=cs.length/\∀ (j:Nat) (c:C),cs[j]?=some c->∃ v,u.cells.toList[j]?=some v/\az X m st w c v:=by
 unfold sL at hc;split at hc
 ·split at hc
  ·split at hc
   ·rename_i hl;simp only [cb] at hc;subst hc;obtain ⟨us,rfl,h1,h2⟩:=h.of_agg;exact ⟨hl,by simpa [Value.cells] using h1,by simpa [Value.cells] using h2⟩
   ·simp at hc
  ·simp at hc
 ·split at hc
  ·rename_i hs;simp only [cb] at hc;subst hc;have:=UD (Jo h hs.2);refine ⟨by simp [hs.1],by simp [this],?_⟩;intro j c' hj;rw [this];cases j with
   | zero=>simp only [cu,cb] at hj; subst hj; exact ⟨u,rfl,h⟩
   | succ j=>simp at hj
  ·simp at hc
def Is (off:Nat):∀ (vs:List Value) (j0:Nat) (cells:Array Value),off+j0+vs.length<=cells.size ->
  ((vs.zipIdx j0).foldl (fun cs (x:Value × Nat)=>cs.setIfInBounds (off+x.2) x.1) cells).size=cells.size ∧
  ∀ k:Nat,((vs.zipIdx j0).foldl (fun cs (x:Value × Nat)=>cs.setIfInBounds (off+x.2) x.1) cells)[k]?=if off+j0<=k/\k < off+j0+vs.length then vs[k - (off+j0)]? else cells[k]?:=by
 intro vs
 induction vs with
 | nil=>intro j0 cells _; simp; intro k h1 h2; omega
 | cons v vs ih=>
  intro j0 cells hl;simp only [adl,xL];obtain ⟨h1,h2⟩:=ih (j0+1) (cells.setIfInBounds (off+j0) v) (by simp at hl ⊢; omega);refine ⟨by rw [h1]; simp,fun k=>?_⟩;rw [h2 k];simp only [cG] at hl ⊢;by_cases c1:off+(j0+1)<=k/\k < off+(j0+1)+vs.length
  ·rw [if_pos c1,if_pos (by omega),show k - (off+j0)=(k - (off+(j0+1)))+1 by omega,nn]
  ·rw [if_neg c1,xF];by_cases c2:off+j0=k
   ·subst c2;rw [if_pos rfl,if_pos (by omega),if_pos (by omega)];simp
   ·rw [if_neg c2,if_neg (by omega)]
def VF (cs:List C) (o:Nat) (new:List C) (h:o+new.length<=cs.length) (k:Nat):(Ef cs o new)[k]?=if o<=k/\k < o+new.length then new[k - o]? else cs[k]?:=by
 unfold Ef;by_cases h1:k < o
 ·rw [if_neg (by omega),nr,cJ (by simp; omega),cW,if_pos h1]
 ·by_cases h2:k < o+new.length
  ·rw [if_pos (by omega),nr,cL (by simp; omega)];simp only [nC,acE (show o<=cs.length by omega)];rw [cJ (by omega)]
  ·rw [if_neg (by omega),cL (by simp; omega)];simp only [ni,nC,acE (show o<=cs.length by omega),cX]
   congr 1; omega
def QA (cs:List C) (o:Nat) (new:List C) (h:o+new.length<=cs.length):(Ef cs o new).length=cs.length:=by
 unfold Ef; simp; omega
def K7 (X:Ctx) (m:Nat->aq->Value) (st:St) (w:World) (cs:List C) (us:Array Value):Prop:=
 us.size=cs.length/\∀ (j:Nat) (c:C),cs[j]?=some c->∃ v,us[j]?=some v/\az X m st w c v
def WE {place:Nat->Option (Nat × Nat)} {i off size:Nat} {v:Value} {rest:List (Nat × Value)} {cells:Array Value} (hp:place i=some (off,size)) (hs:v.cells.size=size) (hl:off+size<=cells.size) :
  Instr.fill place cells ((i,v)::rest)=Instr.fill place ((v.cells.toList.zipIdx).foldl (fun cs (x:Value × Nat)=>cs.setIfInBounds (off+x.2) x.1) cells) rest:=by
 simp only [Instr.fill,hp];rw [if_neg (by simp [hs]; omega)]
 congr 1
 rw [<-adm,adn]
def GX {E:Env} (h:ar X m st a w) {ti:TI} {place:Nat->Option (Nat × Nat)}
  (hplace:∀ i o s,(match ti.kind with
   | .struct fs=>∃ t',fs[i]?=some (o,t')/\∃ ti',E.T t'=some ti'/\s=ti'.size
   | .arr _ e es=>o=i * es/\∃ ti',E.T e=some ti'/\s=ti'.size/\s=es
   | _=>False)->place i=some (o,s)) :
  ∀ (parts:List (Nat × Operand)) (cs:List C) (us:Array Value) (out:List C),K7 X m st w cs us->qM E ti (parts.map fun x=>(x.1,st.ev x.2)) cs=some out ->
   ∃ us',Instr.fill place us (parts.map fun x=>(x.1,a.eval x.2))=some us'/\K7 X m st w out us':=by
 intro parts
 induction parts with
 | nil=>
  intro cs us out hr hb;simp only [xf,qM,cb] at hb;subst hb;exact ⟨us,rfl,hr⟩
 | cons x parts ih=>
  intro cs us out hr hb;obtain ⟨i,x⟩:=x;simp only [nq,qM] at hb;have one:∀ (o:Nat) (t':Nat) (ti':TI) (new:List C),E.T t'=some ti'->sL ti' (st.ev x)=some new->place i=some (o,ti'.size)->o+new.length<=cs.length ->
    qM E ti (parts.map fun x=>(x.1,st.ev x.2)) (Ef cs o new)=some out->∃ us',Instr.fill place us ((i,a.eval x)::parts.map fun x=>(x.1,a.eval x.2))=some us'/\K7 X m st w out us':=by
   intro o t' ti' new hti' hun hp hl hb;obtain ⟨e1,e2,e3⟩:=DP (bm h x) hun;have hsz:(a.eval x).cells.size=ti'.size:=by simpa [e1] using e2
   rw [WE hp hsz (by rw [hr.1]; omega)];refine ih _ _ _ ?_ hb;obtain ⟨g1,g2⟩:=Is o (a.eval x).cells.toList 0 us (by rw [hr.1]; simp only [xH,hsz]; omega);refine ⟨by rw [g1,hr.1,QA _ _ _ hl],?_⟩;intro j c hj;rw [g2 j];rw [VF _ _ _ hl] at hj;simp only [n9,xH,hsz];by_cases hc:o<=j/\j < o+new.length
   ·rw [if_pos hc] at hj;rw [if_pos (by omega)];exact e3 _ c hj
   ·rw [if_neg hc] at hj;rw [if_neg (by omega)];exact hr.2 j c hj
  split at hb
  ·rename_i fs hkind;split at hb
   ·rename_i o t' hfs;split at hb
    ·rename_i new hnew;split at hb
     ·rename_i hl;cases hti:E.T t' with
      | none=>simp [hti] at hnew
      | some ti'=>
       simp only [hti,cc] at hnew;exact one o t' ti' new hti hnew (hplace i o ti'.size (by rw [hkind]; exact ⟨t',hfs,ti',hti,rfl⟩)) hl hb
     ·simp at hb
    ·simp at hb
   ·simp at hb
  ·rename_i n e es hkind;split at hb
   ·rename_i new hnew;split at hb
    ·rename_i hl;cases hti:E.T e with
     | none=>simp [hti] at hnew
     | some ti'=>
      simp only [hti,cc] at hnew;have hs:=(DP (bm h x) hnew).1;exact one (i * es) e ti' new hti hnew (hplace i (i * es) ti'.size (by rw [hkind]; exact ⟨rfl,ti',hti,rfl,by omega⟩)) (by omega) hb
    ·simp at hb
   ·simp at hb
  ·simp at hb
def Un {E:Env} (hT:TOk P E) (h:ar X m st a w) {b:Builtin} {args:Array Operand} {argTypes:Array TypeId} {ty:TypeId} {consts:Array Bool} {c:C} (hc:kY ((argTypes[0]?).bind E.T) b (args.toList.map st.ev)=some c) :
  ∃ v,(builtin b argTypes ty consts (args.map a.eval)).run P w=.ok (.value v) w/\az X m st w c v:=by
 have hmap:(args.map a.eval).toList=args.toList.map a.eval:=by simp
 have hev:=HJ h args.toList;generalize hus:args.toList.map a.eval=us at hmap hev;generalize hcs:args.toList.map st.ev=cs at hc hev;have hlen:us.length=cs.length:=by rw [<-hus,<-hcs]; simp
 have harr:args.map a.eval=us.toArray:=by rw [<-hmap]
 rw [harr];unfold kY at hc;split at hc
 ·rename_i s;obtain ⟨u,h1,h2⟩:=hev 0 _ rfl;obtain rfl:=h2.of_val;cases us with
  | nil=>simp at hlen
  | cons u0 us=>
   simp only [cu,cb] at h1;subst h1;split at hc
   ·rename_i ti hti;obtain ⟨t,ht0,hti⟩:=ck.1 hti;obtain ⟨d,hd,_,hk⟩:=(hT t ti hti).und;split at hc
    ·rename_i hkind;rw [hkind] at hk;have hk:d=.string:=hk;subst hk;simp only [cb] at hc;subst hc;exact ⟨_,by simp [builtin,Builtin.len_,ht0,run_underlying hd,goInt],.val⟩
    ·simp at hc
   ·simp at hc
 ·rename_i x _;obtain ⟨u,h1,h2⟩:=hev 0 _ rfl;cases us with
  | nil=>simp at hlen
  | cons u0 us=>
   simp only [cu,cb] at h1;subst h1;split at hc
   ·rename_i ti hti;obtain ⟨t,ht0,hti⟩:=ck.1 hti;obtain ⟨d,hd,_,hk⟩:=(hT t ti hti).und;split at hc
    ·rename_i e es hkind;rw [hkind] at hk;obtain ⟨rfl,_⟩:=hk;cases hl:uH x with
     | none=>simp [hl] at hc
     | some n=>
      simp only [hl,cb] at hc;subst hc;have:∃ ad k,u0=.slice ad n k:=by
       cases x with
       | val v=>
        obtain rfl:=h2.of_val;unfold uH at hl;split at hl<;>simp_all
       | sl own nl es cap rows=>
        obtain ⟨a0,k0,rfl,_⟩:=vW h2;simp only [uH,cb] at hl;exact ⟨a0,k0,by rw [hl]⟩
       | pal n' p lo len cap=>
        obtain ⟨nl',es'',cap'',rows',a0,k0,a',k',g1,g2,g3,rfl,_⟩:=en h2;simp only [uH,cb] at hl;exact ⟨a',k',by rw [hl]⟩
       | _=>simp [uH] at hl
      obtain ⟨ad,k,rfl⟩:=this;exact ⟨_,by simp [builtin,Builtin.len_,ht0,run_underlying hd,goInt],.val⟩
    ·simp at hc
   ·simp at hc
 ·rename_i x;obtain ⟨u,h1,h2⟩:=hev 0 _ rfl;cases us with
  | nil=>simp at hlen
  | cons u0 us=>
   simp only [cu,cb] at h1;subst h1;split at hc
   ·rename_i ti hti;obtain ⟨t,ht0,hti⟩:=ck.1 hti;obtain ⟨d,hd,_,hk⟩:=(hT t ti hti).und;split at hc
    ·rename_i e es hkind;rw [hkind] at hk;obtain ⟨rfl,_⟩:=hk;cases hl:Lg x with
     | none=>simp [hl] at hc
     | some n=>
      simp only [hl,cb] at hc;subst hc;have:∃ ad l,u0=.slice ad l n:=by
       cases x with
       | val v=>
        obtain rfl:=h2.of_val;unfold Lg at hl;split at hl<;>simp_all
       | sl own nl es cap rows=>
        obtain ⟨a0,k0,rfl,_,_,g4,_⟩:=vW h2;simp only [Lg] at hl;exact ⟨a0,_,by rw [g4 n hl]⟩
       | pal n' p lo len cap=>
        obtain ⟨nl',es'',cap'',rows',a0,k0,a',k',g1,g2,g3,rfl,_,_,g7,_⟩:=en h2;simp only [Lg] at hl;exact ⟨a',_,by rw [g7 n hl]⟩
       | _=>simp [Lg] at hl
      obtain ⟨ad,k,rfl⟩:=this;exact ⟨_,by simp [builtin,Builtin.cap_,ht0,run_underlying hd,goInt],.val⟩
    ·simp at hc
   ·simp at hc
 ·rename_i k x rest;cases us with
  | nil=>simp at hlen
  | cons u0 us=>
   obtain ⟨u,h1,h2⟩:=hev 0 _ rfl;simp only [cu,cb] at h1;subst h1;obtain rfl:=h2.of_val;have key:∀ (rest:List C) (us:List Value) (x:Int),us.length=rest.length->(∀ (j:Nat) (c:C),rest[j]?=some c->∃ u,us[j]?=some u/\az X m st w c u)->mi (fun x y=>if y < x then y else x) k x rest=some c ->
     ∃ v,(us.foldlM Builtin.min2 (.int k x)).run P w=.ok v w/\az X m st w c v:=by
    intro rest
    induction rest with
    | nil=>intro us x hl hh hf; cases us with
     | nil=>simp only [mi,cb] at hf; subst hf; exact ⟨_,by simp,.val⟩
     | cons _ _=>simp at hl
    | cons y rest ih=>
     intro us x hl hh hf;cases us with
     | nil=>simp at hl
     | cons v us=>
      obtain ⟨v',e1,e2⟩:=hh 0 y rfl;simp only [cu,cb] at e1;subst e1;cases y with
      | val yv=>
       obtain rfl:=e2.of_val;cases v with
       | int k' y=>
        simp only [mi] at hf;split at hf
        ·obtain ⟨r,f1,f2⟩:=ih us _ (by simpa using hl) (fun j c hc=>by simpa using hh (j+1) c (by simpa using hc)) hf;exact ⟨r,by simp [List.foldlM_cons,Builtin.min2,f1],f2⟩
        ·simp at hf
       | _=>simp [mi] at hf
      | _=>simp [mi] at hf
   obtain ⟨v,f1,f2⟩:=key rest us x (by simpa using hlen) (fun j c hc=>by simpa using hev (j+1) c (by simpa using hc)) hc;exact ⟨v,by simp [builtin,Builtin.min_,f1],f2⟩
 ·rename_i k x rest;cases us with
  | nil=>simp at hlen
  | cons u0 us=>
   obtain ⟨u,h1,h2⟩:=hev 0 _ rfl;simp only [cu,cb] at h1;subst h1;obtain rfl:=h2.of_val;have key:∀ (rest:List C) (us:List Value) (x:Int),us.length=rest.length->(∀ (j:Nat) (c:C),rest[j]?=some c->∃ u,us[j]?=some u/\az X m st w c u)->mi (fun x y=>if y > x then y else x) k x rest=some c ->
     ∃ v,(us.foldlM Builtin.max2 (.int k x)).run P w=.ok v w/\az X m st w c v:=by
    intro rest
    induction rest with
    | nil=>intro us x hl hh hf; cases us with
     | nil=>simp only [mi,cb] at hf; subst hf; exact ⟨_,by simp,.val⟩
     | cons _ _=>simp at hl
    | cons y rest ih=>
     intro us x hl hh hf;cases us with
     | nil=>simp at hl
     | cons v us=>
      obtain ⟨v',e1,e2⟩:=hh 0 y rfl;simp only [cu,cb] at e1;subst e1;cases y with
      | val yv=>
       obtain rfl:=e2.of_val;cases v with
       | int k' y=>
        simp only [mi] at hf;split at hf
        ·obtain ⟨r,f1,f2⟩:=ih us _ (by simpa using hl) (fun j c hc=>by simpa using hh (j+1) c (by simpa using hc)) hf;exact ⟨r,by simp [List.foldlM_cons,Builtin.max2,f1],f2⟩
        ·simp at hf
       | _=>simp [mi] at hf
      | _=>simp [mi] at hf
   obtain ⟨v,f1,f2⟩:=key rest us x (by simpa using hlen) (fun j c hc=>by simpa using hev (j+1) c (by simpa using hc)) hc;exact ⟨v,by simp [builtin,Builtin.max_,f1],f2⟩
 ·simp at hc
end
end Go.Abs
namespace Go.Abs
section
variable {X:Ctx} {m:Nat->aq->Value} {st:St} {a:Act} {w:World} {P:Program}
def MM:∀ {rows:List (List C)} {ns:List Int},FA rows=some ns->ns.length=rows.length/\∀ (i:Nat) (n:Int),ns[i]?=some n->rows[i]?=some [.val (.int .u8 n)]
 | [],ns,h=>by
  simp only [FA,cb] at h;subst h;simp
 | r::rs,ns,h=>by
  simp only [FA] at h;split at h
  ·rename_i n l h1 h2;simp only [cb] at h;subst h;obtain ⟨g1,g2⟩:=MM h2;refine ⟨by simp [g1],?_⟩;intro i k hk;cases i with
   | zero=>
    simp only [cu,cb] at hk ⊢;subst hk;unfold Tz at h1;split at h1
    ·simp only [cb] at h1; subst h1; rfl
    ·simp at h1
   | succ i=>simpa using g2 i k (by simpa using hk)
  ·simp at h
def Yw {E:Env} (hT:TOk P E) (h:ar X m st a w) {src dst:TypeId} {x c:C} {u:Value} (hx:az X m st w x u) (hc:KW E st src dst x=some c):∃ r,(convert src dst u).run P w=.ok r w/\c=.val r:=by
 unfold KW at hc;split at hc
 case h_2=>simp at hc
 rename_i ts td hts htd;split at hc
 case h_2=>simp at hc
 rename_i e hkd hks;split at hc
 case h_2=>simp at hc
 rename_i te hte;split at hc
 case h_2=>simp at hc
 rename_i hke;split at hc
 case h_2=>simp at hc
 rename_i rows hrows;split at hc
 case h_2=>simp at hc
 rename_i ns hns;simp only [cb] at hc;subst hc;obtain ⟨d1,hd1,_,hk1⟩:=(hT src ts hts).und;rw [hks] at hk1;obtain ⟨rfl,_⟩:=hk1;obtain ⟨d2,hd2,_,hk2⟩:=(hT dst td htd).und;rw [hkd] at hk2;have hk2:d2=.string:=hk2;subst hk2;obtain ⟨d3,hd3,_,hk3⟩:=(hT e te hte).und;rw [hke] at hk3;have hk3:d3=.int .u8:=hk3;subst hk3;obtain ⟨hnl,hng⟩:=MM hns;refine ⟨.string (QO ns),?_,rfl⟩;have fin:∀ (b off k:Nat) (arr:Array Value) (elem:TypeId) (fz:Nat × Nat),w.heap[b]?=some (.cells arr elem fz) ->
   (∀ (i:Nat) (n:Int),ns[i]?=some n->arr[off+i]?=some (.int .u8 n))->(convert src dst (.slice (some ⟨b,off,none⟩) rows.length k)).run P w=.ok (.string (QO ns)) w:=by
  intro b off k arr elem fz hb hcell;rw [run_convert_bytes_string w src dst e _ _ _ hd1 hd3 hd2];have hlc:=run_loadCells_list (P:=P) (w:=w) ⟨b,off,none⟩ (ns.map (Value.int .u8)) (by
   intro j v hj;simp only [cv,cj] at hj;obtain ⟨n,h1,rfl⟩:=hj;rw [Addr.add_lit,kg hb];exact hcell j n h1)
  rw [cy,hnl] at hlc;exact run_bytesToString w _ _ k ns hlc
 have empty:∀ (ad:Option Addr) (k:Nat),rows=[]->(convert src dst (.slice ad rows.length k)).run P w=.ok (.string (QO ns)) w:=by
  intro ad k hr;subst hr;have:ns=[]:=cQ hnl;subst this;rw [run_convert_bytes_string w src dst e _ _ _ hd1 hd3 hd2];cases ad with
  | none=>simp [Conv.bytesToString,QO]
  | some ad=>
   have hlc:=run_loadCells_list (P:=P) (w:=w) ad [] (by simp);exact run_bytesToString w ad 0 k [] hlc
 unfold GP at hrows;split at hrows
 ·rename_i own nl cap rows';simp only [cb] at hrows;subst hrows;obtain ⟨a0,k0,rfl,g2,g3,g4,gz,g5,g6⟩:=vW hx;rcases g6 with g6|⟨b,off,arr,elem,frz,rfl,f2,f3,D,f5⟩
  ·exact empty a0 k0 g6
  ·refine fin b off k0 arr elem frz f2 fun i n hn=>?_;obtain ⟨v,e1,e2⟩:=f5 i 0 _ _ (hng i n hn) rfl;cases D with
   | zero=>exact e2.elim
   | succ D=>
    have:v=.int .u8 n:=e2;subst this;simpa using e1
 ·rename_i n p lo len cap;split at hrows
  ·rename_i nl cap' rows0 hn;simp only [cb] at hrows;obtain ⟨nl',es'',cap'',rows',a0,k0,a',k',g1,g2,g3,rfl,g5,g6,g7,g8,g9⟩:=en hx;have hn':(st.roots n).at p=some (.sl true nl 1 cap' rows0):=hn;rw [hn'] at g1;simp only [cb,C.sl.injEq,true_and] at g1;obtain ⟨rfl,rfl,rfl,rfl⟩:=g1;have hwl:rows.length=len:=by rw [<-hrows]; simp; omega
   rw [<-hwl];by_cases hl0:rows=[]
   ·exact empty a' k' hl0
   ·have hpos:=xy.2 hl0;obtain ⟨u0,d0,hr0⟩:=h.root n;obtain ⟨u1,d1,hr1⟩:=va p hr0 hn';simp only [cK] at hr1;obtain ⟨a1,k1,D,e1,e2,e3,e4,e5,ez,e6,e7⟩:=eb hr1;rw [g2] at e2;simp only [Value.slice.injEq] at e2;obtain ⟨rfl,_,rfl⟩:=e2;rcases g9 with g9|⟨b,off,rfl,rfl⟩
    ·omega
    ·rcases e7 with e7|⟨b',off',arr,elem,f1,f2,f4,f5⟩
     ·omega
     ·simp only [cb,Addr.mk.injEq] at f1;obtain ⟨rfl,rfl,_⟩:=f1;refine fin b (off+lo * 1) k' arr elem (0,0) f2 fun i n hi=>?_;have h1:=hng i n hi;rw [<-hrows,cW] at h1;split at h1
      ·rw [cX] at h1;obtain ⟨v,f6,f7⟩:=f5 (lo+i) 0 _ _ h1 rfl;cases D with
       | zero=>exact f7.elim
       | succ D=>
        have:v=.int .u8 n:=f7;subst this;rw [<-f6]; congr 1; omega
      ·simp at h1
  ·simp at hrows
 ·simp at hrows
end
end Go.Abs
namespace Go.Abs
section
variable {X:Ctx} {m:Nat->aq->Value} {st:St} {a:Act} {w:World} {P:Program}
def Wg {E:Env} (hT:TOk P E) {s:Nat} {ti:TI} (ht:eP P s ti) {f:Nat} {x c:C} {u:Value} (hx:az X m st w x u) (hc:LV E ti f x=some c):∃ v,(Instr.field s u f).run P w=.ok v w/\az X m st w c v:=by
 obtain ⟨d,hd,hagg,hk⟩:=ht.und;unfold LV at hc;split at hc
 ·rename_i fs cs hkind;rw [hkind] at hk;obtain ⟨fields,rfl,hf,_⟩:=hk;split at hc
  ·rename_i o t hfs;obtain ⟨fl,h1,rfl,rfl⟩:=hf f _ _ hfs;split at hc
   ·rename_i ft hft;split at hc
    ·rename_i hl;obtain ⟨us,rfl,g1,g2⟩:=hx.of_agg;have hFT:=hT _ ft hft;unfold Cl at hc;have hget:∀ (j:Nat) (c:C),((cs.drop fl.offset).take ft.size)[j]?=some c->∃ v,((us.drop fl.offset).take ft.size)[j]?=some v/\az X m st w c v:=by
      intro j c hj;rw [cW] at hj ⊢;split at hj
      ·rw [cX] at hj;obtain ⟨v,e1,e2⟩:=g2 _ c hj;exact ⟨v,by rw [if_pos (by assumption),cX]; exact e1,e2⟩
      ·simp at hj
     have hrun:(Instr.field s (.agg us.toArray) f).run P w=(part fl.type us.toArray fl.offset).run P w:=by
      simp [Instr.field,run_underlying hd,h1,asAgg]
     rw [hrun];unfold part;cases hagg2:ft.agg with
     | true=>
      simp only [hagg2,if_true,cb] at hc;subst hc;refine ⟨.agg (us.toArray.extract fl.offset (fl.offset+ft.size)),by simp [hFT.agg_run,hagg2,hFT.size],?_⟩;have hl2:((us.drop fl.offset).take ft.size).length=((cs.drop fl.offset).take ft.size).length:=by simp [g1]
      have:=az.agg hl2 hget;have e:us.toArray.extract fl.offset (fl.offset+ft.size)=((us.drop fl.offset).take ft.size).toArray:=by simp [adS,adT]
      rw [e];exact this
     | false=>
      simp only [hagg2,cR,if_false] at hc;split at hc
      ·rename_i c0 hcs;simp only [cb] at hc;subst hc;obtain ⟨v,e1,e2⟩:=hget 0 c0 (by rw [hcs]; rfl);rw [cW] at e1;split at e1
       ·rw [cX] at e1;refine ⟨v,by simp [hFT.agg_run,hagg2]; simp at e1; simp [e1],e2⟩
       ·simp at e1
      ·simp at hc
    ·simp at hc
   ·simp at hc
  ·simp at hc
 ·simp at hc
def Wt {fields:Array Field} {fs:List (Nat × Nat)} {places:List (Nat × Nat)} {E:Env} (hT:TOk P E) (hf:∀ (k o t:Nat),fs[k]?=some (o,t)->∃ f,fields[k]?=some f/\f.offset=o/\f.type=t)
  (hp:fields.toList.mapM (fun f=>(P.info? f.type).map fun i=>(f.offset,i.size))=some places) (i o t:Nat) (ti:TI) (h:fs[i]?=some (o,t)) (hti:E.T t=some ti):places[i]?=some (o,ti.size):=by
 obtain ⟨f,h1,h2,h3⟩:=hf i o t h;obtain ⟨inf,g1,g2,_⟩:=(hT t ti hti).info;have key:∀ (l:List Field) (ps:List (Nat × Nat)) (i:Nat),l.mapM (fun f=>(P.info? f.type).map fun i=>(f.offset,i.size))=some ps->l[i]?=some f->ps[i]?=some (o,ti.size):=by
  intro l
  induction l with
  | nil=>intro ps i _ hi; simp at hi
  | cons x l ih=>
   intro ps i hm hi;simp only [List.mapM_cons,Option.bind_eq_bind,Option.pure_def] at hm;obtain ⟨y,hy,hm⟩:=ck.1 hm;obtain ⟨ys,hys,hm⟩:=ck.1 hm;simp only [cb] at hm;subst hm;cases i with
   | zero=>
    simp only [cu,cb] at hi;subst hi;rw [h3,g1] at hy;simp only [cx,cb] at hy;simp [<-hy,h2,g2]
   | succ i=>simpa using ih ys i hys (by simpa using hi)
 exact key _ _ i hp (by simpa using h1)
def PN {E:Env} (hT:TOk P E) (h:ar X m st a w) {o:Oper} {c:C} (hq:qop E st o.op=some c):∃ v,(execOp a.eval o).run P w=.ok (.value v) w/\az X m st w c v:=by
 unfold qop at hq;unfold execOp;cases hop:o.op with
 | move x=>simp only [hop,cb] at hq; subst hq; exact ⟨_,by simp,bm h x⟩
 | assign x=>simp only [hop,cb] at hq; subst hq; exact ⟨_,by simp,bm h x⟩
 | pick x y z=>
  simp only [hop] at hq;split at hq
  ·rename_i t ht;simp only [cb] at hq;have hx:=bm h x;rw [ht] at hx;have hb:=hx.of_val;subst hq;refine ⟨if t then a.eval y else a.eval z,by simp [hb,asBool],?_⟩;cases t
   ·exact bm h z
   ·exact bm h y
  ·simp at hq
 | load t x=>
  simp only [hop] at hq;obtain ⟨ti,h1,h2⟩:=ck.1 hq;obtain ⟨v,e1,e2⟩:=SP h (hT t ti h1) (bm h x) h2;exact ⟨v,by simp [e1],e2⟩
 | fieldAddr s x f=>
  simp only [hop] at hq;obtain ⟨ti,h1,h2⟩:=ck.1 hq;obtain ⟨v,e1,e2⟩:=Pq hT (hT s ti h1) (bm h x) h2;exact ⟨v,by simp [e1],e2⟩
 | field s x f=>
  simp only [hop] at hq;obtain ⟨ti,h1,h2⟩:=ck.1 hq;obtain ⟨v,e1,e2⟩:=Wg hT (hT s ti h1) (bm h x) h2;exact ⟨v,by simp [e1],e2⟩
 | indexAddr t x ix=>
  simp only [hop] at hq;obtain ⟨ti,h1,h2⟩:=ck.1 hq;obtain ⟨v,e1,e2⟩:=Ra h (hT t ti h1) (bm h x) (bm h ix) h2;exact ⟨v,by simp [e1],e2⟩
 | index t x ix=>
  simp only [hop] at hq;obtain ⟨ti,h1,h2⟩:=ck.1 hq;obtain ⟨v,e1,e2⟩:=W5 hT (hT t ti h1) (bm h x) (bm h ix) h2;exact ⟨v,by simp [e1],e2⟩
 | binOp op t x y yt=>
  simp only [hop] at hq;obtain ⟨v,e1,rfl⟩:=YM hT (bm h x) (bm h y) hq x y;refine ⟨v,?_,.val⟩;simp only [Sem.run_bind] at e1 ⊢;rw [e1];rfl
 | unOp op t x=>
  simp only [hop] at hq;obtain ⟨v,e1,rfl⟩:=Zu (P:=P) (bm h x) hq;exact ⟨v,by simp [e1],.val⟩
 | convert src dst x=>
  simp only [hop] at hq;split at hq
  ·rename_i c' hq';simp only [cb] at hq;subst hq;split at hq'
   ·rename_i hs;obtain ⟨ti,h1,h2⟩:=ck.1 hq';obtain ⟨ts,hts⟩:=acF.1 hs;obtain ⟨d,hd,_⟩:=(hT src ts hts).und;obtain ⟨v,e1,rfl⟩:=Wh (hT dst ti h1) ⟨d,hd⟩ (bm h x) h2;exact ⟨v,by simp [e1],.val⟩
   ·simp at hq'
  ·obtain ⟨v,e1,rfl⟩:=Yw hT h (bm h x) hq;exact ⟨v,by simp [e1],.val⟩
 | extract x i=>
  simp only [hop] at hq;split at hq
  ·rename_i cs hx;have hr:=bm h x;rw [hx] at hr;obtain ⟨us,hu,h1,h2⟩:=hr.of_tup;obtain ⟨v,e1,e2⟩:=h2 i c hq;exact ⟨v,by simp [Instr.extract,hu,e1],e2⟩
  ·simp at hq
 | slice t x lo hi mx=>
  simp only [hop] at hq;obtain ⟨ti,h1,h2⟩:=ck.1 hq;obtain ⟨v,e1,e2⟩:=WM h (hT t ti h1) (bm h x) h2;exact ⟨v,by simp [e1],e2⟩
 | makeFunc fn first caps=>
  cases fn with
  | func f=>
   simp only [hop] at hq;split at hq
   ·rename_i hf;simp only [cb] at hq;subst hq;obtain ⟨hf,hfB⟩:=hf;have hfe:first=#[]:=xU hf
    subst hfe;refine ⟨.func (.func f) #[] (caps.map a.eval),by simp [Instr.makeFunc],?_⟩;have:=az.clo (X:=X) (m:=m) (st:=st) (w:=w) (f:=f) (cs:=caps.toList.map st.ev) (us:=caps.toList.map a.eval) (by simp) (HJ h caps.toList);have e:caps.map a.eval=(caps.toList.map a.eval).toArray:=by rw [<-acG,xM]
    rw [e];simpa [Dw,hfB] using this
   ·split at hq
    ·rename_i _ hf;simp only [cb] at hq;subst hq;have hfe:caps=#[]:=xU hf;subst hfe;refine ⟨.func (.func f) (first.map a.eval) #[],by simp [Instr.makeFunc],?_⟩;have:=az.clo (X:=X) (m:=m) (st:=st) (w:=w) (f:=f+B0) (cs:=first.toList.map st.ev) (us:=first.toList.map a.eval) (by simp) (HJ h first.toList);have e:first.map a.eval=(first.toList.map a.eval).toArray:=by rw [<-acG,xM]
     rw [e];have hB:¬ (f+B0 < B0):=Nat.not_lt.2 (Nat.le_add_left _ _);simpa [Dw,hB] using this
    ·simp at hq
  | _=>simp [hop] at hq
 | nilCheck x=>
  simp only [hop] at hq;have hx:=bm h x;split at hq
  ·rename_i n p i j he;simp only [cb] at hq;subst hq;rw [he] at hx;obtain ⟨_,_,_,_,b,off,k,_,_,hu⟩:=lN hx;exact ⟨a.eval x,by simp [hu],hx⟩
  ·rename_i es rows i j he;simp only [cb] at hq;subst hq;rw [he] at hx;obtain ⟨b,off,arr,elem,frz,hu,_⟩:=NI hx;exact ⟨a.eval x,by simp [hu],hx⟩
  ·simp at hq
 | build t parts=>
  simp only [hop] at hq;obtain ⟨ti,h1,h2⟩:=ck.1 hq;have ht:=hT t ti h1;unfold IM at h2;obtain ⟨i,hi,hi1,hi2,z,hz,hzc⟩:=ht.info;obtain ⟨d,hd,hagg,hk⟩:=ht.und;have h0:K7 X m st w (ti.zero.map .val) z.cells:=by
   refine ⟨by simp [<-hzc],?_⟩;intro j c hc;simp only [cv,cj] at hc;obtain ⟨v,hv,rfl⟩:=hc;exact ⟨v,by rw [<-hzc] at hv; simpa using hv,.val⟩
  have fin:∀ (out:List C) (us':Array Value),P.built t (parts.toList.map fun x=>(x.1,a.eval x.2))=some us'->K7 X m st w out us'->∃ v,(do pure (.value (<-Instr.build t (parts.map fun (i,x)=>(i,a.eval x)))):Sem Next).run P w=.ok (.value v) w/\az X m st w (.agg out) v:=by
   intro out us' hb' hr;have hrun:=run_build (P:=P) w t (parts.map fun x=>(x.1,a.eval x.2)) us' (by simpa using hb');refine ⟨.agg us',by simp [hrun],?_⟩;have:=az.agg (X:=X) (m:=m) (st:=st) (w:=w) (cs:=out) (us:=us'.toList) (by simpa using hr.1) (by
    intro j c hc;obtain ⟨v,e1,e2⟩:=hr.2 j c hc;exact ⟨v,by simpa using e1,e2⟩)
   simpa using this
  cases hkind:ti.kind with
  | struct fs=>
   rw [hkind] at hk;simp only [hkind,cj] at h2;obtain ⟨out,hb,rfl⟩:=h2;obtain ⟨fields,rfl,hf,places,hp⟩:=hk;obtain ⟨us',e1,e2⟩:=GX h (place:=fun i=>places.toArray[i]?) (by
    rw [hkind];rintro i o s ⟨t',ht',ti',hti',rfl⟩;simpa using Wt hT hf hp i o t' ti' ht' hti') parts.toList _ _ out h0 hb
   exact fin out us' (by simp only [Program.built,hi,hd,hz,hp]; exact e1) e2
  | arr n e es=>
   rw [hkind] at hk;simp only [hkind,cj] at h2;obtain ⟨out,hb,rfl⟩:=h2;obtain ⟨rfl,ie,hie,hes⟩:=hk;obtain ⟨us',e1,e2⟩:=GX h (place:=fun i=>some (i * ie.size,ie.size)) (by
    rw [hkind];rintro i o s ⟨rfl,ti',hti',rfl,hs⟩;simp [hs,hes]) parts.toList _ _ out h0 hb
   exact fin out us' (by simp only [Program.built,hi,hd,hz,hie]; exact e1) e2
  | _=>
   simp [hkind] at h2
 | call cl=>
  obtain ⟨callee,args,argTypes⟩:=cl;cases callee with
  | builtin b=>
   simp only [hop] at hq;obtain ⟨v,e1,e2⟩:=Un hT h (ty:=o.type) (consts:=args.map fun|.const _=>true|_=>false) hq;exact ⟨v,by simp only [resolve,Sem.run_bind,Sem.run_pure,Result.andThen_ok,invoke]; exact e1,e2⟩
  | _=>simp [hop] at hq
 | _=>simp [hop] at hq
end
end Go.Abs
namespace Go.Abs
def H0:Nat:=1000000
def FU (dst:Option Nat) (m:Nat->aq->Value) (st:St) (w:World) (m':Nat->aq->Value) (st':St) (w':World):Prop:=
 ∀ n,n < H0->dst≠some n->ak (st.roots n) []->ak (st'.roots n) []->m' n []=m n []/\∀ b,blk (m n [])=some b->w'.heap[b]?=w.heap[b]?
def dN:C->Bool
 | .dead=>true
 | _=>false
theorem y9 {c:C} (h:dN c=true):c=.dead:=by cases c<;>simp [dN] at h; rfl
def St.fresh (st:St) (d:Nat):St:=if dN (st.roots d) then st else st.drop d
def vV (h:Nat) (c:C) (st:St):Option (St × (Nat->aq->Bool)):=
 if dN (st.roots h) then
  match c with
  | .pal n p lo len cap=>match st.node n p with
   | some (.sl true _ es _ rows)=>if n < H0 then some (st.move n p lo len cap h es rows,fun n' p'=>n' == n && kE p p') else none
   | _=>none
  | c=>if c.cellOk then some ({ st with roots:=upd st.roots h c.frz },fun _ _=>false) else none
 else none
def jE:Nat->Nat->List C->C->St->Option (St × C)
 | 0,_,_,keep,st=>some (st,keep)
 | _+1,_,[],keep,st=>some (st,keep)
 | k+1,h,c::cs,keep,st=>match vV h c st with
  | some (st',f)=>jE k (h+1) (cs.map (poi f)) (poi f keep) st'
  | none=>none
def mh (n:Nat) (q:aq) (i:Nat):Nat->Nat->Nat->St->Option St
 | _,0,_,st=>some st
 | j,k+1,h,st=>match st.node n q with
  | some (.sl true _ _ _ rows)=>match rows[i]? with
   | some row=>if j < row.length/\n < H0 then mh n q i (j+1) k (h+1) (st.plug (fun n' p'=>n' == h || (n' == n && kE (q++[(i,j)]) p')) n q i j h) else none
   | none=>none
  | _=>none
section
variable {X:Ctx} {m:Nat->aq->Value} {st:St} {a:Act} {w:World} {P:Program}
def oT (h:ar X m st a w) (d:Nat):ar X m (st.fresh d) a w/\(st.fresh d).roots d=.dead:=by
 unfold St.fresh;split
 ·rename_i hd; exact ⟨h,y9 hd⟩
 ·exact ⟨h.drop d,by simp [St.drop,aC]⟩
def St.push (st:St) (cs:List C):St:={ st with tmps:=st.tmps++cs }
def Act.push (a:Act) (us:List Value):Act:={ a with tmps:=a.tmps++us.toArray }
def ar.push (h:ar X m st a w) {cs:List C} {us:List Value} (hl:us.length=cs.length) (hr:∀ (j:Nat) (c:C),cs[j]?=some c->∃ u,us[j]?=some u/\az X m st w c u):ar X m (st.push cs) (Act.push a us) w:=by
 refine ⟨by simp [St.push,Act.push,h.len,hl],?_,h.root,h.inj,h.own,h.fr,h.df⟩;intro t c ht;simp only [St.push] at ht;by_cases hlt:t < st.tmps.length
 ·rw [cJ hlt] at ht;obtain ⟨u,d,h1,h2⟩:=h.tmp t c ht;exact ⟨u,d,by simp only [Act.push]; rw [xg (by rw [h.len]; exact hlt)]; exact h1,h2⟩
 ·rw [cL (by omega)] at ht;obtain ⟨u,h1,d,h2⟩:=hr _ c ht;refine ⟨u,d,?_,h2⟩;simp only [Act.push];rw [acH (by rw [h.len]; omega),h.len];simpa using h1
def ar.pop {ts:List C} {cs:List C} {R:Nat->C} {us:List Value} (h:ar X m { tmps:=ts++cs,roots:=R } (Act.push a us) w) (hl:us.length=cs.length) :
  ar X m { tmps:=ts,roots:=R } a w/\∀ (j:Nat) (c:C),cs[j]?=some c->∃ u,us[j]?=some u/\az X m { tmps:=ts,roots:=R } w c u:=by
 have hlen:a.tmps.size=ts.length:=by have:=h.len; simp [Act.push] at this; omega
 refine ⟨⟨hlen,?_,h.root,h.inj,h.own,h.fr,h.df⟩,?_⟩
 ·intro t c ht;have hlt:t < ts.length:=(cd.1 ht).1;obtain ⟨u,d,h1,h2⟩:=h.tmp t c (by simp only; rw [cJ hlt]; exact ht);refine ⟨u,d,?_,h2⟩;simp only [Act.push] at h1
  rwa [xg (by rw [hlen]; exact hlt)] at h1
 ·intro j c hj;obtain ⟨u,d,h1,h2⟩:=h.tmp (ts.length+j) c (by simp only; rw [cL (by omega)]; simpa using hj);refine ⟨u,?_,d,h2⟩;simp only [Act.push] at h1;rw [acH (by rw [hlen]; omega),hlen] at h1;simpa using h1
def eC.wait (h:ar X m st a w) {m':Nat->aq->Value} {R':Nat->C} {f:Nat->aq->Bool} {cs:List C} {us:List Value} (hl:us.length=cs.length) (hr:∀ (j:Nat) (c:C),cs[j]?=some c->∃ u,us[j]?=some u/\az X m st w c u) {w':World}
  (H:ar X m' { tmps:=(st.push cs).tmps.map (poi f),roots:=R' } (Act.push a us) w') :
  ar X m' { tmps:=st.tmps.map (poi f),roots:=R' } a w'/\∀ (j:Nat) (c:C),(cs.map (poi f))[j]?=some c->∃ u,us[j]?=some u/\az X m' { tmps:=st.tmps.map (poi f),roots:=R' } w' c u:=by
 simp only [St.push,nt] at H;exact H.pop (by simp [hl])
def Kg {c:C} (h:c.cellOk=true):c.oneC=true:=by
 cases c<;>first|rfl|exact h|simp [C.cellOk] at h
def WN (h:ar X m st a w) {n:Nat} {c:C} {u:Value} (hu:az X m st w c u) {st':St} {f:Nat->aq->Bool} (hp:vV n c st=some (st',f)) (hn:H0<=n) {cs:List C} {us:List Value} (hl:us.length=cs.length)
  (hr:∀ (j:Nat) (c:C),cs[j]?=some c->∃ u,us[j]?=some u/\az X m st w c u) :
  ∃ m',ar X m' st' a w/\(∃ d,rel w (X.S st'.roots m') L0 (m' n) true d [] (st'.roots n) u)/\(∀ (j:Nat) (c:C),(cs.map (poi f))[j]?=some c->∃ u,us[j]?=some u/\az X m' st' w c u) ∧
   (∀ k,H0<=k->k≠n->I2 X m st w m' st' w k)/\(∀ k q,k < H0->m' k q=m k q)/\(∀ k,H0<=k->k≠n->st'.roots k=st.roots k)/\u.oneCell'=true:=by
 unfold vV at hp;split at hp
 case isFalse=>simp at hp
 rename_i hd;have hd:=y9 hd;have H:=h.push hl hr;have hu':az X m (st.push cs) w c u:=hu;have id0:∀ (ts:List C),ts.map (poi fun _ _=>false)=ts.map id∨True:=fun _=>.inr trivial;split at hp
 ·rename_i k p lo len cap;split at hp
  ·rename_i nl es cap0 rows hnode;split at hp
   ·rename_i hk;simp only [cb,cz] at hp;obtain ⟨rfl,rfl⟩:=hp;have hne:n≠k:=by omega
    obtain ⟨e1,e2,e3⟩:=H.move (h:=n) (st:=st.push cs) hd hne hnode (en hu');obtain ⟨g1,g2⟩:=eC.wait h hl hr e1;have e3':eC X m (st.push cs) w (il m k p lo n u) ((st.push cs).move k p lo len cap n es rows) w [k,n]:=e3;have keep:∀ x,H0<=x->x≠n->I2 X m st w (il m k p lo n u) (st.move k p lo len cap n es rows) w x:=by
     intro x hx hxn;exact e3'.keeps (by simp; omega)
    refine ⟨_,g1,?_,g2,keep,?_,fun x hx hxn=>(keep x hx hxn).1,Jo hu rfl⟩
    ·obtain ⟨d,e2⟩:=e2;refine ⟨d,?_⟩;have:(st.move k p lo len cap n es rows).roots n=.sl true none es cap ((rows.drop lo).take len):=by simp [St.move,aC]
     rw [this];exact e2
    ·intro x q hx;have:x≠n:=by omega
     simp [il,this]
   ·simp at hp
  ·simp at hp
 ·split at hp
  ·rename_i hok;simp only [cb,cz] at hp;obtain ⟨rfl,rfl⟩:=hp;have hone:u.oneCell'=true:=Jo hu (Kg hok);obtain ⟨d,hud⟩:=hu;obtain ⟨e1,e2,_,rfl,e3⟩:=h.hand hd hok hud;have keep:∀ x,H0<=x->x≠n->I2 X m st w m { st with roots:=upd st.roots n c.frz } w x:=fun x hx hxn=>e3.keeps (by simpa using hxn);refine ⟨m,e1,?_,?_,keep,fun _ _ _=>rfl,fun x hx hxn=>(keep x hx hxn).1,hone⟩
   ·simpa [aC] using e2
   ·obtain ⟨e1',_⟩:=H.hand (st:=st.push cs) hd hok hud;have e1'':ar X m { tmps:=st.tmps++cs,roots:=upd st.roots n c.frz } (Act.push a us) w:=e1';obtain ⟨_,g2⟩:=e1''.pop hl;intro j c' hj;simp only [cv,cj] at hj;obtain ⟨c0,hj,rfl⟩:=hj;obtain ⟨u0,g3,g4⟩:=g2 j c0 hj;rcases js (fun _ _=>false) c0 with hpo|⟨hpo,_⟩
    ·rw [hpo]; exact ⟨u0,g3,.dead⟩
    ·rw [hpo]; exact ⟨u0,g3,g4⟩
  ·simp at hp
def zW:∀ (k:Nat) {n:Nat} {cs:List C} {us:List Value} {keep:C} {ku:Value} {m:Nat->aq->Value} {st st':St} {keep':C},cs.length=k->us.length=k->H0<=n->ar X m st a w ->
  (∀ (j:Nat) (c:C),cs[j]?=some c->∃ u,us[j]?=some u/\az X m st w c u)->az X m st w keep ku->jE k n cs keep st=some (st',keep') ->
  ∃ m',ar X m' st' a w/\az X m' st' w keep' ku/\(∀ (j:Nat) (u:Value),us[j]?=some u->∃ d,rel w (X.S st'.roots m') L0 (m' (n+j)) true d [] (st'.roots (n+j)) u) ∧
   (∀ x,H0<=x->(x < n∨n+k<=x)->I2 X m st w m' st' w x)/\(∀ x q,x < H0->m' x q=m x q)/\(∀ u∈us,u.oneCell'=true):=by
 intro k
 induction k with
 | zero=>
  intro n cs us keep ku m st st' keep' hc hu hn h hr hk hp;simp only [jE,cb,cz] at hp;obtain ⟨rfl,rfl⟩:=hp;have:us=[]:=cQ hu;subst this;exact ⟨m,h,hk,by simp,fun x _ _=>⟨rfl,fun _ _=>rfl,fun _ _ h=>h⟩,fun _ _ _=>rfl,by simp⟩
 | succ k ih=>
  intro n cs us keep ku m st st' keep' hc hu hn h hr hk hp;cases cs with
  | nil=>simp at hc
  | cons c cs=>
   cases us with
   | nil=>simp at hu
   | cons u us=>
    simp only [jE] at hp;split at hp
    ·rename_i st1 f hp1;obtain ⟨u0,h0,hru⟩:=hr 0 c rfl;simp only [cu,cb] at h0;subst h0;have hl:(us++[ku]).length=(cs++[keep]).length:=by simp at hc hu ⊢; omega
     have hr':∀ (j:Nat) (c:C),(cs++[keep])[j]?=some c->∃ u,(us++[ku])[j]?=some u/\az X m st w c u:=by
      intro j c' hj;by_cases hlt:j < cs.length
      ·rw [cJ hlt] at hj;obtain ⟨u',e1,e2⟩:=hr (j+1) c' (by simpa using hj);exact ⟨u',by rw [cJ (by simp at hl; omega)]; simpa using e1,e2⟩
      ·rw [cL (by omega)] at hj;have hj0:j - cs.length=0:=by
        have:=(cd.1 hj).1;simp at this; omega
       rw [hj0] at hj;simp only [cu,cb] at hj;subst hj;refine ⟨ku,?_,hk⟩;have:us.length=cs.length:=by simpa using hl
       rw [cL (by omega),this,hj0];rfl
     obtain ⟨m1,g1,g2,g3,g4,g5,g6,g7⟩:=WN h hru hp1 hn hl hr';have hlen:us.length=cs.length:=by simpa using hl
     obtain ⟨m',f1,f2,f3,f4,f5,f6⟩:=ih (n:=n+1) (cs:=cs.map (poi f)) (us:=us) (keep:=poi f keep) (ku:=ku) (by simpa using hc) (by simpa using hu) (by omega) g1 (by
      intro j c' hj;have hlt:j < cs.length:=by have:=(cd.1 hj).1; simpa using this
      obtain ⟨u',e1,e2⟩:=g3 j c' (by rw [nt,cJ (by simpa using hlt)]; exact hj);exact ⟨u',by rwa [cJ (by omega)] at e1,e2⟩) (by
      obtain ⟨u',e1,e2⟩:=g3 cs.length (poi f keep) (by rw [nt,cL (by simp)]; simp);rw [cL (by omega)] at e1;simp only [hlen,xh,cu,cb] at e1;subst e1;exact e2) hp
     refine ⟨m',f1,f2,?_,?_,?_,by intro v hv; rcases cF.1 hv with rfl|hv; exact g7; exact f6 v hv⟩
     ·intro j u' hj;cases j with
      | zero=>
       simp only [cu,cb] at hj;subst hj;obtain ⟨d,g2⟩:=g2;exact ⟨d,(f4 n hn (.inl (by omega))).2.2 _ _ g2⟩
      | succ j=>
       have:=f3 j u' (by simpa using hj)
       rwa [show n+1+j=n+(j+1) by omega] at this
     ·intro x hx hxn;have k1:=g4 x hx (by omega);have k2:=f4 x hx (by omega);exact ⟨k2.1.trans k1.1,fun q ho=>by rw [k2.2.1 q (by rw [k1.1]; exact ho),k1.2.1 q ho],fun u d hr=>k2.2.2 u d (k1.2.2 u d hr)⟩
     ·intro x q hx;rw [f5 x q hx,g5 x q hx]
    ·simp at hp
def F8:∀ (k:Nat) {j n h:Nat} {q:aq} {i:Nat} {us:List Value} {m:Nat->aq->Value} {st st':St} {w:World} {nl:Option Bool} {es:Nat} {cap:Option Nat} {rows:List (List C)} {b off kk:Nat},us.length=k->H0<=h->ar X m st a w ->
  st.node n q=some (.sl true nl es cap rows)->m n q=.slice (some ⟨b,off,none⟩) rows.length kk ->
  (∀ (x:Nat) (u:Value),us[x]?=some u->∃ d,rel w (X.S st.roots m) L0 (m (h+x)) true d [] (st.roots (h+x)) u)->mh n q i j k h st=some st' ->
  ∃ m',ar X m' st' a (w.setCells b (off+i * es+j) us)/\(∀ x,x < H0->x≠n->∀ p,m' x p=m x p)/\(∀ p,(∀ r,p≠q++r)->m' n p=m n p)/\m' n q=m n q/\(∃ cap' rows',st'.node n q=some (.sl true nl es cap' rows')/\rows'.length=rows.length)/\(k=0∨∃ row,rows[i]?=some row/\j+k<=row.length):=by
 intro k
 induction k with
 | zero=>
  intro j n h q i us m st st' w nl es cap rows b off kk hu hh H hn hm hr hp;simp only [mh,cb] at hp;subst hp;have:us=[]:=cQ hu;subst this;exact ⟨m,H,fun _ _ _ _=>rfl,fun _ _=>rfl,rfl,⟨cap,rows,hn,rfl⟩,.inl rfl⟩
 | succ k ih=>
  intro j n h q i us m st st' w nl es cap rows b off kk hu hh H hn hm hr hp;cases us with
  | nil=>simp at hu
  | cons u us=>
   simp only [mh,hn] at hp;split at hp
   ·rename_i row hrow;split at hp
    ·rename_i hc;obtain ⟨hj,hnH⟩:=hc;obtain ⟨d1,hr0⟩:=hr 0 u rfl;simp only [n9] at hr0;have hne:h≠n:=by omega
     have hc0:row[j]?=some row[j]:=cq hj;obtain ⟨P1,P2⟩:=H.plug (f:=fun n' p'=>n' == h || (n' == n && kE (q++[(i,j)]) p')) (by intro p' hp'; simpa [hne.symm] using hp') (by intro p' hp'; simp at hp') hne hn hrow hc0 hm hr0;have hat:(st.roots n).at (q++[(i,j)])=some row[j]:=by
      have hn':(st.roots n).at q=some (.sl true nl es cap rows):=hn;simp [C.at_append,hn',C.at,C.kid,hrow,hc0]
     have hqoff:∀ r,q≠q++[(i,j)]++r:=by intro r hr; have:=congrArg List.length hr; simp at this
     obtain ⟨rows',hrows'⟩:∃ r,r=rows.modify i (·.modify j (fun _=>st.roots h)):=⟨_,rfl⟩;have hnode:(st.plug (fun n' p'=>n' == h || (n' == n && kE (q++[(i,j)]) p')) n q i j h).node n q=some (.sl true nl es cap rows'):=by
      have hn':(st.roots n).at q=some (.sl true nl es cap rows):=hn;have:=C.at_turn_self (fun x=>x.turn (fun _=>st.roots h) [(i,j)]) q [] (st.roots n) _ hn';simp only [St.node,St.plug,upd,hne.symm,if_false,if_true];rw [cS] at this;rw [C.turn_append,this,hrows'];simp [C.at,C.turn]
     have hlen:rows'.length=rows.length:=by rw [hrows']; simp
     obtain ⟨m',f1,f2,f3,f3',f4,f5'⟩:=ih (j:=j+1) (h:=h+1) (us:=us) (by simpa using hu) (by omega) P1 hnode (by rw [qP _ _ _ _ _ hqoff,hlen]; exact hm) (by
      intro x v hx;obtain ⟨d,hd⟩:=hr (x+1) v (by simpa using hx);rw [show h+1+x=h+(x+1) by omega];exact ⟨d,(P2.keeps (by simp; omega)).2.2 _ _ hd⟩) hp
     refine ⟨m',?_,?_,?_,?_,?_,.inr ⟨row,hrow,?_⟩⟩
     rotate_left 5
     ·rcases f5' with rfl|⟨row',g1,g2⟩
      ·omega
      ·rw [hrows',AN,if_pos rfl,hrow] at g1;simp only [cx,cb] at g1;rw [<-g1] at g2;simp at g2;omega
     ·rw [World.setCells];rw [show off+i * es+(j+1)=off+i * es+j+1 by omega] at f1;exact f1
     ·intro x hx hxn p;rw [f2 x hx hxn p,F5 _ _ _ _ _ hxn]
     ·intro p hp;rw [f3 p hp,qP _ _ _ _ _ (by intro r; rw [nr]; exact hp _)]
     ·rw [f3',qP _ _ _ _ _ hqoff]
     ·obtain ⟨cap',rows'',f5,f6⟩:=f4;exact ⟨cap',rows'',f5,by omega⟩
    ·simp at hp
   ·simp at hp
end
end Go.Abs
namespace Go.Abs
def Ij (d:Nat) (ti:TI) (st:St):St:=
 {tmps:=(st.fresh d).tmps.set d (.pref d [] 0 0),roots:=upd (st.fresh d).roots d (.sl true none ti.size (some 1) [ti.zero.map .val]) }
def ND (d es:Nat) (cap:Option Nat) (rows:List (List C)) (tmp:C) (st:St):St:=
 {tmps:=st.tmps.set d tmp,roots:=upd st.roots d (.sl true none es cap (rows.map (·.map C.frz))) }
def Jf (d es:Nat) (cells:List C) (tmp:C) (st:St):Option St:=
 match jE cells.length H0 cells .dead st with
 | some (st1,_)=>if dN (st1.roots d)/\d < H0 then
   match mh d [] 0 0 cells.length H0 { st1 with roots:=upd st1.roots d (.sl true none es (some 1) [cells.map fun _=>.dead]) } with
   | some st2=>some { st2 with tmps:=st2.tmps.set d tmp }
   | none=>none
  else none
 | none=>none
def K3 (d:Nat) (ti:TI) (x:Operand) (st:St):Option St:=
 match sL ti ((st.fresh d).ev x) with
 | some cells=>if cells.all C.cellOk then some (ND d ti.size (some 1) [cells] (.pref d [] 0 0) (st.fresh d)) else Jf d ti.size cells (.pref d [] 0 0) (st.fresh d)
 | none=>none
def oK (es:Nat):Nat->List C->List (List C)
 | 0,_=>[]
 | n+1,l=>l.take es::oK es n (l.drop es)
def sP (E:Env) (d:Nat) (ti:TI) (len:Nat) (parts:List (Nat × Operand)) (st:St):Option St:=
 match ti.kind with
 | .slice e es=>if (E.T e).isNone then none else match qM E { ti with kind:=.arr len e es } (parts.map fun x=>(x.1,(st.fresh d).ev x.2)) (List.replicate (len * es) .dead) with
  | some flat=>if len * es<=16777216/\es≠0 then
    if flat.all C.cellOk then some (ND d es (some len) (oK es len flat) (.pal d [] 0 len none) (st.fresh d))
    else if len=1 then Jf d es flat (.pal d [] 0 1 none) (st.fresh d) else none
   else none
  | none=>none
 | _=>none
def rh (E:Env) (cp:Option Nat) (d:Nat) (ti:TI) (len:Nat) (parts:List (Nat × Operand)) (st:St):Option St:=
 match ti.kind with
 | .slice e es=>if (E.T e).isNone then none else match qM E { ti with kind:=.arr len e es } (parts.map fun x=>(x.1,st.ev x.2)) (List.replicate (len * es) .dead) with
  | some flat=>if len * es<=16777216/\es≠0 then
    if flat.all C.cellOk then some (st.put (some d) (.sl false none es cp ((oK es len flat).map (·.map C.frz)))) else none
   else none
  | none=>none
 | _=>none
def jQ (E:Env) (d:Nat) (ti:TI) (len:Nat) (parts:List (Nat × Operand)) (st:St):Option St:=
 match E.F d with
 | some false=>rh E none d ti len parts st
 | some true=>rh E (some len) d ti len parts st
 | _=>sP E d ti len parts st
def yx (n:Nat) (q:aq) (i j:Nat) (row:List C) (ts:List C):List C:=
 match row[j]? with
 | some c0=>if zm c0=true then ts else ts.map (poi fun n' p'=>n' == n && kE (q++[(i,j)]) p')
 | none=>ts
def im (n:Nat) (q:aq) (i:Nat):Nat->List C->St->Option St
 | _,[],st=>some st
 | j,c::cs,st=>match st.node n q with
  | some (.sl true _ _ _ rows)=>match rows[i]? with
   | some row=>if j < row.length/\n < H0 then im n q i (j+1) cs { tmps:=yx n q i j row st.tmps,roots:=upd st.roots n ((st.roots n).turn (fun _=>c.frz) (q++[(i,j)])) } else none
   | none=>none
  | _=>none
def jN (ti:TI) (x v:C) (st:St):Option St:=
 match sL ti v,x with
 | some cells,.pref n q i j=>if cells.all C.cellOk then (if dN (st.roots H0) then im n q i j cells st else none) else
   match jE cells.length H0 cells x st with
   | some (st1,.pref n q i j)=>mh n q i j cells.length H0 st1
   | _=>none
 | _,_=>none
section
variable {X:Ctx} {m:Nat->aq->Value} {st:St} {a:Act} {w:World} {P:Program}
def QL {b o:Nat} {u:Value} (h:w.cell? ⟨b,o,none⟩=some u):w.setCell ⟨b,o,none⟩ u=w:=by
 unfold World.setCell;have:w.heap.modify b (fun
   | .cells c elem frozen=>.cells (if (none:Option Nat).isSome then c else c.setIfInBounds o u) elem frozen
   | o=>o)=w.heap:=by
  apply ado;intro k;rw [acD];split
  ·rename_i e;subst e;simp only [World.cell?] at h;cases hb:w.heap[b]? with
   | none=>simp
   | some ob=>
    rw [hb] at h;cases ob with
    | cells c e f=>
     simp only [cx,cb,Obj.cells.injEq,and_true];simp only [adp,cR,if_false] at h ⊢;apply ado;intro x;rw [xF];split
     ·rename_i e; subst e;split
      ·exact h.symm
      ·rename_i hlt; exact (adU (by omega)).symm
     ·rfl
    | _=>simp at h
  ·rfl
 exact congrArg (fun h=>({ w with heap:=h }:World)) this
def Hm {b:Nat}:∀ (us:List Value) (o:Nat),(∀ (x:Nat) (u:Value),us[x]?=some u->w.cell? ⟨b,o+x,none⟩=some u)->w.setCells b o us=w:=by
 intro us
 induction us with
 | nil=>intro o _; rfl
 | cons u us ih=>
  intro o h;rw [World.setCells,QL (by simpa using h 0 u rfl)];exact ih (o+1) (fun x v hx=>by rw [show o+1+x=o+(x+1) by omega]; exact h (x+1) v (by simpa using hx))
def ar.putTmp (h:ar X m st a w) (d:Nat) {c:C} {u:Value} (hr:az X m st w c u):ar X m { st with tmps:=st.tmps.set d c } (a.put (some d) u) w:=by
 obtain ⟨k,hr⟩:=hr;exact h.put (some d) hr
def Vs {c:C} {u:Value} (h:az X m st w c u) (hc:c.cellOk=true):u.oneCell'=true:=by
 exact Jo h (Kg hc)
def zr {c v:C} (hc:c.cellOk=true):∀ (d:Nat),¬ occ d c v:=by
 intro d h;cases d with
 | zero=>exact h
 | succ d=>
  cases c with
  | clo f cs=>
   obtain ⟨c',hm,ho⟩:=h;simp only [C.cellOk,cn] at hc;have:=hc c' hm;cases d with
   | zero=>exact ho
   | succ d=>cases c'<;>simp at this<;>exact ho
  | agg cs=>simp [C.cellOk] at hc
  | tup cs=>simp [C.cellOk] at hc
  | pref _ _ _ _=>simp [C.cellOk] at hc
  | pal _ _ _ _ _=>simp [C.cellOk] at hc
  | _=>exact h
def eC.relT {m':Nat->aq->Value} {st':St} {w':World} {ch:List Nat} (s:eC X m st w m' st' w' ch) {c:C} {u:Value} (hc:c.cellOk=true) (h:az X m st w c u):az X m' st' w' c u:=by
 obtain ⟨d,h⟩:=h;exact ⟨d,av s.S d (fun v u ho _=>(zr hc d ho).elim) (fun h=>by simp at h) (fun h=>by simp at h) h⟩
def J4 {cells:List C} {us:List Value} (hall:cells.all C.cellOk=true) (hl:us.length=cells.length) (hr:∀ (j:Nat) (c:C),cells[j]?=some c->∃ u,us[j]?=some u/\az X m st w c u) :
  ∃ D,∀ (j:Nat) (c:C),cells[j]?=some c->∃ u,us[j]?=some u/\bG w (X.S st.roots m) D c.frz u:=by
 obtain ⟨d,hd⟩:=K6 cells us hl hr;refine ⟨d,fun j c hc=>?_⟩;obtain ⟨u,h1,h2⟩:=hd j c hc;have hok:=cn.1 hall c (cg hc);exact ⟨u,h1,.inr ⟨c,rfl,hok,av (fun _ _ h=>⟨h,rfl⟩) d (fun v u ho _=>(zr hok d ho).elim) (fun h=>by simp at h) (fun h=>by simp at h) h2⟩⟩
theorem qt (w:World) (o:Obj):(w.alloc o).heap=w.heap.push o:=rfl
def Jn {d es:Nat} {cap:Option Nat} {nl:Option Bool} {rows:List (List C)} {b off k:Nat} (hR:st.roots d=.sl true nl es cap rows) (hm:m d []=.slice (some ⟨b,off,none⟩) rows.length k) :
  az X m st w (.pref d [] 0 0) (.pointer (some ⟨b,off,none⟩)):=⟨1,nl,es,cap,rows,b,off,k,by simp [C.at,hR],hm,by simp⟩
def mK {d es:Nat} {cap:Option Nat} {nl:Option Bool} {rows:List (List C)} {ad:Option Addr} {k:Nat} (hR:st.roots d=.sl true nl es cap rows) (hm:m d []=.slice ad rows.length k) (hk:rows.length<=k) (hz:k=0∨∃ b off,ad=some ⟨b,off,none⟩) :
  az X m st w (.pal d [] 0 rows.length none) (.slice ad rows.length k):=by
 refine ⟨1,nl,es,cap,rows,ad,k,ad,k,by simp [C.at,hR],hm,by omega,rfl,hk,by omega,by simp,by simp,?_⟩;rcases hz with hz|⟨b,off,rfl⟩
 ·exact .inl hz
 ·exact .inr ⟨b,off,rfl,by simp⟩
def V6 {E:Env} (hT:TOk P E) (h:ar X m st a w) {t:Nat} {ti:TI} (ht:eP P t ti) (d:Nat) :
  ∃ u w',(Instr.alloc t true (.tuple #[])).run P w=.ok u w'/\∃ m',ar X m' (Ij d ti st) (a.put (some d) u) w':=by
 obtain ⟨h1,hd⟩:=oT h d;obtain ⟨z,hz,hzc⟩:=ht.zero_run (w:=w);refine ⟨.pointer (some ⟨w.heap.size,0,none⟩),w.alloc (.cells z.cells t),?_,?_⟩
 ·simp [Instr.alloc,hz,newVar,newRow]
 ·obtain ⟨h2,h3⟩:=h1.newRoot (d:=d) hd (D:=1) (arr:=z.cells) (elem:=t) (rows:=[ti.zero.map .val]) (es:=ti.size) (k:=1) (cap:=some 1) (qt w _) rfl rfl rfl (by simp) (by simp [maxLen]) (by simp) (by simp [ht.zlen])
   (by have:z.cells.size=ti.size:=(by rw [<-xH,hzc,ht.zlen]); omega) (by
    intro i j row c hi hj;cases i with
    | zero=>
     simp only [cu,cb] at hi;subst hi;simp only [cv,cj] at hj;obtain ⟨v,hv,rfl⟩:=hj;exact ⟨v,by rw [<-hzc] at hv; simpa using hv,.val (ht.zone v (cg hv))⟩
    | succ i=>simp at hi)
  exact ⟨_,h2.putTmp d (Jn (aC _ _ _) (br _ _ _))⟩
def Mx {rows:List (List C)} {us:List Value} {es:Nat} (hlen:∀ row∈rows,row.length=es) {D:Nat} {S:Nat->Prop}
  (h:∀ (j:Nat) (c:C),rows.flatten[j]?=some c->∃ u,us[j]?=some u/\bG w S D c.frz u) :
  ∀ (i j:Nat) (row:List C) (c:C),(rows.map (·.map C.frz))[i]?=some row->row[j]?=some c->∃ u,us.toArray[i * es+j]?=some u/\bG w S D c u:=by
 intro i j row c hi hj;simp only [cv,cj] at hi;obtain ⟨r0,hi,rfl⟩:=hi;simp only [cv,cj] at hj;obtain ⟨c0,hj,rfl⟩:=hj;have:rows.flatten[i * es+j]?=some c0:=by
  clear h
  induction rows generalizing i with
  | nil=>simp at hi
  | cons r rows ih=>
   have hr:=hlen r (by simp);cases i with
   | zero=>
    simp only [cu,cb] at hi;subst hi;rw [adq,cJ (by simp; exact (cd.1 hj).1)];simpa using hj
   | succ i=>
    rw [adq,cL (by rw [hr,cI]; omega),hr,show (i+1) * es+j - es=i * es+j by rw [cI]; omega];exact ih (fun row hrow=>hlen row (by simp [hrow])) i (by simpa using hi)
 obtain ⟨u,h1,h2⟩:=h _ c0 this;exact ⟨u,by simpa using h1,h2⟩
def MT {rows:List (List C)} {es:Nat} (hlen:∀ row∈rows,row.length=es):rows.flatten.length=rows.length * es:=by
 induction rows with
 | nil=>simp
 | cons r rows ih=>simp only [adq,ni,cG,ih (fun row h=>hlen row (by simp [h])),hlen r (by simp),cI]; omega
def LG (h:ar X m st a w) {d:Nat} (hd:st.roots d=.dead) {es:Nat} {cap:Option Nat} {rows:List (List C)} {us:List Value} {elem:TypeId} (hlen:∀ row∈rows,row.length=es) (hmax:rows.length<=maxLen) (hcap:∀ c,cap=some c->rows.length=c)
  (hus:us.length=rows.flatten.length) (hall:rows.flatten.all C.cellOk=true) (hr:∀ (j:Nat) (c:C),rows.flatten[j]?=some c->∃ u,us[j]?=some u/\az X m st w c u) :
  ∃ m',ar X m' { st with roots:=upd st.roots d (.sl true none es cap (rows.map (·.map C.frz))) } a (w.alloc (.cells us.toArray elem))/\m' d []=.slice (some ⟨w.heap.size,0,none⟩) rows.length rows.length/\∀ n,n≠d->∀ q,m' n q=m n q:=by
 obtain ⟨D,hD⟩:=J4 hall hus hr;obtain ⟨h2,h3⟩:=h.newRoot (d:=d) hd (D:=D) (arr:=us.toArray) (elem:=elem) (rows:=rows.map (·.map C.frz)) (es:=es) (k:=rows.length) (cap:=cap) (qt w _) rfl rfl rfl (by simp) hmax hcap
  (by intro row hrow; simp only [cE] at hrow; obtain ⟨r,hr1,rfl⟩:=hrow; simp [hlen r hr1])
  (by simp [hus,MT hlen]) (Mx hlen hD)
 refine ⟨_,h2,?_,fun n hn q=>gI _ _ _ (fun h=>hn h.1)⟩;rw [br]; simp
def MB (h:ar X m st a w) {d:Nat} (hd:st.roots d=.dead) {es:Nat} {cells:List C} {us:List Value} {elem:TypeId} {tmp:C} {st':St} (hes:cells.length=es) (hus:us.length=cells.length) (hr:∀ (j:Nat) (c:C),cells[j]?=some c->∃ u,us[j]?=some u/\az X m st w c u)
  (hp:Jf d es cells tmp st=some st') :
  ∃ m' st2,ar X m' st2 a (w.alloc (.cells us.toArray elem))/\m' d []=.slice (some ⟨w.heap.size,0,none⟩) 1 1/\(∃ rows,st2.roots d=.sl true none es (some 1) rows/\rows.length=1∨∃ cap,st2.roots d=.sl true none es cap rows/\rows.length=1)/\st'={ st2 with tmps:=st2.tmps.set d tmp }/\∀ n,n < H0->n≠d->∀ q,m' n q=m n q:=by
 unfold Jf at hp;split at hp
 case h_2=>simp at hp
 rename_i st1 keep hprep;split at hp
 case isFalse=>simp at hp
 rename_i hc;obtain ⟨hd1,hdH⟩:=hc;have hd1:=y9 hd1;split at hp
 case h_2=>simp at hp
 rename_i st2 hplug;simp only [cb] at hp;obtain ⟨m1,g1,_,g3,g4,g5,_⟩:=zW cells.length (ku:=undef) rfl hus (cr _) h hr .dead hprep;obtain ⟨f1,f2⟩:=g1.newRoot (d:=d) hd1 (D:=1) (arr:=us.toArray) (elem:=elem) (rows:=[cells.map fun _=>.dead]) (es:=es) (k:=1) (cap:=some 1) (qt w _) rfl rfl rfl (by simp) (by simp [maxLen]) (by simp) (by simp [hes]) (by simp [hus,hes]) (by
  intro i j row c hi hj;cases i with
  | zero=>
   simp only [cu,cb] at hi;subst hi;simp only [cv,cj] at hj;obtain ⟨c0,hj,rfl⟩:=hj;have hlt:j < us.length:=by rw [hus]; exact (cd.1 hj).1
   exact ⟨us[j],by simp [hlt],.dead⟩
  | succ i=>simp at hi)
 obtain ⟨m2,e1,e2,e3,e3',e4,_⟩:=F8 cells.length (us:=us) (b:=w.heap.size) (off:=0) (kk:=1) hus (cr _) f1 (n:=d) (q:=[]) (i:=0) (j:=0) (nl:=none) (es:=es) (cap:=some 1) (rows:=[cells.map fun _=>.dead]) (by simp [St.node,C.at,aC]) (by rw [br]) (by
  intro x u hx;obtain ⟨dd,hdd⟩:=g3 x u hx;exact ⟨dd,(f2.keeps (by simp; omega)).2.2 _ _ hdd⟩) hplug
 rw [Hm] at e1
 ·refine ⟨m2,st2,e1,?_,?_,hp.symm,fun n hn hnd q=>by rw [e2 n hn hnd q,gI _ _ _ (fun h=>hnd h.1),g5 n q hn]⟩
  ·rw [e3',br]; rfl
  ·obtain ⟨cap',rows',e5,e6⟩:=e4;refine ⟨rows',.inr ⟨cap',?_,by simpa using e6⟩⟩;simpa [St.node,C.at] using e5
 ·intro x u hx;have hlt:=(cd.1 hx).1;simp only [World.cell?,World.alloc,acI,cV,n9];simp [hlt];simpa [hlt] using hx
def Zx {E:Env} (hT:TOk P E) (h:ar X m st a w) {t:Nat} {ti:TI} (ht:eP P t ti) {d:Nat} {x:Operand} {st':St} (hp:K3 d ti x st=some st') :
  ∃ u w',(Instr.box t (a.eval x)).run P w=.ok u w'/\∃ m',ar X m' st' (a.put (some d) u) w':=by
 unfold K3 at hp;obtain ⟨h1,hd⟩:=oT h d;split at hp
 case h_2=>simp at hp
 rename_i cells hun;obtain ⟨e1,e2,e3⟩:=DP (bm h1 x) hun;refine ⟨.pointer (some ⟨w.heap.size,0,none⟩),w.alloc (.cells (a.eval x).cells t),by simp [Instr.box,newVar,newRow],?_⟩;have earr:(a.eval x).cells=(a.eval x).cells.toList.toArray:=by simp
 rw [earr];split at hp
 ·rename_i hall;simp only [cb] at hp;subst hp;obtain ⟨m',g1,g2,_⟩:=LG (elem:=t) h1 hd (rows:=[cells]) (us:=(a.eval x).cells.toList) (es:=ti.size) (cap:=some 1) (by simp [e1]) (by simp [maxLen]) (by simp) (by simp; exact e2) (by simpa using hall) (by simpa using e3);exact ⟨m',g1.putTmp d (Jn (nl:=none) (es:=ti.size) (cap:=some 1) (rows:=[cells.map C.frz]) (aC _ _ _) g2)⟩
 ·obtain ⟨m',st2,g1,g2,⟨rows,g3⟩,rfl,_⟩:=MB (elem:=t) h1 hd e1 e2 e3 hp;refine ⟨m',g1.putTmp d ?_⟩;rcases g3 with ⟨g3,g4⟩|⟨cap,g3,g4⟩
  ·exact Jn g3 (by rw [g4]; exact g2)
  ·exact Jn g3 (by rw [g4]; exact g2)
end
end Go.Abs
namespace Go.Abs
section
variable {X:Ctx} {m:Nat->aq->Value} {st:St} {a:Act} {w:World} {P:Program}
def JV (es:Nat):∀ (n:Nat) (l:List C),l.length=n * es->(oK es n l).length=n/\(∀ row∈oK es n l,row.length=es)/\(oK es n l).flatten=l:=by
 intro n
 induction n with
 | zero=>intro l h; simp at h; subst h; simp [oK]
 | succ n ih=>
  intro l h;rw [cI] at h;obtain ⟨h1,h2,h3⟩:=ih (l.drop es) (by simp; omega);refine ⟨by simp [oK,h1],?_,by simp [oK,h3]⟩;intro row hr;simp only [oK,cF] at hr;rcases hr with rfl|hr
  ·simp; omega
  ·exact h2 row hr
def Nj {E:Env} (hT:TOk P E) (h:ar X m st a w) {t:Nat} {ti:TI} (ht:eP P t ti) {d len:Nat} {parts:Array (Nat × Operand)} {st':St} (hp:sP E d ti len parts.toList st=some st') :
  ∃ u w',(Instr.buildSlice t len (parts.map fun (i,x)=>(i,a.eval x))).run P w=.ok u w'/\∃ m',ar X m' st' (a.put (some d) u) w'/\(∀ n,n < H0->n≠d->m' n []=m n [])/\∀ b,b < w.heap.size->w'.heap[b]?=w.heap[b]?:=by
 unfold sP at hp;obtain ⟨h1,hd⟩:=oT h d;obtain ⟨dd,hdd,_,hk⟩:=ht.und;split at hp
 case h_2=>simp at hp
 rename_i e es hkind;rw [hkind] at hk;obtain ⟨rfl,ie0,hie0,hes0⟩:=hk;split at hp
 case isTrue=>simp at hp
 rename_i hE;have hE:∃ te,E.T e=some te:=by cases hh:E.T e with|none=>simp [hh] at hE|some te=>exact ⟨te,rfl⟩
 obtain ⟨te,hte⟩:=hE;obtain ⟨ie,hie,hie1,hie2,z,hz,hzc⟩:=(hT e te hte).info;rw [hie] at hie0;cases hie0;split at hp
 case h_2=>simp at hp
 rename_i flat hflat;split at hp
 case isFalse=>simp at hp
 rename_i hc;obtain ⟨hc1,hc2⟩:=hc;have init:K7 X m (st.fresh d) w (List.replicate (len * es) .dead) ((Array.range (len * ie0.size)).map (z.cells[· % z.cells.size]!)):=by
  refine ⟨by simp [hes0],?_⟩;intro j c hj;simp only [adr] at hj;split at hj
  ·rename_i hlt;simp only [cb] at hj;subst hj;exact ⟨_,by rw [ads,adt,if_pos (by rw [hes0]; exact hlt)]; rfl,.dead⟩
  ·simp at hj
 obtain ⟨us',f1,f2⟩:=GX (E:=E) h1 (ti:={ ti with kind:=.arr len e es }) (place:=fun i=>some (i * ie0.size,ie0.size)) (by
  rintro i o s ⟨rfl,ti',hti',rfl,hs⟩;simp [hes0,hs]) parts.toList _ _ flat init hflat
 have hfl:flat.length=len * es:=by
  have:=f2.1;have h2:us'.size=len * es:=by
   have key:∀ (place:Nat->Option (Nat × Nat)) (l:List (Nat × Value)) (c c':Array Value),Instr.fill place c l=some c'->c'.size=c.size:=by
    intro place l
    induction l with
    | nil=>intro c c' hh; simp only [Instr.fill,cb] at hh; rw [hh]
    | cons x l ih=>
     intro c c' hh;obtain ⟨i,v⟩:=x;simp only [Instr.fill] at hh;split at hh
     ·simp at hh
     ·split at hh
      ·simp at hh
      ·rename_i hcond;rw [ih _ _ hh,<-adm,adn];exact (Is _ v.cells.toList 0 c (by simp at hcond ⊢; omega)).1
   rw [key _ _ _ _ f1];simp [hes0]
  omega
 have hrel:∀ (j:Nat) (c:C),flat[j]?=some c->∃ u,us'.toList[j]?=some u/\az X m (st.fresh d) w c u:=by
  intro j c hj;obtain ⟨v,e1,e2⟩:=f2.2 j c hj;exact ⟨v,by simpa using e1,e2⟩
 have hlenu:us'.toList.length=flat.length:=by simpa using f2.1
 have hrun:(Instr.buildSlice t len (parts.map fun (i,x)=>(i,a.eval x))).run P w=.ok (.slice (some ⟨w.heap.size,0,none⟩) len len) (w.alloc (.cells us' e)):=by
  by_cases hpos:len * ie0.size=0
  ·have hl0:len=0:=by
    rw [hes0] at hpos;rcases Nat.mul_eq_zero.1 hpos with h|h
    ·exact h
    ·exact absurd h hc2
   subst hl0;have hsz:(sizeOf e).run P w=.ok ie0.size w:=by simp [sizeOf,typeInfo,hie]
   have e0:(Array.range (0 * ie0.size)).map (z.cells[· % z.cells.size]!)=#[]:=by apply xU; simp
   rw [e0] at f1;have f1':Instr.fill (fun i=>some (i * ie0.size,ie0.size)) #[] (parts.map fun (i,x)=>(i,a.eval x)).toList=some us':=by rw [<-f1]; simp
   unfold Instr.buildSlice;simp only [Sem.run_bind,run_underlying hdd,Result.andThen_ok,hsz];simp only [acI,Nat.not_lt_zero,gt_iff_lt,if_false,if_true,Sem.run_bind,Sem.run_pure,Result.andThen_ok];rw [show (Array.map (fun x=>((#[]:Array Value)[x % (#[]:Array Value).size]!)) (Array.range 0))=#[] from by apply xU; simp];rw [f1'];simp [newRow]
  ·exact run_buildSlice w t e len _ us' ie0 z hdd hie hz (by rw [hes0]; omega) hpos (by simpa using f1)
 refine ⟨_,_,hrun,?_⟩;have earr:us'=us'.toList.toArray:=by simp
 rw [earr];split at hp
 ·rename_i hall;simp only [cb] at hp;subst hp;obtain ⟨c1,c2,c3⟩:=JV es len flat hfl;have hlm:len<=maxLen:=by
   have:len * 1<=len * es:=adk _ (by omega);simp only [maxLen]; omega
  obtain ⟨m',g1,g2,gk⟩:=LG (elem:=e) h1 hd (rows:=oK es len flat) (us:=us'.toList) (es:=es) (cap:=some len) c2 (by rw [c1]; exact hlm) (by rw [c1]; simp) (by rw [c3]; exact hlenu) (by rw [c3]; exact hall) (by rw [c3]; exact hrel);refine ⟨m',g1.putTmp d ?_,fun n _ hn=>gk n hn [],fun b hb=>by rw [qt,acT,if_neg (by omega)]⟩;have hp:=mK (X:=X) (w:=w.alloc (.cells us'.toList.toArray e)) (st:={ (st.fresh d) with roots:=upd (st.fresh d).roots d (.sl true none es (some len) ((oK es len flat).map (·.map C.frz))) }) (m:=m') (d:=d) (aC _ _ _) (ad:=some ⟨w.heap.size,0,none⟩) (k:=len) (by rw [g2]; simp [c1]) (by simp [c1]) (.inr ⟨_,_,rfl⟩);simpa [c1] using hp
 ·split at hp
  ·rename_i hl1;subst hl1;obtain ⟨m',st2,g1,g2,⟨rows,g3⟩,rfl,gk⟩:=MB (elem:=e) h1 hd (by omega) hlenu hrel hp;refine ⟨m',g1.putTmp d ?_,fun n hn hnd=>gk n hn hnd [],fun b hb=>by rw [qt,acT,if_neg (by omega)]⟩;rcases g3 with ⟨g3,g4⟩|⟨cap,g3,g4⟩
   ·have:=mK (X:=X) (w:=w.alloc (.cells us'.toList.toArray e)) g3 (ad:=some ⟨w.heap.size,0,none⟩) (k:=1) (by rw [g4]; exact g2) (by omega) (.inr ⟨_,_,rfl⟩);rw [g4] at this; exact this
   ·have:=mK (X:=X) (w:=w.alloc (.cells us'.toList.toArray e)) g3 (ad:=some ⟨w.heap.size,0,none⟩) (k:=1) (by rw [g4]; exact g2) (by omega) (.inr ⟨_,_,rfl⟩);rw [g4] at this; exact this
  ·simp at hp
def Vi {w:World} {S:Nat->Prop} {m:aq->Value} {d:Nat} {p:aq} {c:C} {u:Value} (hc:c.cellOk=true) (h:rel w S L0 m true d p c.frz u):rel w S L0 m false d p c.frz u:=by
 cases d with
 | zero=>exact h.elim
 | succ d=>cases c<;>(try simp [C.cellOk] at hc)<;>simp only [C.frz,rel,nS] at h ⊢<;>exact h
def VQ {w w':World} {S S':Nat->Prop} {D:Nat} {c:C} {u:Value} {m:aq->Value} {p:aq} (h:bG w S D c u) (hS:∀ b,b < w.heap.size->S b->S' b/\w'.heap[b]?=w.heap[b]?):rel w' S' L0 m false D p c u:=by
 rcases h with ⟨rfl,h⟩|⟨c0,rfl,h1,h2⟩
 ·cases D with
  | zero=>exact absurd rfl h
  | succ D=>trivial
 have:=av (m':=dm) (p':=[]) hS D (L':=L0) (fun _ _ _ h=>h) (fun h=>by simp at h) (fun h=>by simp at h) h2;exact Vi h1 (Au h1 this)
def Nk {E:Env} (hT:TOk P E) (h:ar X m st a w) {t:Nat} {ti:TI} (ht:eP P t ti) {len:Nat} {parts:Array (Nat × Operand)} {e es:Nat} (hkind:ti.kind=.slice e es) (hE:¬ (E.T e).isNone=true) {flat:List C}
  (hflat:qM E { ti with kind:=.arr len e es } (parts.toList.map fun x=>(x.1,st.ev x.2)) (List.replicate (len * es) .dead)=some flat) (hc1:len * es<=16777216) (hc2:es≠0) :
  ∃ us':Array Value,(Instr.buildSlice t len (parts.map fun (i,x)=>(i,a.eval x))).run P w=.ok (.slice (some ⟨w.heap.size,0,none⟩) len len) (w.alloc (.cells us' e))/\us'.toList.length=flat.length/\flat.length=len * es ∧
   ∀ (j:Nat) (c:C),flat[j]?=some c->∃ u,us'.toList[j]?=some u/\az X m st w c u:=by
 obtain ⟨dd,hdd,_,hk⟩:=ht.und;rw [hkind] at hk;obtain ⟨rfl,ie0,hie0,hes0⟩:=hk;have hE:∃ te,E.T e=some te:=by cases hh:E.T e with|none=>simp [hh] at hE|some te=>exact ⟨te,rfl⟩
 obtain ⟨te,hte⟩:=hE;obtain ⟨ie,hie,hie1,hie2,z,hz,hzc⟩:=(hT e te hte).info;rw [hie] at hie0;cases hie0;have init:K7 X m st w (List.replicate (len * es) .dead) ((Array.range (len * ie0.size)).map (z.cells[· % z.cells.size]!)):=by
  refine ⟨by simp [hes0],?_⟩;intro j c hj;simp only [adr] at hj;split at hj
  ·rename_i hlt;simp only [cb] at hj;subst hj;exact ⟨_,by rw [ads,adt,if_pos (by rw [hes0]; exact hlt)]; rfl,.dead⟩
  ·simp at hj
 obtain ⟨us',f1,f2⟩:=GX (E:=E) h (ti:={ ti with kind:=.arr len e es }) (place:=fun i=>some (i * ie0.size,ie0.size)) (by
  rintro i o s ⟨rfl,ti',hti',rfl,hs⟩;simp [hes0,hs]) parts.toList _ _ flat init hflat
 have hfl:flat.length=len * es:=by
  have:=f2.1;have h2:us'.size=len * es:=by
   have key:∀ (place:Nat->Option (Nat × Nat)) (l:List (Nat × Value)) (c c':Array Value),Instr.fill place c l=some c'->c'.size=c.size:=by
    intro place l
    induction l with
    | nil=>intro c c' hh; simp only [Instr.fill,cb] at hh; rw [hh]
    | cons x l ih=>
     intro c c' hh;obtain ⟨i,v⟩:=x;simp only [Instr.fill] at hh;split at hh
     ·simp at hh
     ·split at hh
      ·simp at hh
      ·rename_i hcond;rw [ih _ _ hh,<-adm,adn];exact (Is _ v.cells.toList 0 c (by simp at hcond ⊢; omega)).1
   rw [key _ _ _ _ f1];simp [hes0]
  omega
 have hrel:∀ (j:Nat) (c:C),flat[j]?=some c->∃ u,us'.toList[j]?=some u/\az X m st w c u:=by
  intro j c hj;obtain ⟨v,e1,e2⟩:=f2.2 j c hj;exact ⟨v,by simpa using e1,e2⟩
 have hlenu:us'.toList.length=flat.length:=by simpa using f2.1
 have hrun:(Instr.buildSlice t len (parts.map fun (i,x)=>(i,a.eval x))).run P w=.ok (.slice (some ⟨w.heap.size,0,none⟩) len len) (w.alloc (.cells us' e)):=by
  by_cases hpos:len * ie0.size=0
  ·have hl0:len=0:=by
    rw [hes0] at hpos;rcases Nat.mul_eq_zero.1 hpos with h|h
    ·exact h
    ·exact absurd h hc2
   subst hl0;have hsz:(sizeOf e).run P w=.ok ie0.size w:=by simp [sizeOf,typeInfo,hie]
   have e0:(Array.range (0 * ie0.size)).map (z.cells[· % z.cells.size]!)=#[]:=by apply xU; simp
   rw [e0] at f1;have f1':Instr.fill (fun i=>some (i * ie0.size,ie0.size)) #[] (parts.map fun (i,x)=>(i,a.eval x)).toList=some us':=by rw [<-f1]; simp
   unfold Instr.buildSlice;simp only [Sem.run_bind,run_underlying hdd,Result.andThen_ok,hsz];simp only [acI,Nat.not_lt_zero,gt_iff_lt,if_false,if_true,Sem.run_bind,Sem.run_pure,Result.andThen_ok];rw [show (Array.map (fun x=>((#[]:Array Value)[x % (#[]:Array Value).size]!)) (Array.range 0))=#[] from by apply xU; simp];rw [f1'];simp [newRow]
  ·exact run_buildSlice w t e len _ us' ie0 z hdd hie hz (by rw [hes0]; omega) hpos (by simpa using f1)
 exact ⟨us',hrun,hlenu,hfl,hrel⟩
def ar.grow {w':World} (h:ar X m st a w) (hsz:w.heap.size<=w'.heap.size) (hold:∀ b,b < w.heap.size->w'.heap[b]?=w.heap[b]?) (ho:w'.os=w.os) (ht:w'.tape=w.tape) (hu:w'.output=w.output) (hdr:w.drawn<=w'.drawn:=by first|exact cr _|exact xe _):ar X m st a w':=by
 refine h.go (ch:=[]) ⟨rfl,fun t c ht=>.inr ⟨ht,fun _ _ _ _ h=>h⟩,fun b hb _=>hold b hb,hsz,⟨fun n p=>(n,p),none,?_,?_⟩,?_,fun _ n hn=>by simp at hn,ho,ht,hu,hdr⟩
 ·intro n p b ho hb; exact .inr ⟨by simp,ho,hb,h.lt ho hb⟩
 ·intro n p n' p' _ _ _ _ e; simpa using e
 ·intro n _; exact ⟨rfl,fun _ _=>rfl,fun _ b _ _ hlt=>hold b hlt⟩
def Fu {cp:Option Nat} {E:Env} (hT:TOk P E) (h:ar X m st a w) {t:Nat} {ti:TI} (ht:eP P t ti) {d len:Nat} {parts:Array (Nat × Operand)} {st':St} (hp:rh E cp d ti len parts.toList st=some st') (hcp:cp=none∨cp=some len) :
  ∃ u w',(Instr.buildSlice t len (parts.map fun (i,x)=>(i,a.eval x))).run P w=.ok u w'/\∃ m',ar X m' st' (a.put (some d) u) w'/\(∀ n,n < H0->n≠d->m' n []=m n [])/\∀ b,b < w.heap.size->w'.heap[b]?=w.heap[b]?:=by
 unfold rh at hp;split at hp
 case h_2=>simp at hp
 rename_i e es hkind;split at hp
 case isTrue=>simp at hp
 rename_i hE;split at hp
 case h_2=>simp at hp
 rename_i flat hflat;split at hp
 case isFalse=>simp at hp
 rename_i hc;split at hp
 case isFalse=>simp at hp
 rename_i hall;simp only [cb] at hp;subst hp;obtain ⟨us',hrun,hlen,hfl,hrel⟩:=Nk hT h ht hkind hE hflat hc.1 hc.2;refine ⟨_,_,hrun,m,?_⟩;have hlm:len<=maxLen:=by
  have:len * 1<=len * es:=adk _ (by omega);have:=hc.1;simp only [maxLen]; omega
 have hold:∀ b,b < w.heap.size->(w.alloc (.cells us' e)).heap[b]?=w.heap[b]?:=by
  intro b hb; rw [qt,acT,if_neg (by omega)]
 have hg:ar X m st a (w.alloc (.cells us' e)):=h.grow (by rw [qt]; simp) hold rfl rfl rfl;obtain ⟨c1,c2,c3⟩:=JV es len flat hfl;obtain ⟨D,hD⟩:=J4 hall hlen hrel;have hrows:=Mx c2 (us:=us'.toList) (D:=D) (S:=X.S st.roots m) (w:=w) (by rw [c3]; exact hD);refine ⟨hg.putTmp d ?_,fun _ _ _=>rfl,hold⟩;refine ⟨D+1,some ⟨w.heap.size,0,none⟩,len,by simp [c1],by simp [c1],hlm,by rcases hcp with rfl|rfl<;>simp,⟨by simp,by simp⟩,?_,by simp,?_⟩
 ·intro row hr;simp only [cE] at hr;obtain ⟨r,hr,rfl⟩:=hr;simp [c2 r hr]
 ·refine .inr (.inr ⟨w.heap.size,0,us',e,(0,0),rfl,by rw [qt]; simp,fun _=>⟨.inr h.fr.size,?_⟩,by simp,?_⟩)
  ·rintro ⟨n,p,ho,hb⟩;have:=h.lt ho hb;omega
  ·intro i j row c h1 h2;obtain ⟨u,g1,g2⟩:=hrows i j row c h1 h2;refine ⟨u,by simpa using g1,?_⟩;have hS:∀ b,b < w.heap.size->X.S st.roots m b->X.S st.roots m b/\(w.alloc (.cells us' e)).heap[b]?=w.heap[b]?:=fun b hb hs=>⟨hs,hold b hb⟩;exact VQ g2 hS
def Hb {E:Env} (hT:TOk P E) (h:ar X m st a w) {t:Nat} {ti:TI} (ht:eP P t ti) {d len:Nat} {parts:Array (Nat × Operand)} {st':St} (hp:jQ E d ti len parts.toList st=some st') :
  ∃ u w',(Instr.buildSlice t len (parts.map fun (i,x)=>(i,a.eval x))).run P w=.ok u w'/\∃ m',ar X m' st' (a.put (some d) u) w'/\(∀ n,n < H0->n≠d->m' n []=m n [])/\∀ b,b < w.heap.size->w'.heap[b]?=w.heap[b]?:=by
 unfold jQ at hp;split at hp
 ·exact Fu hT h ht hp (.inl rfl)
 ·exact Fu hT h ht hp (.inr rfl)
 ·exact Nj hT h ht hp
def PC:∀ (cs:List C) {j n:Nat} {q:aq} {i:Nat} {us:List Value} {m:Nat->aq->Value} {st st':St} {w:World} {nl:Option Bool} {es:Nat} {cap:Option Nat} {rows:List (List C)} {b off kk:Nat},us.length=cs.length->ar X m st a w->st.roots H0=.dead ->
  cs.all C.cellOk=true->(∀ (x:Nat) (c:C),cs[x]?=some c->∃ u,us[x]?=some u/\az X m st w c u) ->
  st.node n q=some (.sl true nl es cap rows)->m n q=.slice (some ⟨b,off,none⟩) rows.length kk->im n q i j cs st=some st' ->
  (∃ m',ar X m' st' a (w.setCells b (off+i * es+j) us))/\(cs=[]∨∃ row,rows[i]?=some row/\j+cs.length<=row.length):=by
 intro cs
 induction cs with
 | nil=>
  intro j n q i us m st st' w nl es cap rows b off kk hu H hd hall hr hn hm hp;simp only [im,cb] at hp;subst hp;have:us=[]:=cQ (by simpa using hu);subst this;exact ⟨⟨m,H⟩,.inl rfl⟩
 | cons c cs ih=>
  intro j n q i us m st st' w nl es cap rows b off kk hu H hd hall hr hn hm hp;cases us with
  | nil=>simp at hu
  | cons u us=>
   simp only [im,hn] at hp;split at hp
   case h_2=>simp at hp
   rename_i row hrow;split at hp
   case isFalse=>simp at hp
   rename_i hc;obtain ⟨hj,hnH⟩:=hc;simp only [xV,cw] at hall;obtain ⟨u0,hu0,d,hru⟩:=hr 0 c rfl;simp only [cu,cb] at hu0;subst hu0;have hne:H0≠n:=by omega
   have hc0:row[j]?=some row[j]:=cq hj;obtain ⟨e1,⟨d2,e2⟩,_,rfl,e3⟩:=H.hand hd hall.1 hru;have hn2:(upd st.roots H0 c.frz n).at q=some (.sl true nl es cap rows):=by rw [aO hne.symm]; exact hn
   have e2':rel w (X.S (upd st.roots H0 c.frz) m) L0 (m H0) true d2 [] (upd st.roots H0 c.frz H0) u:=by rw [aC]; exact e2
   have est0:upd (upd (upd st.roots H0 c.frz) n ((upd st.roots H0 c.frz n).turn (fun _=>upd st.roots H0 c.frz H0) (q++[(i,j)]))) H0 .dead=upd st.roots n ((st.roots n).turn (fun _=>c.frz) (q++[(i,j)])):=by
    simp only [aC]
    funext k
    simp only [upd];by_cases k1:k=H0
    ·subst k1; simp [hne,hd]
    ·by_cases k2:k=n<;>simp [k1,k2,hne.symm]
   obtain ⟨P1,P2⟩:ar X (pk m n (q++[(i,j)]) H0) { tmps:=yx n q i j row st.tmps,roots:=upd st.roots n ((st.roots n).turn (fun _=>c.frz) (q++[(i,j)])) } a (w.setCell ⟨b,off+i * es+j,none⟩ u) ∧
     eC X m { tmps:=st.tmps,roots:=upd st.roots H0 c.frz } w (pk m n (q++[(i,j)]) H0) { tmps:=yx n q i j row st.tmps,roots:=upd st.roots n ((st.roots n).turn (fun _=>c.frz) (q++[(i,j)])) } (w.setCell ⟨b,off+i * es+j,none⟩ u) [n,H0]:=by
    by_cases hleaf:zm row[j]=true
    ·have ep:yx n q i j row st.tmps=st.tmps:=by simp [yx,hc0,hleaf]
     rw [ep,<-est0];exact e1.plugN (by intro p'; simp only [aC]; exact oa hall.1) hleaf hne hn2 hrow hc0 hm e2'
    ·have ep:yx n q i j row st.tmps=st.tmps.map (poi fun n' p'=>n' == n && kE (q++[(i,j)]) p'):=by simp [yx,hc0,hleaf]
     rw [ep,<-est0];exact e1.plug (f:=fun n' p'=>n' == n && kE (q++[(i,j)]) p') (by intro p' hp'; simpa using hp') (by intro p' _; simp only [aC]; exact oa hall.1) hne hn2 hrow hc0 hm e2'
   obtain ⟨rows',hrows'⟩:∃ r,r=rows.modify i (·.modify j (fun _=>c.frz)):=⟨_,rfl⟩;have hnode:(St.node { tmps:=yx n q i j row st.tmps,roots:=upd st.roots n ((st.roots n).turn (fun _=>c.frz) (q++[(i,j)])) } n q)=some (.sl true nl es cap rows'):=by
    have hn':(st.roots n).at q=some (.sl true nl es cap rows):=hn;have:=C.at_turn_self (fun x=>x.turn (fun _=>c.frz) [(i,j)]) q [] (st.roots n) _ hn';rw [cS] at this;simp only [St.node,aC];rw [C.turn_append,this,hrows'];simp [C.at,C.turn]
   have hqoff:∀ r,q≠q++[(i,j)]++r:=by intro r hr; have:=congrArg List.length hr; simp at this
   have hlen:rows'.length=rows.length:=by rw [hrows']; simp
   obtain ⟨⟨m',f1⟩,f2⟩:=ih (j:=j+1) (us:=us) (by simpa using hu) P1 (by show upd st.roots n _ H0=.dead; rw [aO hne]; exact hd) hall.2 (by
    intro x c' hx;obtain ⟨v,g1,g2⟩:=hr (x+1) c' (by simpa using hx);have hok:=cn.1 hall.2 c' (cg hx);exact ⟨v,by simpa using g1,P2.relT hok (e3.relT hok g2)⟩) hnode (by rw [qP _ _ _ _ _ hqoff,hlen]; exact hm) hp
   refine ⟨⟨m',?_⟩,.inr ⟨row,hrow,?_⟩⟩
   ·rw [World.setCells];rw [show off+i * es+(j+1)=off+i * es+j+1 by omega] at f1;exact f1
   ·rcases f2 with rfl|⟨row',g1,g2⟩
    ·simp; omega
    ·rw [hrows',AN,if_pos rfl,hrow] at g1;simp only [cx,cb] at g1;rw [<-g1] at g2;simp at g2 ⊢;omega
def V7 {E:Env} (h:ar X m st a w) {t:Nat} {ti:TI} (ht:eP P t ti) {x v:C} {ux uv:Value} (hx:az X m st w x ux) (hv:az X m st w v uv) {st':St} (hp:jN ti x v st=some st') :
  ∃ w',(Instr.storeAt t ux uv).run P w=.ok () w'/\∃ m',ar X m' st' a w':=by
 unfold jN at hp;split at hp
 case h_2=>simp at hp
 rename_i cells n q i j hun;obtain ⟨e1,e2,e3⟩:=DP hv hun;have hrun:∀ {n:Nat} {q:aq} {i j:Nat} {m:Nat->aq->Value} {st:St} {nl:Option Bool} {es:Nat} {cap:Option Nat} {rows:List (List C)} {row:List C} {b off kk:Nat},ar X m st a w->st.node n q=some (.sl true nl es cap rows)->m n q=.slice (some ⟨b,off,none⟩) rows.length kk->rows[i]?=some row->j+cells.length<=row.length ->
   (∀ v∈uv.cells.toList,v.oneCell'=true)->(Instr.storeAt t (.pointer (some ⟨b,off+i * es+j,none⟩)) uv).run P w=.ok () (w.setCells b (off+i * es+j) uv.cells.toList):=by
  intro n q i j m st nl es cap rows row b off kk H hn hm hrow hjl h1;obtain ⟨b',off',k',arr,elem,g1,g2,g3,g4,g5,g6,g7⟩:=FP H hn hrow;rw [hm] at g1;simp only [Value.slice.injEq,cb,Addr.mk.injEq,and_true,true_and] at g1;obtain ⟨⟨rfl,rfl⟩,rfl⟩:=g1;have hil:=(cd.1 hrow).1;have hin:∀ x,x < uv.cells.toList.length->off+i * es+j+x < arr.size:=by
   intro x hx;have:(i+1) * es<=kk * es:=nv _ (by omega);rw [cI] at this;omega
  have hst:=run_storeCells_cells (P:=P) b (off+i * es+j) uv.cells.toList 0 w (by
   intro x hx;simp only [n9];rw [kg g3];simp [hin x hx]) (by
   intro x hx;simp [World.frozen?,g3]) h1
  have hsz:uv.cells.size=ti.size:=by rw [<-e1,<-e2]; simp
  simp only [n9] at hst;simp [Instr.storeAt,Instr.sureAddr,storeVar,ht.size,hsz,hst]
 split at hp
 ·rename_i hall;split at hp
  case isFalse=>simp at hp
  rename_i hd;obtain ⟨nl,es,cap,rows,b,off,kk,f1,f2,rfl⟩:=lN hx;obtain ⟨⟨m',g1⟩,g2⟩:=PC cells e2 h (y9 hd) hall e3 f1 f2 hp;have hone:∀ v∈uv.cells.toList,v.oneCell'=true:=by
   intro v hv;obtain ⟨x,hx⟩:=cC hv;have hlt:x < cells.length:=by rw [<-e2]; exact (cd.1 hx).1
   obtain ⟨v',c1,c2⟩:=e3 x cells[x] (cq hlt);rw [hx] at c1;cases c1;exact Vs c2 (cn.1 hall _ (nx hlt))
  rcases g2 with rfl|⟨row,g3,g4⟩
  ·simp only [im,cb] at hp;subst hp;have hnil:uv.cells.toList=[]:=cQ (by simpa using e2);rw [hnil] at g1;have hsz:uv.cells.size=ti.size:=by rw [<-e1,<-e2]; simp
   refine ⟨w,?_,m',g1⟩;simp [Instr.storeAt,Instr.sureAddr,storeVar,ht.size,hsz,hnil,storeCells]
  ·exact ⟨_,hrun h f1 f2 g3 g4 hone,m',g1⟩
 ·split at hp
  case h_2=>simp at hp
  rename_i st1 n q i j hprep;obtain ⟨m1,g1,g2,g3,g4,g5,g6⟩:=zW cells.length rfl e2 (cr _) h e3 hx hprep;obtain ⟨nl,es,cap,rows,b,off,kk,f1,f2,rfl⟩:=lN g2;obtain ⟨m',k1,k2,k3,k3',k4,k5⟩:=F8 cells.length (us:=uv.cells.toList) e2 (cr _) g1 f1 f2 g3 hp;rcases k5 with k5|⟨row,k5,k6⟩
  ·have hnil:uv.cells.toList=[]:=cQ (by omega);rw [hnil] at k1;have hsz:uv.cells.size=ti.size:=by rw [<-e1,<-e2]; simp
   refine ⟨w,?_,m',k1⟩;simp [Instr.storeAt,Instr.sureAddr,storeVar,ht.size,hsz,hnil,storeCells]
  ·exact ⟨_,hrun g1 f1 f2 k5 k6 g6,m',k1⟩
end
end Go.Abs
