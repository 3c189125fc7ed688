/- A library of readings of Go values with their ownership,and of walks on them. No statement of the program. -/
import Derived.Test.YtekgpnhfhkhpaaaGreatAbsE
set_option linter.unusedSimpArgs false
set_option linter.unusedVariables false
namespace Go.Abs
section
variable {P:Program} {ops:Array Oper} {Q:Exit->Act->World->Prop}
theorem Ed {j:Nat} {oj:Oper} {di:Option Tmp} {v:Value} (hj:ops[j]?=some oj)
  (h1:∀ d,di=some d->d∉oj.looksAt ops) (h2:∀ d,di=some d->oj.dst≠some d) (hsj:∀ cs b,oj.op≠.select cs b)
  (hQ:∀ c a w,Q (.panic c) (a.put di v) w->Q (.panic c) a w) {Y:Act->Prop} (keep:∀ a u,Y a->Y (a.put oj.dst u))
  (keepD:∀ (a:Act) d,Y a->Y { a with defers:=d::a.defers }) {K:Act->World->Prop} {a:Act} {w:World} (hy:Y a) (h:wpOp P ops Q j K (a.put di v) w) :
  wpOp P ops Q j (fun a' w'=>Y a'/\K (a'.put di v) w') a w:=by
 unfold wpOp at *;simp only [hj] at *;rw [wanted_put oj a di v h1] at h;split
 ·rename_i hw;simp only [hw,if_true] at h;rcases h with h|⟨hasks,hlets⟩
  case inr=>exact .inr ⟨by unfold Oper.asks at *; rw [execOp_put oj hsj a di v h1] at hasks; exact hasks,hlets⟩
  refine .inl ?_;unfold Oper.wp at *;rw [execOp_put oj hsj a di v h1] at h;generalize (execOp a.eval oj).run P w=r at *;cases r with
  | ok n w'=>
   cases n<;>simp only [Oper.upon] at h ⊢
   case value u=>exact ⟨keep a u hy,by rw [<-Act.put_comm a v u h2]; exact h⟩
   case skip=>exact ⟨keep a _ hy,by rw [<-Act.put_comm a v undef h2]; exact h⟩
   case defer d=>
    refine ⟨keep _ _ (keepD a d hy),?_⟩;rw [<-Act.put_comm _ v undef h2,<-Act.put_defers];exact h
   case enter f args=>
    refine Calls.mono h fun e w'' he=>?_;cases e with
    | returned u=>exact ⟨keep a u hy,by rw [<-Act.put_comm a v u h2]; exact he⟩
    | panicked c=>exact hQ _ _ _ he
    | outgrown=>exact he
   case row row args=>exact Rows.mono h fun u w'' he=>⟨keep a u hy,by rw [<-Act.put_comm a v u h2]; exact he⟩
  | halt x w'=>
   cases x<;>simp only [Oper.upon] at h ⊢
   case panic u=>exact hQ _ _ _ h
 ·rename_i hw;simp only [hw] at h;exact ⟨keep a _ hy,by rw [<-Act.put_comm a v undef h2]; exact h⟩
def wpAnyR (P:Program) (ops:Array Oper) (Q:Exit->Act->World->Prop) (R:Nat->World->World->Prop):Nat->Array Bool->Act->World->Prop
 | 0,listed,a,w=>Region.ready .any ops listed=[]/\Q .normal a w
 | fuel+1,listed,a,w=>(Region.ready .any ops listed=[]->Q .normal a w) ∧
  ∀ i∈Region.ready .any ops listed,wpOp P ops Q i (fun a' w'=>R i w w'/\wpAnyR P ops Q R fuel (listed.setIfInBounds i true) a' w') a w
variable {R:Nat->World->World->Prop}
theorem B2:∀ (fuel:Nat) (listed:Array Bool) (a:Act) (w:World),wpAnyR P ops Q R fuel listed a w->wpAny P .any ops Q fuel listed a w:=by
 intro fuel
 induction fuel with
 | zero=>intro listed a w h; exact h
 | succ fuel ih=>intro listed a w h; exact ⟨h.1,fun i hi=>wpOp_mono (fun a' w' h'=>ih _ _ _ h'.2) (h.2 i hi)⟩
def Down (ops:Array Oper) (listed:Array Bool):Prop:=∀ i o e,listed.getD i false=true->ops[i]?=some o->e∈o.after->Region.binds .any e=true->listed.getD e.on false=true
theorem Down.ready {listed:Array Bool} {i:Nat} (h:Down ops listed) (hi:i∈Region.ready .any ops listed):Down ops (listed.setIfInBounds i true):=by
 obtain ⟨_,o,ho,hall⟩:=mem_ready.1 hi;intro k ok e hk hok he hb;by_cases e1:i=k
 ·subst e1;rw [ho] at hok;cases hok;exact getD_set_true (hall e he hb)
 ·rw [getD_set_ne false e1] at hk;exact getD_set_true (h k ok e hk hok he hb)
theorem w4 {o:Oper} {f:Nat->Option Bool} (h:o.guard=none):Region.wanted o f=true:=by
 simp [Region.wanted,h]
theorem Bj {i:Nat} {oi:Oper} {v:Value} (hi:ops[i]?=some oi) (hgi:oi.guard=none) (hsel:∀ (j:Nat) (o:Oper) cs b,ops[j]?=some o->o.op≠.select cs b)
  (hQ:∀ c a w,Q (.panic c) (a.put oi.dst v) w->Q (.panic c) a w) (hR0:∀ w,R i w w) {Sx:World->Prop}
  (hS:∀ listed j w w',Down ops listed->listed.getD i true=false->j∈Region.ready .any ops listed->j≠i->R j w w'->Sx w->Sx w') :
  ∀ (fuel:Nat) (listed:Array Bool) (a:Act) (w:World),Down ops listed ->
   (∀ j oj,ops[j]?=some oj->j≠i->listed.getD j true=false->(∀ e∈oj.after,Region.binds .any e=true->e.on≠i)->oi.apart ops oj=true) ->
   i∈Region.ready .any ops listed->Sx w->(∀ w,Sx w->(execOp a.eval oi).run P w=.ok (.value v) w) ->
   wpAnyR P ops Q R fuel (listed.setIfInBounds i true) (a.put oi.dst v) w->wpAnyR P ops Q R (fuel+1) listed a w:=by
 have now:∀ {fuel:Nat} {listed:Array Bool} {a:Act} {w:World},Sx w->(∀ w,Sx w->(execOp a.eval oi).run P w=.ok (.value v) w)->wpAnyR P ops Q R fuel (listed.setIfInBounds i true) (a.put oi.dst v) w ->
   wpOp P ops Q i (fun a' w'=>R i w w'/\wpAnyR P ops Q R fuel (listed.setIfInBounds i true) a' w') a w:=by
  intro fuel listed a w hs hy H;unfold wpOp;simp only [hi];rw [if_pos (w4 hgi)];simp only [Oper.wp,hy w hs,Oper.upon];exact .inl ⟨hR0 w,H⟩
 intro fuel
 induction fuel with
 | zero=>
  intro listed a w hd _ hr hs hy H;refine ⟨fun h=>(by rw [h] at hr; cases hr),fun j hj=>?_⟩;by_cases hji:j=i
  ·subst hji; exact now hs hy H
  ·have:=ready_mono hj hji;rw [H.1] at this;cases this
 | succ fuel ih=>
  intro listed a w hd hfree hr hs hy H;refine ⟨fun h=>(by rw [h] at hr; cases hr),fun j hj=>?_⟩;by_cases hji:j=i
  ·subst hji; exact now hs hy H
  ·have h1:=H.2 j (ready_mono hj hji);obtain ⟨hjun,oj,hoj,hall⟩:=mem_ready.1 hj;have hiun:=(mem_ready.1 hr).1;have hnot:∀ e∈oj.after,Region.binds .any e=true->e.on≠i:=fun e he hb heq=>by
    have h1:=hall e he hb;rw [heq] at h1;rw [mN h1] at hiun;cases hiun
   have hap:=hfree j oj hoj hji hjun hnot;obtain ⟨p1,p2,p3⟩:=Oper.apart_spec hap;have h2:=Ed (Y:=fun a=>∀ w,Sx w->(execOp a.eval oi).run P w=.ok (.value v) w) hoj p1 p2 (fun cs b=>hsel j oj cs b hoj) hQ
    (fun a u hy w hs=>by rw [execOp_put oi (fun cs b=>hsel i oi cs b hi) a oj.dst u p3]; exact hy w hs) (fun a d hy=>hy) hy h1
   have hfree':∀ k ok,ops[k]?=some ok->k≠i->(listed.setIfInBounds j true).getD k true=false ->
     (∀ e∈ok.after,Region.binds .any e=true->e.on≠i)->oi.apart ops ok=true:=fun k ok hk hki hun hno=>by
    refine hfree k ok hk hki ?_ hno;by_cases hjk:j=k
    ·subst hjk; exact hjun
    ·rw [getD_set_ne true hjk] at hun; exact hun
   refine wpOp_mono (fun a' w' h3=>⟨h3.2.1,ih (listed.setIfInBounds j true) a' w' (hd.ready hj) hfree' (ready_mono hr (Ne.symm hji)) (hS listed j w w' hd hiun hj hji h3.2.1 hs) h3.1 ?_⟩) h2;rw [Array.setIfInBounds_comm _ _ hji];exact h3.2.2
@[go_sem] theorem Hx {k:Nat}:(∀ c:Nat,c∈(some k:Option Nat)->k+1<=c)=False:=by
 simp only [eq_iff_iff,iff_false];intro h;have:=h k rfl;omega
def chainB (ops:Array Oper):List Nat->Array Bool->Bool
 | [],listed=>(Region.ready .any ops listed).isEmpty
 | c::l,listed=>(Region.ready .any ops listed == [c]) && chainB ops l (listed.setIfInBounds c true)
def treeB (ops:Array Oper) (C2:List Nat):Nat->List (List Nat)->Array Bool->Bool
 | 0,Os,listed=>!Os.isEmpty && (Os.all (·.isEmpty) && chainB ops C2 listed)
 | n+1,Os,listed=>!Os.isEmpty && (!(Region.ready .any ops listed).isEmpty && (Region.ready .any ops listed).all fun i=>treeB ops C2 n ((Os.filter fun o=>o.head? == some i).map List.tail) (listed.setIfInBounds i true))
def stillB (ops:Array Oper) (j:Nat):Bool:=match ops[j]? with
 | some o=>stillO o
 | none=>false
def newB (ops:Array Oper) (j:Nat):Bool:=match ops[j]? with
 | some o=>newO o
 | none=>false
def fastN (ops:Array Oper) (C:List Nat) (i:Nat):Bool:=C.all fun j=>(stillB ops j || newB ops j) || ordB ops ops.size i j
def fastK (ops:Array Oper) (C:List Nat) (i:Nat):Bool:=C.all fun j=>stillB ops j || ordB ops ops.size i j
def fastL (ops:Array Oper) (C:List Nat) (i:Nat):Bool:=C.all fun j=>ordB ops ops.size i j
def chkT1 (ops:Array Oper) (C1:List Nat) (O2:List (List Nat)) (C2:List Nat):List Nat->Array Bool->Bool
 | [],listed=>treeB ops C2 C1.length (C1::O2) listed
 | i::T,listed=>(match ops[i]? with
  | some o=>quietT o && ((Region.ready .any ops listed).contains i && (Region.free .any ops listed i && ((!(isLd o) || fastL ops C2 i) && (i::T).all fun k=>match ops[k]? with
   | some ok=>match ok.dst with
    | some d=>!((o.looksAt ops).contains d)
    | none=>true
   | none=>false)))
  | none=>false) && chkT1 ops C1 O2 C2 T (listed.setIfInBounds i true)
def chkTC (ops:Array Oper) (T C1:List Nat) (O2:List (List Nat)) (C2:List Nat):Bool:=
 Region.noSelect ops && (ops.all (·.guard.isNone) && (T.length+(C1.length+C2.length) == ops.size &&
  ((List.range ops.size).all (fun j=>T.contains j || (C1.contains j || C2.contains j)) && ((C1++C2).all (fun j=>!(T.contains j)) && (C2.all (fun j=>!(C1.contains j)) && (O2.all (fun o=>o.all fun j=>C1.contains j) && chkT1 ops C1 O2 C2 T (Array.replicate ops.size false)))))))
def ownV (V:List Nat) (s:St):Bool:=V.all fun n=>(s.roots n).isOwn
def chkS (ops:Array Oper) (T C1 V:List Nat) (s:St):Bool:=
 ownV V s && (V.all (fun n=>Nat.blt n H0 && C1.all fun j=>match ops[j]? with|some o=>o.dst != some n|none=>false) &&
  T.all fun i=>match ops[i]? with
   | some o=>!(isLd o) || (fastK ops C1 i || match o.op with
    | .load _ x=>match s.ev x with
     | .pref n p _ _=>fastN ops C1 i || (p.isEmpty && V.contains n)
     | _=>false
    | _=>false)
   | none=>false)
def HopTo (E:Env) (ops:Array Oper) (V:List Nat):List Nat->St->St->Prop
 | [],s,sC=>Weak s sC
 | i::l,s,sC=>∃ o s',ops[i]?=some o/\chkA E o s=true/\exe E o s=some s'/\ownV V s'=true/\HopTo E ops V l s' sC
def HopsTo (E:Env) (ops:Array Oper) (V:List Nat):List (List Nat)->St->St->Prop
 | [],_,_=>True
 | o::os,s,sC=>HopTo E ops V o s sC/\HopsTo E ops V os s sC
def Hop (E:Env) (ops:Array Oper) (V:List Nat) (O2:List (List Nat)) (C2:List Nat) (Z:St->Prop) (s0:St):List Nat->St->Prop
 | [],s=>∃ sC,Weak s sC/\HopsTo E ops V O2 s0 sC/\RX E false (gdOf ops) (barC ops) 0 (pickO ops C2) sC Z
 | i::l,s=>∃ o s',ops[i]?=some o/\chkA E o s=true/\exe E o s=some s'/\ownV V s'=true/\Hop E ops V O2 C2 Z s0 l s'
theorem j5 {E:Env} {V C2:List Nat} {Z:St->Prop} {s0 s:St} (h:RX E false (gdOf ops) (barC ops) 0 (pickO ops C2) s Z):Hop E ops V [] C2 Z s0 [] s:=⟨s,fun _ _ _ h=>h,trivial,h⟩
theorem uQ {E:Env} {V C2:List Nat} {O2:List (List Nat)} {Z:St->Prop} {s0 s sC:St} (hw:Weak s sC) (h1:HopsTo E ops V O2 s0 sC) (h:RX E false (gdOf ops) (barC ops) 0 (pickO ops C2) sC Z):Hop E ops V O2 C2 Z s0 [] s:=⟨sC,hw,h1,h⟩
theorem BK {E:Env} {s:St} {i:Nat} {Y:St->Prop} (h1:(match ops[i]? with|some o=>chkA E o s|none=>false)=true)
  (h2:RX E false (gdOf ops) (barC ops) 0 (pickO ops [i]) s Y):∃ o s',ops[i]?=some o/\chkA E o s=true/\exe E o s=some s'/\Y s':=by
 cases ho:ops[i]? with
 | none=>rw [ho] at h1; cases h1
 | some o=>
  rw [ho] at h1;simp only [pickO,ho] at h2;obtain ⟨s',g1,g2⟩:=RX_run _ _ _ _ h2;have hg:o.guard=none:=by
   simp only [chkA,Bool.and_eq_true,Option.isNone_iff_eq_none] at h1;exact h1.1
  simp only [runL,stepO,hg] at g1;refine ⟨o,s',rfl,h1,?_,g2⟩;split at g1
  ·rename_i s1 hs1; rw [hs1]; exact g1
  ·cases g1
theorem aZ {E:Env} {V C2:List Nat} {O2:List (List Nat)} {Z:St->Prop} {s0 s:St} {i:Nat} {l:List Nat} (h1:(match ops[i]? with|some o=>chkA E o s|none=>false)=true)
  (h2:∀ Y:St->Prop,(∀ s',ownV V s'=true->Hop E ops V O2 C2 Z s0 l s'->Y s')->RX E false (gdOf ops) (barC ops) 0 (pickO ops [i]) s Y):Hop E ops V O2 C2 Z s0 (i::l) s:=by
 obtain ⟨o,s',a,b,c,d,e⟩:=BK h1 (h2 (fun s'=>ownV V s'=true/\Hop E ops V O2 C2 Z s0 l s') fun s' a b=>⟨a,b⟩);exact ⟨o,s',a,b,c,d,e⟩
theorem bH {E:Env} {V:List Nat} {s sC:St} {i:Nat} {l:List Nat} (h1:(match ops[i]? with|some o=>chkA E o s|none=>false)=true)
  (h2:∀ Y:St->Prop,(∀ s',ownV V s'=true->HopTo E ops V l s' sC->Y s')->RX E false (gdOf ops) (barC ops) 0 (pickO ops [i]) s Y):HopTo E ops V (i::l) s sC:=by
 obtain ⟨o,s',a,b,c,d,e⟩:=BK h1 (h2 (fun s'=>ownV V s'=true/\HopTo E ops V l s' sC) fun s' a b=>⟨a,b⟩);exact ⟨o,s',a,b,c,d,e⟩
theorem oh {E:Env} {V:List Nat} {s sC:St} (h:Weak s sC):HopTo E ops V [] s sC:=h
theorem Hop_to {E:Env} {V C2:List Nat} {O2:List (List Nat)} {Z:St->Prop} {s0:St}:∀ (l:List Nat) {s:St},Hop E ops V O2 C2 Z s0 l s->∃ sC,HopTo E ops V l s sC/\HopsTo E ops V O2 s0 sC/\RX E false (gdOf ops) (barC ops) 0 (pickO ops C2) sC Z
 | [],s,⟨sC,hw,h1,h2⟩=>⟨sC,hw,h1,h2⟩
 | i::l,s,⟨o,s',a,b,c,d,e⟩=>by
  obtain ⟨sC,e1,e2,e3⟩:=Hop_to l e;exact ⟨sC,⟨o,s',a,b,c,d,e1⟩,e2,e3⟩
theorem zd {E:Env} {V:List Nat} {s sC:St}:∀ {O2:List (List Nat)},HopsTo E ops V O2 s sC->∀ o∈O2,HopTo E ops V o s sC
 | [],_,o,ho=>by cases ho
 | o::os,h,q,hq=>by
  rcases List.mem_cons.1 hq with rfl|hq
  ·exact h.1
  ·exact zd h.2 q hq
section
variable {E:Env} {X:Ctx}
theorem wb {o:Oper} {l:List Oper} {s sf:St} (h:runL E ops (o::l) s=some sf):∃ s1,stepO E ops o s=some s1/\runL E ops l s1=some sf:=by
 simp only [runL] at h;split at h
 ·rename_i s1 h1; exact ⟨s1,h1,h⟩
 ·cases h
theorem chain2 (hT:TOk P E) (hG:GOk P E) {sf:St} (hq:∀ a w,Inv X sf a w->Q .normal a w):∀ (C2:List Nat) {listed:Array Bool} {st:St} {a:Act} {w:World},
  (∀ j∈C2,∀ w w',R j w w')->Inv X st a w->runL E ops (pickO ops C2) st=some sf->chainB ops C2 listed=true->wpAnyR P ops Q R C2.length listed a w:=by
 intro C2
 induction C2 with
 | nil=>
  intro listed st a w _ H h hc;simp only [chainB,List.isEmpty_iff] at hc;simp only [pickO,runL,Option.some.injEq] at h;subst h;exact ⟨hc,hq a w H⟩
 | cons c l ih=>
  intro listed st a w hR H h hc;simp only [chainB,Bool.and_eq_true,beq_iff_eq] at hc;have hm:c∈Region.ready .any ops listed:=by rw [hc.1]; simp
  obtain ⟨_,o,ho,_⟩:=mem_ready.1 hm;simp only [pickO,ho] at h;obtain ⟨s1,h1,h2⟩:=wb h;refine ⟨fun hr=>(by rw [hr] at hm; cases hm),fun i hi=>?_⟩;rw [hc.1] at hi;simp only [List.mem_singleton] at hi;subst hi;exact wA hT hG H ho h1 fun a' w' H'=>⟨hR i (by simp) _ _,ih (fun j hj=>hR j (by simp [hj])) H' h2 hc.2⟩
theorem own_at {c:C} (h:c.isOwn=true):OwnAt c []:=by simp [OwnAt,C.at,h]
theorem treeR (hT:TOk P E) (hG:GOk P E) {V C1 C2:List Nat} {sC:St} {Bs:Nat->Prop} (hR:∀ j∈C1,∀ w w':World,(∀ b,Bs b->w'.heap[b]?=w.heap[b]?)->(stillB ops j=true->w'=w)->(newB ops j=true->∀ b,b < w.heap.size->w'.heap[b]?=w.heap[b]?)->R j w w') (hd:∀ j∈C1,∀ o,ops[j]?=some o->∀ n∈V,o.dst≠some n) (hV:∀ n∈V,n < H0)
  (hend:∀ listed a w,Inv X sC a w->chainB ops C2 listed=true->wpAnyR P ops Q R C2.length listed a w):∀ (n:Nat) (Os:List (List Nat)) {listed:Array Bool} {m:Nat->Path->Value} {st:St} {a:Act} {w:World},
  (∀ o∈Os,∀ j∈o,j∈C1)->InvM X m st a w->ownV V st=true->(∀ b,Bs b->∃ n∈V,blk (m n [])=some b)->(∀ o∈Os,HopTo E ops V o st sC)->treeB ops C2 n Os listed=true->wpAnyR P ops Q R (n+C2.length) listed a w:=by
 intro n
 induction n with
 | zero=>
  intro Os listed m st a w _ H _ _ h hc;simp only [treeB,Bool.and_eq_true,Bool.not_eq_true',List.isEmpty_eq_false_iff] at hc;obtain ⟨h1,h2,h3⟩:=hc;obtain ⟨o,ho⟩:=List.exists_mem_of_ne_nil _ h1;have he:o=[]:=by simpa using List.all_eq_true.1 h2 o ho
  have:=h o ho;rw [he] at this;rw [Nat.zero_add];exact hend listed a w (this X a w ⟨m,H⟩) h3
 | succ n ih=>
  intro Os listed m st a w hO H hown hb h hc;simp only [treeB,Bool.and_eq_true,Bool.not_eq_true',List.isEmpty_eq_false_iff] at hc;obtain ⟨_,hne,hall⟩:=hc;rw [show n+1+C2.length=n+C2.length+1 from by omega];refine ⟨fun hr=>absurd hr hne,fun i hi=>?_⟩;have hsub:=List.all_eq_true.1 hall i hi;have hOi:∀ o∈(Os.filter fun o=>o.head? == some i).map List.tail,(i::o)∈Os:=by
   intro o ho;simp only [List.mem_map,List.mem_filter,beq_iff_eq] at ho;obtain ⟨q,⟨h1,h2⟩,rfl⟩:=ho;cases q with
   | nil=>cases h2
   | cons x q=>
    simp only [List.head?_cons,Option.some.injEq] at h2;subst h2;exact h1
  have hex:∃ o,o∈(Os.filter fun o=>o.head? == some i).map List.tail:=by
   refine List.exists_mem_of_ne_nil _ fun e=>?_;rw [e] at hsub;cases n<;>simp [treeB] at hsub
  obtain ⟨o0,ho0⟩:=hex;obtain ⟨o,s',ho,hca,he,hown',_⟩:=h _ (hOi o0 ho0);have hg:o.guard=none:=by
   simp only [chkA,Bool.and_eq_true,Option.isNone_iff_eq_none] at hca;exact hca.1
  have hiC:i∈C1:=hO _ (hOi o0 ho0) i (by simp);unfold wpOp;simp only [ho];rw [if_pos (w4 hg)];refine .inl (Oper.wp_mono (fun a' w' h'=>?_) (exeK hT hG H he hca));obtain ⟨m',H',hk,hstill,hnew⟩:=h';have hkeep:∀ n∈V,m' n []=m n []/\∀ b,blk (m n [])=some b->w'.heap[b]?=w.heap[b]?:=fun n hn=>
   hk n (hV n hn) (hd i hiC o ho n hn) (own_at (List.all_eq_true.1 hown n hn)) (own_at (List.all_eq_true.1 hown' n hn))
  refine ⟨hR i hiC _ _ (fun b hB=>?_) (fun q=>hstill (by simpa only [stillB,ho] using q)) (fun q=>hnew (by simpa only [newB,ho] using q)),ih _ (fun q hq j hj=>hO _ (hOi q hq) j (by simp [hj])) H' hown' (fun b hB=>?_) (fun q hq=>?_) hsub⟩
  ·obtain ⟨n,hn,e⟩:=hb b hB;exact (hkeep n hn).2 b e
  ·obtain ⟨n,hn,e⟩:=hb b hB;exact ⟨n,hn,by rw [(hkeep n hn).1]; exact e⟩
  ·obtain ⟨o2,s2,g1,_,g3,_,g5⟩:=h _ (hOi q hq);rw [ho] at g1;cases g1;rw [he] at g3;cases g3;exact g5
theorem zU {o:Oper} (hg:o.guard=none) {st st':St} (h:stepO E ops o st=some st'):exe E o st=some st':=by
 simpa [stepO,hg] using h
theorem sg {o:Oper} (h:quietT o=true):o.guard=none:=by
 simp only [quietT,Bool.and_eq_true,Option.isNone_iff_eq_none] at h;exact h.1
theorem ev_put {st:St} {d:Option Tmp} {c:C} {x:Operand} (h:∀ t,d=some t->x≠.tmp t):(st.put d c).ev x=st.ev x:=by
 cases d with
 | none=>rfl
 | some d=>
  cases x with
  | tmp t=>
   have:d≠t:=fun e=>h d rfl (by rw [e]);simp [St.ev,St.put,List.getElem?_set_ne this]
  | _=>rfl
theorem zT {o:Oper} {x:Operand} (hx:x∈o.op.operands) {t:Tmp} (e:x=.tmp t):t∈o.looksAt ops:=by
 subst e;exact List.mem_append_left _ (List.mem_filterMap.2 ⟨.tmp t,by simpa using hx,rfl⟩)
theorem EV:∀ (T:List Nat) {st sT:St} {o:Oper},T.all (fun k=>match ops[k]? with|some ok=>quietT ok && (match ok.dst with|some d=>!((o.looksAt ops).contains d)|none=>true)|none=>false)=true ->
  runL E ops (pickO ops T) st=some sT->sT.roots=st.roots/\∀ x∈o.op.operands,sT.ev x=st.ev x:=by
 intro T
 induction T with
 | nil=>
  intro st sT o _ h;simp only [pickO,runL,Option.some.injEq] at h;subst h;exact ⟨rfl,fun _ _=>rfl⟩
 | cons k T ih=>
  intro st sT o hall h;simp only [List.all_cons,Bool.and_eq_true] at hall;obtain ⟨h1,h2⟩:=hall;split at h1
  case h_2=>cases h1
  rename_i ok hok;simp only [Bool.and_eq_true] at h1;simp only [pickO,hok] at h;obtain ⟨s1,g1,g2⟩:=wb h;obtain ⟨c,_,rfl⟩:=wk h1.1 (zU (sg h1.1) g1);obtain ⟨e1,e2⟩:=ih h2 g2;refine ⟨e1.trans (by cases ok.dst<;>rfl),fun x hx=>(e2 x hx).trans (ev_put fun t ht e=>?_)⟩
  have:=h1.2;rw [ht] at this;simp only [Bool.not_eq_true',<-Bool.not_eq_true] at this;exact this (by simpa using zT hx e)
theorem BQ {C1 C2:List Nat} {O2:List (List Nat)}:∀ (T:List Nat) {listed:Array Bool},chkT1 ops C1 O2 C2 T listed=true->∀ i∈T,∃ o,ops[i]?=some o/\quietT o=true:=by
 intro T
 induction T with
 | nil=>intro _ _ i hi; cases hi
 | cons k T ih=>
  intro listed h i hi;simp only [chkT1,Bool.and_eq_true] at h;rcases List.mem_cons.1 hi with rfl|hi
  ·have h1:=h.1;split at h1
   ·rename_i o ho; simp only [Bool.and_eq_true] at h1; exact ⟨o,ho,h1.1⟩
   ·cases h1
  ·exact ih h.2 i hi
theorem T_run (hT:TOk P E) {T0 C1 C2 V:List Nat} {O2:List (List Nat)} (hsel:Region.noSelect ops=true) (hcov:(List.range ops.size).all (fun j=>T0.contains j || (C1.contains j || C2.contains j))=true)
  (hdis:(C1++C2).all (fun j=>!(T0.contains j))=true) (hQ:∀ c a w,¬ Q (.panic c) a w) {m:Nat->Path->Value} {sT:St} {w:World} {fuel:Nat} {Bs:Nat->Prop}
  (hB:∀ n∈V,∀ b,blk (m n [])=some b->Bs b)
  (hR:∀ j w w',R j w w'↔(if T0.contains j=true then w'=w else if C1.contains j=true then (∀ b,Bs b->w'.heap[b]?=w.heap[b]?)/\(stillB ops j=true->w'=w)/\(newB ops j=true->∀ b,b < w.heap.size->w'.heap[b]?=w.heap[b]?) else True)):∀ (T:List Nat) {listed:Array Bool} {st:St} {a:Act},
  (∀ i∈T,i∈T0)->Down ops listed->InvM X m st a w->runL E ops (pickO ops T) st=some sT->chkT1 ops C1 O2 C2 T listed=true ->
  (T.all fun i=>match ops[i]? with
   | some o=>!(isLd o) || (fastK ops C1 i || match o.op with
    | .load _ x=>match sT.ev x with
     | .pref n p _ _=>fastN ops C1 i || (p.isEmpty && V.contains n)
     | _=>false
    | _=>false)
   | none=>false)=true ->
  (∀ listed a',InvM X m sT a' w->treeB ops C2 C1.length (C1::O2) listed=true->wpAnyR P ops Q R fuel listed a' w)->wpAnyR P ops Q R (T.length+fuel) listed a w:=by
 intro T
 induction T with
 | nil=>
  intro listed st a _ _ H h hc _ hk;simp only [pickO,runL,Option.some.injEq] at h;subst h;simpa using hk listed a H hc
 | cons i T ih=>
  intro listed st a hT0 hd H h hc hs hk;have hq:=BQ (i::T) hc;simp only [chkT1,Bool.and_eq_true] at hc;obtain ⟨hc1,hc2⟩:=hc;split at hc1
  case h_2=>cases hc1
  rename_i o ho;simp only [Bool.and_eq_true] at hc1;obtain ⟨hqt,hrd,hfr,hld,hno⟩:=hc1;simp only [List.all_cons,Bool.and_eq_true,ho] at hs;obtain ⟨hs1,hs2⟩:=hs;simp only [pickO,ho] at h;obtain ⟨s1,g1,g2⟩:=wb h;obtain ⟨c,gq,rfl⟩:=wk hqt (zU (sg hqt) g1);obtain ⟨v,e1,e2⟩:=qop_ok hT H gq;have hrd:i∈Region.ready .any ops listed:=by simpa using hrd
  obtain ⟨dd,e2⟩:=e2;have next:=ih (fun j hj=>hT0 j (by simp [hj])) (hd.ready hrd) (H.put o.dst e2) g2 hc2 hs2 hk
  rw [show (i::T).length+fuel=T.length+fuel+1 from by simp; omega];have hiT:T0.contains i=true:=by simpa using hT0 i (by simp)
  have hready:∀ (l:Array Bool) j,Down ops l->l.getD i true=false->j∈Region.ready .any ops l->fastK ops C1 i=true->C1.contains j=true->stillB ops j=true:=by
   intro l j hdl hun hj hf hcj;have hor:=List.all_eq_true.1 hf j (by simpa using hcj);rw [Bool.or_eq_true] at hor;rcases hor with hor|hor
   ·exact hor
   ·exfalso;obtain ⟨_,oj,hoj,hall⟩:=mem_ready.1 hj;rw [mN (rH hdl ops.size i j oj hoj hall hor)] at hun;cases hun
  have hready2:∀ (l:Array Bool) j,Down ops l->l.getD i true=false->j∈Region.ready .any ops l->fastL ops C2 i=true->C2.contains j=false:=by
   intro l j hdl hun hj hf;cases hcj:C2.contains j with
   | false=>rfl
   | true=>
    exfalso;have hor:ordB ops ops.size i j=true:=List.all_eq_true.1 hf j (by simpa using hcj);obtain ⟨_,oj,hoj,hall⟩:=mem_ready.1 hj;rw [mN (rH hdl ops.size i j oj hoj hall hor)] at hun;cases hun
  have hcover:∀ (l:Array Bool) j,j∈Region.ready .any ops l->T0.contains j=false->C1.contains j=false->C2.contains j=true:=by
   intro l j hj h1 h2;obtain ⟨_,oj,hoj,_⟩:=mem_ready.1 hj;have:=List.all_eq_true.1 hcov j (by simpa using (Array.getElem?_eq_some_iff.1 hoj).1);simpa only [h1,h2,Bool.false_or] using this
  have first:∀ (Sx:World->Prop),(∀ listed j w w',Down ops listed->listed.getD i true=false->j∈Region.ready .any ops listed->j≠i->R j w w'->Sx w->Sx w')->Sx w ->
    (∀ w,Sx w->(execOp a.eval o).run P w=.ok (.value v) w)->wpAnyR P ops Q R (T.length+fuel+1) listed a w:=fun Sx h1 h2 h3=>
   Bj ho (sg hqt) (Region.noSelect_spec hsel) (fun c a w hp=>(hQ c _ _ hp).elim) (fun w=>(hR i w w).2 (by rw [if_pos hiT])) h1 _ _ _ _ hd (Region.free_spec ho hfr) hrd h2 h3 next
  cases hl:isLd o with
  | false=>exact first (fun _=>True) (fun _ _ _ _ _ _ _ _ _ _=>trivial) trivial (fun w2 _=>DZ hT H hqt hl gq e1 w2)
  | true=>
   simp only [hl,Bool.not_true,Bool.false_or] at hld hs1;cases hf:fastK ops C1 i with
   | true=>
    refine first (fun w2=>w2=w) ?_ rfl (fun w2 e=>by rw [e]; exact e1)
    intro l j w1 w2 hdl hun hj hji hRj hw;have h2:=hready2 l j hdl hun hj hld;cases h0:T0.contains j with
    | true=>rw [hR,if_pos h0] at hRj; exact hRj.trans hw
    | false=>
     cases h1:C1.contains j with
     | false=>rw [hcover l j hj h0 h1] at h2; cases h2
     | true=>
      rw [hR,if_neg (by rw [h0]; simp),if_pos h1] at hRj;exact (hRj.2.1 (hready l j hdl hun hj hf h1)).trans hw
   | false=>
    simp only [hf,Bool.false_or] at hs1;split at hs1
    case h_2=>cases hs1
    rename_i t x hop;split at hs1
    case h_2=>cases hs1
    rename_i n pp ii jj hev;have hquiet:T.all (fun k=>match ops[k]? with|some ok=>quietT ok && (match ok.dst with|some d=>!((o.looksAt ops).contains d)|none=>true)|none=>false)=true:=by
     rw [List.all_eq_true] at hno ⊢;intro k hk';have h1:=hno k (by simp [hk']);obtain ⟨ok,hok,hqk⟩:=hq k (by simp [hk']);rw [hok] at h1 ⊢;simp only at h1 ⊢;rw [hqk];simpa using h1
    have hnoself:∀ tt,o.dst=some tt->x≠.tmp tt:=by
     intro tt htt e;have h1:=List.all_eq_true.1 hno i (by simp);rw [ho] at h1;simp only [htt,Bool.not_eq_true',<-Bool.not_eq_true] at h1;exact h1 (by simpa using zT (by rw [hop]; simp [Op.operands]) e)
    obtain ⟨_,q2⟩:=EV T hquiet g2;have hevx:st.ev x=.pref n pp ii jj:=by
     rw [<-ev_put (d:=o.dst) (c:=c) hnoself,<-q2 x (by rw [hop]; simp [Op.operands])];exact hev
    simp only [hop,qop] at gq;obtain ⟨ti,p1,p2⟩:=Option.bind_eq_some_iff.1 gq;rw [hevx] at p2;have hx:=ev_ok H x;rw [hevx] at hx;have e1':(Instr.loadAt t (a.eval x)).run P w=.ok v w:=by
     simp only [execOp,hop,Sem.run_bind] at e1;cases hr:(Instr.loadAt t (a.eval x)).run P w with
     | ok v' w'=>
      rw [hr] at e1;simp only [Result.andThen_ok,Sem.run_pure,Result.ok.injEq,Next.value.injEq] at e1;rw [e1.1,e1.2]
     | halt e w'=>rw [hr] at e1; cases e1
    have one:∀ b:Nat,(∀ w2:World,w2.heap[b]?=w.heap[b]?->(Instr.loadAt t (a.eval x)).run P w2=.ok v w2)->∀ w2:World,w2.heap[b]?=w.heap[b]?->(execOp a.eval o).run P w2=.ok (.value v) w2:=by
     intro b b3 w2 hw2;simp only [execOp,hop,Sem.run_bind,b3 w2 hw2,Result.andThen_ok,Sem.run_pure]
    cases hN:fastN ops C1 i with
    | true=>
     obtain ⟨b,y,b1,b3⟩:=Dg hT H (hT t ti p1) hx p2 e1';refine first (fun w2=>w2.heap[b]?=w.heap[b]?) ?_ rfl (one b b3)
     intro l j w1 w2 hdl hun hj hji hRj hw;have h2:=hready2 l j hdl hun hj hld;rw [hR] at hRj;cases h0:T0.contains j with
     | true=>rw [if_pos h0] at hRj; rw [hRj]; exact hw
     | false=>
      rw [if_neg (by rw [h0]; simp)] at hRj;cases h1:C1.contains j with
      | false=>rw [hcover l j hj h0 h1] at h2; cases h2
      | true=>
       rw [if_pos h1] at hRj;have hor:=List.all_eq_true.1 hN j (by simpa using h1);rw [Bool.or_eq_true,Bool.or_eq_true] at hor;rcases hor with (hor|hor)|hor
       ·rw [hRj.2.1 hor]; exact hw
       ·refine (hRj.2.2 hor b ?_).trans hw;rw [b1] at hw;exact (Array.getElem?_eq_some_iff.1 hw).1
       ·exfalso;obtain ⟨_,oj,hoj,hall⟩:=mem_ready.1 hj;rw [mN (rH hdl ops.size i j oj hoj hall hor)] at hun;cases hun
    | false=>
     simp only [hN,Bool.false_or,Bool.and_eq_true,List.isEmpty_iff] at hs1;obtain ⟨hpp,hs1⟩:=hs1;subst hpp;obtain ⟨b,b1,_,b3⟩:=Di hT H (hT t ti p1) hx p2 e1';refine first (fun w2=>w2.heap[b]?=w.heap[b]?) ?_ rfl (one b b3)
     intro l j w1 w2 hdl hun hj hji hRj hw;have h2:=hready2 l j hdl hun hj hld;rw [hR] at hRj;cases h0:T0.contains j with
     | true=>rw [if_pos h0] at hRj; rw [hRj]; exact hw
     | false=>
      rw [if_neg (by rw [h0]; simp)] at hRj;cases h1:C1.contains j with
      | true=>rw [if_pos h1] at hRj; exact (hRj.1 b (hB n (by simpa using hs1) b b1)).trans hw
      | false=>rw [hcover l j hj h0 h1] at h2; cases h2
variable {st:St} {K:List Fm}
theorem dS {Q:Exit->St->Prop} {id:Nat} {ops:Array Oper} (T C1:List Nat) (O2:List (List Nat)) (C2 V:List Nat) (hc:chkTC ops T C1 O2 C2=true)
  (h:∀ Z:St->Prop,(∀ s,ap E Q K .normal s->Z s)->∀ Y:St->Prop,(∀ s,chkS ops T C1 V s=true->Hop E ops V O2 C2 Z s C1 s->Y s)->RX E false (gdOf ops) (barC ops) 0 (pickO ops T) st Y):Wk E (.region id ops true) (ap E Q K) st:=by
 intro P hT hG hm hco X a w H ts hk;obtain ⟨m,H⟩:=H;obtain ⟨sT,h1,h2,h3⟩:=RX_run _ _ _ _ (h (fun s=>ap E Q K .normal s) (fun _ h=>h) (fun s=>chkS ops T C1 V s=true/\Hop E ops V O2 C2 (fun s=>ap E Q K .normal s) s C1 s) fun _ a b=>⟨a,b⟩);simp only [chkTC,Bool.and_eq_true,beq_iff_eq] at hc;obtain ⟨c1,c2,c3,c4,c5,c6,c8,c7⟩:=hc;simp only [chkS,Bool.and_eq_true] at h2;obtain ⟨k1,k2,k3⟩:=h2;rw [List.all_eq_true] at k2;refine wp_mono (wp_region_any hm (yQ (Q:=fun e a' w'=>e=.normal/\∃ s,ap E Q K .normal s/\Inv X s a' w') hk _ _ _ _ (.refl _ _) (B2
  (R:=fun j w w'=>if T.contains j=true then w'=w else if C1.contains j=true then (∀ b,(∃ n∈V,blk (m n [])=some b)->w'.heap[b]?=w.heap[b]?)/\(stillB ops j=true->w'=w)/\(newB ops j=true->∀ b,b < w.heap.size->w'.heap[b]?=w.heap[b]?) else True) _ _ _ _ ?_))) ?_
 ·rw [<-c3];refine T_run hT (T0:=T) (C1:=C1) (C2:=C2) (V:=V) (Bs:=fun b=>∃ n∈V,blk (m n [])=some b) c1 c4 c5 (fun c a w hp=>by cases hp.1) (fun n hn b hb=>⟨n,hn,hb⟩) (fun j w w'=>Iff.rfl) T (fun i hi=>hi) ?_ (H.world rfl rfl rfl rfl) h1 (by rw [<-c3] at c7; rw [c3] at c7 ⊢; exact c7) k3 ?_
  ·intro i o e hi;have:(Array.replicate ops.size false).getD i false=false:=by
    simp only [Array.getD_eq_getD_getElem?,Array.getElem?_replicate];split<;>rfl
   rw [c3,this] at hi;cases hi
  ·intro listed a' H' hch;rw [List.all_eq_true] at c5 c6;have ht:∀ j∈C1++C2,T.contains j=false:=fun j hj=>by simpa using c5 j hj
   obtain ⟨sC,g1,g2,g3⟩:=Hop_to C1 h3;obtain ⟨sf,q1,q2⟩:=RX_run _ _ _ _ g3;refine treeR hT hG (C1:=C1) (sC:=sC) (Bs:=fun b=>∃ n∈V,blk (m n [])=some b) ?_ ?_ ?_ (fun listed a w Hs hch=>chain2 hT hG (sf:=sf) (fun a w H'=>⟨rfl,sf,q2,H'⟩) C2 (fun j hj w w'=>?_) Hs q1 hch) C1.length (C1::O2) ?_ H' k1 (fun b hb=>hb) ?_ hch
   ·intro j hj w w' hb hst hnw;rw [if_neg (by rw [ht j (by simp [hj])]; simp),if_pos (by simpa using hj)];exact ⟨hb,hst,hnw⟩
   ·intro j hj o ho n hn;have:=(k2 n hn);simp only [Bool.and_eq_true,List.all_eq_true] at this;have:=this.2 j hj;rw [ho] at this;simpa using this
   ·intro n hn;have:=(k2 n hn);simp only [Bool.and_eq_true,Nat.blt_eq] at this;exact this.1
   ·rw [if_neg (by rw [ht j (by simp [hj])]; simp),if_neg (by simpa using c6 j hj)]
    trivial
   ·intro o ho j hj;rcases List.mem_cons.1 ho with rfl|ho
    ·exact hj
    ·simpa using List.all_eq_true.1 (List.all_eq_true.1 c8 o ho) j hj
   ·intro o ho;rcases List.mem_cons.1 ho with rfl|ho
    ·exact g1
    ·exact zd g2 o ho
 ·rintro e a' w' ⟨⟨rfl,s,hz,Hf⟩,hsm⟩;exact ⟨⟨s,hz,Hf⟩,hsm⟩
end
end
end Go.Abs

namespace Go.Abs
theorem Ws {E:Env} {Q:Exit->St->Prop} {K:List Fm} {st:St} {id:Nat} {ops:Array Oper} {y:Code}
  (h:∀ Z:St->Prop,(∀ s,ap E Q (.sk y::K) .normal s->Z s)->RX E false (gdOf ops) (barC ops) 0 ops.toList st Z):Wk E (.seq (.region id ops false) y) (ap E Q K) st:=Wk_seq (ai h)
inductive XW (R:Nat->C):(Nat->C)->Prop where
 | n:XW R RZ
 | c {R':Nat->C} {d:Nat} {c:C} (h0:R d=c) (h:XW R R'):XW R (upd R' d c)
theorem XW.all {R R':Nat->C} (h:XW R R'):∀ k,R' k=R k∨R' k=.dead:=by
 induction h with
 | n=>exact xn
 | c h0 _ ih=>exact xc h0 ih
inductive RW (f R':Nat->C):(Nat->C)->Prop where
 | n:RW f R' deadT
 | c {g:Nat->C} {d:Nat} {c:C} (h0:f d=c) (hm:c.ment (fun k _=>isDead (R' k)) 3=false) (h:RW f R' g):RW f R' (updT g d c)
theorem RW.all {n:Nat} {f g R':Nat->C} (h:RW f R' g):∀ t,t < n->g t=.dead∨(g t=f t/\(g t).ment (fun k _=>isDead (R' k)) 3=false):=by
 induction h with
 | n=>exact rn
 | c h0 hm _ ih=>exact rc h0 hm ih
theorem wr {n:Nat} {f g:Nat->C} {R R':Nat->C} (hr:XW R R') (ht:RW f R' g):Weak ⟨tab n f,R⟩ ⟨tab n g,R'⟩:=C3 hr.all ht.all
end Go.Abs
