/- A library of readings of Go values with their ownership,and of walks on them. No statement of the program. -/
import Derived.Test.YtmacaidmhchpgaaGreatAbsC
import Derived.Orders
import Derived.Scope
import Derived.Laws.StructEq
set_option linter.defProp false
set_option linter.unusedSimpArgs false
set_option linter.unusedVariables false
namespace Go.Abs
inductive SE where
 | q (d:Option Tmp) (c:C)
 | n (d:Nat) (tmp root:C)
 | s (n:Nat) (cells:List C)
def vi (n:Nat) (cells:List C) (st:St):Option St:=
 match st.roots n with
 | .sl true nl es cap [row]=>if dN (st.roots H0)=true/\n < H0/\row.all zm=true/\cells.length<=row.length then some { tmps:=st.tmps,roots:=upd st.roots n (.sl true nl es cap [cells.map C.frz++row.drop cells.length]) } else none
 | _=>none
def Ty {α:Type} (f:α->α) (x:α) (post:List α):∀ pre:List α,(pre++x::post).modify pre.length f=pre++f x::post:=by
 intro pre
 induction pre with
 | nil=>rfl
 | cons y pre ih=>simpa [List.modify_cons] using ih
def VK (f:Nat->C) (n:Nat) (a b:C):upd (upd f n a) n b=upd f n b:=by
 funext k
 by_cases e:k=n
 ·subst e; simp [aC]
 ·simp [aO e]
def OB {n:Nat} (hn:n < H0):∀ (cs:List C) {st:St} {j:Nat} {pre row:List C} {nl:Option Bool} {es:Nat} {cap:Option Nat},st.roots n=.sl true nl es cap [pre++row]->pre.length=j->cs.length<=row.length->row.all zm=true ->
  im n [] 0 j cs st=some { tmps:=st.tmps,roots:=upd st.roots n (.sl true nl es cap [pre++(cs.map C.frz++row.drop cs.length)]) }:=by
 intro cs
 induction cs with
 | nil=>
  intro st j pre row nl es cap hr hj hl hrow;simp only [im,xf,cK,cY,nU,cb];rw [<-hr];cases st with
  | mk t r=>
   simp only [St.mk.injEq,true_and]
   funext k
   by_cases e:k=n
   ·subst e; simp [aC]
   ·simp [aO e]
 | cons c cs ih=>
  intro st j pre row nl es cap hr hj hl hrow;cases row with
  | nil=>simp at hl
  | cons r0 row=>
   simp only [xV,cw] at hrow;have h1:(pre++r0::row)[j]?=some r0:=by rw [<-hj]; simp
   have h2:(pre++r0::row).modify j (fun _=>c.frz)=(pre++[c.frz])++row:=by
    rw [<-hj,Ty];simp
   simp only [im,St.node,C.at,hr,cu];rw [if_pos ⟨by simp; omega,hn⟩];rw [ih (pre:=pre++[c.frz]) (row:=row) (nl:=nl) (es:=es) (cap:=cap) (by simp [aC,C.turn,h2]) (by simp [hj]) (by simpa using hl) hrow.2];simp [yx,h1,hrow.1,VK,C.turn,h2]
def SE.apply:SE->St->Option St
 | .q d c,st=>some (st.put d c)
 | .n d tmp root,st=>match dN (st.roots d) with
  | true=>some { tmps:=st.tmps.set d tmp,roots:=upd st.roots d root }
  | false=>none
 | .s k cells,st=>vi k cells st
def qSE (o:Oper):Option C->Option SE
 | some c=>some (.q o.dst c)
 | none=>none
def Env.Gs (E:Env) (d f:Nat):Option FnS:=match E.L d f with
 | some _=>none
 | none=>E.G d f
def Yx {E:Env} {d f:Nat} {fs:FnS} (h:E.Gs d f=some fs):E.L d f=none/\E.G d f=some fs:=by
 unfold Env.Gs at h;split at h
 ·cases h
 ·rename_i hL; exact ⟨hL,h⟩
def Ds (E:Env) (o:Oper) (c:Call) (st:St):Option SE:=
 match o.dst,gi st c with
 | some d,some (f,args)=>if d < H0 then match E.Gs d f with
   | some fs=>if fs.own=[] then match tM st args with
     | some cs=>if fs.pure=true∨args.all (fun c=>!oe c)=true then match fs.fn cs with
       | some r=>if BT 3 r then some (.n d (jW 3 d [] r) r) else some (.q (some d) (jW 3 d [] r))
       | none=>none
      else none
     | none=>none
    else none
   | none=>none
  else none
 | _,_=>none
def O5 (d:Nat) (ti:TI) (c:C):Option SE:=
 match sL ti c with
 | some cells=>if cells.all C.cellOk then some (.n d (.pref d [] 0 0) (.sl true none ti.size (some 1) ([cells].map (·.map C.frz)))) else none
 | none=>none
def yy (E:Env) (d:Nat) (ti:TI) (len:Nat) (parts:List (Nat × C)):Option SE:=
 match ti.kind with
 | .slice e es=>if (E.T e).isNone then none else match qM E { ti with kind:=.arr len e es } parts (List.replicate (len * es) .dead) with
  | some flat=>if len * es<=16777216/\es≠0 then
    if flat.all C.cellOk then some (.n d (.pal d [] 0 len none) (.sl true none es (some len) ((oK es len flat).map (·.map C.frz)))) else none
   else none
  | none=>none
 | _=>none
def oJ (E:Env) (cp:Option Nat) (d:Nat) (ti:TI) (len:Nat) (parts:List (Nat × C)):Option SE:=
 match ti.kind with
 | .slice e es=>if (E.T e).isNone then none else match qM E { ti with kind:=.arr len e es } parts (List.replicate (len * es) .dead) with
  | some flat=>if len * es<=16777216/\es≠0 then
    if flat.all C.cellOk then some (.q (some d) (.sl false none es cp ((oK es len flat).map (·.map C.frz)))) else none
   else none
  | none=>none
 | _=>none
def zl (E:Env) (d:Nat) (ti:TI) (len:Nat) (parts:List (Nat × C)):Option SE:=
 match E.F d with
 | some false=>oJ E none d ti len parts
 | some true=>oJ E (some len) d ti len parts
 | _=>yy E d ti len parts
def CO (E:Env) (o:Oper) (t:TypeId) (x v:Operand) (st:St):Option SE:=
 match o.dst,E.T t,x with
 | none,some ti,.tmp n=>match st.ev (.tmp n) with
  | .pref n' [] 0 0=>if n'=n then match sL ti (st.ev v) with
    | some cells=>if cells.all C.cellOk=true then some (.s n cells) else none
    | none=>none
   else none
  | _=>none
 | _,_,_=>none
def fB (E:Env) (o:Oper) (st:St):Option SE:=
 match o.op with
 | .alloc t=>match o.dst,E.T t with
  | some d,some ti=>some (.n d (.pref d [] 0 0) (.sl true none ti.size (some 1) [ti.zero.map .val]))
  | _,_=>none
 | .box t x=>match o.dst,E.T t with
  | some d,some ti=>O5 d ti (st.ev x)
  | _,_=>none
 | .buildSlice t len parts=>match o.dst,E.T t with
  | some d,some ti=>zl E d ti len (parts.toList.map fun x=>(x.1,st.ev x.2))
  | _,_=>none
 | .store t x v=>CO E o t x v st
 | .call c=>match c.callee with
  | .builtin .append=>none
  | .builtin _=>qSE o (qop E st (.call c))
  | _=>Ds E o c st
 | op=>qSE o (qop E st op)
def my (E:Env) (ops:Array Oper) (o:Oper) (st:St):Option SE:=
 match o.guard with
 | none=>fB E o st
 | some (j,want)=>match (ops[j]?).bind (·.dst) with
  | some t=>match st.tmps[t]? with
   | some (.val (.bool b))=>if b=want then fB E o st else some (.q o.dst (.val undef))
   | some (.val (.tuple _))=>some (.q o.dst (.val undef))
   | _=>none
  | none=>none
def bx (E:Env) (ops:Array Oper) (o:Oper) (st:St):Option St:=
 match my E ops o st with
 | some e=>e.apply st
 | none=>none
section
variable {X:Ctx} {m:Nat->aq->Value} {st:St} {a:Act} {w:World} {P:Program}
def Cv {d:Nat} (h:dN (st.roots d)=true):st.fresh d=st:=by simp [St.fresh,h]
def AU {E:Env} {ops:Array Oper} {o:Oper} {st':St} (h:bx E ops o st=some st'):eK E ops o st=some st':=by
 have body:∀ e,fB E o st=some e->e.apply st=some st'->exe E o st=some st':=by
  intro e he hap
  suffices h0:kF E o st=some st' by
   have hp:kX E o st=none:=by
    cases hpx:kX E o st with
    | none=>rfl
    | some s=>
     exfalso;unfold kX at hpx;split at hpx
     ·rename_i hop;simp [fB,hop] at he
     ·simp at hpx
   simp [exe,hp,h0]
  have quiet:∀ op,qSE o (qop E st op)=some e->dZ o st (qop E st op)=some st':=by
   intro op hq;cases hc:qop E st op with
   | none=>simp [hc,qSE] at hq
   | some c=>
    simp only [hc,qSE,cb] at hq;subst hq;simpa [dZ,SE.apply] using hap
  unfold fB at he;unfold kF;split at he
  ·rename_i t hop;simp only [hop];split at he
   ·rename_i d ti hd hti;simp only [cb] at he;subst he;simp only [SE.apply] at hap;split at hap
    ·rename_i hdd;simp only [hd,hti];rw [<-hap];simp [Ij,Cv hdd]
    ·simp at hap
   ·simp at he
  ·rename_i t x hop;simp only [hop];split at he
   ·rename_i d ti hd hti;unfold O5 at he;split at he
    ·rename_i cells hun;split at he
     ·rename_i hall;simp only [cb] at he;subst he;simp only [SE.apply] at hap;split at hap
      ·rename_i hdd;simp only [hd,hti,K3,Cv hdd,hun,hall,if_true];rw [<-hap];rfl
      ·simp at hap
     ·simp at he
    ·simp at he
   ·simp at he
  ·rename_i t len parts hop;simp only [hop];split at he
   ·rename_i d ti hd hti;unfold zl at he;split at he
    ·rename_i hF;unfold oJ at he;split at he
     ·rename_i e' es hk;split at he
      ·simp at he
      ·rename_i hE;split at he
       ·rename_i flat hflat;split at he
        ·rename_i hc;split at he
         ·rename_i hall;simp only [cb] at he;subst he;simp only [SE.apply] at hap;simp only [hd,hti,jQ,hF,rh,hk,hflat,hall,if_true];rw [if_neg hE,if_pos hc,<-hap]
         ·simp at he
        ·simp at he
       ·simp at he
     ·simp at he
    ·rename_i hF;unfold oJ at he;split at he
     ·rename_i e' es hk;split at he
      ·simp at he
      ·rename_i hE;split at he
       ·rename_i flat hflat;split at he
        ·rename_i hc;split at he
         ·rename_i hall;simp only [cb] at he;subst he;simp only [SE.apply] at hap;simp only [hd,hti,jQ,hF,rh,hk,hflat,hall,if_true];rw [if_neg hE,if_pos hc,<-hap]
         ·simp at he
        ·simp at he
       ·simp at he
     ·simp at he
    ·rename_i hF;have hX:jQ E d ti len parts.toList st=sP E d ti len parts.toList st:=by
      unfold jQ;split
      ·rename_i hF'; exact absurd hF' ‹_›
      ·rename_i hF'; exact absurd hF' ‹_›
      ·rfl
     unfold yy at he;split at he
     ·rename_i e' es hk;split at he
      ·simp at he
      ·rename_i hE;split at he
       ·rename_i flat hflat;split at he
        ·rename_i hc;split at he
         ·rename_i hall;simp only [cb] at he;subst he;simp only [SE.apply] at hap;split at hap
          ·rename_i hdd;simp only [hd,hti,hX,sP,hk,Cv hdd,hflat,hall,if_true];rw [if_neg hE,if_pos hc,<-hap];rfl
          ·simp at hap
         ·simp at he
        ·simp at he
       ·simp at he
     ·simp at he
   ·simp at he
  ·rename_i t x v hop;simp only [hop];unfold CO at he;split at he
   case h_2=>simp at he
   rename_i ti n hd ht;split at he
   case h_2=>simp at he
   rename_i n' hev;split at he
   case isFalse=>simp at he
   rename_i hn;subst hn;split at he
   case h_2=>simp at he
   rename_i cells hun;split at he
   case isFalse=>simp at he
   rename_i hall;simp only [cb] at he;subst he;simp only [SE.apply,vi] at hap;split at hap
   case h_2=>simp at hap
   rename_i nl es cap row hr;split at hap
   case isFalse=>simp at hap
   rename_i hc;simp only [hd,ht,jN,hun,hev,hall,if_true,hc.1];rw [OB hc.2.1 cells (j:=0) (pre:=[]) (row:=row) (by simpa using hr) rfl hc.2.2.2 hc.2.2.1];simpa using hap
  ·rename_i c hop;simp only [hop];split at he
   ·simp at he
   ·rename_i b hb;simp only [hb];exact quiet _ he
   ·rename_i hb1 hb2;have:I8 E o c st=some st':=by
     unfold Ds at he;unfold I8;split at he
     ·rename_i d f args hd hct;simp only [hd,hct];split at he
      ·rename_i hdH;rw [if_pos hdH];unfold G3;split at he
       ·rename_i fs hfs;obtain ⟨hL,hfs⟩:=Yx hfs;simp only [hL,hfs];split at he
        ·rename_i hown;rw [if_pos hown];split at he
         ·rename_i cs hsn;simp only [hsn];split at he
          ·rename_i hpv;rw [if_pos hpv];split at he
           ·rename_i r hr;simp only [hr];split at he
            ·rename_i hod;simp only [cb] at he;subst he;simp only [SE.apply] at hap;split at hap
             ·rename_i hdd;rw [<-hap];simp [Ee,hod,Cv hdd]
             ·simp at hap
            ·rename_i hod;simp only [cb] at he;subst he;simp only [SE.apply,cb] at hap;rw [<-hap];simp [Ee,hod,St.put]
           ·simp at he
          ·simp at he
         ·simp at he
        ·simp at he
       ·simp at he
      ·simp at he
     ·simp at he
    split
    ·rename_i hb; exact (hb1 hb).elim
    ·rename_i b hb hb'; exact (hb2 b hb').elim
    ·exact this
  ·rename_i h1 h2 h3 h4 h5;have:=quiet _ he;split
   ·rename_i t hop; exact (h1 t hop).elim
   ·rename_i t x hop; exact (h2 t x hop).elim
   ·rename_i t len parts hop; exact (h3 t len parts hop).elim
   ·rename_i t x v hop; exact (h4 t x v hop).elim
   ·rename_i c hop; exact (h5 c hop).elim
   ·exact this
 unfold bx at h;split at h
 ·rename_i e he;unfold my at he;unfold eK;split at he
  ·rename_i hg;simp only [hg];exact body e he h
  ·rename_i j want hg;simp only [hg];split at he
   ·rename_i t ht;simp only [ht];split at he
    ·rename_i b hb;simp only [hb];split at he
     ·rename_i hbw;rw [if_pos hbw];exact body e he h
     ·rename_i hbw;rw [if_neg hbw];simp only [cb] at he;subst he;simpa [SE.apply] using h
    ·rename_i vs hb;simp only [hb];simp only [cb] at he;subst he;simpa [SE.apply] using h
    ·simp at he
   ·simp at he
 ·simp at h
def F1 (P:Program) (st:St):Prop:=∃ X a w,Inv X st a w
def Vm {o:Oper} {K:Act->World->Prop} (h:o.wp P a w K (fun _ _ _=>False)):∃ a' w',K a' w':=by
 unfold Oper.wp at h;generalize (execOp a.eval o).run P w=r at h;cases r with
 | ok n w'=>
  cases n<;>simp only [Oper.upon] at h<;>first|exact ⟨_,_,h⟩|exact h.elim|skip
  ·obtain ⟨e,w'',fr,h,_⟩:=h [];cases e with
   | returned v=>exact ⟨_,_,h⟩
   | panicked c=>exact h.elim
   | outgrown=>obtain ⟨_,_,h⟩:=h; exact h.elim
  ·obtain ⟨v,w'',h,_⟩:=h (default:Frame) [];exact ⟨_,_,h⟩
 | halt x w'=>cases x<;>simp only [Oper.upon] at h
def F1.step {E:Env} (hT:TOk P E) (hG:GOk P E) (H:F1 P st) {ops:Array Oper} {i:Nat} {o:Oper} (ho:ops[i]?=some o) {st':St} (h:eK E ops o st=some st'):F1 P st':=by
 obtain ⟨X,a,w,H⟩:=H;have:=Fo hT hG H ho h (K:=fun a' w'=>Inv X st' a' w') (Q:=fun _ _ _=>False) (fun _ _ h=>h);unfold wpOp at this;rw [ho] at this;simp only at this;split at this
 ·rcases this with h|⟨_,_,_,h⟩
  ·obtain ⟨a',w',h⟩:=Vm h;exact ⟨X,a',w',h⟩
  ·exact h.elim
 ·exact ⟨X,_,_,this⟩
def DR (ts:List Tmp) (st st2:St):Prop:=
 ∀ t∈ts,st2.tmps[t]?=st.tmps[t]?/\∀ c,st.tmps[t]?=some c->∀ k v n p,occ k c v->v.place=some (n,p)->st2.roots n=st.roots n
def Pu (xs:List Operand):List Tmp:=xs.filterMap fun|.tmp t=>some t|_=>none
def sG (st st2:St) (c:C):Prop:=∀ k v n p,occ k c v->v.place=some (n,p)->st2.roots n=st.roots n
def DR.ev {ts:List Tmp} {st st2:St} (h:DR ts st st2) {x:Operand} (hx:∀ t,x=.tmp t->t∈ts):st2.ev x=st.ev x/\sG st st2 (st.ev x):=by
 cases x with
 | tmp t=>
  obtain ⟨h1,h2⟩:=h t (hx t rfl);refine ⟨by simp [St.ev,h1],?_⟩;simp only [St.ev];cases hc:st.tmps[t]? with
  | none=>intro k v n p ho _; cases k<;>exact ho.elim
  | some c=>exact h2 c hc
 | const v=>
  refine ⟨rfl,?_⟩;intro k v' n p ho _;simp only [St.ev] at ho;cases v with
  | agg cs=>
   cases k with
   | zero=>exact ho.elim
   | succ k=>
    obtain ⟨c',hm,ho⟩:=ho;simp only [cE] at hm;obtain ⟨v,_,rfl⟩:=hm;cases k<;>exact ho.elim
  | _=>cases k<;>exact ho.elim
 | func f=>
  refine ⟨rfl,?_⟩;intro k v' n p ho _;cases k with
  | zero=>exact ho.elim
  | succ k=>obtain ⟨c',hm,ho⟩:=ho; simp at hm
 | global g=>exact ⟨rfl,fun k v n p ho _=>by cases k<;>exact ho.elim⟩
def sG.node {st st2:St} {c:C} (h:sG st st2 c) {n:Nat} {p:aq} (hp:c.place=some (n,p)) (q:aq):st2.node n q=st.node n q:=by
 have ho:occ 1 c c:=by cases c<;>simp [C.place] at hp<;>rfl
 simp [St.node,h 1 c n p ho hp]
theorem TN {st st2:St} {ti:TI} {x:C} (h:sG st st2 x):qg st2 ti x=qg st ti x:=by
 cases x with
 | pref n p i j=>simp only [qg,h.node (n:=n) (p:=p) rfl p]
 | _=>rfl
def RB {st st2:St} {x:C} (h:sG st st2 x):GP st2 x=GP st x:=by
 cases x with
 | pal n p lo len cap=>simp only [GP,h.node (n:=n) (p:=p) rfl p]
 | _=>unfold GP; first|rfl|(split<;>simp_all)
theorem LR {st st2:St} {ti:TI} {x ix:C} (h:sG st st2 x):jT st2 ti x ix=jT st ti x ix:=by
 unfold jT;cases x with
 | pal n p lo len cap=>cases ti.kind<;>first|rfl|simp only [h.node (n:=n) (p:=p) rfl p]
 | _=>cases ti.kind<;>rfl
theorem Sg {st st2:St} {ti:TI} {x:C} {lo hi mx:Option C} (h:sG st st2 x):BF st2 ti x lo hi mx=BF st ti x lo hi mx:=by
 unfold BF;cases x with
 | pal n p lo0 len cap=>cases ti.kind<;>first|rfl|simp only [h.node (n:=n) (p:=p) rfl p]
 | val v=>cases ti.kind<;>cases v<;>first|rfl|(rename_i a l k; cases a<;>first|rfl|(cases l<;>first|rfl|(cases k<;>rfl)))
 | _=>cases ti.kind<;>rfl
theorem EU {st st2:St} {c:C} (h:sG st st2 c):lS st2 c=lS st c:=by
 cases c with
 | pal n p lo len cap=>simp only [lS,h.node (n:=n) (p:=p) rfl p]
 | pref n p i j=>simp only [lS,h.node (n:=n) (p:=p) rfl p]
 | _=>rfl
def J8 {st st2:St}:∀ {cs:List C},(∀ c∈cs,sG st st2 c)->AY st2 cs=AY st cs:=by
 intro cs
 induction cs with
 | nil=>intro _; rfl
 | cons c cs ih=>intro h; simp only [AY,EU (h c (by simp)),ih (fun c hc=>h c (by simp [hc]))]
theorem Um {st st2:St} {c:C} (h:sG st st2 c):EB st2 c=EB st c:=by
 cases c with
 | agg cs=>simp only [EB,J8 (cs:=cs) (fun c hc k v n p ho hp=>h (k+1) v n p ⟨c,hc,ho⟩ hp)]
 | clo f cs=>simp only [EB,J8 (cs:=cs) (fun c hc k v n p ho hp=>h (k+1) v n p ⟨c,hc,ho⟩ hp)]
 | pal n p lo len cap=>exact EU h
 | pref n p i j=>exact EU h
 | _=>rfl
def RF {st st2:St}:∀ {cs:List C},(∀ c∈cs,sG st st2 c)->tM st2 cs=tM st cs:=by
 intro cs
 induction cs with
 | nil=>intro _; rfl
 | cons c cs ih=>intro h; simp only [tM,Um (h c (by simp)),ih (fun c hc=>h c (by simp [hc]))]
def LW {st st2:St} {xs:List Operand} {ts:List Tmp} (h:DR ts st st2) (hx:∀ x∈xs,∀ t,x=.tmp t->t∈ts):xs.map st2.ev=xs.map st.ev:=by
 apply ac1;intro x hm;exact (h.ev (hx x hm)).1
theorem N4 {E:Env} {op:Op} {ts:List Tmp} {st st2:St} (h:DR ts st st2) (hx:∀ x∈op.operands,∀ t,x=.tmp t->t∈ts):qop E st2 op=qop E st op:=by
 have e1:∀ x∈op.operands,st2.ev x=st.ev x:=fun x hm=>(h.ev (hx x hm)).1;have e2:∀ x∈op.operands,sG st st2 (st.ev x):=fun x hm=>(h.ev (hx x hm)).2;cases op with
 | move x=>simp only [qop]; rw [e1 x (by simp [Op.operands])]
 | assign x=>simp only [qop]; rw [e1 x (by simp [Op.operands])]
 | pick c x y=>simp only [qop]; rw [e1 c (by simp [Op.operands]),e1 x (by simp [Op.operands]),e1 y (by simp [Op.operands])]
 | load t x=>simp only [qop]; rw [e1 x (by simp [Op.operands])]; simp only [TN (e2 x (by simp [Op.operands]))]
 | fieldAddr s x f=>simp only [qop]; rw [e1 x (by simp [Op.operands])]
 | field s x f=>simp only [qop]; rw [e1 x (by simp [Op.operands])]
 | indexAddr t x ix=>simp only [qop]; rw [e1 x (by simp [Op.operands]),e1 ix (by simp [Op.operands])]; simp only [LR (e2 x (by simp [Op.operands]))]
 | index t x ix=>simp only [qop]; rw [e1 x (by simp [Op.operands]),e1 ix (by simp [Op.operands])]
 | binOp op t x y yt=>simp only [qop]; rw [e1 x (by simp [Op.operands]),e1 y (by simp [Op.operands])]
 | unOp op t x=>simp only [qop]; rw [e1 x (by simp [Op.operands])]
 | convert src dst x=>simp only [qop]; rw [e1 x (by simp [Op.operands])]; simp only [KW,RB (e2 x (by simp [Op.operands]))]
 | extract x i=>simp only [qop]; rw [e1 x (by simp [Op.operands])]
 | slice t x lo hi mx=>
  have o:∀ (y:Option Operand),(∀ z,y=some z->z∈(Op.slice t x lo hi mx).operands)->y.map st2.ev=y.map st.ev:=by
   intro y hy;cases y with
   | none=>rfl
   | some z=>simp [e1 z (hy z rfl)]
  simp only [qop];rw [e1 x (by simp [Op.operands]),o lo (by rintro z rfl; simp [Op.operands]),o hi (by rintro z rfl; simp [Op.operands]),o mx (by rintro z rfl; simp [Op.operands])];simp only [Sg (e2 x (by simp [Op.operands]))]
 | makeFunc fn first caps=>
  cases fn with
  | func f=>simp only [qop]; rw [LW h (xs:=caps.toList) (fun x hm=>hx x (by simp [Op.operands]; right; simpa using hm)),LW h (xs:=first.toList) (fun x hm=>hx x (by simp [Op.operands]; left; simpa using hm))]
  | _=>rfl
 | nilCheck x=>simp only [qop]; rw [e1 x (by simp [Op.operands])]
 | build t parts=>
  simp only [qop];have:(parts.toList.map fun x=>(x.1,st2.ev x.2))=parts.toList.map fun x=>(x.1,st.ev x.2):=by
   apply ac1;intro x hm;rw [e1 x.2 (by simp only [Op.operands,List.mem_toArray,cE]; exact ⟨x,hm,rfl⟩)]
  rw [this]
 | call c=>
  obtain ⟨callee,args,argTypes⟩:=c;cases callee with
  | builtin b=>
   simp only [qop];rw [LW h (xs:=args.toList) (fun x hm=>hx x (by simp [Op.operands,Call.operands]; simpa using hm))]
  | _=>rfl
 | _=>rfl
def Pl {c:Call} {ts:List Tmp} {st st2:St} (h:DR ts st st2) (hx:∀ x∈c.operands,∀ t,x=.tmp t->t∈ts):gi st2 c=gi st c/\∀ f args,gi st c=some (f,args)->∀ y∈args,sG st st2 y:=by
 obtain ⟨callee,cargs,ctys⟩:=c;cases callee with
 | value x=>
  have hx0:=h.ev (hx x (by simp [Call.operands]));have hargs:=LW h (xs:=cargs.toList) (fun x hm=>hx x (by simp [Call.operands]; right; simpa using hm));refine ⟨by simp only [gi,hx0.1,hargs],?_⟩;intro f args hc y hy;simp only [gi] at hc;split at hc
  ·rename_i f' caps hev;simp only [cb,cz] at hc;obtain ⟨rfl,rfl⟩:=hc;have hy:y∈cargs.toList.map st.ev∨y∈caps:=by
    unfold I0 at hy;split at hy
    ·exact cH.1 hy
    ·exact (cH.1 hy).symm
   rcases hy with hy|hy
   ·simp only [cE] at hy;obtain ⟨z,hz,rfl⟩:=hy;exact (h.ev (hx z (by simp [Call.operands]; right; simpa using hz))).2
   ·intro k v n p ho hp;refine hx0.2 (k+1) v n p ?_ hp;rw [hev];exact ⟨y,hy,ho⟩
  ·simp at hc
 | invoke _ _=>exact ⟨rfl,by simp [gi]⟩
 | builtin _=>exact ⟨rfl,by simp [gi]⟩
def PV {E:Env} {o:Oper} {ts:List Tmp} {st st2:St} (h:DR ts st st2) (hx:∀ x∈o.op.operands,∀ t,x=.tmp t->t∈ts):fB E o st2=fB E o st:=by
 unfold fB;split
 ·rfl
 ·rename_i t x hop;rw [(h.ev (hx x (by simp [hop,Op.operands]))).1]
 ·rename_i t len parts hop;have:(parts.toList.map fun x=>(x.1,st2.ev x.2))=parts.toList.map fun x=>(x.1,st.ev x.2):=by
   apply ac1;intro x hm;rw [(h.ev (hx x.2 (by simp only [hop,Op.operands,List.mem_toArray,cE]; exact ⟨x,hm,rfl⟩))).1]
  rw [this]
 ·rename_i t x v hop;unfold CO;cases x with
  | tmp n=>
   have a1:=(h.ev (hx (.tmp n) (by simp [hop,Op.operands]))).1;have a2:=(h.ev (hx v (by simp [hop,Op.operands]))).1;cases o.dst with
   | some d=>rfl
   | none=>cases E.T t with
    | none=>rfl
    | some ti=>simp only [a1,a2]
  | _=>cases o.dst<;>cases E.T t<;>rfl
 ·rename_i c hop;have hq:=N4 (E:=E) (op:=.call c) h (by rw [<-hop]; exact hx);obtain ⟨hc1,hc2⟩:=Pl (c:=c) h (by intro x hm; exact hx x (by simp only [hop,Op.operands]; exact hm));have hcall:Ds E o c st2=Ds E o c st:=by
   unfold Ds;rw [hc1];split
   ·rename_i d f args hd hct;rw [RF (hc2 f args hct)]
   ·rfl
  split
  ·rfl
  ·rw [hq]
  ·exact hcall
 ·rename_i h1 h2 h3 h4 h5;rw [N4 (E:=E) h hx]
end
def tv (ts:List Tmp) (a a':Act):Prop:=∀ t∈ts,a'.tmps[t]?=a.tmps[t]?
theorem tv.refl (ts:List Tmp) (a:Act):tv ts a a:=fun _ _=>rfl
def tv.trans {ts:List Tmp} {a b c:Act} (h:tv ts a b) (h':tv ts b c):tv ts a c:=fun t ht=>(h' t ht).trans (h t ht)
def Kp (ts:List Tmp) (a:Act) (Q:Exit->Act->World->Prop) (e:Exit) (a':Act) (w':World):Prop:=Q e a' w'/\(e=.outgrown∨tv ts a a')
def Co (ts:List Tmp) (o:Oper):Bool:=match o.dst with
 | some d=>!ts.contains d
 | none=>true
def kH (ts:List Tmp):Code->Bool
 | .region _ ops _=>ops.toList.all (Co ts)
 | .seq x y=>kH ts x && kH ts y
 | .cond _ x y=>kH ts x && kH ts y
 | .block _ c=>kH ts c
 | .loop c=>kH ts c
 | .scope c=>kH ts c
 | _=>true
theorem Io:∀ c:Code,kH [] c=true:=by
 intro c
 induction c with
 | region id ops d=>simp only [kH,cn]; intro o _; unfold Co; split<;>rfl
 | seq x y hx hy=>simp [kH,hx,hy]
 | cond c x y hx hy=>simp [kH,hx,hy]
 | block id c h=>simpa [kH] using h
 | loop c h=>simpa [kH] using h
 | scope c h=>simpa [kH] using h
 | _=>rfl
def FX {ts:List Tmp} {o:Oper} (ho:Co ts o=true) (a:Act) (v:Value):tv ts a (a.put o.dst v):=by
 intro t ht;unfold Co at ho;unfold Act.put;split at ho
 ·rename_i d hd;rw [hd];have hne:d≠t:=by
   rintro rfl;simp only [nD,adx,decide_eq_false_iff_not] at ho;exact ho ht
  simp [xF,hne]
 ·rename_i hd; rw [hd]
theorem LetsOut.keep {ts:List Tmp} {a:Act} {Q:Exit->Act->World->Prop} (h:LetsOut Q):LetsOut (Kp ts a Q):=by
 obtain ⟨a',w',h⟩:=h;exact ⟨a',w',h,.inl rfl⟩
section
variable {P:Program} {ops:Array Oper} {Q:Exit->Act->World->Prop} {ts:List Tmp}
def Sv {o:Oper} (ho:Co ts o=true) {a0 a:Act} {w:World} (h0:tv ts a0 a) {K K':Act->World->Prop} (hK:∀ a' w',K a' w'->tv ts a0 a'->K' a' w') (h:o.wp P a w K Q):o.wp P a w K' (Kp ts a0 Q):=by
 unfold Oper.wp at *;generalize (execOp a.eval o).run P w=r at *;have hp:∀ v,tv ts a0 (a.put o.dst v):=fun v=>h0.trans (FX ho a v);cases r with
 | ok n w'=>
  cases n<;>simp only [Oper.upon] at h ⊢
  case value v=>exact hK _ _ h (hp v)
  case skip=>exact hK _ _ h (hp undef)
  case defer d=>
   refine hK _ _ h (h0.trans ?_);have:=FX ho ({ a with defers:=d::a.defers }) undef;exact this
  case enter f args=>
   refine Calls.mono h (fun e w'' he=>?_);cases e with
   | returned v=>exact hK _ _ he (hp v)
   | panicked c=>exact ⟨he,.inr h0⟩
   | outgrown=>exact LetsOut.keep he
  case row row args=>exact Rows.mono h (fun v _ he=>hK _ _ he (hp v))
  all_goals exact h
 | halt x w'=>
  cases x<;>simp only [Oper.upon] at h ⊢
  case panic v=>exact ⟨h,.inr h0⟩
  all_goals exact h
def I3 (hk:ops.toList.all (Co ts)=true) {i:Nat} {o:Oper} (ho:ops[i]?=some o):Co ts o=true:=by
 rw [cn] at hk;exact hk o (by have:=Array.mem_of_getElem? ho; simpa using this)
def TE (hk:ops.toList.all (Co ts)=true) {a0:Act}:∀ (l:List Nat) (a:Act) (w:World),tv ts a0 a->wpOps P ops Q l a w->wpOps P ops (Kp ts a0 Q) l a w:=by
 intro l
 induction l with
 | nil=>intro a w h0 h; exact ⟨h,.inr h0⟩
 | cons i l ih=>
  intro a w h0 h;rw [wpOps_cons] at h ⊢;unfold wpOp at h ⊢;split
  ·rename_i he; rw [he] at h; exact ih _ _ h0 h
  ·rename_i o ho;rw [ho] at h;simp only at h;split
   ·rename_i hw;rw [if_pos hw] at h;rcases h with h|h
    ·exact .inl (Sv (I3 hk ho) h0 (fun a' w' hk' hs=>ih _ _ hs hk') h)
    ·exact .inr ⟨h.1,LetsOut.keep h.2⟩
   ·rename_i hw;rw [if_neg hw] at h;exact ih _ _ (h0.trans (FX (I3 hk ho) a undef)) h
def Me {md:Region.Mode} (hk:ops.toList.all (Co ts)=true) {a0:Act}:∀ (fuel:Nat) (listed:Array Bool) (a:Act) (w:World),tv ts a0 a->wpAny P md ops Q fuel listed a w->wpAny P md ops (Kp ts a0 Q) fuel listed a w:=by
 intro fuel
 induction fuel with
 | zero=>intro listed a w h0 h; exact ⟨h.1,h.2,.inr h0⟩
 | succ fuel ih=>
  intro listed a w h0 h;refine ⟨fun hr=>⟨h.1 hr,.inr h0⟩,fun i hi=>?_⟩;have h2:=h.2 i hi;unfold wpOp at h2 ⊢;split
  ·rename_i he; rw [he] at h2; exact ih _ _ _ h0 h2
  ·rename_i o ho;rw [ho] at h2;simp only at h2;split
   ·rename_i hw;rw [if_pos hw] at h2;rcases h2 with h2|h2
    ·exact .inl (Sv (I3 hk ho) h0 (fun a' w' hk' hs=>ih _ _ _ hs hk') h2)
    ·exact .inr ⟨h2.1,LetsOut.keep h2.2⟩
   ·rename_i hw;rw [if_neg hw] at h2;exact ih _ _ _ (h0.trans (FX (I3 hk ho) a undef)) h2
end
def jg (g:C->C):Prop:=(∀ v,g (.val v)=.val v)/\(∀ vs:List Value,g (.agg (vs.map .val))=.agg (vs.map .val))/\g .dead=.dead/\∀ f,g (.clo f [])=.clo f []
theorem jg.id:jg id:=⟨fun _=>rfl,fun _=>rfl,rfl,fun _=>rfl⟩
def jg.poi (f:Nat->aq->Bool):jg (poi f):=by
 refine ⟨fun _=>rfl,?_,rfl,fun _=>rfl⟩;intro vs;have:(C.agg (vs.map .val)).ment f 3=false:=by
  simp only [C.ment,xv,cE];rintro c ⟨v,_,rfl⟩;simp [C.ment]
 simp [Go.Abs.poi,this]
def jg.comp {g h:C->C} (hg:jg g) (hh:jg h):jg (g ∘ h):=
 ⟨fun v=>by simp [hh.1,hg.1],fun vs=>by simp [hh.2.1,hg.2.1],by simp [hh.2.2.1,hg.2.2.1],fun f=>by simp [hh.2.2.2,hg.2.2.2]⟩
def yF {β:Type} (R:Nat->C) (f:St->Option (St × β)):Prop:=(∀ ts,f ⟨ts,R⟩=none)∨∃ g R' b,jg g/\∀ ts,f ⟨ts,R⟩=some (⟨ts.map g,R'⟩,b)
def yF.none {β:Type} {R:Nat->C} {f:St->Option (St × β)} (h:∀ ts,f ⟨ts,R⟩=none):yF R f:=.inl h
def yF.same {β:Type} {R:Nat->C} {f:St->Option (St × β)} (b:β) (h:∀ ts,f ⟨ts,R⟩=some (⟨ts,R⟩,b)):yF R f:=.inr ⟨id,R,b,.id,fun ts=>by rw [h]; simp⟩
def yF.step {β γ:Type} {R:Nat->C} {f:St->Option (St × β)} {k:β->St->Option (St × γ)} {F:St->Option (St × γ)} (h:yF R f) (hk:∀ b R',yF R' (k b))
  (hF:∀ ts,F ⟨ts,R⟩=match f ⟨ts,R⟩ with|some (s,b)=>k b s|Option.none=>Option.none):yF R F:=by
 rcases h with h|⟨g,R',b,hg,h⟩
 ·exact .inl fun ts=>by rw [hF,h]
 ·rcases hk b R' with h2|⟨g2,R2,c,hg2,h2⟩
  ·exact .inl fun ts=>by rw [hF,h]; exact h2 _
  ·exact .inr ⟨g2 ∘ g,R2,c,hg2.comp hg,fun ts=>by rw [hF,h]; simp only; rw [h2]; simp⟩
def one (f:St->Option St) (s:St):Option (St × Unit):=(f s).map fun s=>(s,())
theorem NN (n:Nat) (q:aq) (i:Nat):∀ (cs:List C) (j:Nat) (R:Nat->C),yF R (one (im n q i j cs))
 | [],j,R=>.same () fun ts=>rfl
 | c::cs,j,R=>by
  cases hn:(R n).at q with
  | none=>exact .none fun ts=>by simp [one,im,St.node,hn]
  | some nd=>
   by_cases hc:∃ nl es cap rows row,nd=.sl true nl es cap rows/\rows[i]?=some row/\(j < row.length/\n < H0)
   ·obtain ⟨nl,es,cap,rows,row,rfl,h1,h2⟩:=hc;have key:∃ g,jg g/\∀ ts,yx n q i j row ts=ts.map g:=by
     unfold yx;split
     ·rename_i c0 _;by_cases hl:zm c0=true
      ·exact ⟨id,.id,fun ts=>by simp [hl]⟩
      ·exact ⟨_,.poi _,fun ts=>by simp only [hl]; rfl⟩
     ·exact ⟨id,.id,fun ts=>by simp⟩
    obtain ⟨g,hg,hgt⟩:=key;rcases NN n q i cs (j+1) (upd R n ((R n).turn (fun _=>c.frz) (q++[(i,j)]))) with h|⟨g2,R2,b,hg2,h⟩
    ·refine .none fun ts=>?_;have:=h (ts.map g);simpa [one,im,St.node,hn,h1,h2,hgt] using this
    ·refine .inr ⟨g2 ∘ g,R2,b,hg2.comp hg,fun ts=>?_⟩;have:=h (ts.map g);simpa [one,im,St.node,hn,h1,h2,hgt] using this
   ·refine .none fun ts=>?_;simp only [one,im,St.node,hn];split
    ·rename_i nl es cap rows he;split
     ·rename_i row hr;split
      ·rename_i hh;simp only [cb] at he;exact (hc ⟨nl,es,cap,rows,row,he,hr,hh⟩).elim
      ·rfl
     ·rfl
    ·rfl
theorem N2 (n:Nat) (q:aq) (i:Nat):∀ (k j h:Nat) (R:Nat->C),yF R (one (mh n q i j k h))
 | 0,j,h,R=>.same () fun ts=>by cases h<;>rfl
 | k+1,j,h,R=>by
  cases hn:(R n).at q with
  | none=>exact .none fun ts=>by simp [one,mh,St.node,hn]
  | some nd=>
   by_cases hc:∃ nl es cap rows row,nd=.sl true nl es cap rows/\rows[i]?=some row/\(j < row.length/\n < H0)
   ·obtain ⟨nl,es,cap,rows,row,rfl,h1,h2⟩:=hc;rcases N2 n q i k (j+1) (h+1) (upd (upd R n ((R n).turn (fun _=>R h) (q++[(i,j)]))) h .dead) with h'|⟨g2,R2,b,hg2,h'⟩
    ·refine .none fun ts=>?_;have:=h' (ts.map (poi (fun n' p'=>n' == h || (n' == n && kE (q++[(i,j)]) p'))));simpa [one,mh,St.node,hn,h1,h2,St.plug] using this
    ·refine .inr ⟨g2 ∘ poi (fun n' p'=>n' == h || (n' == n && kE (q++[(i,j)]) p')),R2,b,hg2.comp (.poi _),fun ts=>?_⟩;have:=h' (ts.map (poi (fun n' p'=>n' == h || (n' == n && kE (q++[(i,j)]) p'))));simpa [one,mh,St.node,hn,h1,h2,St.plug] using this
   ·refine .none fun ts=>?_;simp only [one,mh,St.node,hn];split
    ·rename_i nl es cap rows he;split
     ·rename_i row hr;split
      ·rename_i hh;simp only [cb] at he;exact (hc ⟨nl,es,cap,rows,row,he,hr,hh⟩).elim
      ·rfl
     ·rfl
    ·rfl
def Tw (h:Nat) (c:C) (R:Nat->C):yF R (vV h c):=by
 by_cases hd:dN (R h)=true
 case neg=>exact .none fun ts=>by simp [vV,hd]
 by_cases hp:∃ n p lo len cap,c=.pal n p lo len cap
 ·obtain ⟨n,p,lo,len,cap,rfl⟩:=hp;cases hn:(R n).at p with
  | none=>exact .none fun ts=>by simp [vV,hd,St.node,hn]
  | some nd=>
   by_cases hc:∃ nl es cap' rows,nd=.sl true nl es cap' rows/\n < H0
   ·obtain ⟨nl,es,cap',rows,rfl,hlt⟩:=hc;refine .inr ⟨poi (fun n' p'=>n' == n && kE p p'),(St.move ⟨[],R⟩ n p lo len cap h es rows).roots,fun n' p'=>n' == n && kE p p',.poi _,fun ts=>?_⟩;simp [vV,hd,St.node,hn,hlt,St.move]
   ·refine .none fun ts=>?_;simp only [vV,hd,if_true,St.node,hn];split
    ·rename_i nl es cap' rows he;split
     ·rename_i hlt;simp only [cb] at he;exact (hc ⟨nl,es,cap',rows,he,hlt⟩).elim
     ·rfl
    ·rfl
 ·have e:∀ ts,vV h c ⟨ts,R⟩=if c.cellOk then some (⟨ts,upd R h c.frz⟩,fun _ _=>false) else none:=by
   intro ts;cases c with
   | pal n p lo len cap=>exact (hp ⟨n,p,lo,len,cap,rfl⟩).elim
   | _=>simp [vV,hd]
  cases hok:c.cellOk with
  | true=>exact .inr ⟨id,upd R h c.frz,fun _ _=>false,.id,fun ts=>by rw [e,hok]; simp⟩
  | false=>exact .none fun ts=>by rw [e,hok]; simp
theorem IK:∀ (k h:Nat) (cs:List C) (keep:C) (R:Nat->C),yF R (jE k h cs keep)
 | 0,h,cs,keep,R=>.same keep fun ts=>by cases cs<;>rfl
 | k+1,h,[],keep,R=>.same keep fun ts=>rfl
 | k+1,h,c::cs,keep,R=>by
  refine yF.step (Tw h c R) (k:=fun f=>jE k (h+1) (cs.map (poi f)) (poi f keep)) (fun f R'=>IK k (h+1) _ _ R') (fun ts=>?_);simp only [jE];cases vV h c ⟨ts,R⟩ with
  | none=>rfl
  | some x=>rfl
def Ug (ti:TI) (x v:C) (R:Nat->C):yF R (one (jN ti x v)):=by
 cases hu:sL ti v with
 | none=>exact .none fun ts=>by simp [one,jN,hu]
 | some cells=>
  by_cases hx:∃ n q i j,x=.pref n q i j
  ·obtain ⟨n,q,i,j,rfl⟩:=hx;by_cases hok:(cells.all C.cellOk)=true
   ·by_cases hd:dN (R H0)=true
    ·rcases NN n q i cells j R with h|⟨g,R2,b,hg,h⟩
     ·exact .none fun ts=>by have:=h ts; simpa [one,jN,hu,hok,hd] using this
     ·exact .inr ⟨g,R2,b,hg,fun ts=>by have:=h ts; simpa [one,jN,hu,hok,hd] using this⟩
    ·exact .none fun ts=>by simp [one,jN,hu,hok,hd]
   ·refine yF.step (IK cells.length H0 cells (.pref n q i j) R) (k:=fun c=>match c with|.pref n q i j=>one (mh n q i j cells.length H0)|_=>fun _=>none) ?_ (fun ts=>?_)
    ·intro c R';cases c with
     | pref n q i j=>exact N2 n q i _ j _ R'
     | _=>exact .none fun _=>rfl
    ·simp only [one,jN,hu,hok,if_false,cR];cases jE cells.length H0 cells (.pref n q i j) ⟨ts,R⟩ with
     | none=>rfl
     | some y=>
      obtain ⟨s,c⟩:=y;cases c<;>rfl
  ·refine .none fun ts=>?_;cases x with
   | pref n q i j=>exact (hx ⟨n,q,i,j,rfl⟩).elim
   | _=>simp [one,jN,hu]
def Uh {ti:TI} {x v c:C} {d:Nat} {st s2:St} (y:Operand) (hc:∀ g R',jg g->St.ev ⟨st.tmps.map g,R'⟩ y=g (st.ev y)) :
  jN ti x v (st.put (some d) (st.ev y))=some s2↔∃ s1,jN ti x v st=some s1/\s2=s1.put (some d) (s1.ev y):=by
 obtain ⟨ts,R⟩:=st;rcases Ug ti x v R with h|⟨g,R',b,hg,h⟩
 ·have h1:∀ ts,jN ti x v ⟨ts,R⟩=none:=fun ts=>by have:=h ts; simpa [one] using this
  simp [St.put,h1]
 ·have h1:∀ ts,jN ti x v ⟨ts,R⟩=some ⟨ts.map g,R'⟩:=fun ts=>by have:=h ts; simpa [one] using this
  have:=hc g R' hg;simp only [St.put,h1,cb,exists_eq_left',xW];constructor
  ·rintro rfl; rw [this]
  ·rintro rfl; rw [this]
def YT (ts:List C) (R R':Nat->C) (y:Operand) (g:C->C) (hg:jg g):St.ev ⟨ts.map g,R'⟩ y=g (St.ev ⟨ts,R⟩ y):=by
 cases y with
 | tmp t=>
  simp only [St.ev,cv];cases ts[t]? with
  | none=>simp [hg.2.2.1]
  | some c=>rfl
 | const v=>
  simp only [St.ev];cases v with
  | agg cs=>exact (hg.2.1 cs.toList).symm
  | _=>exact (hg.1 _).symm
 | func f=>exact (hg.2.2.2 (KL f)).symm
 | global n=>exact hg.2.2.1.symm
def PG (ops:Array Oper) (o:Oper):List Tmp:=
 match o.guard with
 | some (j,_)=>((ops[j]?).bind (·.dst)).toList
 | none=>[]
def lu (ops:Array Oper) (o:Oper):List Tmp:=Pu o.op.operands.toList++PG ops o
def Qo (ops:Array Oper) (x y:Oper):Bool:=
 (match x.dst with|some d=>!(lu ops y).contains d|none=>true) && (match y.dst with|some d=>!(lu ops x).contains d|none=>true) &&
 (match x.dst,y.dst with|some d,some e=>d != e|_,_=>true)
def iN (ops:Array Oper):Nat->Nat->Nat->Bool
 | 0,_,_=>false
 | k+1,j,i=>((ops[i]?).map fun o=>(o.after.any fun e=>e.on == j && Region.binds .any e) || o.after.any fun e=>Nat.blt j e.on && (Region.binds .any e && iN ops k j e.on)).getD false
def EI (ops:Array Oper) (i:Nat):Bool:=(List.range ops.size).all fun j=>j == i || iN ops ops.size j i || iN ops ops.size i j
def zT (ops:Array Oper):Bool:=
 ((List.range ops.size).all fun i=>((ops[i]?).map fun o=>o.after.all fun e=>!Region.binds .any e || decide (e.on < i)).getD true) &&
 ((List.range ops.size).all fun i=>(List.range i).all fun j=>(match ops[j]?,ops[i]? with|some x,some y=>Qo ops x y|_,_=>true) || iN ops ops.size j i)
def NA (o:Oper):Option Tmp:=
 match o.op with
 | .store _ (.tmp n) _=>some n
 | _=>none
def Jp (o:Oper):Bool:=
 match o.op with
 | .store ..=>true
 | _=>false
def Vq (o:Oper):Bool:=o.guard.isNone && (match o.op,o.dst with|.move _,some _=>true|.assign _,some _=>true|_,_=>false)
def Mg (o:Oper):Bool:=o.guard.isNone && (match o.op with|.extract ..=>true|.move _=>true|.assign _=>true|.slice ..=>true|.binOp .sub _ _ (.const (.int _ _)) _=>true|_=>false)
def Jb (ops:Array Oper) (x:Nat):Bool:=
 match ops[x]? with
 | some o=>Mg o && Region.noSelect ops && (List.range ops.size).all fun j=>j == x || iN ops ops.size j x || (match ops[j]? with|some oj=>oj.after.any (fun e=>Region.binds .any e && e.on == x) || o.apart ops oj|none=>true)
 | none=>false
def HU (ops:Array Oper):Nat->Nat->Nat->Bool
 | 0,_,_=>false
 | k+1,x,A=>Nat.blt x A && (Jb ops x && (match ops[x]? with|some o=>o.after.all fun e=>!(Region.binds .any e) || iN ops ops.size e.on A || HU ops k e.on A|none=>false))
def G1 (ops:Array Oper) (x A:Nat):Bool:=HU ops ops.size x A
def Iv (ops:Array Oper) (i:Nat):Bool:=((ops[i]?).map fun o=>Jp o && o.dst.isNone && o.guard.isNone).getD false &&
 (List.range ops.size).all fun j=>j == i || iN ops ops.size j i || iN ops ops.size i j || ((ops[j]?).map Vq).getD false || G1 ops j i
def L6 (ops:Array Oper):List Nat:=(List.range ops.size).filter fun j=>((ops[j]?).map Jp).getD false && !EI ops j
def zF (ops:Array Oper):List Nat:=if (L6 ops).all (Iv ops) then [] else L6 ops
def o4 (ops:Array Oper) (i:Nat):Bool:=Iv ops i && (L6 ops).all (Iv ops)
def ke (ops:Array Oper) (i:Nat):Bool:=(EI ops i || o4 ops i) && (zF ops).isEmpty
def Ji (ops:Array Oper) (i j:Nat):Bool:=i != j && !iN ops ops.size i j && !iN ops ops.size j i
def vg (n:Nat) (st:St) (t:Tmp):Bool:=
 match st.tmps[t]? with
 | some c=>!(c.ment (fun n' _=>n' == n) 3)
 | none=>true
def chk (ops:Array Oper) (i:Nat) (o:Oper) (st:St):Bool:=
 (zF ops).all fun j=>!(Ji ops i j) || (match (ops[j]?).bind NA with
  | some n=>(match o.dst with|some d=>decide (d < H0)|none=>true) && (lu ops o).all (vg n st)
  | none=>true)
def yu (E:Env) (ops:Array Oper) (i:Nat) (o:Oper) (st:St):Option St:=
 match bx E ops o st with
 | some st'=>some st'
 | none=>if ke ops i=true then eK E ops o st else none
def wc (E:Env) (ops:Array Oper) (i:Nat) (o:Oper) (st:St):Option St:=
 match bx E ops o st with
 | some st'=>if chk ops i o st=true then some st' else none
 | none=>if ke ops i=true then eK E ops o st else none
def ssa (ops:Array Oper):Bool:=
 (List.range ops.size).all fun i=>(List.range ops.size).all fun k=>decide (k < i) || (match ops[i]?,ops[k]? with
  | some x,some y=>(match y.dst with|some d=>!(lu ops x).contains d|none=>true)
  | _,_=>true)
def Bj (ops:Array Oper) (st:St):Bool:=
 (zF ops).isEmpty || (ssa ops && (List.range ops.size).all fun i=>match ops[i]? with|some o=>chk ops i o st|none=>true)
def yB (E:Env) (ops:Array Oper):List (Nat × Oper)->St->Option St
 | [],st=>some st
 | (i,o)::l,st=>match wc E ops i o st with
  | some st'=>yB E ops l st'
  | none=>none
section
variable {X:Ctx} {m:Nat->aq->Value} {st:St} {a:Act} {w:World} {P:Program}
def p8 {E:Env} {ops:Array Oper} {i:Nat} {o:Oper} {st':St} (h:wc E ops i o st=some st'):eK E ops o st=some st':=by
 unfold wc at h;split at h
 ·rename_i s hs;split at h
  ·simp only [cb] at h;subst h;exact AU hs
  ·simp at h
 ·split at h
  ·exact h
  ·simp at h
theorem zo {xs:List Operand} {t:Tmp} (h:Operand.tmp t∈xs):t∈Pu xs:=by
 simp only [Pu,ady];exact ⟨_,h,rfl⟩
theorem LU {E:Env} {ops:Array Oper} {o:Oper} {st st2:St} (h:DR (lu ops o) st st2):my E ops o st2=my E ops o st:=by
 have hb:=PV (E:=E) (o:=o) h (by
  intro x hx t ht;subst ht;exact cH.2 (.inl (zo (by simpa using hx))))
 unfold my;split
 ·exact hb
 ·rename_i j want hg;split
  ·rename_i t ht;have:st2.tmps[t]?=st.tmps[t]?:=(h t (cH.2 (.inr (by simp [PG,hg,ht])))).1;rw [this,hb]
  ·rfl
def Pd {E:Env} {o:Oper} {e:SE} (h:fB E o st=some e):(∃ c,e=.q o.dst c)∨(∃ d t r,o.dst=some d/\e=.n d t r)∨∃ t n v cells,o.dst=none/\o.op=.store t (.tmp n) v/\st.ev (.tmp n)=.pref n [] 0 0/\e=.s n cells:=by
 have quiet:∀ {x:Option C},qSE o x=some e->(∃ c,e=.q o.dst c)∨(∃ d t r,o.dst=some d/\e=.n d t r)∨∃ t n v cells,o.dst=none/\o.op=.store t (.tmp n) v/\st.ev (.tmp n)=.pref n [] 0 0/\e=.s n cells:=by
  intro x hq;cases x with
  | none=>simp [qSE] at hq
  | some c=>simp only [qSE,cb] at hq; exact .inl ⟨c,hq.symm⟩
 unfold fB at h;split at h
 ·split at h
  ·rename_i d ti hd hti;simp only [cb] at h;exact .inr (.inl ⟨d,_,_,hd,h.symm⟩)
  ·simp at h
 ·split at h
  ·rename_i d ti hd hti;unfold O5 at h;split at h
   ·split at h
    ·simp only [cb] at h;exact .inr (.inl ⟨d,_,_,hd,h.symm⟩)
    ·simp at h
   ·simp at h
  ·simp at h
 ·split at h
  ·rename_i d ti hd hti;unfold zl at h;split at h
   ·unfold oJ at h;split at h
    ·split at h
     ·simp at h
     ·split at h
      ·split at h
       ·split at h
        ·simp only [cb] at h;exact .inl ⟨_,by rw [<-h,hd]⟩
        ·simp at h
       ·simp at h
      ·simp at h
    ·simp at h
   ·unfold oJ at h;split at h
    ·split at h
     ·simp at h
     ·split at h
      ·split at h
       ·split at h
        ·simp only [cb] at h;exact .inl ⟨_,by rw [<-h,hd]⟩
        ·simp at h
       ·simp at h
      ·simp at h
    ·simp at h
   ·unfold yy at h;split at h
    ·split at h
     ·simp at h
     ·split at h
      ·split at h
       ·split at h
        ·simp only [cb] at h;exact .inr (.inl ⟨d,_,_,hd,h.symm⟩)
        ·simp at h
       ·simp at h
      ·simp at h
    ·simp at h
  ·simp at h
 ·rename_i t x v hop;unfold CO at h;split at h
  case h_2=>simp at h
  rename_i ti n hd ht;split at h
  case h_2=>simp at h
  rename_i n' hev;split at h
  case isFalse=>simp at h
  rename_i hn;subst hn;split at h
  case h_2=>simp at h
  split at h
  case isFalse=>simp at h
  simp only [cb] at h;exact .inr (.inr ⟨t,n',v,_,hd,hop,hev,h.symm⟩)
 ·split at h
  ·simp at h
  ·exact quiet h
  ·unfold Ds at h;split at h
   ·rename_i d f args hd hct;split at h
    ·split at h
     ·split at h
      ·split at h
       ·split at h
        ·split at h
         ·split at h
          ·simp only [cb] at h;exact .inr (.inl ⟨d,_,_,hd,h.symm⟩)
          ·simp only [cb] at h;exact .inl ⟨_,by rw [hd]; exact h.symm⟩
         ·simp at h
        ·simp at h
       ·simp at h
      ·simp at h
     ·simp at h
    ·simp at h
   ·simp at h
 ·exact quiet h
def CW {E:Env} {ops:Array Oper} {o:Oper} {e:SE} (h:my E ops o st=some e):(∃ c,e=.q o.dst c)∨(∃ d t r,o.dst=some d/\e=.n d t r)∨∃ t n v cells,o.dst=none/\o.op=.store t (.tmp n) v/\st.ev (.tmp n)=.pref n [] 0 0/\e=.s n cells:=by
 unfold my at h;split at h
 ·exact Pd h
 ·split at h
  ·split at h
   ·split at h
    ·exact Pd h
    ·simp only [cb] at h; exact .inl ⟨_,h.symm⟩
   ·simp only [cb] at h; exact .inl ⟨_,h.symm⟩
   ·simp at h
  ·simp at h
def F1.alive (H:F1 P st) {t:Nat} {c v:C} {k n:Nat} {p:aq} (hc:st.tmps[t]?=some c) (ho:occ k c v) (hp:v.place=some (n,p)):st.roots n≠.dead:=by
 obtain ⟨X,a,w,m,H⟩:=H;obtain ⟨u,d,_,hr⟩:=H.tmp t c hc;have key:∀ (k d:Nat) (c:C) (q:aq) (u:Value),occ k c v->rel w (X.S st.roots m) (Lv st.roots m) dm false d q c u->∃ u',Lv st.roots m v u':=by
  intro k
  induction k with
  | zero=>intro d c q u ho _; exact ho.elim
  | succ k ih=>
   intro d c q u ho hr;cases d with
   | zero=>exact hr.elim
   | succ d=>
    cases c with
    | pref n p i j=>simp only [occ] at ho; subst ho; exact ⟨u,hr⟩
    | pal n p lo len cap=>simp only [occ] at ho; subst ho; exact ⟨u,hr⟩
    | agg cs=>
     obtain ⟨c',hm,ho⟩:=ho;obtain ⟨j,hj⟩:=cC hm;obtain ⟨arr,h1,h2,h3⟩:=hr;obtain ⟨u',e1,e2⟩:=h3 j c' hj;exact ih d c' _ u' ho e2
    | tup cs=>
     obtain ⟨c',hm,ho⟩:=ho;obtain ⟨j,hj⟩:=cC hm;obtain ⟨arr,h1,h2,h3⟩:=hr;obtain ⟨u',e1,e2⟩:=h3 j c' hj;exact ih d c' _ u' ho e2
    | clo f cs=>
     obtain ⟨c',hm,ho⟩:=ho;obtain ⟨j,hj⟩:=cC hm;obtain ⟨arr,h1,h2,h3⟩:=hr;obtain ⟨u',e1,e2⟩:=h3 j c' hj;exact ih d c' _ u' ho e2
    | _=>exact ho.elim
 obtain ⟨u',hl⟩:=key k d c [] u ho hr;exact yS hp hl
def SE.dst:SE->Option Nat
 | .q d _=>d
 | .n d _ _=>some d
 | .s _ _=>none
theorem Ih {E:Env} {ops:Array Oper} {o:Oper} {e:SE} (h:my E ops o st=some e):e.dst=o.dst:=by
 rcases CW h with ⟨c,rfl⟩|⟨d,t,r,hd,rfl⟩|⟨t,n,v,cells,hd,_,_,rfl⟩
 ·rfl
 ·rw [hd]; rfl
 ·rw [hd]; rfl
def MN {n:Nat} {t:Tmp} (h:vg n st t=true) {c:C} (hc:st.tmps[t]?=some c) {k:Nat} {v:C} {n':Nat} {p:aq} (ho:occ k c v) (hp:v.place=some (n',p)):n'≠n:=by
 unfold vg at h;rw [hc] at h;simp only [nD] at h;obtain ⟨n2,p2,e1,e2⟩:=ir k 3 c v h ho;rw [hp] at e1;simp only [cb,cz] at e1;obtain ⟨rfl,rfl⟩:=e1;simpa using e2
def vc {n:Nat} {cells:List C} {s1:St} (h:vi n cells st=some s1):∃ nl es cap row,st.roots n=.sl true nl es cap [row]/\dN (st.roots H0)=true/\n < H0/\s1={ tmps:=st.tmps,roots:=upd st.roots n (.sl true nl es cap [cells.map C.frz++row.drop cells.length]) }:=by
 unfold vi at h;split at h
 case h_2=>simp at h
 rename_i nl es cap row hr;split at h
 case isFalse=>simp at h
 rename_i hc;simp only [cb] at h;exact ⟨nl,es,cap,row,hr,hc.1,hc.2.1,h.symm⟩
def rX {n:Nat} {cells:List C} {st2:St} (h1:st2.roots n=st.roots n) (h2:dN (st2.roots H0)=dN (st.roots H0)) {s1:St} (h:vi n cells st=some s1) :
  vi n cells st2=some { tmps:=st2.tmps,roots:=upd st2.roots n (s1.roots n) }:=by
 unfold vi at h ⊢;rw [h1,h2];split at h
 case h_2=>simp at h
 rename_i nl es cap row hr;split at h
 case isFalse=>simp at h
 rename_i hc;simp only [cb] at h;subst h;simp only [if_pos hc,aC]
def Ki (H:F1 P st) {ts:List Tmp} {e:SE} {st':St} (h:e.apply st=some st') (hd:∀ d,e.dst=some d->d∉ts) (hv:∀ n cells,e=.s n cells->∀ t∈ts,vg n st t=true):DR ts st st':=by
 intro t ht;cases e with
 | q d c=>
  simp only [SE.apply,cb] at h;subst h;cases d with
  | none=>exact ⟨rfl,fun _ _ _ _ _ _ _ _=>rfl⟩
  | some d=>
   have hne:d≠t:=by rintro rfl; exact hd d rfl ht
   exact ⟨by simp [St.put,hU,hne],fun _ _ _ _ _ _ _ _=>rfl⟩
 | n d tmp root=>
  simp only [SE.apply] at h;split at h
  ·rename_i hdd;simp only [cb] at h;subst h;have hne:d≠t:=by rintro rfl; exact hd d rfl ht
   refine ⟨by simp [hU,hne],?_⟩;intro c hc k v n p ho hp;have:n≠d:=by
    rintro rfl;exact H.alive hc ho hp (y9 hdd)
   simp [aO this]
  ·simp at h
 | s n cells=>
  obtain ⟨nl,es,cap,row,e1,e2,e3,rfl⟩:=vc h;refine ⟨rfl,?_⟩;intro c hc k v n' p ho hp;have:=MN (hv n cells rfl t ht) hc ho hp;simp [aO this]
def H4 (f:Nat->C) {n k:Nat} (h:n≠k) (a b:C):upd (upd f n a) k b=upd (upd f k b) n a:=by
 funext x
 by_cases e1:x=n
 ·subst e1; simp [aC,aO h]
 ·by_cases e2:x=k
  ·subst e2; simp [aC,aO e1]
  ·simp [aO e1,aO e2]
def U3 {n:Nat} {cells:List C} {e2:SE} {s1 s2:St} (h1:vi n cells st=some s1) (h2:e2.apply s1=some s2) (hn:∀ n' c',e2=.s n' c'->n'≠n) (hH:∀ d t r,e2=.n d t r->d≠H0) :
  ∃ s1',e2.apply st=some s1'/\vi n cells s1'=some s2:=by
 obtain ⟨nl,es,cap,row,g1,g2,g3,rfl⟩:=vc h1;cases e2 with
 | q d c=>
  simp only [SE.apply,cb] at h2;subst h2;refine ⟨_,rfl,?_⟩;cases d with
  | none=>exact h1
  | some d=>
   rw [rX (st:=st) (st2:=st.put (some d) c) rfl rfl h1];simp [St.put,aC]
 | n d tmp root=>
  have hH:=hH d tmp root rfl;have hdn:d≠n:=by
   rintro rfl;simp [SE.apply,aC,dN] at h2
  simp only [SE.apply,aO hdn] at h2;split at h2
  case h_2=>simp at h2
  rename_i hdd;simp only [cb] at h2;subst h2;refine ⟨{ tmps:=st.tmps.set d tmp,roots:=upd st.roots d root },by simp only [SE.apply,hdd],?_⟩;rw [rX (st:=st) (by simp [aO hdn.symm]) (by simp [aO hH.symm]) h1];simp only [aC,cb,St.mk.injEq,true_and];exact H4 _ hdn _ _
 | s n2 cells2=>
  have hnn:=hn n2 cells2 rfl;obtain ⟨nl2,es2,cap2,row2,k1,k2,k3,rfl⟩:=vc h2;have hH0:n≠H0:=by omega
  have hH2:n2≠H0:=by omega
  refine ⟨_,rX (st2:=st) (by simp [aO hnn]) (by simp [aO hH0.symm]) h2,?_⟩;rw [rX (st:=st) (by simp [aO hnn.symm]) (by simp [aO hH2.symm]) h1];simp only [aC,cb,St.mk.injEq,true_and];exact H4 _ hnn _ _
def Ys {n:Nat} {cells:List C} {e1:SE} {s1 s2:St} (h1:e1.apply st=some s1) (h2:vi n cells s1=some s2) (hn:∀ n' c',e1=.s n' c'->n'≠n) (hH:∀ d t r,e1=.n d t r->d≠H0/\d≠n) :
  ∃ s1',vi n cells st=some s1'/\e1.apply s1'=some s2:=by
 cases e1 with
 | q d c=>
  simp only [SE.apply,cb] at h1;subst h1;cases d with
  | none=>exact ⟨s2,h2,rfl⟩
  | some d=>
   obtain ⟨nl,es,cap,row,g1,g2,g3,rfl⟩:=vc h2;exact ⟨_,rX (st:=st.put (some d) c) (st2:=st) rfl rfl h2,by simp [SE.apply,St.put,aC]⟩
 | n d tmp root=>
  obtain ⟨hH,hdn⟩:=hH d tmp root rfl;simp only [SE.apply] at h1;split at h1
  case h_2=>simp at h1
  rename_i hdd;simp only [cb] at h1;subst h1;obtain ⟨nl,es,cap,row,g1,g2,g3,rfl⟩:=vc h2;refine ⟨_,rX (st2:=st) (by simp [aO hdn.symm]) (by simp [aO hH.symm]) h2,?_⟩;simp only [SE.apply,aO hdn,hdd,aC,cb,St.mk.injEq,true_and];exact H4 _ hdn.symm _ _
 | s n2 cells2=>
  have hnn:=hn n2 cells2 rfl;obtain ⟨s1',g1,g2⟩:=U3 (e2:=.s n cells) h1 h2 (by rintro _ _ h; cases h; exact hnn.symm) (by rintro _ _ _ h; cases h);exact ⟨s1',g1,g2⟩
def TF {e1 e2:SE} {s1 s2:St} (h1:e1.apply st=some s1) (h2:e2.apply s1=some s2) (hne:∀ d1 d2,e1.dst=some d1->e2.dst=some d2->d1≠d2)
  (hs1:∀ n c,e1=.s n c->(∀ n' c',e2=.s n' c'->n'≠n)/\∀ d t r,e2=.n d t r->d≠H0) (hs2:∀ n c,e2=.s n c->(∀ n' c',e1=.s n' c'->n'≠n)/\∀ d t r,e1=.n d t r->d≠H0/\d≠n) :
  ∃ s1',e2.apply st=some s1'/\e1.apply s1'=some s2:=by
 by_cases c1:∃ n c,e1=.s n c
 ·obtain ⟨n,c,rfl⟩:=c1; exact U3 h1 h2 (hs1 n c rfl).1 (hs1 n c rfl).2
 by_cases c2:∃ n c,e2=.s n c
 ·obtain ⟨n,c,rfl⟩:=c2; exact Ys h1 h2 (hs2 n c rfl).1 (hs2 n c rfl).2
 cases e1 with
 | q d c=>
  simp only [SE.apply,cb] at h1;subst h1;cases d with
  | none=>exact ⟨s2,h2,rfl⟩
  | some d=>
   cases e2 with
   | s n c=>exact (c2 ⟨_,_,rfl⟩).elim
   | q d' c'=>
    simp only [SE.apply,cb] at h2;subst h2;refine ⟨_,rfl,?_⟩;cases d' with
    | none=>rfl
    | some d'=>
     have:=hne d d' rfl rfl;simp only [SE.apply,St.put,cb];rw [ac2 _ _ this.symm]
   | n d' tmp root=>
    have:=hne d d' rfl rfl;cases hdd:dN (st.roots d') with
    | true=>
     simp only [SE.apply,St.put,hdd,cb] at h2 ⊢;subst h2;exact ⟨_,rfl,by rw [ac2 _ _ this.symm]⟩
    | false=>simp [SE.apply,St.put,hdd] at h2
 | n d tmp root=>
  simp only [SE.apply] at h1;split at h1
  ·rename_i hdd;simp only [cb] at h1;subst h1;cases e2 with
   | s n c=>exact (c2 ⟨_,_,rfl⟩).elim
   | q d' c'=>
    simp only [SE.apply,cb] at h2;subst h2;refine ⟨_,rfl,?_⟩;cases d' with
    | none=>simp [SE.apply,St.put,hdd]
    | some d'=>
     have:=hne d d' rfl rfl;simp only [SE.apply,St.put,hdd,cb];rw [ac2 _ _ this.symm]
   | n d' tmp' root'=>
    have hn:=hne d d' rfl rfl;cases hdd':dN (st.roots d') with
    | true=>
     simp only [SE.apply,aO hn.symm,hdd',cb] at h2 ⊢;subst h2;refine ⟨_,rfl,?_⟩;simp only [aO hn,hdd,cb];rw [ac2 _ _ hn.symm]
     congr 1
     funext k
     simp only [upd];by_cases k1:k=d
     ·subst k1; simp [hn]
     ·by_cases k2:k=d'
      ·subst k2; simp [hn.symm]
      ·simp [k1,k2]
    | false=>simp [SE.apply,aO hn.symm,hdd'] at h2
  ·simp at h1
 | s n c=>exact (c1 ⟨_,_,rfl⟩).elim
def H8 {ops:Array Oper} {i:Nat} {o:Oper} {st st2:St} (h:∀ t∈lu ops o,st2.tmps[t]?=st.tmps[t]?):chk ops i o st2=chk ops i o st:=by
 unfold chk
 congr 1
 funext j
 cases (ops[j]?).bind NA with
 | none=>rfl
 | some n=>
  have:(lu ops o).all (vg n st2)=(lu ops o).all (vg n st):=by
   rw [acM,cn,cn];constructor
   ·intro g t ht; have:=g t ht; simpa [vg,h t ht] using this
   ·intro g t ht; have:=g t ht; simpa [vg,h t ht] using this
  simp only [this]
def KI {ops:Array Oper} {i j:Nat} {x y:Oper} {n t:Nat} {v:Operand} (hy:ops[j]?=some y) (hop:y.op=.store t (.tmp n) v) (hlt:j < ops.size) (hb:EI ops j=false) (hrl:o4 ops j=false) (hu:Ji ops i j=true) (h:chk ops i x st=true) :
  (∀ d,x.dst=some d->d < H0)/\∀ t∈lu ops x,vg n st t=true:=by
 unfold chk at h;rw [cn] at h;have:=h j (by
  have h0:j∈L6 ops:=by
   unfold L6;rw [nI];refine ⟨nT.2 hlt,?_⟩;simp [hy,Jp,hop,hb]
  unfold zF;split
  ·rename_i ha;have:=cn.1 ha j h0;simp [o4,this,ha] at hrl
  ·exact h0)
 simp only [hu,nz,nw,hy,cc,NA,hop,cw,cn] at this;refine ⟨?_,this.2⟩;intro d hd;have:=this.1;rw [hd] at this;simpa using this
def aaw {E:Env} (H:F1 P st) {ops:Array Oper} {i j:Nat} {x y:Oper} (hx:ops[i]?=some x) (hy:ops[j]?=some y) (hbx:EI ops i=false) (hby:EI ops j=false) (hrx:o4 ops i=false) (hry:o4 ops j=false) (hu:Ji ops i j=true) (hu':Ji ops j i=true) (hd:Qo ops x y=true) {s1 s2:St}
  (h1:bx E ops x st=some s1) (k1:chk ops i x st=true) (h2:bx E ops y s1=some s2) (k2:chk ops j y s1=true) :
  ∃ s1',bx E ops y st=some s1'/\chk ops j y st=true/\bx E ops x s1'=some s2/\chk ops i x s1'=true:=by
 have hil:=(nc.1 hx).1;have hjl:=(nc.1 hy).1;unfold bx at h1 h2;split at h1
 case h_2=>simp at h1
 rename_i e1 he1;split at h2
 case h_2=>simp at h2
 rename_i e2 he2;have D1:=Ih he1;have D2:=Ih he2;simp only [Qo,cw] at hd;obtain ⟨⟨c1,c2⟩,c3⟩:=hd;have n1:∀ d,e1.dst=some d->d∉lu ops y:=by
  intro d hd hm;rw [D1] at hd;rw [hd] at c1;simp at c1;exact c1 hm
 have n2:∀ d,e2.dst=some d->d∉lu ops x:=by
  intro d hd hm;rw [D2] at hd;rw [hd] at c2;simp at c2;exact c2 hm
 have T1:∀ t∈lu ops y,s1.tmps[t]?=st.tmps[t]?:=by
  intro t ht;cases e1 with
  | q d c=>
   simp only [SE.apply,cb] at h1;subst h1;cases d with
   | none=>rfl
   | some d=>
    have hne:d≠t:=by rintro rfl; exact n1 d rfl ht
    simp [St.put,hU,hne]
  | n d tmp root=>
   simp only [SE.apply] at h1;split at h1
   ·simp only [cb] at h1;subst h1;have hne:d≠t:=by rintro rfl; exact n1 d rfl ht
    simp [hU,hne]
   ·simp at h1
  | s n c=>
   obtain ⟨_,_,_,_,_,_,_,rfl⟩:=vc h1;rfl
 have k2':chk ops j y st=true:=by rw [<-H8 T1]; exact k2
 have A1:=Ki (ts:=lu ops y) H h1 n1 (by
  rintro n c rfl;rcases CW he1 with ⟨_,h⟩|⟨_,_,_,_,h⟩|⟨t,n',v,_,_,hop,_,h⟩
  ·cases h
  ·cases h
  ·cases h;exact (KI hx hop hil hbx hrx hu' k2').2)
 rw [LU A1] at he2;have S1:∀ n c,e1=.s n c->(∀ d,y.dst=some d->d < H0)/\(∀ t∈lu ops y,vg n st t=true)/\n∈lu ops x:=by
  rintro n c rfl;rcases CW he1 with ⟨_,h⟩|⟨_,_,_,_,h⟩|⟨t,n',v,_,_,hop,_,h⟩
  ·cases h
  ·cases h
  ·cases h;obtain ⟨q1,q2⟩:=KI hx hop hil hbx hrx hu' k2';exact ⟨q1,q2,cH.2 (.inl (zo (by simp [hop,Op.operands])))⟩
 have S2:∀ n c,e2=.s n c->(∀ d,x.dst=some d->d < H0)/\(∀ t∈lu ops x,vg n st t=true)/\n∈lu ops y:=by
  rintro n c rfl;rcases CW he2 with ⟨_,h⟩|⟨_,_,_,_,h⟩|⟨t,n',v,_,_,hop,_,h⟩
  ·cases h
  ·cases h
  ·cases h;obtain ⟨q1,q2⟩:=KI hy hop hjl hby hry hu k1;exact ⟨q1,q2,cH.2 (.inl (zo (by simp [hop,Op.operands])))⟩
 have V:∀ n c,e1=.s n c->∃ q,st.tmps[n]?=some (.pref n [] 0 0)/\q=():=by
  rintro n c rfl;rcases CW he1 with ⟨_,h⟩|⟨_,_,_,_,h⟩|⟨t,n',v,_,_,hop,hev,h⟩
  ·cases h
  ·cases h
  ·cases h;simp only [St.ev] at hev;cases hc:st.tmps[n]? with
   | none=>simp [hc] at hev
   | some u=>simp [hc] at hev; subst hev; exact ⟨(),rfl,rfl⟩
 have SS:∀ n c n' c',e1=.s n c->e2=.s n' c'->n'≠n:=by
  intro n c n' c' g1 g2;obtain ⟨_,hv,_⟩:=V n c g1;obtain ⟨_,q2,_⟩:=S2 n' c' g2;obtain ⟨_,_,q3⟩:=S1 n c g1;have:=MN (q2 n q3) hv (k:=1) (v:=.pref n [] 0 0) (n':=n) (p:=[]) rfl rfl;exact this.symm
 obtain ⟨s1',g1,g2⟩:=TF h1 h2 (by
  intro d1 d2 hd1 hd2;rw [D1] at hd1;rw [D2] at hd2;rw [hd1,hd2] at c3;simpa using c3) (by
  intro n c h;refine ⟨fun n' c' h'=>SS n c n' c' h h',?_⟩;rintro d t r rfl;exact Nat.ne_of_lt ((S1 n c h).1 d (by rw [<-D2]; rfl))) (by
  intro n c h;refine ⟨fun n' c' h'=>(SS n' c' n c h' h).symm,?_⟩;rintro d t r rfl;refine ⟨Nat.ne_of_lt ((S2 n c h).1 d (by rw [<-D1]; rfl)),?_⟩;rintro rfl;exact n1 d rfl (S2 d c h).2.2)
 have A2:=Ki (ts:=lu ops x) H g1 n2 (fun n c h=>(S2 n c h).2.1);refine ⟨s1',by simp only [bx,he2]; exact g1,k2',?_,?_⟩
 ·simp only [bx,LU A2,he1];exact g2
 ·rw [H8 (fun t ht=>(A2 t ht).1)];exact k1
def IY {E:Env} {ops:Array Oper} {i:Nat} {o:Oper} {st':St} (hb:EI ops i=false) (hrl:o4 ops i=false) (h:wc E ops i o st=some st'):bx E ops o st=some st'/\chk ops i o st=true:=by
 unfold wc at h;split at h
 ·rename_i s hs;split at h
  ·rename_i hc; rw [hs]; exact ⟨h,hc⟩
  ·simp at h
 ·simp [ke,hb,hrl] at h
def AR {ops:Array Oper} {i:Nat} (h:o4 ops i=true):(zF ops).isEmpty=true:=by
 simp only [o4,cw] at h;simp [zF,h.2]
theorem Im {ops:Array Oper} {i:Nat} {o:Oper} (hf:(zF ops).isEmpty=true):chk ops i o st=true:=by
 unfold chk;rw [ac3.1 hf];rfl
def G9 {E:Env} {ops:Array Oper} {i:Nat} {o:Oper} {st':St} (hr:o4 ops i=true) (h:eK E ops o st=some st'):wc E ops i o st=some st':=by
 unfold wc;cases hs:bx E ops o st with
 | some s=>
  simp only [Im (AR hr),if_true];rw [AU hs] at h;exact h
 | none=>simp only [ke,hr,nE,AR hr,Bool.and_self,if_true]; exact h
def H7 {ops:Array Oper} {i:Nat} {o:Oper} (ho:ops[i]?=some o) (h:o4 ops i=true):∃ t x v,o.op=.store t x v/\o.dst=none/\o.guard=none:=by
 simp only [o4,Iv,cw,ho,cx,nk] at h;obtain ⟨⟨⟨⟨h1,h2⟩,h3⟩,_⟩,_⟩:=h;unfold Jp at h1;split at h1
 ·rename_i t x v hop; exact ⟨t,x,v,hop,by simpa using h2,by simpa using h3⟩
 ·simp at h1
def Ke {ops:Array Oper} {i j:Nat} {x:Oper} (hx:ops[j]?=some x) (h:o4 ops i=true) (hne:j≠i) (h1:iN ops ops.size j i=false) (h2:iN ops ops.size i j=false) (h3:G1 ops j i=false):∃ d y,x.dst=some d/\x.guard=none/\(x.op=.move y∨x.op=.assign y):=by
 simp only [o4,Iv,cw,cn,nT] at h;have:=h.1.2 j (nc.1 hx).1;simp only [h1,h2,h3,hx,cx,nk,nG,ny,beq_iff_eq] at this;have hm:=this.resolve_left hne;simp only [Vq,cw] at hm;obtain ⟨hg,hm⟩:=hm;split at hm
 ·rename_i y d hop hd; exact ⟨d,y,hd,by simpa using hg,.inl hop⟩
 ·rename_i y d hop hd; exact ⟨d,y,hd,by simpa using hg,.inr hop⟩
 ·simp at hm
def Xa {ops:Array Oper} {i j:Nat} (h:i<=j):G1 ops j i=false:=by
 have:Nat.blt j i=false:=by rw [adz]; intro h'; rw [ac4] at h'; omega
 unfold G1;cases ops.size with
 | zero=>rfl
 | succ n=>simp [HU,this]
def D3 {E:Env} {ops:Array Oper} {x:Oper} {d:Nat} {y:Operand} (hd:x.dst=some d) (hg:x.guard=none) (hop:x.op=.move y∨x.op=.assign y) (st:St):bx E ops x st=some (st.put (some d) (st.ev y))/\eK E ops x st=some (st.put (some d) (st.ev y)):=by
 have h1:bx E ops x st=some (st.put (some d) (st.ev y)):=by
  rcases hop with hop|hop<;>simp [bx,my,hg,fB,hop,qSE,qop,SE.apply,hd]
 exact ⟨h1,AU h1⟩
theorem L8 {E:Env} {ops:Array Oper} {o:Oper} {t:TypeId} {x v:Operand} (hop:o.op=.store t x v) (hd:o.dst=none) (hg:o.guard=none) (st:St):eK E ops o st=match E.T t with|some ti=>jN ti (st.ev x) (st.ev v) st|none=>none:=by
 obtain ⟨dst,op,ty,pos,after,guard⟩:=o;simp only at hop hd hg;subst hop; subst hd; subst hg;simp only [eK,exe,kX,kF,fX];cases E.T t with
 | none=>rfl
 | some ti=>simp only; cases jN ti (st.ev x) (st.ev v) st<;>rfl
theorem NS {y:Operand} {d:Nat} {c:C} (h:y≠.tmp d):(st.put (some d) c).ev y=st.ev y:=by
 cases y with
 | tmp t=>
  have:d≠t:=fun e=>h (by rw [e]);simp [St.ev,St.put,hU,this]
 | _=>rfl
def Od {E:Env} {ops:Array Oper} {o x:Oper} {d:Nat} {y:Operand} {t:TypeId} {p v:Operand} (hd:x.dst=some d) (hg:x.guard=none) (hop:x.op=.move y∨x.op=.assign y)
  (hso:o.op=.store t p v) (hsd:o.dst=none) (hsg:o.guard=none) (hdis:d∉lu ops o) {s2:St} :
  eK E ops o (st.put (some d) (st.ev y))=some s2↔∃ s1,eK E ops o st=some s1/\s2=s1.put (some d) (s1.ev y):=by
 have hp:p≠.tmp d:=by rintro rfl; exact hdis (cH.2 (.inl (zo (by simp [hso,Op.operands]))))
 have hv:v≠.tmp d:=by rintro rfl; exact hdis (cH.2 (.inl (zo (by simp [hso,Op.operands]))))
 rw [L8 hso hsd hsg,L8 hso hsd hsg,NS hp,NS hv];cases E.T t with
 | none=>simp
 | some ti=>exact Uh (c:=.dead) y (fun g R' hgc=>YT st.tmps st.roots R' y g hgc)
def uQ {E:Env} {ops:Array Oper} {i:Nat} {o:Oper} {st':St} (h:bx E ops o st=some st') (hc:chk ops i o st=true):wc E ops i o st=some st':=by
 unfold wc; rw [h]; simp [hc]
def Gc {ops:Array Oper} (h:zT ops=true) {i:Nat} {o:Oper} (ho:ops[i]?=some o) {e:Edge} (he:e∈o.after) (hb:Region.binds .any e=true):e.on < i:=by
 simp only [zT,cw,cn,nT] at h;have hi:=(nc.1 ho).1;have:=h.1 i hi;rw [ho] at this;simp only [cx,nk,ad4] at this;have:=this e he;simpa [hb] using this
def LY {ops:Array Oper} (h:zT ops=true) {i j:Nat} {x y:Oper} (hj:ops[j]?=some x) (hi:ops[i]?=some y) (hlt:j < i) (ho:iN ops ops.size j i=false):Qo ops x y=true:=by
 simp only [zT,cw,cn,nT] at h;have:=h.2 i (nc.1 hi).1 j hlt;rw [ho,hj,hi] at this;simpa using this
def SR {ops:Array Oper} (h:zT ops=true):∀ (k j i:Nat),iN ops k j i=true->j < i:=by
 intro k
 induction k with
 | zero=>intro j i ho; simp [iN] at ho
 | succ k ih=>
  intro j i ho;simp only [iN] at ho;cases hi:ops[i]? with
  | none=>simp [hi] at ho
  | some o=>
   simp only [hi,cx,nk,adA,cw,ny,beq_iff_eq] at ho;rcases ho with ⟨e,he,rfl,hb⟩|⟨e,he,_,hb,hor⟩
   ·exact Gc h hi he hb
   ·have h1:=Gc h hi he hb;have:=ih j e.on hor; omega
def UR {ops:Array Oper} (h:zT ops=true) {i j:Nat} (hi:i < ops.size) (hj:j < ops.size) (hlt:j < i) (ho:iN ops ops.size j i=false):EI ops i=false/\EI ops j=false:=by
 have n1:iN ops ops.size i j=false:=by
  cases hh:iN ops ops.size i j with
  | false=>rfl
  | true=>have:=SR h _ _ _ hh; omega
 constructor
 ·rw [adz];intro hb;simp only [EI,cn,nT] at hb;have:=hb j hj;rw [ho,n1] at this;simp at this;omega
 ·rw [adz];intro hb;simp only [EI,cn,nT] at hb;have:=hb i hi;rw [ho,n1] at this;simp at this;omega
def Z0 {E:Env} (hT:TOk P E) (hG:GOk P E) {ops:Array Oper} (hS:zT ops=true) {i:Nat} {o:Oper} (hi:ops[i]?=some o) {post:List (Nat × Oper)} {stf:St}:∀ (pre:List (Nat × Oper)) {st:St},F1 P st ->
  (∀ x∈pre,ops[x.1]?=some x.2/\x.1 < i/\iN ops ops.size x.1 i=false/\G1 ops x.1 i=false)->yB E ops (pre++(i,o)::post) st=some stf ->
  ∃ st1,wc E ops i o st=some st1/\yB E ops (pre++post) st1=some stf:=by
 intro pre
 induction pre with
 | nil=>
  intro st _ _ h;simp only [cK,yB] at h;split at h
  ·rename_i s hs; exact ⟨s,hs,h⟩
  ·simp at h
 | cons x pre ih=>
  intro st H hpre h;obtain ⟨j,x⟩:=x;simp only [nH,yB] at h;split at h
  ·rename_i s1 hs1;obtain ⟨e1,e2,e3,e4⟩:=hpre (j,x) (by simp);simp only at e1 e2 e3 e4;obtain ⟨s2,g1,g2⟩:=ih (H.step hT hG e1 (p8 hs1)) (fun y hy=>hpre y (by simp [hy])) h;obtain ⟨b1,b2⟩:=UR hS (nc.1 hi).1 (nc.1 e1).1 e2 e3;have n1:iN ops ops.size i j=false:=by
    cases hh:iN ops ops.size i j with
    | false=>rfl
    | true=>have:=SR hS _ _ _ hh; omega
   have hne:j≠i:=by omega
   have hdj:=LY hS e1 hi e2 e3;simp only [Qo,cw] at hdj;by_cases ri:o4 ops i=true
   ·obtain ⟨d,y,k1,k2,k3⟩:=Ke e1 ri hne e3 n1 e4;obtain ⟨t,p,v,k4,k5,k6⟩:=H7 hi ri;have hm:=(D3 (E:=E) (ops:=ops) k1 k2 k3 st).2;rw [p8 hs1] at hm;cases hm;have hdis:d∉lu ops o:=by have:=hdj.1.1; rw [k1] at this; simpa using this
    obtain ⟨s1',f1,rfl⟩:=(Od k1 k2 k3 k4 k5 k6 hdis).1 (p8 g1);refine ⟨s1',G9 ri f1,?_⟩;have:=uQ (i:=j) (D3 (E:=E) (ops:=ops) k1 k2 k3 s1').1 (Im (AR ri));simp only [nH,yB,this];exact g2
   by_cases rj:o4 ops j=true
   ·obtain ⟨d,y,k1,k2,k3⟩:=Ke hi rj hne.symm n1 e3 (Xa (by omega));obtain ⟨t,p,v,k4,k5,k6⟩:=H7 e1 rj;have hm:=(D3 (E:=E) (ops:=ops) k1 k2 k3 s1).2;rw [p8 g1] at hm;cases hm;have hdis:d∉lu ops x:=by have:=hdj.1.2; rw [k1] at this; simpa using this
    have hx2:=(Od (st:=st) k1 k2 k3 k4 k5 k6 hdis (s2:=s1.put (some d) (s1.ev y)) (E:=E)).2 ⟨s1,p8 hs1,rfl⟩;refine ⟨_,uQ (D3 (E:=E) (ops:=ops) k1 k2 k3 st).1 (Im (AR rj)),?_⟩;simp only [nH,yB,G9 rj hx2];exact g2
   rw [xp] at ri rj;obtain ⟨a1,a2⟩:=IY b2 rj hs1;obtain ⟨a3,a4⟩:=IY b1 ri g1;obtain ⟨s1',f1,f2,f3,f4⟩:=aaw H e1 hi b2 b1 rj ri (by simp [Ji,n1,e3]; omega) (by simp [Ji,n1,e3]; omega) (LY hS e1 hi e2 e3) a1 a2 a3 a4;refine ⟨s1',uQ f1 f2,?_⟩;simp only [nH,yB,uQ (i:=j) f3 f4];exact g2
  ·simp at h
def fO (ops:Array Oper) (listed:Array Bool):List (Nat × Oper):=(List.range ops.size).filterMap fun k=>if listed.getD k true then none else (ops[k]?).map fun o=>(k,o)
def wo {ops:Array Oper} {listed:Array Bool} (hdown:∀ i o e,listed.getD i false=true->ops[i]?=some o->e∈o.after->Region.binds .any e=true->listed.getD e.on false=true) :
  ∀ (k j i:Nat) (o:Oper),ops[i]?=some o->(∀ e∈o.after,Region.binds .any e=true->listed.getD e.on false=true)->iN ops k j i=true->listed.getD j false=true:=by
 intro k
 induction k with
 | zero=>intro j i o _ _ h; simp [iN] at h
 | succ k ih=>
  intro j i o hi he h;simp only [iN,hi,cx,nk,adA,cw,ny,beq_iff_eq] at h;rcases h with ⟨e,hm,rfl,hb⟩|⟨e,hm,_,hb,hor⟩
  ·exact he e hm hb
  ·have h1:=he e hm hb;cases ho':ops[e.on]? with
   | none=>cases k<;>simp [iN,ho'] at hor
   | some o'=>exact ih j e.on o' ho' (fun e' hm' hb'=>hdown e.on o' e' h1 ho' hm' hb') hor
def AA {α β:Type} {f g:α->Option β}:∀ {l:List α},(∀ x∈l,f x=g x)->l.filterMap f=l.filterMap g:=by
 intro l
 induction l with
 | nil=>intro _; rfl
 | cons x l ih=>intro h; rw [ac5,ac5,h x (by simp),ih (fun y hy=>h y (by simp [hy]))]
def zp {ops:Array Oper} {listed:Array Bool} {x:Nat × Oper}:x∈fO ops listed↔ops[x.1]?=some x.2/\listed.getD x.1 true=false:=by
 unfold fO;simp only [ady,nT];constructor
 ·rintro ⟨k,hk,h⟩;split at h
  ·simp at h
  ·rename_i hl;simp only [cj] at h;obtain ⟨o,h1,rfl⟩:=h;exact ⟨h1,by simpa using hl⟩
 ·rintro ⟨h1,h2⟩;exact ⟨x.1,(nc.1 h1).1,by rw [h2,h1]; simp⟩
def Hl (ops:Array Oper) (listed:Array Bool):(fO ops listed).Pairwise (fun x y=>x.1 < y.1):=by
 unfold fO;rw [List.pairwise_filterMap];refine List.Pairwise.imp ?_ List.pairwise_lt_range;intro a b hab x hx y hy;split at hx
 ·simp at hx
 ·split at hy
  ·simp at hy
  ·simp only [cj] at hx hy;obtain ⟨_,_,rfl⟩:=hx;obtain ⟨_,_,rfl⟩:=hy;exact hab
def Uj {ops:Array Oper} {listed:Array Bool} {i:Nat} (hi:i < listed.size):fO ops (listed.setIfInBounds i true)=(fO ops listed).filter fun x=>x.1 != i:=by
 unfold fO;rw [List.filter_filterMap];apply AA;intro k hk;by_cases e:i=k
 ·subst e;have:(listed.setIfInBounds i true).getD i true=true:=by simp [xx,xF,hi]
  rw [this];generalize listed.getD i true=v;cases v<;>cases ops[i]?<;>simp [Option.filter]
 ·have:(listed.setIfInBounds i true).getD k true=listed.getD k true:=getD_set_ne true e;rw [this];generalize listed.getD k true=v;cases v<;>cases ops[k]?<;>simp [Option.filter,xG e]
def mq {listed:Array Bool} {i:Nat} (h:listed.getD i false=true):listed.getD i true=true:=by
 simp only [xx] at h ⊢;cases hi:listed[i]? with
 | none=>simp [hi] at h
 | some b=>simpa [hi] using h
def mo {α:Type} (P:Program) (s:Sem α):Prop:=∀ w v w1,s.run P w=.ok v w1->w1=w/\∀ w',s.run P w'=.ok v w'
def mo.bind {α β:Type} {s:Sem α} {f:α->Sem β} (h:mo P s) (k:∀ a,mo P (f a)):mo P (s >>= f):=by
 intro w v w1 e;rw [Sem.run_bind] at e;cases hs:s.run P w with
 | ok a w2=>
  rw [hs] at e;obtain ⟨rfl,h1⟩:=h _ _ _ hs;obtain ⟨rfl,h2⟩:=k a _ _ _ e;exact ⟨rfl,fun w'=>by rw [Sem.run_bind,h1]; exact h2 w'⟩
 | _=>rw [hs] at e; cases e
theorem mo.pure {α:Type} (a:α):mo P (Pure.pure a:Sem α):=fun w v w1 e=>by cases e; exact ⟨rfl,fun _=>rfl⟩
def mo.stuck {α:Type} (s:String):mo P (Go.stuck s:Sem α):=fun w v w1 e=>by cases e
def mo.uns {α:Type} (s:Unsupported):mo P (unsupported s:Sem α):=fun w v w1 e=>by cases e
theorem mo.prog:mo P program:=fun w v w1 e=>by cases e; exact ⟨rfl,fun _=>rfl⟩
def mo.und (t:TypeId):mo P (underlying t):=.bind .prog fun p=>by cases p.underlying t<;>first|exact .pure _|exact .stuck _
def mo.size (t:TypeId):mo P (sizeOf t):=.bind (.bind .prog fun p=>by cases p.info? t<;>first|exact .pure _|exact .stuck _) fun _=>.pure _
def mo.bound (x:Value) (y:Nat) (c:BoundsCode):mo P (Instr.sliceBound x y c):=by
 refine .bind ?_ fun a=>?_
 ·unfold asIntOf; split<;>first|exact .pure _|exact .stuck _|exact .uns _
 ·dsimp only; split
  ·exact .pure _
  ·intro w v w1 e; simp [boundsPanic,runtimePanic] at e; (repeat' split at e)<;>cases e
def mo.bounds (b:Bool) (l c:Nat) (lo hi mx:Option Value):mo P (Instr.sliceBounds b l c lo hi mx):=by
 unfold Instr.sliceBounds;repeat' first|exact .bound _ _ _|exact .pure _|exact .stuck _|refine .bind ?_ fun _=>?_|split
def mo.slice (t:TypeId) (u:Value) (lo hi mx:Option Value):mo P (Instr.sliceAt t u lo hi mx):=by
 refine .bind (.und t) fun d=>?_;split
 ·refine .bind (by unfold Instr.sureAddr; split<;>first|exact .pure _|exact .stuck _) fun _=>.bind (.bounds _ _ _ _ _ _) fun _=>.bind (.size _) fun _=>.pure _
 ·refine .bind (.und t) fun d=>?_;split
  ·split
   ·exact .bind (.stuck _) fun _=>.bind (.bounds _ _ _ _ _ _) fun _=>.pure _
   ·exact .bind (.bounds _ _ _ _ _ _) fun _=>.pure _
  ·exact .bind (.bounds _ _ _ _ _ _) fun _=>.bind (.size _) fun _=>.pure _
  ·refine .bind ?_ fun _=>.bind (.und _) fun _=>?_
   ·unfold asAddr; split
    ·exact .pure _
    ·exact fun w v w1 e=>by simp [runtimePanic] at e
    ·exact .stuck _
   ·split
    ·exact .bind (.bounds _ _ _ _ _ _) fun _=>.bind (.size _) fun _=>.pure _
    ·exact .stuck _
  ·exact .stuck _
def mo.sub (t:TypeId) (n:Int) (k k':IntKind) (b:Int) (x y:Operand):mo P (do eqGuard .sub t x y (.int k' n) (.int k b); binOp .sub t (.int k' n) (.int k b)):=by
 refine .bind (.pure ()) fun _=>?_;simp only [binOp];split<;>first|exact .stuck _|exact .pure _
def AS {ops:Array Oper} {o:Oper} {a:Act} {w:World} {K:Act->World->Prop} {s:Sem Value} (hg:o.guard=none) (he:execOp a.eval o=do pure (.value (<-s))) (hf:mo P s) (h:o.wp P a w K (fun _ _ _=>False)):∃ v,Yields P ops o v a/\K (a.put o.dst v) w:=by
 unfold Oper.wp at h;rw [he,Sem.run_bind] at h;cases hs:s.run P w with
 | ok v w1=>
  obtain ⟨rfl,h1⟩:=hf _ _ _ hs;rw [hs] at h;exact ⟨v,.inl ⟨by simp [Region.wanted,hg],fun w'=>by rw [he,Sem.run_bind,h1]; rfl⟩,h⟩
 | halt x w1=>rw [hs] at h; cases x<;>exact h.elim
def TZ {E:Env} {s1:St} {ops:Array Oper} {o:Oper} {a:Act} {w:World} {K:Act->World->Prop} (H:Inv X st a w) (hs:eK E ops o st=some s1) (ht:Mg o=true) (h:o.wp P a w K (fun _ _ _=>False)):∃ v,Yields P ops o v a/\K (a.put o.dst v) w:=by
 obtain ⟨dst,op,ty,pos,after,guard⟩:=o;simp only [Mg,cw,acy] at ht;obtain ⟨rfl,ht⟩:=ht;have key:∀ v,(execOp a.eval ⟨dst,op,ty,pos,after,none⟩)=Pure.pure (.value v)->∃ v,Yields P ops ⟨dst,op,ty,pos,after,none⟩ v a/\K (a.put dst v) w:=fun v e=>AS (s:=Pure.pure v) rfl e (.pure v) h;split at ht
 ·rename_i x ix;refine AS rfl rfl ?_ h;unfold Instr.extract;split
  ·split<;>first|exact .pure _|exact .stuck _
  ·exact .stuck _
 ·exact key _ rfl
 ·exact key _ rfl
 ·exact AS rfl rfl (.slice _ _ _ _ _) h
 ·rename_i t x k b t';obtain ⟨m,H⟩:=H;have hx:=bm H x;simp only [eK,exe,kX,kF,qop,fX] at hs;cases hc:IC (E.T t) .sub (st.ev x) (st.ev (.const (.int k b))) with
  | none=>rw [hc] at hs; cases hs
  | some c=>
   rw [show st.ev (.const (.int k b))=.val (.int k b) from rfl] at hc;generalize hp:(C.val (.int k b))=p at hc;unfold IC at hc;split at hc
   ·rename_i e1;rw [e1] at hx;refine AS rfl (s:=do eqGuard .sub t x (.const (.int k b)) (a.eval x) (.int k b); binOp .sub t (a.eval x) (.int k b)) rfl ?_ h;rw [hx.of_val];exact .sub _ _ _ _ _ _ _
   all_goals first|cases hc|cases hp
 ·cases ht
def U4 (p:Nat->Prop) (h:∃ k,p k):∃ k,p k/\∀ j,p j->k<=j:=by
 classical
 obtain ⟨k,hk⟩:=h
 induction k using Nat.strongRecOn with
 | _ k ih=>
  by_cases hj:∃ j,j < k/\p j
  ·obtain ⟨j,h1,h2⟩:=hj;exact ih j h1 h2
  ·exact ⟨k,hk,fun j hp=>by
    rcases nP j k with h|h
    ·exact (hj ⟨j,h,hp⟩).elim
    ·exact h⟩
def S9 {ops:Array Oper} {i:Nat} {o:Oper} (hi:ops[i]?=some o) (h:Jb ops i=true):Mg o=true/\Region.noSelect ops=true/\∀ j oj,ops[j]?=some oj->j≠i->iN ops ops.size j i=false->(∀ e∈oj.after,Region.binds .any e=true->e.on≠i)->o.apart ops oj=true:=by
 unfold Jb at h;rw [hi] at h;simp only [cw,cn,nT] at h;refine ⟨h.1.1,h.1.2,?_⟩;intro j oj hj hne hor hno;have:=h.2 j (nc.1 hj).1;simp only [hj,hor,nG,ny,beq_iff_eq,hne,false_or] at this;rcases this with h1|h1
 ·obtain ⟨e,he,hb⟩:=adA.1 h1;simp only [cw,beq_iff_eq] at hb;exact absurd hb.2 (hno e he hb.1)
 ·exact h1
def P9 {ops:Array Oper} {listed:Array Bool} (hsz:listed.size=ops.size)
  (hdown:∀ i o e,listed.getD i false=true->ops[i]?=some o->e∈o.after->Region.binds .any e=true->listed.getD e.on false=true) {i:Nat} {o:Oper} (hi2:ops[i]?=some o)
  (hi3:∀ e∈o.after,Region.binds .any e=true->listed.getD e.on false=true) (hno:∀ k,k < i->(Jb ops k=true/\k∈Region.ready .any ops listed)->False) :
  ∀ f x,HU ops f x i=true->listed.getD x false=true:=by
 intro f
 induction f with
 | zero=>intro x h; cases h
 | succ f ih=>
  intro x h;simp only [HU,cw,ac4] at h;obtain ⟨hlt,q1,q2⟩:=h;have hin:=(nc.1 hi2).1;cases hx:ops[x]? with
  | none=>rw [hx] at q2; cases q2
  | some ox=>
   rw [hx] at q2;have hd:∀ e∈ox.after,Region.binds .any e=true->listed.getD e.on false=true:=by
    intro e he hb;have:=(ad4.1 q2) e he;simp only [hb,nz,nw,ny] at this;exact this.elim (wo hdown ops.size e.on i o hi2 hi3) (ih e.on)
   cases hl:listed.getD x false with
   | true=>rfl
   | false=>
    refine (hno x hlt ⟨q1,mem_ready.2 ⟨?_,ox,hx,hd⟩⟩).elim;simp only [xx] at hl ⊢;rw [acz (by omega)] at hl ⊢;simpa using hl
def XH {E:Env} (hT:TOk P E) (hG:GOk P E) {ops:Array Oper} (hS:zT ops=true) {stf:St} {listed:Array Bool} {a:Act} {w:World} (H:Inv X st a w) (hsz:listed.size=ops.size)
  (hdown:∀ i o e,listed.getD i false=true->ops[i]?=some o->e∈o.after->Region.binds .any e=true->listed.getD e.on false=true) {i:Nat} {o:Oper} (hi2:ops[i]?=some o) (hi1:listed.getD i true=false)
  (hi3:∀ e∈o.after,Region.binds .any e=true->listed.getD e.on false=true) (hno:∀ k,k < i->(Jb ops k=true/\k∈Region.ready .any ops listed)->False) (h:yB E ops (fO ops listed) st=some stf) :
  ∃ s1,wc E ops i o st=some s1/\yB E ops (fO ops (listed.setIfInBounds i true)) s1=some stf/\(fO ops (listed.setIfInBounds i true)).length+1=(fO ops listed).length ∧
   (∀ k o e,(listed.setIfInBounds i true).getD k false=true->ops[k]?=some o->e∈o.after->Region.binds .any e=true->(listed.setIfInBounds i true).getD e.on false=true):=by
 have hm:(i,o)∈fO ops listed:=zp.2 ⟨hi2,hi1⟩;obtain ⟨pre,post,hpp⟩:=List.append_of_mem hm;have hs:=Hl ops listed;rw [hpp] at hs h;have hilt:=(nc.1 hi2).1;have hpre:∀ x∈pre,ops[x.1]?=some x.2/\x.1 < i/\iN ops ops.size x.1 i=false/\G1 ops x.1 i=false:=by
  intro x hx;obtain ⟨h1,h2⟩:=zp.1 (show x∈fO ops listed by rw [hpp]; simp [hx]);have hlt:x.1 < i:=(xr.1 hs).2.2 x hx (i,o) (by simp);refine ⟨h1,hlt,?_,?_⟩
  ·cases hor:iN ops ops.size x.1 i with
   | false=>rfl
   | true=>
    have:=wo hdown ops.size x.1 i o hi2 hi3 hor;have:=mq this;rw [h2] at this;simp at this
  ·cases hea:G1 ops x.1 i with
   | false=>rfl
   | true=>
    have:=mq (P9 hsz hdown hi2 hi3 hno _ _ hea);rw [h2] at this;simp at this
 obtain ⟨x1,f1,f2⟩:=Z0 hT hG hS hi2 pre (⟨X,a,w,H⟩:F1 P st) hpre h;have hrest:fO ops (listed.setIfInBounds i true)=pre++post:=by
  rw [Uj (by omega),hpp,xB,ac6];simp only [bne_self_eq_false,cR,if_false]
  congr 1
  ·rw [xP];intro x hx;have:=(hpre x hx).2.1;simp; omega
  ·rw [xP];intro x hx;have:=adB (xr.1 hs).2.1 hx;simp at this;simp; omega
 refine ⟨x1,f1,by rw [hrest]; exact f2,by rw [hrest,hpp]; simp; omega,?_⟩;intro k o' e hk ho' he hb;by_cases e1:i=k
 ·subst e1;rw [hi2] at ho';cases ho';exact getD_set_true (hi3 e he hb)
 ·rw [getD_set_ne false e1] at hk;exact getD_set_true (hdown k o' e hk ho' he hb)
def TY {E:Env} (hT:TOk P E) (hG:GOk P E) {ops:Array Oper} (hS:zT ops=true) {Q:Exit->Act->World->Prop} {stf:St} (hq:∀ a w,Inv X stf a w->Q .normal a w) (hQ:∀ c a w,¬ Q (.panic c) a w):∀ (fuel:Nat) {listed:Array Bool} {st:St} {a:Act} {w:World},
  listed.size=ops.size->(fO ops listed).length=fuel->(∀ i o e,listed.getD i false=true->ops[i]?=some o->e∈o.after->Region.binds .any e=true->listed.getD e.on false=true) ->
  Inv X st a w->yB E ops (fO ops listed) st=some stf->wpAny P .any ops Q fuel listed a w:=by
 have unl:∀ {listed:Array Bool} {j:Nat},listed.size=ops.size->j < ops.size->listed.getD j true=true->listed.getD j false=true:=by
  intro listed j hsz hj h;simp only [xx] at h ⊢;rw [acz (by omega)] at h ⊢;simpa using h
 intro fuel
 induction fuel with
 | zero=>
  intro listed st a w hsz hl hdown H h;have hnil:fO ops listed=[]:=cQ hl;refine ⟨?_,?_⟩
  ·rw [List.eq_nil_iff_forall_not_mem];intro j hj;rw [mem_ready] at hj;obtain ⟨h1,o,h2,_⟩:=hj;have:(j,o)∈fO ops listed:=zp.2 ⟨h2,h1⟩;rw [hnil] at this;simp at this
  ·rw [hnil] at h;simp only [yB,cb] at h;subst h;exact hq a w H
 | succ fuel ih=>
  intro listed st a w hsz hl hdown H h;by_cases hx:∃ k,Jb ops k=true/\k∈Region.ready .any ops listed
  ·obtain ⟨i,⟨htk,hrdy⟩,hmin⟩:=U4 _ hx;obtain ⟨hi1,o,hi2,hi3⟩:=mem_ready.1 hrdy;obtain ⟨x1,f1,f2,f3,f4⟩:=XH hT hG hS H hsz hdown hi2 hi1 hi3 (fun k hk hp=>by have:=hmin k hp; omega) h;obtain ⟨t1,t2,t3⟩:=S9 hi2 htk;have hw:=Fo hT hG H hi2 (p8 f1) (K:=fun a' w'=>Inv X x1 a' w') (Q:=fun _ _ _=>False) (fun _ _ h=>h);unfold wpOp at hw;rw [hi2] at hw;simp only at hw;have hgd:Region.wanted o (yielded ops a.tmps)=true:=by
    have:o.guard=none:=by simp only [Mg,cw,acy] at t1; exact t1.1
    simp [Region.wanted,this]
   rw [if_pos hgd] at hw;rcases hw with hw|⟨_,_,_,hw⟩
   case inr=>exact hw.elim
   obtain ⟨v,hy,H1⟩:=TZ (ops:=ops) H (p8 f1) t1 hw;refine wpAny_first hi2 (Region.noSelect_spec t2) (fun c a w hp=>(hQ c _ _ hp).elim) fuel listed a w ?_ hrdy hy ?_
   ·intro j oj hj hne hun hno;refine t3 j oj hj hne ?_ hno;cases hor:iN ops ops.size j i with
    | false=>rfl
    | true=>
     have:=wo hdown ops.size j i o hi2 hi3 hor;have:=mq this;rw [hun] at this;simp at this
   ·exact ih (by simp [hsz]) (by omega) f4 H1 f2
  refine ⟨?_,?_⟩
  ·intro hr;exfalso;cases hc:fO ops listed with
   | nil=>rw [hc] at hl; simp at hl
   | cons x xs=>
    obtain ⟨h1,h2⟩:=zp.1 (show x∈fO ops listed by rw [hc]; simp);have hx:x.1∈Region.ready .any ops listed:=by
     rw [mem_ready];refine ⟨h2,x.2,h1,?_⟩;intro e he hb;have hlt:=Gc hS h1 he hb;have hin:=(nc.1 h1).1;refine unl hsz (by omega) ?_;cases hle:listed.getD e.on true with
     | true=>rfl
     | false=>
      have hm:(e.on,ops[e.on])∈fO ops listed:=zp.2 ⟨acz (by omega),hle⟩;have hs:=Hl ops listed;rw [hc] at hm hs;rcases cF.1 hm with hm|hm
      ·have:=congrArg Prod.fst hm; simp at this; omega
      ·have:=adB hs hm; simp at this; omega
    rw [hr] at hx;simp at hx
  ·intro i hi;rw [mem_ready] at hi;obtain ⟨hi1,o,hi2,hi3⟩:=hi;obtain ⟨x1,f1,f2,f3,f4⟩:=XH hT hG hS H hsz hdown hi2 hi1 hi3 (fun k _ hp=>hx ⟨k,hp⟩) h;refine Fo hT hG H hi2 (p8 f1) ?_;intro a' w' H';exact ih (by simp [hsz]) (by omega) f4 H' f2
def RU {E:Env} (hT:TOk P E) (hG:GOk P E) (hmix:P.follows .mixedOrders=true) {ops:Array Oper} (hS:zT ops=true) {Q:Exit->Act->World->Prop} {stf:St} (H:Inv X st a w) (h:yB E ops (fO ops (Array.replicate ops.size false)) st=some stf)
  (hq:∀ a w,Inv X stf a w->Q .normal a w) (hQ:∀ c a w,¬ Q (.panic c) a w):wpAny P .any ops Q ops.size (Array.replicate ops.size false) a { w with drawn:=w.drawn+1 }:=by
 obtain ⟨m,H⟩:=H;have hrep:∀ i,(Array.replicate ops.size false).getD i false=false:=by
  intro i;simp only [xx,ac7];split<;>rfl
 refine TY hT hG hS hq hQ ops.size (st:=st) (by simp) ?_ ?_ ⟨m,H.world rfl rfl rfl rfl⟩ h
 ·have:fO ops (Array.replicate ops.size false)=(List.range ops.size).filterMap fun k=>(ops[k]?).map fun o=>(k,o):=by
   unfold fO;apply AA;intro k hk;simp only [nT] at hk;have:(Array.replicate ops.size false).getD k true=false:=by simp [xx,hk]
   rw [this];simp
  rw [this];have:∀ (l:List Nat),(∀ k∈l,k < ops.size)->(l.filterMap fun k=>(ops[k]?).map fun o=>(k,o)).length=l.length:=by
   intro l
   induction l with
   | nil=>intro _; rfl
   | cons k l ih=>
    intro hk;have h1:=hk k (by simp);rw [ac5];simp only [acz h1,cx,cG];rw [ih (fun x hx=>hk x (by simp [hx]))]
  rw [this _ (by simp)];simp
 ·intro i o e hi;rw [hrep] at hi;simp at hi
end
section
variable {X:Ctx} {st:St} {P:Program}
end
def wk (E:Env) (ops:Array Oper):Nat->List Oper->St->Option St
 | _,[],st=>some st
 | k,o::l,st=>match yu E ops k o st with
  | some st'=>wk E ops (k+1) l st'
  | none=>none
def FM (E:Env) (ops:Array Oper) (draw:Bool) (st:St):Option St:=
 match draw with
 | true=>match wk E ops 0 ops.toList st with
  | some s=>if Bj ops s=true then some s else none
  | none=>none
 | false=>qU E ops ops.toList st
def rW (s:St):Prop:=∃ X a w,Inv X s a w
def aX (s s':St):Prop:=∀ X a w,Inv X s a w->Inv X s' a w
def W (E:Env):Code->(Exit->St->Prop)->St->Prop
 | .skip,Q,st=>Q .normal st
 | .region _ ops draw,Q,st=>∃ st',FM E ops draw st=some st'/\Q .normal st'
 | .seq x y,Q,st=>W E x (fun e s=>match e with
  | .normal=>W E y Q s
  | e=>Q e s) st
 | .cond c x y,Q,st=>match st.ev c with
  | .val (.bool b)=>(b=true->W E x Q st)/\(b=false->W E y Q st)
  | _=>False
 | .block id c,Q,st=>W E c (fun e s=>match e with
  | .exit i=>if i=id then Q .normal s else Q (.exit i) s
  | e=>Q e s) st
 | .loop c,Q,st=>rW st->∃ (I:St->Prop) (μ:St->Nat),(∃ s0,aX st s0/\I s0)/\∀ s,I s->rW s->W E c (fun e s'=>match e with
  | .normal=>∃ s'',aX s' s''/\I s''/\μ s'' < μ s
  | e=>Q e s') s
 | .exit id,Q,st=>Q (.exit id) st
 | .label _,Q,st=>Q .normal st
 | .scope c,Q,st=>W E c (fun e s=>match e with
  | .goto _=>False
  | e=>Q e s) st
 | .ret,Q,st=>Q .ret st
 | _,_,_=>False
def jO:Code->Bool
 | .region _ ops true=>zT ops
 | .seq x y=>jO x && jO y
 | .cond _ x y=>jO x && jO y
 | .block _ c=>jO c
 | .loop c=>jO c
 | .scope c=>jO c
 | _=>true
section
variable {X:Ctx} {m:Nat->aq->Value} {st:St} {a:Act} {w:World} {P:Program}
theorem TW {e:SE} {s1:St} {t:Nat} (h:e.apply st=some s1) (hd:∀ d,e.dst=some d->d≠t):s1.tmps[t]?=st.tmps[t]?:=by
 cases e with
 | q d c=>
  simp only [SE.apply,cb] at h;subst h;cases d with
  | none=>rfl
  | some d=>simp [St.put,hU,hd d rfl]
 | n d tmp root=>
  simp only [SE.apply] at h;split at h
  ·simp only [cb] at h;subst h;simp [hU,hd d rfl]
  ·simp at h
 | s n c=>
  obtain ⟨_,_,_,_,_,_,_,rfl⟩:=vc h;rfl
def Pj {E:Env} {ops:Array Oper} {i:Nat} {o:Oper} {s1:St} (hf:(zF ops).isEmpty=false) (h:yu E ops i o st=some s1):bx E ops o st=some s1:=by
 unfold yu at h;split at h
 ·rename_i s hs; rw [hs]; exact h
 ·simp [ke,hf] at h
def R4 {E:Env} {ops:Array Oper} {o:Oper} {s1:St} {t:Nat} (h:bx E ops o st=some s1) (hd:o.dst≠some t):s1.tmps[t]?=st.tmps[t]?:=by
 unfold bx at h;split at h
 case h_2=>simp at h
 rename_i e he;refine TW h ?_;rintro d hd' rfl;rw [Ih he] at hd';exact hd hd'
def S8 {E:Env} {ops:Array Oper} (hf:(zF ops).isEmpty=false):∀ (l:List Oper) (k:Nat) (st:St) {stf:St} {t:Nat},wk E ops k l st=some stf->(∀ o∈l,o.dst≠some t)->stf.tmps[t]?=st.tmps[t]?:=by
 intro l
 induction l with
 | nil=>intro k st stf t h _; simp only [wk,cb] at h; subst h; rfl
 | cons o l ih=>
  intro k st stf t h hd;simp only [wk] at h;split at h
  ·rename_i s1 hs;rw [ih _ _ h (fun o' ho=>hd o' (by simp [ho])),R4 (Pj hf hs) (hd o (by simp))]
  ·simp at h
theorem V8 {ops:Array Oper} {i:Nat} {o:Oper} (hf:(zF ops).isEmpty=true):chk ops i o st=true:=by
 unfold chk;rw [ac3.1 hf];rfl
def To {E:Env} {ops:Array Oper} {stf:St} (hc:Bj ops stf=true):∀ (l:List Oper) (k:Nat) (st:St),(∀ j,l[j]?=ops[k+j]?)->wk E ops k l st=some stf->yB E ops ((l.zipIdx k).map fun x=>(x.2,x.1)) st=some stf:=by
 intro l
 induction l with
 | nil=>intro k st _ h; exact h
 | cons o l ih=>
  intro k st hl h;have h':=h;simp only [wk] at h;split at h
  case h_2=>simp at h
  rename_i s1 hs;have ho:ops[k]?=some o:=by have:=hl 0; simpa using this.symm
  have hkl:=(nc.1 ho).1;have hD:wc E ops k o st=some s1:=by
   have hck:∀ s,bx E ops o st=some s->chk ops k o st=true:=by
    intro s hss;cases hf:(zF ops).isEmpty with
    | true=>exact V8 hf
    | false=>
     simp only [Bj,hf,nw,cw,cn,nT] at hc;have h2:=hc.2 k hkl;rw [ho] at h2;simp only at h2;rw [H8 (st:=stf) (st2:=st)] at *
     ·exact h2
     ·intro t ht;refine (S8 hf (o::l) k st h' ?_).symm;intro o' ho' hdd;obtain ⟨j,hj⟩:=cC ho';rw [hl j] at hj;have hjl:=(nc.1 hj).1;have hs:=hc.1;simp only [ssa,cn,nT] at hs;have:=hs k hkl (k+j) hjl;rw [ho,hj] at this;simp only [hdd] at this;simp at this;rcases this with h|h
      ·omega
      ·exact h ht
   unfold yu at hs;unfold wc;split at hs
   ·rename_i s hss;simp only [cb] at hs;subst hs;simp only [hss,hck _ hss,if_true]
   ·rename_i hss;first|(rw [hss]; exact hs)|exact hs
  simp only [adl,nq,yB,hD];exact ih (k+1) s1 (fun j=>by have:=hl (j+1); rw [nn] at this; rw [this]; congr 1; omega) h
def Tq (ops:Array Oper):fO ops (Array.replicate ops.size false)=(ops.toList.zipIdx 0).map fun x=>(x.2,x.1):=by
 have h1:fO ops (Array.replicate ops.size false)=(List.range ops.size).filterMap fun k=>(ops[k]?).map fun o=>(k,o):=by
  unfold fO;apply AA;intro k hk;simp only [nT] at hk;have:(Array.replicate ops.size false).getD k true=false:=by simp [xx,hk]
  rw [this];simp
 rw [h1];have key:∀ (l:List Oper) (k:Nat),(∀ j,l[j]?=ops[k+j]?)->(List.range' k l.length).filterMap (fun k=>(ops[k]?).map fun o=>(k,o))=(l.zipIdx k).map fun x=>(x.2,x.1):=by
  intro l
  induction l with
  | nil=>intro k _; rfl
  | cons o l ih=>
   intro k hl;have h0:ops[k]?=some o:=by have:=hl 0; simpa using this.symm
   simp only [cG,acx,ac5,h0,cx,adl,nq];rw [ih (k+1) (fun j=>by have:=hl (j+1); rw [nn] at this; rw [this]; congr 1; omega)]
 have:=key ops.toList 0 (fun j=>by simp);rw [<-this,ad5];simp
def rY (p:Nat->Prop) (h:∃ k,p k):∃ k,p k/\∀ j,p j->k<=j:=by
 classical
 obtain ⟨k,hk⟩:=h
 induction k using Nat.strongRecOn with
 | _ k ih=>
  by_cases hj:∃ j,j < k/\p j
  ·obtain ⟨j,h1,h2⟩:=hj;exact ih j h1 h2
  ·exact ⟨k,hk,fun j hp=>by by_cases hlt:j < k; exact absurd ⟨j,hlt,hp⟩ hj; omega⟩
def KQ (X:Ctx) (ts:List Tmp) (a:Act) (Q:Exit->St->Prop) (e:Exit) (a':Act) (w':World):Prop:=(∃ s,Q e s/\Inv X s a' w')/\(e=.outgrown∨tv ts a a')
def KQ.mk' {ts:List Tmp} {Q:Exit->St->Prop} {e:Exit} {s:St} {a0 a':Act} (h:Q e s) (H:Inv X s a' w) (hs:tv ts a0 a'):KQ X ts a0 Q e a' w:=⟨⟨s,h,H⟩,.inr hs⟩
def KQ.from {ts:List Tmp} {Q:Exit->St->Prop} {e:Exit} {a0 a1 a':Act} (h:KQ X ts a1 Q e a' w) (hs:tv ts a0 a1):KQ X ts a0 Q e a' w:=⟨h.1,h.2.imp id fun h=>hs.trans h⟩
def Zm {E:Env} (hT:TOk P E) (hG:GOk P E) (hmix:P.follows .mixedOrders=true) {ts:List Tmp}:∀ (c:Code) {Q:Exit->St->Prop} {st:St} {a:Act} {w:World},jO c=true->kH ts c=true->W E c Q st->Inv X st a w->c.wp P (KQ X ts a Q) a w:=by
 intro c
 induction c with
 | skip=>intro Q st a w _ _ h H; exact wp_skip (.mk' h H (.refl _ _))
 | region id ops draw=>
  intro Q st a w hc hk h H;obtain ⟨st',h1,h2⟩:=h;cases draw with
  | true=>
   unfold FM at h1;dsimp only at h1;split at h1
   case h_2=>simp at h1
   rename_i s hs;split at h1
   case isFalse=>simp at h1
   rename_i hfin;simp only [cb] at h1;subst h1;have h1:=To hfin ops.toList 0 st (fun j=>by simp) hs;rw [<-Tq] at h1;refine wp_mono (wp_region_any hmix (Me hk _ _ _ _ (.refl _ _) (RU (Q:=fun e a' w'=>e=.normal/\Inv X s a' w') hT hG hmix hc H h1 (fun a w H'=>⟨rfl,H'⟩) (fun c a w h=>by cases h.1)))) ?_;rintro e a' w' ⟨⟨rfl,Hf⟩,hsm⟩;exact ⟨⟨s,h2,Hf⟩,hsm⟩
  | false=>
   simp only [FM] at h1;refine wp_region (TE hk _ _ _ (.refl _ _) ?_);have:=Yz hT hG (Q:=fun e a' w'=>∃ s,Q e s/\Inv X s a' w') ops.toList 0 H (fun j=>by simp) h1 (fun a w H'=>⟨st',h2,H'⟩);rw [ad5];simpa using this
 | seq x y ihx ihy=>
  intro Q st a w hc hk h H;simp only [jO,cw] at hc;simp only [kH,cw] at hk;refine wp_seq (wp_mono (ihx hc.1 hk.1 h H) ?_);rintro e a' w' ⟨⟨s,hs,H'⟩,hsm⟩;cases e with
  | normal=>exact wp_mono (ihy hc.2 hk.2 hs H') fun e a2 w2 h2=>h2.from (hsm.resolve_left (by simp))
  | _=>exact ⟨⟨s,hs,H'⟩,hsm⟩
 | cond c x y ihx ihy=>
  intro Q st a w hc hk h H;simp only [jO,cw] at hc;simp only [kH,cw] at hk;simp only [W] at h;split at h
  ·rename_i b hb;obtain ⟨m,HM⟩:=H;have hr:=bm HM c;rw [hb] at hr;have hv:=hr.of_val;cases b with
   | true=>exact wp_cond_true hv (ihx hc.1 hk.1 (h.1 rfl) ⟨m,HM⟩)
   | false=>exact wp_cond_false hv (ihy hc.2 hk.2 (h.2 rfl) ⟨m,HM⟩)
  ·exact h.elim
 | block id c ih=>
  intro Q st a w hc hk h H;refine wp_block (wp_mono (ih hc hk h H) ?_);rintro e a' w' ⟨⟨s,hs,H'⟩,hsm⟩;cases e with
  | exit i=>
   simp only at hs;simp only [Exit.inBlock];have hsm':=hsm.resolve_left (by simp);split at hs
   ·rename_i hi; rw [if_pos hi]; exact .mk' hs H' hsm'
   ·rename_i hi; rw [if_neg hi]; exact .mk' hs H' hsm'
  | _=>exact ⟨⟨s,hs,H'⟩,hsm⟩
 | loop c ih=>
  intro Q st a w hc hk h H;obtain ⟨I,μ,⟨s0,hw,hI⟩,hround⟩:=h ⟨_,_,_,H⟩;have key:∀ (n:Nat) (s:St) (a:Act) (w:World),μ s=n->I s->Inv X s a w->(Code.loop c).wp P (KQ X ts a Q) a w:=by
   classical
   intro n s a0 w hn hIs Hs
   let J:Act->World->Prop:=fun a w=>(∃ s,I s/\Inv X s a w)/\tv ts a0 a
   let ν:Act->World->Nat:=fun a w=>if h:∃ k,∃ s,I s/\Inv X s a w/\μ s=k then Classical.choose (rY _ h) else 0
   refine wp_loop J ν ⟨⟨s,hIs,Hs⟩,.refl _ _⟩ ?_;rintro a w ⟨⟨s1,hI1,H1⟩,hs0⟩;have hex:∃ k,∃ s,I s/\Inv X s a w/\μ s=k:=⟨_,s1,hI1,H1,rfl⟩;obtain ⟨s2,hI2,H2,hm2⟩:=(xK (rY _ hex)).1;have hν:ν a w=μ s2:=by simp only [ν]; rw [dif_pos hex,<-hm2]
   refine wp_mono (ih hc hk (hround s2 hI2 ⟨_,_,_,H2⟩) H2) ?_;rintro e a' w' ⟨⟨s',hs',H'⟩,hsm⟩;cases e with
   | normal=>
    obtain ⟨s'',hw',hI',hlt⟩:=hs';have H'':=hw' X a' w' H';refine ⟨⟨⟨s'',hI',H''⟩,hs0.trans (hsm.resolve_left (by simp))⟩,?_⟩;have hex':∃ k,∃ s,I s/\Inv X s a' w'/\μ s=k:=⟨_,s'',hI',H'',rfl⟩;have:ν a' w'<=μ s'':=by simp only [ν]; rw [dif_pos hex']; exact (xK (rY _ hex')).2 _ ⟨s'',hI',H'',rfl⟩
    omega
   | _=>exact KQ.from (a1:=a) ⟨⟨s',hs',H'⟩,hsm⟩ hs0
  have hk':=key _ s0 a w rfl hI (hw X a w H);exact hk'
 | exit id=>intro Q st a w _ _ h H; exact wp_exit (.mk' h H (.refl _ _))
 | label l=>intro Q st a w _ _ h H; exact wp_label (.mk' h H (.refl _ _))
 | scope c ih=>
  intro Q st a w hc hk h H;refine wp_scope_straight (wp_mono (ih hc hk h H) ?_);rintro e a' w' ⟨⟨s,hs,H'⟩,hsm⟩;cases e with
  | goto l=>exact hs.elim
  | _=>exact ⟨⟨s,hs,H'⟩,hsm⟩
 | ret=>intro Q st a w _ _ h H; exact wp_ret (.mk' h H (.refl _ _))
 | _=>intros; simp_all [W]
def Wk (E:Env) (c:Code) (Q:Exit->St->Prop) (st:St):Prop:=∀ (P:Program),TOk P E->GOk P E->P.follows .mixedOrders=true->jO c=true ->
 ∀ (X:Ctx) (a:Act) (w:World),Inv X st a w->∀ ts:List Tmp,kH ts c=true->c.wp P (KQ X ts a Q) a w
def Fi {E:Env} {c:Code} {Q:Exit->St->Prop} {st:St} (h:W E c Q st):Wk E c Q st:=fun P hT hG hm hc X a w H ts hk=>Zm hT hG hm c hc hk h H
end
def iW (own:List Bool) (i:Nat) (c:C):C:=if own.getD i false then jW 3 i [] c else c
def zx (own:List Bool) (cs:List C) (n:Nat):St:={ tmps:=Dk (iW own) 0 cs++List.replicate (n - cs.length) .dead,roots:=R0 own cs }
def NC (E:Env) (s:St):ResultVar->Option C
 | .tmp t=>some ((s.tmps[t]?).getD .dead)
 | .cell a t=>match E.T t with
  | some ti=>qg s ti ((s.tmps[a]?).getD .dead)
  | none=>none
def wD (E:Env) (s:St):List ResultVar->Option (List C)
 | []=>some []
 | v::vs=>match NC E s v,wD E s vs with
  | some c,some cs=>some (c::cs)
  | _,_=>none
def vC:C->Option C
 | .agg cs=>if cs.all C.cellOk then some (.agg (cs.map C.frz)) else none
 | c=>if c.cellOk then some c.frz else none
def eY:List C->Option (List C)
 | []=>some []
 | c::cs=>match vC c,eY cs with
  | some c',some cs'=>some (c'::cs')
  | _,_=>none
def mL:List C->C
 | [c]=>c
 | cs=>.tup cs
def zH (E:Env) (vs:List ResultVar) (s:St):Option C:=
 match wD E s vs with
 | some cs=>match eY cs with
  | some rs=>some (mL rs)
  | none=>match jE (cs.flatMap bo).length H0 (cs.flatMap bo) .dead s with
   | some (s1,_)=>some (mL (gZ s1.roots H0 cs))
   | none=>none
 | none=>none
def bB (r:C):Prop:=∀ (w:World) (S S':Nat->Prop) (m:aq->Value) (d:Nat) (p:aq) (u:Value),rel w S L0 m true d p r u->rel w S' L0 m true d p r u
section
variable {X:Ctx} {m:Nat->aq->Value} {st:St} {a:Act} {w:World} {P:Program}
def MO (tm:Array Value) (v:ResultVar):Sem Value:=
 match v with
 | .tmp t=>pure (tm.getD t undef)
 | .cell a t=>do loadVar t (<-asAddr (tm.getD a undef))
def YA {E:Env} (hT:TOk P E) (H:ar X m st a w) {v:ResultVar} {c:C} (h:NC E st v=some c) :
  ∃ u,(MO a.tmps v).run P w=.ok u w/\az X m st w c u:=by
 cases v with
 | tmp t=>
  simp only [NC,cb] at h;subst h;exact ⟨_,rfl,bm H (.tmp t)⟩
 | cell x t=>
  simp only [NC] at h;split at h
  ·rename_i ti hti;have hx:=bm H (.tmp x);obtain ⟨u,h1,h2⟩:=SP H (hT t ti hti) hx h;refine ⟨u,?_,h2⟩;simp only [Act.eval] at h1;show ((do loadVar t (<-asAddr (a.tmps.getD x undef)):Sem Value)).run P w=_;generalize a.tmps.getD x undef=y at h1 hx ⊢;cases y with
   | pointer ao=>
    cases ao with
    | none=>simp [Instr.loadAt,Instr.sureAddr,stuck] at h1
    | some ad=>simpa [Instr.loadAt,Instr.sureAddr,asAddr] using h1
   | _=>simp [Instr.loadAt,Instr.sureAddr,stuck] at h1
  ·simp at h
def Jh {E:Env} (hT:TOk P E) (H:ar X m st a w):∀ {vs:List ResultVar} {cs:List C},wD E st vs=some cs ->
  ∃ us:List Value,(vs.mapM (MO a.tmps)).run P w=.ok us w/\us.length=cs.length/\∀ (j:Nat) (c:C),cs[j]?=some c->∃ u,us[j]?=some u/\az X m st w c u:=by
 intro vs
 induction vs with
 | nil=>intro cs h; simp only [wD,cb] at h; subst h; exact ⟨[],by simp,rfl,by simp⟩
 | cons v vs ih=>
  intro cs h;simp only [wD] at h;split at h
  ·rename_i c cs' h1 h2;simp only [cb] at h;subst h;obtain ⟨u,e1,e2⟩:=YA hT H h1;obtain ⟨us,f1,f2,f3⟩:=ih h2;refine ⟨u::us,?_,by simp [f2],?_⟩
   ·rw [List.mapM_cons,Sem.run_bind,e1,Result.andThen_ok,Sem.run_bind,f1,Result.andThen_ok]; rfl
   ·intro j c' hj;cases j with
    | zero=>simp only [cu,cb] at hj; subst hj; exact ⟨u,rfl,e2⟩
    | succ j=>simpa using f3 j c' (by simpa using hj)
  ·simp at h
def Gg (us:List Value):Value:=if h:us.toArray.size=1 then us.toArray[0] else .tuple us.toArray
theorem AW {fn:Func} {us:List Value} (h:(fn.results.toList.mapM (MO a.tmps)).run P w=.ok us w):(results fn a.tmps).run P w=.ok (Gg us) w:=by
 have e:results fn a.tmps=(do let vs <-fn.results.mapM (MO a.tmps); pure (if h:vs.size=1 then vs[0] else Value.tuple vs)):=by
  unfold results
  congr 2
 rw [e];rw [Array.mapM_eq_mapM_toList];simp only [Sem.run_bind,map_eq_pure_bind,h,Result.andThen_ok,Sem.run_pure];rfl
def Qg {S:Nat->Prop} {mr:aq->Value} {cs:List C} {us:List Value} (hl:us.length=cs.length) {d:Nat}
  (h1:∀ c,cs=[c]->∃ u,us[0]?=some u/\rel w S L0 mr true d [] c u)
  (h2:(∀ c,cs≠[c])->∀ (j:Nat) (c:C),cs[j]?=some c->∃ u,us[j]?=some u/\rel w S L0 mr true d [(0,j)] c u):rel w S L0 mr true (d+1) [] (mL cs) (Gg us):=by
 by_cases hc:∃ c,cs=[c]
 ·obtain ⟨c,rfl⟩:=hc;obtain ⟨u,e1,e2⟩:=h1 c rfl;cases us with
  | nil=>simp at hl
  | cons v us=>
   simp only [cG,cY,Nat.add_eq_right,adC] at hl;subst hl;simp only [cu,cb] at e1;subst e1;simpa [mL,Gg] using aS _ _ (xe d) e2
 ·have hp:mL cs=.tup cs:=by
   match cs,hc with
   | [],_=>rfl
   | [c],hc=>exact absurd ⟨c,rfl⟩ hc
   | _::_::_,_=>rfl
  rw [hp];have hne:¬ us.toArray.size=1:=by
   intro h1;simp only [nO] at h1;rw [hl] at h1;exact hc (adD.1 h1)
  refine ⟨us.toArray,by simp only [Gg]; rw [dif_neg hne],by simp [hl],fun j c hj=>?_⟩;obtain ⟨u,e1,e2⟩:=h2 (fun c hcc=>hc ⟨c,hcc⟩) j c hj;exact ⟨u,by simpa using e1,by simpa using e2⟩
def IX {c r:C} {u:Value} (h:az X m st w c u) (hp:vC c=some r):(∃ d,∀ (mr:aq->Value) (p:aq),rel w (X.S st.roots m) L0 mr true d p r u)/\∀ q,¬ ak r q:=by
 cases c with
 | agg cs=>
  simp only [vC] at hp;split at hp
  ·rename_i hall;simp only [cb] at hp;subst hp;obtain ⟨d,h⟩:=h;cases d with
   | zero=>exact h.elim
   | succ d=>
    obtain ⟨arr,rfl,h2,h3⟩:=h;refine ⟨⟨d+1,fun mr p=>⟨arr,rfl,by simpa using h2,fun j c hj=>?_⟩⟩,?_⟩
    ·simp only [cv,cj] at hj;obtain ⟨c0,hj,rfl⟩:=hj;obtain ⟨u',e1,e2⟩:=h3 j c0 hj;exact ⟨u',e1,Au (cn.1 hall c0 (cg hj)) e2⟩
    ·intro q ho;cases q with
     | nil=>simp [ak,C.at,C.isOwn] at ho
     | cons s q=>
      unfold ak at ho;simp only [C.at,C.kid] at ho;split at ho
      ·cases hc:(cs.map C.frz)[s.2]? with
       | none=>simp [hc] at ho
       | some c'=>
        simp only [hc,cc] at ho;simp only [cv,cj] at hc;obtain ⟨c0,hc,rfl⟩:=hc;exact oa (cn.1 hall c0 (cg hc)) ho
      ·simp at ho
  ·simp at hp
 | _=>
  simp only [vC] at hp;split at hp
  ·rename_i hok;simp only [cb] at hp;subst hp;obtain ⟨d,h⟩:=h;exact ⟨⟨d,fun mr p=>Au hok h⟩,fun q=>oa hok⟩
  ·simp at hp
def Tm:∀ {cs rs:List C},eY cs=some rs->rs.length=cs.length/\∀ (j:Nat) (r:C),rs[j]?=some r->∃ c,cs[j]?=some c/\vC c=some r:=by
 intro cs
 induction cs with
 | nil=>intro rs h; simp only [eY,cb] at h; subst h; simp
 | cons c cs ih=>
  intro rs h;simp only [eY] at h;split at h
  ·rename_i c' cs' h1 h2;simp only [cb] at h;subst h;obtain ⟨g1,g2⟩:=ih h2;refine ⟨by simp [g1],?_⟩;intro j r hj;cases j with
   | zero=>simp only [cu,cb] at hj; subst hj; exact ⟨c,rfl,h1⟩
   | succ j=>simpa using g2 j r (by simpa using hj)
  ·simp at h
structure Done (X:Ctx) (w:World) (r:C) (u:Value):Prop where
 ex:∃ mr d,rel w (fun b=>(X.S0 b∨X.w0.heap.size<=b)/\¬ iK r mr b) L0 mr true d [] r u ∧
   (∀ q q' b,ak r q->ak r q'->blk (mr q)=some b->blk (mr q')=some b->q=q')/\(∀ b,iK r mr b->X.w0.heap.size<=b∨X.K b)
 fr:Fr X w
def Mh {E:Env} (hT:TOk P E) (H:ar X m st a w) {cs rs:List C} {us:List Value} (hl:us.length=cs.length) (hr:∀ (j:Nat) (c:C),cs[j]?=some c->∃ u,us[j]?=some u/\az X m st w c u) (hp:eY cs=some rs):(∃ d,rel w (X.S st.roots m) L0 dm true d [] (mL rs) (Gg us))/\∀ q,¬ ak (mL rs) q:=by
 obtain ⟨g1,g2⟩:=Tm hp;have hno:∀ q,¬ ak (mL rs) q:=by
  intro q ho;by_cases hc:∃ c,rs=[c]
  ·obtain ⟨c,rfl⟩:=hc;obtain ⟨c0,e1,e2⟩:=g2 0 c rfl;obtain ⟨u,e3,e4⟩:=hr 0 c0 e1;exact (IX e4 e2).2 q ho
  ·have hpk:mL rs=.tup rs:=by
    match rs,hc with
    | [],_=>rfl
    | [c],hc=>exact absurd ⟨c,rfl⟩ hc
    | _::_::_,_=>rfl
   rw [hpk] at ho;cases q with
   | nil=>simp [ak,C.at,C.isOwn] at ho
   | cons s q=>
    unfold ak at ho;simp only [C.at,C.kid] at ho;split at ho
    ·cases hc:rs[s.2]? with
     | none=>simp [hc] at ho
     | some c'=>
      simp only [hc,cc] at ho;obtain ⟨c0,e1,e2⟩:=g2 _ c' hc;obtain ⟨u,e3,e4⟩:=hr _ c0 e1;exact (IX e4 e2).2 q ho
    ·simp at ho
 have hd:∃ D,∀ (j:Nat) (r:C),rs[j]?=some r->∃ u,us[j]?=some u/\∀ (mr:aq->Value) (p:aq),rel w (X.S st.roots m) L0 mr true D p r u:=by
  clear hno;have key:∀ (n:Nat),∃ D,∀ (j:Nat) (r:C),j < n->rs[j]?=some r->∃ u,us[j]?=some u/\∀ (mr:aq->Value) (p:aq),rel w (X.S st.roots m) L0 mr true D p r u:=by
   intro n
   induction n with
   | zero=>exact ⟨0,fun j r hj=>by omega⟩
   | succ n ih=>
    obtain ⟨D,hD⟩:=ih;cases hn:rs[n]? with
    | none=>exact ⟨D,fun j r hj hr=>by
      by_cases e:j=n
      ·subst e; rw [hn] at hr; simp at hr
      ·exact hD j r (by omega) hr⟩
    | some r0=>
     obtain ⟨c0,e1,e2⟩:=g2 n r0 hn;obtain ⟨u0,e3,e4⟩:=hr n c0 e1;obtain ⟨⟨d0,e5⟩,_⟩:=IX e4 e2;refine ⟨max D d0,fun j r hj hrj=>?_⟩;by_cases e:j=n
     ·subst e;rw [hn] at hrj;cases hrj;exact ⟨u0,e3,fun mr p=>aS _ _ (n8 _ _) (e5 mr p)⟩
     ·obtain ⟨u,f1,f2⟩:=hD j r (by omega) hrj;exact ⟨u,f1,fun mr p=>aS _ _ (nR _ _) (f2 mr p)⟩
  obtain ⟨D,hD⟩:=key rs.length;exact ⟨D,fun j r hj=>hD j r (cd.1 hj).1 hj⟩
 obtain ⟨D,hD⟩:=hd;have hrel:=Qg (w:=w) (S:=X.S st.roots m) (mr:=dm) (cs:=rs) (us:=us) (by omega) (d:=D) (by
  intro c hc;subst hc;obtain ⟨u,e1,e2⟩:=hD 0 c rfl;exact ⟨u,e1,e2 dm []⟩) (by
  intro _ j c hj;obtain ⟨u,e1,e2⟩:=hD j c hj;exact ⟨u,e1,e2 dm _⟩)
 exact ⟨⟨D+1,hrel⟩,hno⟩
def Db {E:Env} (hT:TOk P E) (H:ar X m st a w) {cs rs:List C} {us:List Value} (hl:us.length=cs.length) (hr:∀ (j:Nat) (c:C),cs[j]?=some c->∃ u,us[j]?=some u/\az X m st w c u) (hp:eY cs=some rs):Done X w (mL rs) (Gg us):=by
 obtain ⟨⟨D,hrel⟩,hno⟩:=Mh hT H hl hr hp;refine ⟨⟨dm,D,?_,fun q q' b ho=>(hno q ho).elim,fun b ⟨q,ho,_⟩=>(hno q ho).elim⟩,H.fr⟩;exact av (fun b _ hs=>⟨⟨hs.1,fun ⟨q,ho,_⟩=>hno q ho⟩,rfl⟩) D (fun _ _ _ h=>h) (fun _ q b ho=>(hno q ho).elim) (fun _ q ho=>(hno q ho).elim) hrel
def yK (cs:List C) (q:aq):Nat × aq:=
 match cs,q with
 | [c],q=>gP H0 c q
 | cs,(_,i)::q=>gP (hOf H0 cs i) ((cs[i]?).getD .dead) q
 | _,[]=>(H0,[])
def Et {E:Env} (hT:TOk P E) (H:ar X m st a w) {cs:List C} {us:List Value} (hl:us.length=cs.length) (hr:∀ (j:Nat) (c:C),cs[j]?=some c->∃ u,us[j]?=some u/\az X m st w c u) {s1:St} {kp:C} (hp:jE (cs.flatMap bo).length H0 (cs.flatMap bo) .dead st=some (s1,kp)):Done X w (mL (gZ s1.roots H0 cs)) (Gg us):=by
 obtain ⟨vs,v1,v2,v3⟩:=J7 hl hr;obtain ⟨m',H',_,g1,_⟩:=zW (cs.flatMap bo).length rfl v1 (cr _) H v2 (keep:=.dead) (ku:=undef) ⟨1,trivial⟩ hp;have comps:∀ (i:Nat) (c:C),cs[i]?=some c->∃ u,us[i]?=some u/\∃ d,rel w (X.S s1.roots m') L0 (fun q=>m' (gP (hOf H0 cs i) c q).1 (gP (hOf H0 cs i) c q).2) true d [] (j3 s1.roots (hOf H0 cs i) c) u:=by
  intro i c hc;obtain ⟨u,hu,_⟩:=hr i c hc;refine ⟨u,hu,?_⟩;have h3:=v3 i c u hc hu;have hh:hOf H0 cs i=H0+hOf 0 cs i:=by have:=CN H0 cs 0 i; simpa using this
  have:=QX (w:=w) (R:=fun n=>s1.roots (H0+n)) (S:=X.S s1.roots m') (m:=fun n=>m' (H0+n)) (h:=hOf 0 cs i) (c:=c) (u:=u) h3 (fun n v hn=>g1 n v hn);obtain ⟨d,hd⟩:=this;refine ⟨d,?_⟩;have e1:j3 (fun n=>s1.roots (H0+n)) (hOf 0 cs i) c=j3 s1.roots (hOf H0 cs i) c:=by
   cases c<;>simp [j3,hh,nf]
  rw [e1] at hd;refine av (fun b _ hb=>⟨hb,rfl⟩) d (fun _ _ _ h=>h) (fun _ _ _ _ _ _=>rfl) (fun _ q _=>?_) hd;simp only [cK];have e2:(gP (hOf H0 cs i) c q)=(H0+(gP (hOf 0 cs i) c q).1,(gP (hOf 0 cs i) c q).2):=by
   cases c<;>cases q<;>simp [gP,hh,nf]
  rw [e2]
 have hone:∀ c,cs=[c]->∀ q,yK cs q=gP H0 c q:=by rintro c rfl q; simp [yK]
 have hmany:(∀ c,cs≠[c])->∀ (s:Nat × Nat) q,yK cs (s::q)=gP (hOf H0 cs s.2) ((cs[s.2]?).getD .dead) q:=by
  intro hne s q
  match cs,hne with
  | [],_=>simp [yK]
  | [c],hne=>exact absurd rfl (hne c)
  | _::_::_,_=>simp [yK]
 have hpack1:∀ c,cs=[c]->mL (gZ s1.roots H0 cs)=j3 s1.roots H0 c:=by
  rintro c rfl;rw [rZ];rfl
 have hpackn:(∀ c,cs≠[c])->mL (gZ s1.roots H0 cs)=.tup (gZ s1.roots H0 cs):=by
  intro hne
  match cs,hne with
  | [],_=>rfl
  | [c],hne=>exact absurd rfl (hne c)
  | _::_::_,_=>rw [rZ,rZ]; rfl
 have hh0:∀ c,cs=[c]->hOf H0 cs 0=H0:=by rintro c rfl; rfl
 have own_names:∀ q,ak (mL (gZ s1.roots H0 cs)) q->ak (s1.roots (yK cs q).1) (yK cs q).2:=by
  intro q ho;by_cases hc:∃ c,cs=[c]
  ·obtain ⟨c,hc⟩:=hc;rw [hpack1 c hc] at ho;rw [hone c hc];exact (yL ho).1
  ·have hne:∀ c,cs≠[c]:=fun c h=>hc ⟨c,h⟩;rw [hpackn hne] at ho;cases q with
   | nil=>simp [ak,C.at,C.isOwn] at ho
   | cons s q=>
    rw [hmany hne];unfold ak at ho;simp only [C.at,C.kid] at ho;split at ho
    ·rw [yl] at ho;cases hci:cs[s.2]? with
     | none=>simp [hci] at ho
     | some c=>
      simp only [hci,cx,cc] at ho;exact (yL ho).1
    ·simp at ho
 have inj_names:∀ q q',ak (mL (gZ s1.roots H0 cs)) q->ak (mL (gZ s1.roots H0 cs)) q'->yK cs q=yK cs q'->q=q':=by
  intro q q' ho ho' he;by_cases hc:∃ c,cs=[c]
  ·obtain ⟨c,hc⟩:=hc;rw [hpack1 c hc] at ho ho';rw [hone c hc,hone c hc] at he;exact K5 ho ho' he
  ·have hne:∀ c,cs≠[c]:=fun c h=>hc ⟨c,h⟩;rw [hpackn hne] at ho ho';cases q with
   | nil=>simp [ak,C.at,C.isOwn] at ho
   | cons s q=>
    cases q' with
    | nil=>simp [ak,C.at,C.isOwn] at ho'
    | cons s' q'=>
     rw [hmany hne,hmany hne] at he;unfold ak at ho ho';simp only [C.at,C.kid] at ho ho';split at ho
     case isFalse=>simp at ho
     rename_i hs;split at ho'
     case isFalse=>simp at ho'
     rename_i hs';rw [yl] at ho ho';cases hci:cs[s.2]? with
     | none=>simp [hci] at ho
     | some c=>
      cases hci':cs[s'.2]? with
      | none=>simp [hci'] at ho'
      | some c'=>
       simp only [hci,hci',cx,cc,nk] at ho ho' he;obtain ⟨_,r1,r2⟩:=yL ho;obtain ⟨_,r3,r4⟩:=yL ho';have l1:s.2 < cs.length:=(cd.1 hci).1;have l2:s'.2 < cs.length:=(cd.1 hci').1;have hsame:s.2=s'.2:=by
        rcases xi s.2 s'.2 with hlt|heq|hgt
        ·have:=LM (h:=H0) hci hlt l2;rw [he] at r2;omega
        ·exact heq
        ·have:=LM (h:=H0) hci' hgt l1;rw [<-he] at r4;omega
       obtain ⟨i,j⟩:=s;obtain ⟨i',j'⟩:=s';simp only at hs hs' hsame hci hci' ho ho' he;subst hs; subst hs'; subst hsame;rw [hci] at hci';cases hci';rw [K5 ho ho' he]
 have sub:∀ b,iK (mL (gZ s1.roots H0 cs)) (fun q=>m' (yK cs q).1 (yK cs q).2) b->aG s1.roots m' b:=by
  rintro b ⟨q,ho,hb⟩;exact ⟨_,_,own_names q ho,hb⟩
 have hD:∃ D,∀ i,i < cs.length->∃ c u,cs[i]?=some c/\us[i]?=some u/\rel w (X.S s1.roots m') L0 (fun q=>m' (gP (hOf H0 cs i) c q).1 (gP (hOf H0 cs i) c q).2) true D [] (j3 s1.roots (hOf H0 cs i) c) u:=by
  refine D8 (Q:=fun i D=>∃ c u,cs[i]?=some c/\us[i]?=some u/\rel w (X.S s1.roots m') L0 (fun q=>m' (gP (hOf H0 cs i) c q).1 (gP (hOf H0 cs i) c q).2) true D [] (j3 s1.roots (hOf H0 cs i) c) u) ?_ cs.length ?_
  ·rintro i d d' hd ⟨c,u,e1,e2,e3⟩; exact ⟨c,u,e1,e2,aS _ _ hd e3⟩
  ·intro i hi;have e1:cs[i]?=some cs[i]:=by simp [hi]
   obtain ⟨u,e2,d,e3⟩:=comps i _ e1;exact ⟨d,_,u,e1,e2,e3⟩
 obtain ⟨D,hD⟩:=hD;refine ⟨⟨fun q=>m' (yK cs q).1 (yK cs q).2,D+1,?_,?_,?_⟩,H'.fr⟩
 ·refine av (S:=X.S s1.roots m') (m:=fun q=>m' (yK cs q).1 (yK cs q).2) (p:=[]) (w:=w) (fun b _ hs=>⟨⟨hs.1,fun hb=>hs.2 (sub b hb)⟩,rfl⟩) (D+1) (fun _ _ _ h=>h) (fun _ _ _ _ _ _=>rfl) (fun _ _ _=>rfl) ?_;refine Qg (by rw [EZ]; exact hl) ?_ ?_
  ·intro r hr1;have hlen:cs.length=1:=by rw [<-EZ s1.roots (h:=H0),hr1]; rfl
   obtain ⟨c,hc⟩:=adD.1 hlen;obtain ⟨c',u,e1,e2,e3⟩:=hD 0 (by omega);have:j3 s1.roots (hOf H0 cs 0) c'=r:=by
    have:=yl s1.roots (cs:=cs) (h:=H0) (i:=0);rw [hr1,e1] at this;simpa using this.symm
   rw [<-this];refine ⟨u,e2,av (fun b _ hb=>⟨hb,rfl⟩) D (fun _ _ _ h=>h) (fun _ _ _ _ _ _=>rfl) (fun _ q _=>?_) e3⟩;subst hc;simp only [cu,cb] at e1;subst e1;simp only [cK,hOf];rw [hone c rfl]
  ·intro hne j r hj;have hne':∀ c,cs≠[c]:=by
    rintro c rfl;exact hne (j3 s1.roots H0 c) (by rw [rZ]; rfl)
   rw [yl] at hj;simp only [cj] at hj;obtain ⟨c,hc,rfl⟩:=hj;obtain ⟨c',u,e1,e2,e3⟩:=hD j (cd.1 hc).1;rw [hc] at e1;cases e1;refine ⟨u,e2,av (fun b _ hb=>⟨hb,rfl⟩) D (fun _ _ _ h=>h) (fun _ _ _ _ _ _=>rfl) (fun _ q _=>?_) e3⟩;simp only [cK,nH];rw [hmany hne'];simp only [hc,nk]
 ·intro q q' b ho ho' hb hb';have:=H'.inj _ _ _ _ b (own_names q ho) (own_names q' ho') hb hb';exact inj_names q q' ho ho' (Prod.ext this.1 this.2)
 ·rintro b ⟨q,ho,hb⟩;exact H'.own _ _ b (own_names q ho) hb
def Lb {own:List Bool} {cs:List C} {us:List Value} {S:Nat->Prop} {n:Nat} (hl:us.length=cs.length) (hn:cs.length<=n)
  (hr:∀ (i:Nat) (c:C),cs[i]?=some c->∃ u d,us[i]?=some u/\rel w (fun b=>S b/\¬ aG (R0 own cs) m b) L0 (m i) (own.getD i false) d [] c u) (hinj:Inj (R0 own cs) m) :
  ar (Ba w S (aG (R0 own cs) m)) m (zx own cs n) { tmps:=us.toArray++Array.replicate (n - us.toArray.size) undef,defers:=[] } w:=by
 have hS:∀ b,b < w.heap.size->(S b/\¬ aG (R0 own cs) m b)->Ctx.S (Ba w S (aG (R0 own cs) m)) (R0 own cs) m b/\w.heap[b]?=w.heap[b]?:=fun b _ hb=>⟨⟨.inl (.inl hb.1),hb.2⟩,rfl⟩;refine ⟨?_,?_,?_,hinj,?_,⟨rfl,rfl,rfl,cr _,cr _,fun _ _ _=>rfl⟩,rfl⟩
 ·simp only [zx,ni,lr,xq,acJ,nO,ad6]; omega
 ·intro t c ht;simp only [zx] at ht;by_cases hlt:t < cs.length
  ·rw [cJ (by rw [lr]; exact hlt),G2] at ht;simp only [cj,cV] at ht;obtain ⟨c0,h0,rfl⟩:=ht;obtain ⟨u,d,e1,e2⟩:=hr t c0 h0;refine ⟨u,?_⟩;have hu:(us.toArray++Array.replicate (n - us.toArray.size) undef)[t]?=some u:=by
    rw [xg (by simp; omega)]; simpa using e1
   unfold iW;cases ho:own.getD t false with
   | false=>
    rw [ho] at e2;exact ⟨d,hu,by
     simp only [cR,if_false];exact av hS d (fun _ _ _ h=>h.elim) (fun h=>by simp at h) (fun h=>by simp at h) e2⟩
   | true=>
    rw [ho] at e2;refine ⟨d+1,hu,?_⟩;simp only [if_true];have e3:=av (m':=m t) (p':=[]) hS d (L':=L0) (fun _ _ _ h=>h) (fun _ _ _ _ _ _=>rfl) (fun _ _ _=>rfl) e2;refine Pg 3 e3 ?_;intro q nl es cap rows u' dd hq hrel;obtain ⟨a1,k,dd',f1,f2,f3,f4,f5,fz,f6,f7⟩:=eb hrel;simp only [cK] at f1 f2 ⊢;refine ⟨nl,es,cap,rows,a1,k,a1,k,?_,f2,by omega,by rw [f1,f2],f3,by omega,by simp,by simp,?_⟩
    ·have ho':=ho;rw [xO] at ho';simp [zx,R0,ho',h0,hq]
    ·rcases f7 with f7|⟨b,off,arr,elem,g1,_⟩
     ·exact .inl f7
     ·exact .inr ⟨b,off,g1,by simpa using g1⟩
  ·rw [cL (by rw [lr]; omega)] at ht;simp only [adr] at ht;split at ht
   ·rename_i h1;simp only [cb] at ht;subst ht;rw [lr] at h1;refine ⟨undef,1,?_,trivial⟩;rw [acH (by simp; omega)];simp only [nO,ac7];rw [if_pos (by omega)]
   ·simp at ht
 ·intro i;simp only [zx,R0];cases ho:own.getD i false with
  | false=>exact ⟨undef,1,by simp only [cR,if_false]; trivial⟩
  | true=>
   simp only [if_true];cases hc:cs[i]? with
   | none=>exact ⟨undef,1,trivial⟩
   | some c=>
    obtain ⟨u,d,e1,e2⟩:=hr i c hc;rw [ho] at e2;exact ⟨u,d,av hS d (fun _ _ _ h=>h) (fun _ _ _ _ _ _=>rfl) (fun _ _ _=>rfl) e2⟩
 ·intro i p b ho hb;exact .inr ⟨i,p,ho,hb⟩
end
def zw:TypeDesc->Option EK
 | .int _=>some .int
 | .string=>some .str
 | .bool=>some .bool
 | _=>none
def KN (one:TypeId->Option (List EK)):Nat->List Field->Option (List EK)
 | _,[]=>some []
 | k,f::fs=>match one f.type with
  | some e=>match KN one (k+e.length) fs with
   | some es=>if f.name ≠ "_" ∧ f.offset = k then some (e ++ es) else none
   | none=>none
  | none=>none
def ekT (P:Program):Nat->TypeId->Option (List EK)
 | 0,t=>(P.underlying t).bind fun d=>(zw d).map ([·])
 | g+1,t=>match P.underlying t with
  | some (.struct fields)=>match KN (ekT P g) 0 fields.toList with
   | some es=>if P.stoodInHeld t=false/\(P.info? t).map (·.size)=some es.length then some es else none
   | none=>none
  | d=>d.bind fun d=>(zw d).map ([·])
def O8 (P:Program) (t:Nat):List EK:=
 match P.underlying t with
 | some (.struct fields)=>if P.stoodInHeld t=false/\P.eqGuardType P.depth t=false then (KN (ekT P 3) 0 fields.toList).getD [] else []
 | some (.array n e)=>if P.eqGuardType P.depth t=false/\(P.info? e).map (·.size)=some 1 then (((P.underlying e).bind zw).map fun k=>List.replicate n k).getD [] else []
 | _=>[]
def Pf (P:Program):TypeDesc->TK
 | .slice e=>match P.info? e with
  | some i=>.slice e i.size
  | none=>.other
 | .struct fields=>if (fields.toList.mapM (fun f=>(P.info? f.type).map fun i=>(f.offset,i.size))).isSome then .struct (fields.toList.map fun f=>(f.offset,f.type)) else .other
 | .array n e=>match P.info? e with
  | some i=>.arr n e i.size
  | none=>.other
 | .string=>.str
 | .int k=>.int k
 | .bool=>.bool
 | _=>.other
def ey (P:Program) (t:Nat):Option TI:=
 match P.info? t,P.underlying t with
 | some i,some d=>match i.zero with
  | some z=>if z.cells.toList.length=i.size/\z.cells.toList.all Value.oneCell'=true then
    some { size:=i.size,agg:=PF d,bytes:=i.bytes,zero:=z.cells.toList,eqs:=O8 P t,kind:=Pf P d }
   else none
  | none=>none
 | _,_=>none
def UG {P:Program} (d:TypeDesc):U0 P d (Pf P d):=by
 unfold Pf;split
 ·split
  ·rename_i i hi; exact ⟨rfl,i,hi,rfl⟩
  ·trivial
 ·rename_i fields;split
  ·rename_i h;obtain ⟨pl,hpl⟩:=acF.1 h;refine ⟨fields,rfl,?_,pl,hpl⟩;intro k o t hk;simp only [cv,cj,cz] at hk;obtain ⟨f,h1,h2,h3⟩:=hk;exact ⟨f,by simpa using h1,h2,h3⟩
  ·trivial
 ·split
  ·rename_i i hi; exact ⟨rfl,i,hi,rfl⟩
  ·trivial
 all_goals first|rfl|trivial
def Wy {P:Program} {w:World} {t:Nat} {d:TypeDesc} (hd:P.underlying t=some d) (he:(zw d).isSome=true) {cs:Array Value} {k:Nat} {v:Value} (hv:cs[k]?=some v):(part t cs k).run P w=.ok v w:=by
 unfold part isAgg;cases d<;>simp [zw] at he<;>simp [run_underlying hd,hv]
def pv (P:Program) (t:TypeId) (xs:List C):Value:=
 match P.underlying t with
 | some (.struct _)=>.agg (xs.map C.toV).toArray
 | _=>(xs.head?.map C.toV).getD undef
def Xt (P:Program) (D:Nat) (one:TypeId->Option (List EK)):Prop:=∀ t e,one t=some e ->
 (∀ (w:World) (cs:List C) (k:Nat),k+e.length<=cs.length->(part t (cs.map C.toV).toArray k).run P w=.ok (pv P t ((cs.drop k).take e.length)) w) ∧
 (∀ (w:World) (d:Nat) (as bs:List C) (b:Bool),D<=d->dB e as bs=some b->(Op.equalIn d t (pv P t as) (pv P t bs)).run P w=.ok b w)
def FK:∀ {e es:List EK} {as bs:List C} {b:Bool},dB (e++es) as bs=some b ->
  ∃ x y,dB e (as.take e.length) (bs.take e.length)=some x/\dB es (as.drop e.length) (bs.drop e.length)=some y/\b=(x && y)/\e.length<=as.length/\e.length<=bs.length:=by
 intro e
 induction e with
 | nil=>intro es as bs b h; exact ⟨true,b,rfl,by simpa using h,by simp,by simp,by simp⟩
 | cons k e ih=>
  intro es as bs b h;cases as with
  | nil=>simp [dB] at h
  | cons x as=>
   cases bs with
   | nil=>simp [dB] at h
   | cons y bs=>
    simp only [nH,dB] at h;split at h
    case h_2=>simp at h
    rename_i b1 b2 h1 h2;simp only [cb] at h;subst h;obtain ⟨u,v,g1,g2,rfl,g4,g5⟩:=ih h2;exact ⟨b1 && u,v,by simp [dB,h1,g1],by simpa using g2,by simp [Bool.and_assoc],by simpa using g4,by simpa using g5⟩
def RJ:∀ {e:List EK} {as bs:List C} {b:Bool},dB e as bs=some b->as.length=e.length/\bs.length=e.length:=by
 intro e
 induction e with
 | nil=>intro as bs b h; cases as<;>cases bs<;>simp [dB] at h; simp
 | cons k e ih=>
  intro as bs b h;cases as with
  | nil=>simp [dB] at h
  | cons x as=>
   cases bs with
   | nil=>simp [dB] at h
   | cons y bs=>
    simp only [dB] at h;split at h
    case h_2=>simp at h
    rename_i b1 b2 h1 h2;have:=ih h2;simp [this]
def JX {P:Program} {one:TypeId->Option (List EK)} {D d:Nat} (ho:Xt P D one) (hd:D<=d) {as0 bs0:List C}:∀ {fs:List Field} {k:Nat} {es:List EK} {b:Bool} (w:World),KN one k fs=some es->k<=as0.length->k<=bs0.length->dB es (as0.drop k) (bs0.drop k)=some b ->
  (Op.eqFields d (as0.map C.toV).toArray (bs0.map C.toV).toArray fs).run P w=.ok b w:=by
 intro fs
 induction fs with
 | nil=>
  intro k es b w he ha hb hq;simp only [KN,cb] at he;subst he;have:b=true:=by
   revert hq;generalize as0.drop k=u;generalize bs0.drop k=v;cases u<;>cases v<;>simp [dB]
  subst this;rfl
 | cons f fs ih=>
  intro k es b w he ha hb hq;simp only [KN] at he;split at he
  case h_2=>simp at he
  rename_i e h1;split at he
  case h_2=>simp at he
  rename_i es' h2;split at he
  case isFalse=>simp at he
  rename_i hf;simp only [cb] at he;subst he;obtain ⟨x,y,g1,g2,rfl,g4,g5⟩:=FK hq;simp only [acK] at g4 g5;obtain ⟨o1,o2⟩:=ho _ _ h1;rw [acA,acA] at g2;have hr:=ih w h2 (by omega) (by omega) g2;have p1:=o1 w as0 k (by omega);have p2:=o1 w bs0 k (by omega);have p3:=o2 w d _ _ x hd g1;simp only [Op.eqFields,if_pos hf.1,hf.2,Sem.run_bind,p1,p2,Result.andThen_ok,p3];cases x<;>simp [hr]
def FW {P:Program} {t:TypeId} {dd:TypeDesc} {e:List EK} (hu:P.underlying t=some dd) (he:(zw dd).map ([·])=some e) :
  (∀ (w:World) (cs:List C) (k:Nat),k+e.length<=cs.length->(part t (cs.map C.toV).toArray k).run P w=.ok (pv P t ((cs.drop k).take e.length)) w) ∧
  (∀ (w:World) (d:Nat) (as bs:List C) (b:Bool),1<=d->dB e as bs=some b->(Op.equalIn d t (pv P t as) (pv P t bs)).run P w=.ok b w):=by
 cases ho:zw dd with
 | none=>simp [ho] at he
 | some k0=>
 simp only [ho,cx,cb] at he;subst he;have hpv:∀ x:C,pv P t [x]=x.toV:=by
  intro x;unfold pv;rw [hu];cases dd<;>simp [zw] at ho<;>simp
 refine ⟨?_,?_⟩
 ·intro w cs k hk;simp only [cG,cY,cV] at hk ⊢;have hlt:k < cs.length:=by omega
  have:(cs.drop k).take 1=[cs[k]]:=by
   rw [xC hlt]; rfl
  rw [this,hpv];exact Wy hu (by simp [ho]) (by simp [hlt])
 ·intro w d as bs b hd hq;obtain ⟨d,rfl⟩:∃ d',d=d'+1:=⟨d - 1,by omega⟩;obtain ⟨l1,l2⟩:=RJ hq
  match as,bs,l1,l2 with
  | [x],[y],_,_=>
   rw [hpv,hpv];simp only [dB] at hq;split at hq
   case h_2=>simp at hq
   rename_i b1 b2 hq1 hq2;simp only [cb] at hq2 hq;subst hq2;rw [nJ] at hq;subst hq;have h1:=ho;unfold HZ at hq1;split at hq1
   ·cases dd<;>simp [zw] at h1
    split at hq1
    ·rename_i hk;simp only [cb] at hq1;subst hq1; subst hk;simp only [C.toV,run_equalIn_int w _ _ _ _ _ _ hu];rfl
    ·simp at hq1
   ·cases dd<;>simp [zw] at h1
    simp only [cb] at hq1;subst hq1;simp only [C.toV,run_equalIn_string w _ _ _ _ hu,sEq]
   ·cases dd<;>simp [zw] at h1
    simp only [cb] at hq1;subst hq1;simp only [C.toV,run_equalIn_bool' w _ _ _ _ hu];rfl
   ·simp at hq1
def Xf {P:Program} {el:TypeId} {dd:TypeDesc} {k:EK} (hu:P.underlying el=some dd) (hk:zw dd=some k) {d:Nat} (hd:1<=d) {as0 bs0:List C}:∀ (n i:Nat) (b:Bool) (w:World),i<=as0.length->i<=bs0.length->dB (List.replicate n k) (as0.drop i) (bs0.drop i)=some b ->
  (forIn (List.range' i n) ((none,()):Option Bool × Unit) fun i r=>(do
    let x <-part el (as0.map C.toV).toArray i
    let y <-part el (bs0.map C.toV).toArray i
    let z <-Op.equalIn d el x y
    if z=false then pure (ForInStep.done (some false,())) else pure (ForInStep.yield (none,())):Sem (ForInStep (Option Bool × Unit)))).run P w=.ok (if b=true then (none,()) else (some false,())) w:=by
 intro n
 induction n with
 | zero=>
  intro i b w ha hb hq;have:b=true:=by
   revert hq;simp only [List.replicate];generalize as0.drop i=u;generalize bs0.drop i=v;cases u<;>cases v<;>simp [dB]
  subst this;simp
 | succ n ih=>
  intro i b w ha hb hq;have hq':dB ([k]++List.replicate n k) (as0.drop i) (bs0.drop i)=some b:=by simpa [List.replicate] using hq
  obtain ⟨x,y,g1,g2,rfl,g4,g5⟩:=FK hq';simp only [acK,cG,cY] at g4 g5;obtain ⟨o1,o2⟩:=FW (P:=P) (t:=el) hu (e:=[k]) (by simp [hk]);rw [acA,acA] at g2;have hr:=ih (i+1) y w (by omega) (by omega) (by simpa using g2);have p1:=o1 w as0 i (by simp; omega);have p2:=o1 w bs0 i (by simp; omega);have p3:=o2 w d _ _ x hd g1;simp only [acx,List.forIn_cons,Nat.mul_one,Sem.run_bind,p1,p2,Result.andThen_ok,p3];cases x
  ·simp
  ·simpa using hr
def ML {P:Program} {t el:TypeId} {n:Nat} {dd:TypeDesc} {k:EK} (ht:P.underlying t=some (.array n el)) (hu:P.underlying el=some dd) (hk:zw dd=some k) (hs:(P.info? el).map (·.size)=some 1) {d:Nat} (hd:1<=d) (w:World) {as bs:List C} {b:Bool} (hq:dB (List.replicate n k) as bs=some b) :
  (Op.equalIn (d+1) t (.agg (as.map C.toV).toArray) (.agg (bs.map C.toV).toArray)).run P w=.ok b w:=by
 cases hi:P.info? el with
 | none=>simp [hi] at hs
 | some i=>
 have hs':i.size=1:=by simpa [hi] using hs
 have:=Xf hu hk hd n 0 b w (cT _) (cT _) (by simpa using hq);simp only [Op.equalIn,Sem.run_bind,run_underlying ht,Result.andThen_ok,sizeOf,typeInfo,run_program,hi];simp [hs',this];cases b<;>simp
def Y5 (P:Program):∀ g,Xt P (g+1) (ekT P g):=by
 intro g
 induction g with
 | zero=>
  intro t e h;simp only [ekT] at h;cases hu:P.underlying t with
  | none=>simp [hu] at h
  | some dd=>
   rw [hu] at h;exact FW hu (by simpa using h)
 | succ g ih=>
  intro t e h;simp only [ekT] at h;split at h
  ·rename_i fields hu;split at h
   case h_2=>simp at h
   rename_i es hes;split at h
   case isFalse=>simp at h
   rename_i hc;simp only [cb] at h;subst h;have hpv:∀ xs:List C,pv P t xs=.agg (xs.map C.toV).toArray:=by intro xs; unfold pv; rw [hu]
   have hfo:P.fieldsOf t=fields:=by simp [Program.fieldsOf,hu]
   cases hi:P.info? t with
   | none=>simp [hi] at hc
   | some i=>
   have hsz:i.size=es.length:=by simpa [hi] using hc.2
   refine ⟨?_,?_⟩
   ·intro w cs k hk;rw [hpv];simp [part,isAgg,run_underlying hu,sizeOf,typeInfo,hi,hsz,adS,adT,nQ,xb]
   ·intro w d as bs b hd hq;obtain ⟨d,rfl⟩:∃ d',d=d'+1:=⟨d - 1,by omega⟩;rw [hpv,hpv,run_equalIn_struct w _ t _ _ (by rw [hfo]; exact hu) hc.1,hfo];exact JX ih (by omega) w hes (by omega) (by omega) (by simpa using hq)
  ·cases hu:P.underlying t with
   | none=>simp [hu] at h
   | some dd=>
    rw [hu] at h;obtain ⟨a1,a2⟩:=FW hu (by simpa using h);exact ⟨a1,fun w d as bs b hd=>a2 w d as bs b (by omega)⟩
def Ww {P:Program} {t:Nat} (h:(O8 P t).isEmpty=false):Zp P t (O8 P t):=by
 unfold O8 at h ⊢;split at h
 ·rename_i fields hu;split at h
  ·rename_i hc;simp only [hc,and_self,if_true] at h ⊢;cases he:KN (ekT P 3) 0 fields.toList with
   | none=>simp [he] at h
   | some es=>
    simp only [he,nk] at h ⊢;intro w as bs b hq;refine ⟨fun op x y=>run_eqGuard_agg w op t x y _ _ hc.2,?_⟩;have hfo:P.fieldsOf t=fields:=by simp [Program.fieldsOf,hu]
    rw [DZ,run_equalIn_struct w _ t _ _ (by rw [hfo]; exact hu) hc.1,hfo];exact JX (Y5 P 3) (by omega) w he (by omega) (by omega) (by simpa using hq)
  ·simp at h
 ·rename_i n e hu;split at h
  ·rename_i hc;rw [if_pos hc];cases hd:P.underlying e with
   | none=>simp [hd] at h
   | some dd=>
    simp only [hd,cc] at h ⊢;cases hk:zw dd with
    | none=>simp [hk] at h
    | some k=>
     simp only [hk,cx,nk] at h ⊢;intro w as bs b hq;refine ⟨fun op x y=>run_eqGuard_agg w op t x y _ _ hc.1,?_⟩;rw [DZ];exact ML hu hd hk hc.2 (by omega) w hq
  ·simp at h
 ·simp at h
def yW (P:Program) (G:Nat->Nat->Option FnS):TOk P { T:=ey P,G:=G }:=by
 intro t ti h;simp only [ey] at h;split at h
 case h_2=>simp at h
 rename_i i d hi hd;split at h
 case h_2=>simp at h
 rename_i z hz;split at h
 case isFalse=>simp at h
 rename_i hc;simp only [cb] at h;subst h;exact ⟨⟨i,hi,rfl,rfl,z,hz,rfl⟩,⟨d,hd,rfl,UG d⟩,hc.1,fun v hv=>cn.1 hc.2 v hv,fun h=>Ww h⟩
end Go.Abs
