/- A library of readings of Go values with their ownership,and of walks on them. No statement of the program. -/
import Derived.Test.YtmacaidmhchpgaaGreatAbsC
import Derived.Orders
import Derived.Scope
import Derived.Laws.StructEq
set_option linter.defProp false
set_option linter.unusedSimpArgs false
set_option linter.unusedVariables false
namespace Go.Abs
inductive SE where
 | q (d:Option Tmp) (c:C)
 | n (d:Nat) (tmp root:C)
 | s (n:Nat) (cells:List C)
def vT (n:Nat) (cells:List C) (st:St):Option St:=
 match st.roots n with
 | .sl true nl es cap [row]=>if dP (st.roots H0)=true/\n < H0/\row.all zQ=true/\cells.length<=row.length then some { tmps:=st.tmps,roots:=upd st.roots n (.sl true nl es cap [cells.map C.frz++row.drop cells.length]) } else none
 | _=>none
def UZ {α:Type} (f:α->α) (x:α) (post:List α):∀ pre:List α,(pre++x::post).modify pre.length f=pre++f x::post:=by
 intro pre
 induction pre with
 | nil=>rfl
 | cons y pre ih=>simpa [List.modify_cons] using ih
def We (f:Nat->C) (n:Nat) (a b:C):upd (upd f n a) n b=upd f n b:=by
 funext k
 by_cases e:k=n
 ·subst e; simp [aC]
 ·simp [aN e]
def O8 {n:Nat} (hn:n < H0):∀ (cs:List C) {st:St} {j:Nat} {pre row:List C} {nl:Option Bool} {es:Nat} {cap:Option Nat},st.roots n=.sl true nl es cap [pre++row]->pre.length=j->cs.length<=row.length->row.all zQ=true ->
  iv n [] 0 j cs st=some { tmps:=st.tmps,roots:=upd st.roots n (.sl true nl es cap [pre++(cs.map C.frz++row.drop cs.length)]) }:=by
 intro cs
 induction cs with
 | nil=>
  intro st j pre row nl es cap hr hj hl hrow;simp only [iv,xg,cO,cW,nQ,cb];rw [<-hr];cases st with
  | mk t r=>
   simp only [St.mk.injEq,true_and]
   funext k
   by_cases e:k=n
   ·subst e; simp [aC]
   ·simp [aN e]
 | cons c cs ih=>
  intro st j pre row nl es cap hr hj hl hrow;cases row with
  | nil=>simp at hl
  | cons r0 row=>
   simp only [xT,cv] at hrow;have h1:(pre++r0::row)[j]?=some r0:=by rw [<-hj]; simp
   have h2:(pre++r0::row).modify j (fun _=>c.frz)=(pre++[c.frz])++row:=by
    rw [<-hj,UZ];simp
   simp only [iv,St.node,C.at,hr,cr];rw [if_pos ⟨by simp; omega,hn⟩];rw [ih (pre:=pre++[c.frz]) (row:=row) (nl:=nl) (es:=es) (cap:=cap) (by simp [aC,C.turn,h2]) (by simp [hj]) (by simpa using hl) hrow.2];simp [yG,h1,hrow.1,We,C.turn,h2]
def SE.apply:SE->St->Option St
 | .q d c,st=>some (st.put d c)
 | .n d tmp root,st=>match dP (st.roots d) with
  | true=>some { tmps:=st.tmps.set d tmp,roots:=upd st.roots d root }
  | false=>none
 | .s k cells,st=>vT k cells st
def qSE (o:Oper):Option C->Option SE
 | some c=>some (.q o.dst c)
 | none=>none
def Env.Gs (E:Env) (d f:Nat):Option FnS:=match E.L d f with
 | some _=>none
 | none=>E.G d f
def Y7 {E:Env} {d f:Nat} {fs:FnS} (h:E.Gs d f=some fs):E.L d f=none/\E.G d f=some fs:=by
 unfold Env.Gs at h;split at h
 ·cases h
 ·rename_i hL; exact ⟨hL,h⟩
def DM (E:Env) (o:Oper) (c:Call) (st:St):Option SE:=
 match o.dst,gi st c with
 | some d,some (f,args)=>if d < H0 then match E.Gs d f with
   | some fs=>if fs.own=[] then match tQ st args with
     | some cs=>if fs.pure=true∨args.all (fun c=>!oF c)=true then match fs.fn cs with
       | some r=>if Cn 3 r then some (.n d (kr 3 d [] r) r) else some (.q (some d) (kr 3 d [] r))
       | none=>none
      else none
     | none=>none
    else none
   | none=>none
  else none
 | _,_=>none
def PH (d:Nat) (ti:TI) (c:C):Option SE:=
 match sV ti c with
 | some cells=>if cells.all C.cellOk then some (.n d (.pref d [] 0 0) (.sl true none ti.size (some 1) ([cells].map (·.map C.frz)))) else none
 | none=>none
def yJ (E:Env) (d:Nat) (ti:TI) (len:Nat) (parts:List (Nat × C)):Option SE:=
 match ti.kind with
 | .slice e es=>if (E.T e).isNone then none else match qE E { ti with kind:=.arr len e es } parts (List.replicate (len * es) .dead) with
  | some flat=>if len * es<=16777216/\es≠0 then
    if flat.all C.cellOk then some (.n d (.pal d [] 0 len none) (.sl true none es (some len) ((pq es len flat).map (·.map C.frz)))) else none
   else none
  | none=>none
 | _=>none
def o6 (E:Env) (cp:Option Nat) (d:Nat) (ti:TI) (len:Nat) (parts:List (Nat × C)):Option SE:=
 match ti.kind with
 | .slice e es=>if (E.T e).isNone then none else match qE E { ti with kind:=.arr len e es } parts (List.replicate (len * es) .dead) with
  | some flat=>if len * es<=16777216/\es≠0 then
    if flat.all C.cellOk then some (.q (some d) (.sl false none es cp ((pq es len flat).map (·.map C.frz)))) else none
   else none
  | none=>none
 | _=>none
def zs (E:Env) (d:Nat) (ti:TI) (len:Nat) (parts:List (Nat × C)):Option SE:=
 match E.F d with
 | some false=>o6 E none d ti len parts
 | some true=>o6 E (some len) d ti len parts
 | _=>yJ E d ti len parts
def C7 (E:Env) (o:Oper) (t:TypeId) (x v:Operand) (st:St):Option SE:=
 match o.dst,E.T t,x with
 | none,some ti,.tmp n=>match st.ev (.tmp n) with
  | .pref n' [] 0 0=>if n'=n then match sV ti (st.ev v) with
    | some cells=>if cells.all C.cellOk=true then some (.s n cells) else none
    | none=>none
   else none
  | _=>none
 | _,_,_=>none
def fC (E:Env) (o:Oper) (st:St):Option SE:=
 match o.op with
 | .alloc t=>match o.dst,E.T t with
  | some d,some ti=>some (.n d (.pref d [] 0 0) (.sl true none ti.size (some 1) [ti.zero.map .val]))
  | _,_=>none
 | .box t x=>match o.dst,E.T t with
  | some d,some ti=>PH d ti (st.ev x)
  | _,_=>none
 | .buildSlice t len parts=>match o.dst,E.T t with
  | some d,some ti=>zs E d ti len (parts.toList.map fun x=>(x.1,st.ev x.2))
  | _,_=>none
 | .store t x v=>C7 E o t x v st
 | .call c=>match c.callee with
  | .builtin .append=>none
  | .builtin _=>qSE o (qop E st (.call c))
  | _=>DM E o c st
 | op=>qSE o (qop E st op)
def mM (E:Env) (ops:Array Oper) (o:Oper) (st:St):Option SE:=
 match o.guard with
 | none=>fC E o st
 | some (j,want)=>match (ops[j]?).bind (·.dst) with
  | some t=>match st.tmps[t]? with
   | some (.val (.bool b))=>if b=want then fC E o st else some (.q o.dst (.val undef))
   | some (.val (.tuple _))=>some (.q o.dst (.val undef))
   | _=>none
  | none=>none
def bx (E:Env) (ops:Array Oper) (o:Oper) (st:St):Option St:=
 match mM E ops o st with
 | some e=>e.apply st
 | none=>none
section
variable {X:Ctx} {m:Nat->aq->Value} {st:St} {a:Act} {w:World} {P:Program}
def CV {d:Nat} (h:dP (st.roots d)=true):st.fresh d=st:=by simp [St.fresh,h]
def Bi {E:Env} {ops:Array Oper} {o:Oper} {st':St} (h:bx E ops o st=some st'):eM E ops o st=some st':=by
 have body:∀ e,fC E o st=some e->e.apply st=some st'->exe E o st=some st':=by
  intro e he hap
  suffices h0:kU E o st=some st' by
   have hp:lA E o st=none:=by
    cases hpx:lA E o st with
    | none=>rfl
    | some s=>
     exfalso;unfold lA at hpx;split at hpx
     ·rename_i hop;simp [fC,hop] at he
     ·simp at hpx
   simp [exe,hp,h0]
  have quiet:∀ op,qSE o (qop E st op)=some e->dX o st (qop E st op)=some st':=by
   intro op hq;cases hc:qop E st op with
   | none=>simp [hc,qSE] at hq
   | some c=>
    simp only [hc,qSE,cb] at hq;subst hq;simpa [dX,SE.apply] using hap
  unfold fC at he;unfold kU;split at he
  ·rename_i t hop;simp only [hop];split at he
   ·rename_i d ti hd hti;simp only [cb] at he;subst he;simp only [SE.apply] at hap;split at hap
    ·rename_i hdd;simp only [hd,hti];rw [<-hap];simp [Jn,CV hdd]
    ·simp at hap
   ·simp at he
  ·rename_i t x hop;simp only [hop];split at he
   ·rename_i d ti hd hti;unfold PH at he;split at he
    ·rename_i cells hun;split at he
     ·rename_i hall;simp only [cb] at he;subst he;simp only [SE.apply] at hap;split at hap
      ·rename_i hdd;simp only [hd,hti,Ln,CV hdd,hun,hall,if_true];rw [<-hap];rfl
      ·simp at hap
     ·simp at he
    ·simp at he
   ·simp at he
  ·rename_i t len parts hop;simp only [hop];split at he
   ·rename_i d ti hd hti;unfold zs at he;split at he
    ·rename_i hF;unfold o6 at he;split at he
     ·rename_i e' es hk;split at he
      ·simp at he
      ·rename_i hE;split at he
       ·rename_i flat hflat;split at he
        ·rename_i hc;split at he
         ·rename_i hall;simp only [cb] at he;subst he;simp only [SE.apply] at hap;simp only [hd,hti,jZ,hF,rK,hk,hflat,hall,if_true];rw [if_neg hE,if_pos hc,<-hap]
         ·simp at he
        ·simp at he
       ·simp at he
     ·simp at he
    ·rename_i hF;unfold o6 at he;split at he
     ·rename_i e' es hk;split at he
      ·simp at he
      ·rename_i hE;split at he
       ·rename_i flat hflat;split at he
        ·rename_i hc;split at he
         ·rename_i hall;simp only [cb] at he;subst he;simp only [SE.apply] at hap;simp only [hd,hti,jZ,hF,rK,hk,hflat,hall,if_true];rw [if_neg hE,if_pos hc,<-hap]
         ·simp at he
        ·simp at he
       ·simp at he
     ·simp at he
    ·rename_i hF;have hX:jZ E d ti len parts.toList st=sZ E d ti len parts.toList st:=by
      unfold jZ;split
      ·rename_i hF'; exact absurd hF' ‹_›
      ·rename_i hF'; exact absurd hF' ‹_›
      ·rfl
     unfold yJ at he;split at he
     ·rename_i e' es hk;split at he
      ·simp at he
      ·rename_i hE;split at he
       ·rename_i flat hflat;split at he
        ·rename_i hc;split at he
         ·rename_i hall;simp only [cb] at he;subst he;simp only [SE.apply] at hap;split at hap
          ·rename_i hdd;simp only [hd,hti,hX,sZ,hk,CV hdd,hflat,hall,if_true];rw [if_neg hE,if_pos hc,<-hap];rfl
          ·simp at hap
         ·simp at he
        ·simp at he
       ·simp at he
     ·simp at he
   ·simp at he
  ·rename_i t x v hop;simp only [hop];unfold C7 at he;split at he
   case h_2=>simp at he
   rename_i ti n hd ht;split at he
   case h_2=>simp at he
   rename_i n' hev;split at he
   case isFalse=>simp at he
   rename_i hn;subst hn;split at he
   case h_2=>simp at he
   rename_i cells hun;split at he
   case isFalse=>simp at he
   rename_i hall;simp only [cb] at he;subst he;simp only [SE.apply,vT] at hap;split at hap
   case h_2=>simp at hap
   rename_i nl es cap row hr;split at hap
   case isFalse=>simp at hap
   rename_i hc;simp only [hd,ht,jU,hun,hev,hall,if_true,hc.1];rw [O8 hc.2.1 cells (j:=0) (pre:=[]) (row:=row) (by simpa using hr) rfl hc.2.2.2 hc.2.2.1];simpa using hap
  ·rename_i c hop;simp only [hop];split at he
   ·simp at he
   ·rename_i b hb;simp only [hb];exact quiet _ he
   ·rename_i hb1 hb2;have:J7 E o c st=some st':=by
     unfold DM at he;unfold J7;split at he
     ·rename_i d f args hd hct;simp only [hd,hct];split at he
      ·rename_i hdH;rw [if_pos hdH];unfold GY;split at he
       ·rename_i fs hfs;obtain ⟨hL,hfs⟩:=Y7 hfs;simp only [hL,hfs];split at he
        ·rename_i hown;rw [if_pos hown];split at he
         ·rename_i cs hsn;simp only [hsn];split at he
          ·rename_i hpv;rw [if_pos hpv];split at he
           ·rename_i r hr;simp only [hr];split at he
            ·rename_i hod;simp only [cb] at he;subst he;simp only [SE.apply] at hap;split at hap
             ·rename_i hdd;rw [<-hap];simp [El,hod,CV hdd]
             ·simp at hap
            ·rename_i hod;simp only [cb] at he;subst he;simp only [SE.apply,cb] at hap;rw [<-hap];simp [El,hod,St.put]
           ·simp at he
          ·simp at he
         ·simp at he
        ·simp at he
       ·simp at he
      ·simp at he
     ·simp at he
    split
    ·rename_i hb; exact (hb1 hb).elim
    ·rename_i b hb hb'; exact (hb2 b hb').elim
    ·exact this
  ·rename_i h1 h2 h3 h4 h5;have:=quiet _ he;split
   ·rename_i t hop; exact (h1 t hop).elim
   ·rename_i t x hop; exact (h2 t x hop).elim
   ·rename_i t len parts hop; exact (h3 t len parts hop).elim
   ·rename_i t x v hop; exact (h4 t x v hop).elim
   ·rename_i c hop; exact (h5 c hop).elim
   ·exact this
 unfold bx at h;split at h
 ·rename_i e he;unfold mM at he;unfold eM;split at he
  ·rename_i hg;simp only [hg];exact body e he h
  ·rename_i j want hg;simp only [hg];split at he
   ·rename_i t ht;simp only [ht];split at he
    ·rename_i b hb;simp only [hb];split at he
     ·rename_i hbw;rw [if_pos hbw];exact body e he h
     ·rename_i hbw;rw [if_neg hbw];simp only [cb] at he;subst he;simpa [SE.apply] using h
    ·rename_i vs hb;simp only [hb];simp only [cb] at he;subst he;simpa [SE.apply] using h
    ·simp at he
   ·simp at he
 ·simp at h
def Hb (P:Program) (st:St):Prop:=∃ X a w,Inv X st a w
def Wa {o:Oper} {K:Act->World->Prop} (h:o.wp P a w K (fun _ _ _=>False)):∃ a' w',K a' w':=by
 unfold Oper.wp at h;generalize (execOp a.eval o).run P w=r at h;cases r with
 | ok n w'=>
  cases n<;>simp only [Oper.upon] at h<;>first|exact ⟨_,_,h⟩|exact h.elim|skip
  ·obtain ⟨e,w'',fr,h,_⟩:=h [];cases e with
   | returned v=>exact ⟨_,_,h⟩
   | panicked c=>exact h.elim
   | outgrown=>obtain ⟨_,_,h⟩:=h; exact h.elim
  ·obtain ⟨v,w'',h,_⟩:=h (default:Frame) [];exact ⟨_,_,h⟩
 | halt x w'=>cases x<;>simp only [Oper.upon] at h
def Hb.step {E:Env} (hT:TOk P E) (hG:GOk P E) (H:Hb P st) {ops:Array Oper} {i:Nat} {o:Oper} (ho:ops[i]?=some o) {st':St} (h:eM E ops o st=some st'):Hb P st':=by
 obtain ⟨X,a,w,H⟩:=H;have:=FW hT hG H ho h (K:=fun a' w'=>Inv X st' a' w') (Q:=fun _ _ _=>False) (fun _ _ h=>h);unfold wpOp at this;rw [ho] at this;simp only at this;split at this
 ·rcases this with h|⟨_,_,_,h⟩
  ·obtain ⟨a',w',h⟩:=Wa h;exact ⟨X,a',w',h⟩
  ·exact h.elim
 ·exact ⟨X,_,_,this⟩
def Es (ts:List Tmp) (st st2:St):Prop:=
 ∀ t∈ts,st2.tmps[t]?=st.tmps[t]?/\∀ c,st.tmps[t]?=some c->∀ k v n p,occ k c v->v.place=some (n,p)->st2.roots n=st.roots n
def RC (xs:List Operand):List Tmp:=xs.filterMap fun|.tmp t=>some t|_=>none
def sG (st st2:St) (c:C):Prop:=∀ k v n p,occ k c v->v.place=some (n,p)->st2.roots n=st.roots n
def Es.ev {ts:List Tmp} {st st2:St} (h:Es ts st st2) {x:Operand} (hx:∀ t,x=.tmp t->t∈ts):st2.ev x=st.ev x/\sG st st2 (st.ev x):=by
 cases x with
 | tmp t=>
  obtain ⟨h1,h2⟩:=h t (hx t rfl);refine ⟨by simp [St.ev,h1],?_⟩;simp only [St.ev];cases hc:st.tmps[t]? with
  | none=>intro k v n p ho _; cases k<;>exact ho.elim
  | some c=>exact h2 c hc
 | const v=>
  refine ⟨rfl,?_⟩;intro k v' n p ho _;simp only [St.ev] at ho;cases v with
  | agg cs=>
   cases k with
   | zero=>exact ho.elim
   | succ k=>
    obtain ⟨c',hm,ho⟩:=ho;simp only [cJ] at hm;obtain ⟨v,_,rfl⟩:=hm;cases k<;>exact ho.elim
  | _=>cases k<;>exact ho.elim
 | func f=>
  refine ⟨rfl,?_⟩;intro k v' n p ho _;cases k with
  | zero=>exact ho.elim
  | succ k=>obtain ⟨c',hm,ho⟩:=ho; simp at hm
 | global g=>exact ⟨rfl,fun k v n p ho _=>by cases k<;>exact ho.elim⟩
def sG.node {st st2:St} {c:C} (h:sG st st2 c) {n:Nat} {p:aq} (hp:c.place=some (n,p)) (q:aq):st2.node n q=st.node n q:=by
 have ho:occ 1 c c:=by cases c<;>simp [C.place] at hp<;>rfl
 simp [St.node,h 1 c n p ho hp]
theorem Ul {st st2:St} {ti:TI} {x:C} (h:sG st st2 x):qu st2 ti x=qu st ti x:=by
 cases x with
 | pref n p i j=>simp only [qu,h.node (n:=n) (p:=p) rfl p]
 | _=>rfl
def Su {st st2:St} {x:C} (h:sG st st2 x):Gj st2 x=Gj st x:=by
 cases x with
 | pal n p lo len cap=>simp only [Gj,h.node (n:=n) (p:=p) rfl p]
 | _=>unfold Gj; first|rfl|(split<;>simp_all)
theorem L9 {st st2:St} {ti:TI} {x ix:C} (h:sG st st2 x):kz st2 ti x ix=kz st ti x ix:=by
 unfold kz;cases x with
 | pal n p lo len cap=>cases ti.kind<;>first|rfl|simp only [h.node (n:=n) (p:=p) rfl p]
 | _=>cases ti.kind<;>rfl
theorem Sf {st st2:St} {ti:TI} {x:C} {lo hi mx:Option C} (h:sG st st2 x):BP st2 ti x lo hi mx=BP st ti x lo hi mx:=by
 unfold BP;cases x with
 | pal n p lo0 len cap=>cases ti.kind<;>first|rfl|simp only [h.node (n:=n) (p:=p) rfl p]
 | val v=>cases ti.kind<;>cases v<;>first|rfl|(rename_i a l k; cases a<;>first|rfl|(cases l<;>first|rfl|(cases k<;>rfl)))
 | _=>cases ti.kind<;>rfl
theorem EM {st st2:St} {c:C} (h:sG st st2 c):mE st2 c=mE st c:=by
 cases c with
 | pal n p lo len cap=>simp only [mE,h.node (n:=n) (p:=p) rfl p]
 | pref n p i j=>simp only [mE,h.node (n:=n) (p:=p) rfl p]
 | _=>rfl
def KL {st st2:St}:∀ {cs:List C},(∀ c∈cs,sG st st2 c)->Bo st2 cs=Bo st cs:=by
 intro cs
 induction cs with
 | nil=>intro _; rfl
 | cons c cs ih=>intro h; simp only [Bo,EM (h c (by simp)),ih (fun c hc=>h c (by simp [hc]))]
theorem UA {st st2:St} {c:C} (h:sG st st2 c):E9 st2 c=E9 st c:=by
 cases c with
 | agg cs=>simp only [E9,KL (cs:=cs) (fun c hc k v n p ho hp=>h (k+1) v n p ⟨c,hc,ho⟩ hp)]
 | clo f cs=>simp only [E9,KL (cs:=cs) (fun c hc k v n p ho hp=>h (k+1) v n p ⟨c,hc,ho⟩ hp)]
 | pal n p lo len cap=>exact EM h
 | pref n p i j=>exact EM h
 | _=>rfl
def SC {st st2:St}:∀ {cs:List C},(∀ c∈cs,sG st st2 c)->tQ st2 cs=tQ st cs:=by
 intro cs
 induction cs with
 | nil=>intro _; rfl
 | cons c cs ih=>intro h; simp only [tQ,UA (h c (by simp)),ih (fun c hc=>h c (by simp [hc]))]
def Nq {st st2:St} {xs:List Operand} {ts:List Tmp} (h:Es ts st st2) (hx:∀ x∈xs,∀ t,x=.tmp t->t∈ts):xs.map st2.ev=xs.map st.ev:=by
 apply adp;intro x hm;exact (h.ev (hx x hm)).1
theorem OR {E:Env} {op:Op} {ts:List Tmp} {st st2:St} (h:Es ts st st2) (hx:∀ x∈op.operands,∀ t,x=.tmp t->t∈ts):qop E st2 op=qop E st op:=by
 have e1:∀ x∈op.operands,st2.ev x=st.ev x:=fun x hm=>(h.ev (hx x hm)).1;have e2:∀ x∈op.operands,sG st st2 (st.ev x):=fun x hm=>(h.ev (hx x hm)).2;cases op with
 | move x=>simp only [qop]; rw [e1 x (by simp [Op.operands])]
 | assign x=>simp only [qop]; rw [e1 x (by simp [Op.operands])]
 | pick c x y=>simp only [qop]; rw [e1 c (by simp [Op.operands]),e1 x (by simp [Op.operands]),e1 y (by simp [Op.operands])]
 | load t x=>simp only [qop]; rw [e1 x (by simp [Op.operands])]; simp only [Ul (e2 x (by simp [Op.operands]))]
 | fieldAddr s x f=>simp only [qop]; rw [e1 x (by simp [Op.operands])]
 | field s x f=>simp only [qop]; rw [e1 x (by simp [Op.operands])]
 | indexAddr t x ix=>simp only [qop]; rw [e1 x (by simp [Op.operands]),e1 ix (by simp [Op.operands])]; simp only [L9 (e2 x (by simp [Op.operands]))]
 | index t x ix=>simp only [qop]; rw [e1 x (by simp [Op.operands]),e1 ix (by simp [Op.operands])]
 | binOp op t x y yt=>simp only [qop]; rw [e1 x (by simp [Op.operands]),e1 y (by simp [Op.operands])]
 | unOp op t x=>simp only [qop]; rw [e1 x (by simp [Op.operands])]
 | convert src dst x=>simp only [qop]; rw [e1 x (by simp [Op.operands])]; simp only [KX,Su (e2 x (by simp [Op.operands]))]
 | extract x i=>simp only [qop]; rw [e1 x (by simp [Op.operands])]
 | slice t x lo hi mx=>
  have o:∀ (y:Option Operand),(∀ z,y=some z->z∈(Op.slice t x lo hi mx).operands)->y.map st2.ev=y.map st.ev:=by
   intro y hy;cases y with
   | none=>rfl
   | some z=>simp [e1 z (hy z rfl)]
  simp only [qop];rw [e1 x (by simp [Op.operands]),o lo (by rintro z rfl; simp [Op.operands]),o hi (by rintro z rfl; simp [Op.operands]),o mx (by rintro z rfl; simp [Op.operands])];simp only [Sf (e2 x (by simp [Op.operands]))]
 | makeFunc fn first caps=>
  cases fn with
  | func f=>simp only [qop]; rw [Nq h (xs:=caps.toList) (fun x hm=>hx x (by simp [Op.operands]; right; simpa using hm)),Nq h (xs:=first.toList) (fun x hm=>hx x (by simp [Op.operands]; left; simpa using hm))]
  | _=>rfl
 | nilCheck x=>simp only [qop]; rw [e1 x (by simp [Op.operands])]
 | build t parts=>
  simp only [qop];have:(parts.toList.map fun x=>(x.1,st2.ev x.2))=parts.toList.map fun x=>(x.1,st.ev x.2):=by
   apply adp;intro x hm;rw [e1 x.2 (by simp only [Op.operands,List.mem_toArray,cJ]; exact ⟨x,hm,rfl⟩)]
  rw [this]
 | call c=>
  obtain ⟨callee,args,argTypes⟩:=c;cases callee with
  | builtin b=>
   simp only [qop];rw [Nq h (xs:=args.toList) (fun x hm=>hx x (by simp [Op.operands,Call.operands]; simpa using hm))]
  | _=>rfl
 | _=>rfl
def P7 {c:Call} {ts:List Tmp} {st st2:St} (h:Es ts st st2) (hx:∀ x∈c.operands,∀ t,x=.tmp t->t∈ts):gi st2 c=gi st c/\∀ f args,gi st c=some (f,args)->∀ y∈args,sG st st2 y:=by
 obtain ⟨callee,cargs,ctys⟩:=c;cases callee with
 | value x=>
  have hx0:=h.ev (hx x (by simp [Call.operands]));have hargs:=Nq h (xs:=cargs.toList) (fun x hm=>hx x (by simp [Call.operands]; right; simpa using hm));refine ⟨by simp only [gi,hx0.1,hargs],?_⟩;intro f args hc y hy;simp only [gi] at hc;split at hc
  ·rename_i f' caps hev;simp only [cb,cz] at hc;obtain ⟨rfl,rfl⟩:=hc;have hy:y∈cargs.toList.map st.ev∨y∈caps:=by
    unfold IX at hy;split at hy
    ·exact cF.1 hy
    ·exact (cF.1 hy).symm
   rcases hy with hy|hy
   ·simp only [cJ] at hy;obtain ⟨z,hz,rfl⟩:=hy;exact (h.ev (hx z (by simp [Call.operands]; right; simpa using hz))).2
   ·intro k v n p ho hp;refine hx0.2 (k+1) v n p ?_ hp;rw [hev];exact ⟨y,hy,ho⟩
  ·simp at hc
 | invoke _ _=>exact ⟨rfl,by simp [gi]⟩
 | builtin _=>exact ⟨rfl,by simp [gi]⟩
def QU {E:Env} {o:Oper} {ts:List Tmp} {st st2:St} (h:Es ts st st2) (hx:∀ x∈o.op.operands,∀ t,x=.tmp t->t∈ts):fC E o st2=fC E o st:=by
 unfold fC;split
 ·rfl
 ·rename_i t x hop;rw [(h.ev (hx x (by simp [hop,Op.operands]))).1]
 ·rename_i t len parts hop;have:(parts.toList.map fun x=>(x.1,st2.ev x.2))=parts.toList.map fun x=>(x.1,st.ev x.2):=by
   apply adp;intro x hm;rw [(h.ev (hx x.2 (by simp only [hop,Op.operands,List.mem_toArray,cJ]; exact ⟨x,hm,rfl⟩))).1]
  rw [this]
 ·rename_i t x v hop;unfold C7;cases x with
  | tmp n=>
   have a1:=(h.ev (hx (.tmp n) (by simp [hop,Op.operands]))).1;have a2:=(h.ev (hx v (by simp [hop,Op.operands]))).1;cases o.dst with
   | some d=>rfl
   | none=>cases E.T t with
    | none=>rfl
    | some ti=>simp only [a1,a2]
  | _=>cases o.dst<;>cases E.T t<;>rfl
 ·rename_i c hop;have hq:=OR (E:=E) (op:=.call c) h (by rw [<-hop]; exact hx);obtain ⟨hc1,hc2⟩:=P7 (c:=c) h (by intro x hm; exact hx x (by simp only [hop,Op.operands]; exact hm));have hcall:DM E o c st2=DM E o c st:=by
   unfold DM;rw [hc1];split
   ·rename_i d f args hd hct;rw [SC (hc2 f args hct)]
   ·rfl
  split
  ·rfl
  ·rw [hq]
  ·exact hcall
 ·rename_i h1 h2 h3 h4 h5;rw [OR (E:=E) h hx]
end
def tU (ts:List Tmp) (a a':Act):Prop:=∀ t∈ts,a'.tmps[t]?=a.tmps[t]?
theorem tU.refl (ts:List Tmp) (a:Act):tU ts a a:=fun _ _=>rfl
def tU.trans {ts:List Tmp} {a b c:Act} (h:tU ts a b) (h':tU ts b c):tU ts a c:=fun t ht=>(h' t ht).trans (h t ht)
def Kp (ts:List Tmp) (a:Act) (Q:Exit->Act->World->Prop) (e:Exit) (a':Act) (w':World):Prop:=Q e a' w'/\(e=.outgrown∨tU ts a a')
def CQ (ts:List Tmp) (o:Oper):Bool:=match o.dst with
 | some d=>!ts.contains d
 | none=>true
def kW (ts:List Tmp):Code->Bool
 | .region _ ops _=>ops.toList.all (CQ ts)
 | .seq x y=>kW ts x && kW ts y
 | .cond _ x y=>kW ts x && kW ts y
 | .block _ c=>kW ts c
 | .loop c=>kW ts c
 | .scope c=>kW ts c
 | _=>true
theorem IL:∀ c:Code,kW [] c=true:=by
 intro c
 induction c with
 | region id ops d=>simp only [kW,cq]; intro o _; unfold CQ; split<;>rfl
 | seq x y hx hy=>simp [kW,hx,hy]
 | cond c x y hx hy=>simp [kW,hx,hy]
 | block id c h=>simpa [kW] using h
 | loop c h=>simpa [kW] using h
 | scope c h=>simpa [kW] using h
 | _=>rfl
def Hy {ts:List Tmp} {o:Oper} (ho:CQ ts o=true) (a:Act) (v:Value):tU ts a (a.put o.dst v):=by
 intro t ht;unfold CQ at ho;unfold Act.put;split at ho
 ·rename_i d hd;rw [hd];have hne:d≠t:=by
   rintro rfl;simp only [nC,adT,decide_eq_false_iff_not] at ho;exact ho ht
  simp [xD,hne]
 ·rename_i hd; rw [hd]
theorem LetsOut.keep {ts:List Tmp} {a:Act} {Q:Exit->Act->World->Prop} (h:LetsOut Q):LetsOut (Kp ts a Q):=by
 obtain ⟨a',w',h⟩:=h;exact ⟨a',w',h,.inl rfl⟩
section
variable {P:Program} {ops:Array Oper} {Q:Exit->Act->World->Prop} {ts:List Tmp}
def To {o:Oper} (ho:CQ ts o=true) {a0 a:Act} {w:World} (h0:tU ts a0 a) {K K':Act->World->Prop} (hK:∀ a' w',K a' w'->tU ts a0 a'->K' a' w') (h:o.wp P a w K Q):o.wp P a w K' (Kp ts a0 Q):=by
 unfold Oper.wp at *;generalize (execOp a.eval o).run P w=r at *;have hp:∀ v,tU ts a0 (a.put o.dst v):=fun v=>h0.trans (Hy ho a v);cases r with
 | ok n w'=>
  cases n<;>simp only [Oper.upon] at h ⊢
  case value v=>exact hK _ _ h (hp v)
  case skip=>exact hK _ _ h (hp undef)
  case defer d=>
   refine hK _ _ h (h0.trans ?_);have:=Hy ho ({ a with defers:=d::a.defers }) undef;exact this
  case enter f args=>
   refine Calls.mono h (fun e w'' he=>?_);cases e with
   | returned v=>exact hK _ _ he (hp v)
   | panicked c=>exact ⟨he,.inr h0⟩
   | outgrown=>exact LetsOut.keep he
  case row row args=>exact Rows.mono h (fun v _ he=>hK _ _ he (hp v))
  all_goals exact h
 | halt x w'=>
  cases x<;>simp only [Oper.upon] at h ⊢
  case panic v=>exact ⟨h,.inr h0⟩
  all_goals exact h
def JG (hk:ops.toList.all (CQ ts)=true) {i:Nat} {o:Oper} (ho:ops[i]?=some o):CQ ts o=true:=by
 rw [cq] at hk;exact hk o (by have:=Array.mem_of_getElem? ho; simpa using this)
def Ux (hk:ops.toList.all (CQ ts)=true) {a0:Act}:∀ (l:List Nat) (a:Act) (w:World),tU ts a0 a->wpOps P ops Q l a w->wpOps P ops (Kp ts a0 Q) l a w:=by
 intro l
 induction l with
 | nil=>intro a w h0 h; exact ⟨h,.inr h0⟩
 | cons i l ih=>
  intro a w h0 h;rw [wpOps_cons] at h ⊢;unfold wpOp at h ⊢;split
  ·rename_i he; rw [he] at h; exact ih _ _ h0 h
  ·rename_i o ho;rw [ho] at h;simp only at h;split
   ·rename_i hw;rw [if_pos hw] at h;rcases h with h|h
    ·exact .inl (To (JG hk ho) h0 (fun a' w' hk' hs=>ih _ _ hs hk') h)
    ·exact .inr ⟨h.1,LetsOut.keep h.2⟩
   ·rename_i hw;rw [if_neg hw] at h;exact ih _ _ (h0.trans (Hy (JG hk ho) a undef)) h
def L7 {md:Region.Mode} (hk:ops.toList.all (CQ ts)=true) {a0:Act}:∀ (fuel:Nat) (listed:Array Bool) (a:Act) (w:World),tU ts a0 a->wpAny P md ops Q fuel listed a w->wpAny P md ops (Kp ts a0 Q) fuel listed a w:=by
 intro fuel
 induction fuel with
 | zero=>intro listed a w h0 h; exact ⟨h.1,h.2,.inr h0⟩
 | succ fuel ih=>
  intro listed a w h0 h;refine ⟨fun hr=>⟨h.1 hr,.inr h0⟩,fun i hi=>?_⟩;have h2:=h.2 i hi;unfold wpOp at h2 ⊢;split
  ·rename_i he; rw [he] at h2; exact ih _ _ _ h0 h2
  ·rename_i o ho;rw [ho] at h2;simp only at h2;split
   ·rename_i hw;rw [if_pos hw] at h2;rcases h2 with h2|h2
    ·exact .inl (To (JG hk ho) h0 (fun a' w' hk' hs=>ih _ _ _ hs hk') h2)
    ·exact .inr ⟨h2.1,LetsOut.keep h2.2⟩
   ·rename_i hw;rw [if_neg hw] at h2;exact ih _ _ _ (h0.trans (Hy (JG hk ho) a undef)) h2
end
def ju (g:C->C):Prop:=(∀ v,g (.val v)=.val v)/\(∀ vs:List Value,g (.agg (vs.map .val))=.agg (vs.map .val))/\g .dead=.dead/\∀ f,g (.clo f [])=.clo f []
theorem ju.id:ju id:=⟨fun _=>rfl,fun _=>rfl,rfl,fun _=>rfl⟩
def ju.poi (f:Nat->aq->Bool):ju (poi f):=by
 refine ⟨fun _=>rfl,?_,rfl,fun _=>rfl⟩;intro vs;have:(C.agg (vs.map .val)).ment f 3=false:=by
  simp only [C.ment,xt,cJ];rintro c ⟨v,_,rfl⟩;simp [C.ment]
 simp [Go.Abs.poi,this]
def ju.comp {g h:C->C} (hg:ju g) (hh:ju h):ju (g ∘ h):=
 ⟨fun v=>by simp [hh.1,hg.1],fun vs=>by simp [hh.2.1,hg.2.1],by simp [hh.2.2.1,hg.2.2.1],fun f=>by simp [hh.2.2.2,hg.2.2.2]⟩
def yS {β:Type} (R:Nat->C) (f:St->Option (St × β)):Prop:=(∀ ts,f ⟨ts,R⟩=none)∨∃ g R' b,ju g/\∀ ts,f ⟨ts,R⟩=some (⟨ts.map g,R'⟩,b)
def yS.none {β:Type} {R:Nat->C} {f:St->Option (St × β)} (h:∀ ts,f ⟨ts,R⟩=none):yS R f:=.inl h
def yS.same {β:Type} {R:Nat->C} {f:St->Option (St × β)} (b:β) (h:∀ ts,f ⟨ts,R⟩=some (⟨ts,R⟩,b)):yS R f:=.inr ⟨id,R,b,.id,fun ts=>by rw [h]; simp⟩
def yS.step {β γ:Type} {R:Nat->C} {f:St->Option (St × β)} {k:β->St->Option (St × γ)} {F:St->Option (St × γ)} (h:yS R f) (hk:∀ b R',yS R' (k b))
  (hF:∀ ts,F ⟨ts,R⟩=match f ⟨ts,R⟩ with|some (s,b)=>k b s|Option.none=>Option.none):yS R F:=by
 rcases h with h|⟨g,R',b,hg,h⟩
 ·exact .inl fun ts=>by rw [hF,h]
 ·rcases hk b R' with h2|⟨g2,R2,c,hg2,h2⟩
  ·exact .inl fun ts=>by rw [hF,h]; exact h2 _
  ·exact .inr ⟨g2 ∘ g,R2,c,hg2.comp hg,fun ts=>by rw [hF,h]; simp only; rw [h2]; simp⟩
def one (f:St->Option St) (s:St):Option (St × Unit):=(f s).map fun s=>(s,())
theorem OI (n:Nat) (q:aq) (i:Nat):∀ (cs:List C) (j:Nat) (R:Nat->C),yS R (one (iv n q i j cs))
 | [],j,R=>.same () fun ts=>rfl
 | c::cs,j,R=>by
  cases hn:(R n).at q with
  | none=>exact .none fun ts=>by simp [one,iv,St.node,hn]
  | some nd=>
   by_cases hc:∃ nl es cap rows row,nd=.sl true nl es cap rows/\rows[i]?=some row/\(j < row.length/\n < H0)
   ·obtain ⟨nl,es,cap,rows,row,rfl,h1,h2⟩:=hc;have key:∃ g,ju g/\∀ ts,yG n q i j row ts=ts.map g:=by
     unfold yG;split
     ·rename_i c0 _;by_cases hl:zQ c0=true
      ·exact ⟨id,.id,fun ts=>by simp [hl]⟩
      ·exact ⟨_,.poi _,fun ts=>by simp only [hl]; rfl⟩
     ·exact ⟨id,.id,fun ts=>by simp⟩
    obtain ⟨g,hg,hgt⟩:=key;rcases OI n q i cs (j+1) (upd R n ((R n).turn (fun _=>c.frz) (q++[(i,j)]))) with h|⟨g2,R2,b,hg2,h⟩
    ·refine .none fun ts=>?_;have:=h (ts.map g);simpa [one,iv,St.node,hn,h1,h2,hgt] using this
    ·refine .inr ⟨g2 ∘ g,R2,b,hg2.comp hg,fun ts=>?_⟩;have:=h (ts.map g);simpa [one,iv,St.node,hn,h1,h2,hgt] using this
   ·refine .none fun ts=>?_;simp only [one,iv,St.node,hn];split
    ·rename_i nl es cap rows he;split
     ·rename_i row hr;split
      ·rename_i hh;simp only [cb] at he;exact (hc ⟨nl,es,cap,rows,row,he,hr,hh⟩).elim
      ·rfl
     ·rfl
    ·rfl
theorem Ov (n:Nat) (q:aq) (i:Nat):∀ (k j h:Nat) (R:Nat->C),yS R (one (mG n q i j k h))
 | 0,j,h,R=>.same () fun ts=>by cases h<;>rfl
 | k+1,j,h,R=>by
  cases hn:(R n).at q with
  | none=>exact .none fun ts=>by simp [one,mG,St.node,hn]
  | some nd=>
   by_cases hc:∃ nl es cap rows row,nd=.sl true nl es cap rows/\rows[i]?=some row/\(j < row.length/\n < H0)
   ·obtain ⟨nl,es,cap,rows,row,rfl,h1,h2⟩:=hc;rcases Ov n q i k (j+1) (h+1) (upd (upd R n ((R n).turn (fun _=>R h) (q++[(i,j)]))) h .dead) with h'|⟨g2,R2,b,hg2,h'⟩
    ·refine .none fun ts=>?_;have:=h' (ts.map (poi (fun n' p'=>n' == h || (n' == n && kR (q++[(i,j)]) p'))));simpa [one,mG,St.node,hn,h1,h2,St.plug] using this
    ·refine .inr ⟨g2 ∘ poi (fun n' p'=>n' == h || (n' == n && kR (q++[(i,j)]) p')),R2,b,hg2.comp (.poi _),fun ts=>?_⟩;have:=h' (ts.map (poi (fun n' p'=>n' == h || (n' == n && kR (q++[(i,j)]) p'))));simpa [one,mG,St.node,hn,h1,h2,St.plug] using this
   ·refine .none fun ts=>?_;simp only [one,mG,St.node,hn];split
    ·rename_i nl es cap rows he;split
     ·rename_i row hr;split
      ·rename_i hh;simp only [cb] at he;exact (hc ⟨nl,es,cap,rows,row,he,hr,hh⟩).elim
      ·rfl
     ·rfl
    ·rfl
def U0 (h:Nat) (c:C) (R:Nat->C):yS R (wi h c):=by
 by_cases hd:dP (R h)=true
 case neg=>exact .none fun ts=>by simp [wi,hd]
 by_cases hp:∃ n p lo len cap,c=.pal n p lo len cap
 ·obtain ⟨n,p,lo,len,cap,rfl⟩:=hp;cases hn:(R n).at p with
  | none=>exact .none fun ts=>by simp [wi,hd,St.node,hn]
  | some nd=>
   by_cases hc:∃ nl es cap' rows,nd=.sl true nl es cap' rows/\n < H0
   ·obtain ⟨nl,es,cap',rows,rfl,hlt⟩:=hc;refine .inr ⟨poi (fun n' p'=>n' == n && kR p p'),(St.move ⟨[],R⟩ n p lo len cap h es rows).roots,fun n' p'=>n' == n && kR p p',.poi _,fun ts=>?_⟩;simp [wi,hd,St.node,hn,hlt,St.move]
   ·refine .none fun ts=>?_;simp only [wi,hd,if_true,St.node,hn];split
    ·rename_i nl es cap' rows he;split
     ·rename_i hlt;simp only [cb] at he;exact (hc ⟨nl,es,cap',rows,he,hlt⟩).elim
     ·rfl
    ·rfl
 ·have e:∀ ts,wi h c ⟨ts,R⟩=if c.cellOk then some (⟨ts,upd R h c.frz⟩,fun _ _=>false) else none:=by
   intro ts;cases c with
   | pal n p lo len cap=>exact (hp ⟨n,p,lo,len,cap,rfl⟩).elim
   | _=>simp [wi,hd]
  cases hok:c.cellOk with
  | true=>exact .inr ⟨id,upd R h c.frz,fun _ _=>false,.id,fun ts=>by rw [e,hok]; simp⟩
  | false=>exact .none fun ts=>by rw [e,hok]; simp
theorem Jp:∀ (k h:Nat) (cs:List C) (keep:C) (R:Nat->C),yS R (jz k h cs keep)
 | 0,h,cs,keep,R=>.same keep fun ts=>by cases cs<;>rfl
 | k+1,h,[],keep,R=>.same keep fun ts=>rfl
 | k+1,h,c::cs,keep,R=>by
  refine yS.step (U0 h c R) (k:=fun f=>jz k (h+1) (cs.map (poi f)) (poi f keep)) (fun f R'=>Jp k (h+1) _ _ R') (fun ts=>?_);simp only [jz];cases wi h c ⟨ts,R⟩ with
  | none=>rfl
  | some x=>rfl
def Uj (ti:TI) (x v:C) (R:Nat->C):yS R (one (jU ti x v)):=by
 cases hu:sV ti v with
 | none=>exact .none fun ts=>by simp [one,jU,hu]
 | some cells=>
  by_cases hx:∃ n q i j,x=.pref n q i j
  ·obtain ⟨n,q,i,j,rfl⟩:=hx;by_cases hok:(cells.all C.cellOk)=true
   ·by_cases hd:dP (R H0)=true
    ·rcases OI n q i cells j R with h|⟨g,R2,b,hg,h⟩
     ·exact .none fun ts=>by have:=h ts; simpa [one,jU,hu,hok,hd] using this
     ·exact .inr ⟨g,R2,b,hg,fun ts=>by have:=h ts; simpa [one,jU,hu,hok,hd] using this⟩
    ·exact .none fun ts=>by simp [one,jU,hu,hok,hd]
   ·refine yS.step (Jp cells.length H0 cells (.pref n q i j) R) (k:=fun c=>match c with|.pref n q i j=>one (mG n q i j cells.length H0)|_=>fun _=>none) ?_ (fun ts=>?_)
    ·intro c R';cases c with
     | pref n q i j=>exact Ov n q i _ j _ R'
     | _=>exact .none fun _=>rfl
    ·simp only [one,jU,hu,hok,if_false,cR];cases jz cells.length H0 cells (.pref n q i j) ⟨ts,R⟩ with
     | none=>rfl
     | some y=>
      obtain ⟨s,c⟩:=y;cases c<;>rfl
  ·refine .none fun ts=>?_;cases x with
   | pref n q i j=>exact (hx ⟨n,q,i,j,rfl⟩).elim
   | _=>simp [one,jU,hu]
def Uu {ti:TI} {x v c:C} {d:Nat} {st s2:St} (y:Operand) (hc:∀ g R',ju g->St.ev ⟨st.tmps.map g,R'⟩ y=g (st.ev y)) :
  jU ti x v (st.put (some d) (st.ev y))=some s2↔∃ s1,jU ti x v st=some s1/\s2=s1.put (some d) (s1.ev y):=by
 obtain ⟨ts,R⟩:=st;rcases Uj ti x v R with h|⟨g,R',b,hg,h⟩
 ·have h1:∀ ts,jU ti x v ⟨ts,R⟩=none:=fun ts=>by have:=h ts; simpa [one] using this
  simp [St.put,h1]
 ·have h1:∀ ts,jU ti x v ⟨ts,R⟩=some ⟨ts.map g,R'⟩:=fun ts=>by have:=h ts; simpa [one] using this
  have:=hc g R' hg;simp only [St.put,h1,cb,exists_eq_left',xU];constructor
  ·rintro rfl; rw [this]
  ·rintro rfl; rw [this]
def ZN (ts:List C) (R R':Nat->C) (y:Operand) (g:C->C) (hg:ju g):St.ev ⟨ts.map g,R'⟩ y=g (St.ev ⟨ts,R⟩ y):=by
 cases y with
 | tmp t=>
  simp only [St.ev,cu];cases ts[t]? with
  | none=>simp [hg.2.2.1]
  | some c=>rfl
 | const v=>
  simp only [St.ev];cases v with
  | agg cs=>exact (hg.2.1 cs.toList).symm
  | _=>exact (hg.1 _).symm
 | func f=>exact (hg.2.2.2 (Lw f)).symm
 | global n=>exact hg.2.2.1.symm
def Rc (ops:Array Oper) (o:Oper):List Tmp:=
 match o.guard with
 | some (j,_)=>((ops[j]?).bind (·.dst)).toList
 | none=>[]
def lM (ops:Array Oper) (o:Oper):List Tmp:=RC o.op.operands.toList++Rc ops o
def Qb (ops:Array Oper) (x y:Oper):Bool:=
 (match x.dst with|some d=>!(lM ops y).contains d|none=>true) && (match y.dst with|some d=>!(lM ops x).contains d|none=>true) &&
 (match x.dst,y.dst with|some d,some e=>d != e|_,_=>true)
def iQ (ops:Array Oper):Nat->Nat->Nat->Bool
 | 0,_,_=>false
 | k+1,j,i=>((ops[i]?).map fun o=>(o.after.any fun e=>e.on == j && Region.binds .any e) || o.after.any fun e=>Nat.blt j e.on && (Region.binds .any e && iQ ops k j e.on)).getD false
def ER (ops:Array Oper) (i:Nat):Bool:=(List.range ops.size).all fun j=>j == i || iQ ops ops.size j i || iQ ops ops.size i j
def zt (ops:Array Oper):Bool:=
 ((List.range ops.size).all fun i=>((ops[i]?).map fun o=>o.after.all fun e=>!Region.binds .any e || decide (e.on < i)).getD true) &&
 ((List.range ops.size).all fun i=>(List.range i).all fun j=>(match ops[j]?,ops[i]? with|some x,some y=>Qb ops x y|_,_=>true) || iQ ops ops.size j i)
def NQ (o:Oper):Option Tmp:=
 match o.op with
 | .store _ (.tmp n) _=>some n
 | _=>none
def J6 (o:Oper):Bool:=
 match o.op with
 | .store ..=>true
 | _=>false
def VS (o:Oper):Bool:=o.guard.isNone && (match o.op,o.dst with|.move _,some _=>true|.assign _,some _=>true|_,_=>false)
def Ma (o:Oper):Bool:=o.guard.isNone && (match o.op with|.extract ..=>true|.move _=>true|.assign _=>true|.slice ..=>true|.binOp .sub _ _ (.const (.int _ _)) _=>true|_=>false)
def JL (ops:Array Oper) (x:Nat):Bool:=
 match ops[x]? with
 | some o=>Ma o && Region.noSelect ops && (List.range ops.size).all fun j=>j == x || iQ ops ops.size j x || (match ops[j]? with|some oj=>oj.after.any (fun e=>Region.binds .any e && e.on == x) || o.apart ops oj|none=>true)
 | none=>false
def Iv (ops:Array Oper):Nat->Nat->Nat->Bool
 | 0,_,_=>false
 | k+1,x,A=>Nat.blt x A && (JL ops x && (match ops[x]? with|some o=>o.after.all fun e=>!(Region.binds .any e) || iQ ops ops.size e.on A || Iv ops k e.on A|none=>false))
def G5 (ops:Array Oper) (x A:Nat):Bool:=Iv ops ops.size x A
def I4 (ops:Array Oper) (i:Nat):Bool:=((ops[i]?).map fun o=>J6 o && o.dst.isNone && o.guard.isNone).getD false &&
 (List.range ops.size).all fun j=>j == i || iQ ops ops.size j i || iQ ops ops.size i j || ((ops[j]?).map VS).getD false || G5 ops j i
def MI (ops:Array Oper):List Nat:=(List.range ops.size).filter fun j=>((ops[j]?).map J6).getD false && !ER ops j
def zy (ops:Array Oper):List Nat:=if (MI ops).all (I4 ops) then [] else MI ops
def pc (ops:Array Oper) (i:Nat):Bool:=I4 ops i && (MI ops).all (I4 ops)
def kn (ops:Array Oper) (i:Nat):Bool:=(ER ops i || pc ops i) && (zy ops).isEmpty
def JS (ops:Array Oper) (i j:Nat):Bool:=i != j && !iQ ops ops.size i j && !iQ ops ops.size j i
def vQ (n:Nat) (st:St) (t:Tmp):Bool:=
 match st.tmps[t]? with
 | some c=>!(c.ment (fun n' _=>n' == n) 3)
 | none=>true
def chk (ops:Array Oper) (i:Nat) (o:Oper) (st:St):Bool:=
 (zy ops).all fun j=>!(JS ops i j) || (match (ops[j]?).bind NQ with
  | some n=>(match o.dst with|some d=>decide (d < H0)|none=>true) && (lM ops o).all (vQ n st)
  | none=>true)
def yD (E:Env) (ops:Array Oper) (i:Nat) (o:Oper) (st:St):Option St:=
 match bx E ops o st with
 | some st'=>some st'
 | none=>if kn ops i=true then eM E ops o st else none
def wC (E:Env) (ops:Array Oper) (i:Nat) (o:Oper) (st:St):Option St:=
 match bx E ops o st with
 | some st'=>if chk ops i o st=true then some st' else none
 | none=>if kn ops i=true then eM E ops o st else none
def ssa (ops:Array Oper):Bool:=
 (List.range ops.size).all fun i=>(List.range ops.size).all fun k=>decide (k < i) || (match ops[i]?,ops[k]? with
  | some x,some y=>(match y.dst with|some d=>!(lM ops x).contains d|none=>true)
  | _,_=>true)
def B9 (ops:Array Oper) (st:St):Bool:=
 (zy ops).isEmpty || (ssa ops && (List.range ops.size).all fun i=>match ops[i]? with|some o=>chk ops i o st|none=>true)
def yQ (E:Env) (ops:Array Oper):List (Nat × Oper)->St->Option St
 | [],st=>some st
 | (i,o)::l,st=>match wC E ops i o st with
  | some st'=>yQ E ops l st'
  | none=>none
section
variable {X:Ctx} {m:Nat->aq->Value} {st:St} {a:Act} {w:World} {P:Program}
def qX {E:Env} {ops:Array Oper} {i:Nat} {o:Oper} {st':St} (h:wC E ops i o st=some st'):eM E ops o st=some st':=by
 unfold wC at h;split at h
 ·rename_i s hs;split at h
  ·simp only [cb] at h;subst h;exact Bi hs
  ·simp at h
 ·split at h
  ·exact h
  ·simp at h
theorem zG {xs:List Operand} {t:Tmp} (h:Operand.tmp t∈xs):t∈RC xs:=by
 simp only [RC,adU];exact ⟨_,h,rfl⟩
theorem MX {E:Env} {ops:Array Oper} {o:Oper} {st st2:St} (h:Es (lM ops o) st st2):mM E ops o st2=mM E ops o st:=by
 have hb:=QU (E:=E) (o:=o) h (by
  intro x hx t ht;subst ht;exact cF.2 (.inl (zG (by simpa using hx))))
 unfold mM;split
 ·exact hb
 ·rename_i j want hg;split
  ·rename_i t ht;have:st2.tmps[t]?=st.tmps[t]?:=(h t (cF.2 (.inr (by simp [Rc,hg,ht])))).1;rw [this,hb]
  ·rfl
def Qc {E:Env} {o:Oper} {e:SE} (h:fC E o st=some e):(∃ c,e=.q o.dst c)∨(∃ d t r,o.dst=some d/\e=.n d t r)∨∃ t n v cells,o.dst=none/\o.op=.store t (.tmp n) v/\st.ev (.tmp n)=.pref n [] 0 0/\e=.s n cells:=by
 have quiet:∀ {x:Option C},qSE o x=some e->(∃ c,e=.q o.dst c)∨(∃ d t r,o.dst=some d/\e=.n d t r)∨∃ t n v cells,o.dst=none/\o.op=.store t (.tmp n) v/\st.ev (.tmp n)=.pref n [] 0 0/\e=.s n cells:=by
  intro x hq;cases x with
  | none=>simp [qSE] at hq
  | some c=>simp only [qSE,cb] at hq; exact .inl ⟨c,hq.symm⟩
 unfold fC at h;split at h
 ·split at h
  ·rename_i d ti hd hti;simp only [cb] at h;exact .inr (.inl ⟨d,_,_,hd,h.symm⟩)
  ·simp at h
 ·split at h
  ·rename_i d ti hd hti;unfold PH at h;split at h
   ·split at h
    ·simp only [cb] at h;exact .inr (.inl ⟨d,_,_,hd,h.symm⟩)
    ·simp at h
   ·simp at h
  ·simp at h
 ·split at h
  ·rename_i d ti hd hti;unfold zs at h;split at h
   ·unfold o6 at h;split at h
    ·split at h
     ·simp at h
     ·split at h
      ·split at h
       ·split at h
        ·simp only [cb] at h;exact .inl ⟨_,by rw [<-h,hd]⟩
        ·simp at h
       ·simp at h
      ·simp at h
    ·simp at h
   ·unfold o6 at h;split at h
    ·split at h
     ·simp at h
     ·split at h
      ·split at h
       ·split at h
        ·simp only [cb] at h;exact .inl ⟨_,by rw [<-h,hd]⟩
        ·simp at h
       ·simp at h
      ·simp at h
    ·simp at h
   ·unfold yJ at h;split at h
    ·split at h
     ·simp at h
     ·split at h
      ·split at h
       ·split at h
        ·simp only [cb] at h;exact .inr (.inl ⟨d,_,_,hd,h.symm⟩)
        ·simp at h
       ·simp at h
      ·simp at h
    ·simp at h
  ·simp at h
 ·rename_i t x v hop;unfold C7 at h;split at h
  case h_2=>simp at h
  rename_i ti n hd ht;split at h
  case h_2=>simp at h
  rename_i n' hev;split at h
  case isFalse=>simp at h
  rename_i hn;subst hn;split at h
  case h_2=>simp at h
  split at h
  case isFalse=>simp at h
  simp only [cb] at h;exact .inr (.inr ⟨t,n',v,_,hd,hop,hev,h.symm⟩)
 ·split at h
  ·simp at h
  ·exact quiet h
  ·unfold DM at h;split at h
   ·rename_i d f args hd hct;split at h
    ·split at h
     ·split at h
      ·split at h
       ·split at h
        ·split at h
         ·split at h
          ·simp only [cb] at h;exact .inr (.inl ⟨d,_,_,hd,h.symm⟩)
          ·simp only [cb] at h;exact .inl ⟨_,by rw [hd]; exact h.symm⟩
         ·simp at h
        ·simp at h
       ·simp at h
      ·simp at h
     ·simp at h
    ·simp at h
   ·simp at h
 ·exact quiet h
def DH {E:Env} {ops:Array Oper} {o:Oper} {e:SE} (h:mM E ops o st=some e):(∃ c,e=.q o.dst c)∨(∃ d t r,o.dst=some d/\e=.n d t r)∨∃ t n v cells,o.dst=none/\o.op=.store t (.tmp n) v/\st.ev (.tmp n)=.pref n [] 0 0/\e=.s n cells:=by
 unfold mM at h;split at h
 ·exact Qc h
 ·split at h
  ·split at h
   ·split at h
    ·exact Qc h
    ·simp only [cb] at h; exact .inl ⟨_,h.symm⟩
   ·simp only [cb] at h; exact .inl ⟨_,h.symm⟩
   ·simp at h
  ·simp at h
def Hb.alive (H:Hb P st) {t:Nat} {c v:C} {k n:Nat} {p:aq} (hc:st.tmps[t]?=some c) (ho:occ k c v) (hp:v.place=some (n,p)):st.roots n≠.dead:=by
 obtain ⟨X,a,w,m,H⟩:=H;obtain ⟨u,d,_,hr⟩:=H.tmp t c hc;have key:∀ (k d:Nat) (c:C) (q:aq) (u:Value),occ k c v->rel w (X.S st.roots m) (Lv st.roots m) dm false d q c u->∃ u',Lv st.roots m v u':=by
  intro k
  induction k with
  | zero=>intro d c q u ho _; exact ho.elim
  | succ k ih=>
   intro d c q u ho hr;cases d with
   | zero=>exact hr.elim
   | succ d=>
    cases c with
    | pref n p i j=>simp only [occ] at ho; subst ho; exact ⟨u,hr⟩
    | pal n p lo len cap=>simp only [occ] at ho; subst ho; exact ⟨u,hr⟩
    | agg cs=>
     obtain ⟨c',hm,ho⟩:=ho;obtain ⟨j,hj⟩:=cH hm;obtain ⟨arr,h1,h2,h3⟩:=hr;obtain ⟨u',e1,e2⟩:=h3 j c' hj;exact ih d c' _ u' ho e2
    | tup cs=>
     obtain ⟨c',hm,ho⟩:=ho;obtain ⟨j,hj⟩:=cH hm;obtain ⟨arr,h1,h2,h3⟩:=hr;obtain ⟨u',e1,e2⟩:=h3 j c' hj;exact ih d c' _ u' ho e2
    | clo f cs=>
     obtain ⟨c',hm,ho⟩:=ho;obtain ⟨j,hj⟩:=cH hm;obtain ⟨arr,h1,h2,h3⟩:=hr;obtain ⟨u',e1,e2⟩:=h3 j c' hj;exact ih d c' _ u' ho e2
    | _=>exact ho.elim
 obtain ⟨u',hl⟩:=key k d c [] u ho hr;exact yU hp hl
def SE.dst:SE->Option Nat
 | .q d _=>d
 | .n d _ _=>some d
 | .s _ _=>none
theorem IW {E:Env} {ops:Array Oper} {o:Oper} {e:SE} (h:mM E ops o st=some e):e.dst=o.dst:=by
 rcases DH h with ⟨c,rfl⟩|⟨d,t,r,hd,rfl⟩|⟨t,n,v,cells,hd,_,_,rfl⟩
 ·rfl
 ·rw [hd]; rfl
 ·rw [hd]; rfl
def Md {n:Nat} {t:Tmp} (h:vQ n st t=true) {c:C} (hc:st.tmps[t]?=some c) {k:Nat} {v:C} {n':Nat} {p:aq} (ho:occ k c v) (hp:v.place=some (n',p)):n'≠n:=by
 unfold vQ at h;rw [hc] at h;simp only [nC] at h;obtain ⟨n2,p2,e1,e2⟩:=iC k 3 c v h ho;rw [hp] at e1;simp only [cb,cz] at e1;obtain ⟨rfl,rfl⟩:=e1;simpa using e2
def vp {n:Nat} {cells:List C} {s1:St} (h:vT n cells st=some s1):∃ nl es cap row,st.roots n=.sl true nl es cap [row]/\dP (st.roots H0)=true/\n < H0/\s1={ tmps:=st.tmps,roots:=upd st.roots n (.sl true nl es cap [cells.map C.frz++row.drop cells.length]) }:=by
 unfold vT at h;split at h
 case h_2=>simp at h
 rename_i nl es cap row hr;split at h
 case isFalse=>simp at h
 rename_i hc;simp only [cb] at h;exact ⟨nl,es,cap,row,hr,hc.1,hc.2.1,h.symm⟩
def sX {n:Nat} {cells:List C} {st2:St} (h1:st2.roots n=st.roots n) (h2:dP (st2.roots H0)=dP (st.roots H0)) {s1:St} (h:vT n cells st=some s1) :
  vT n cells st2=some { tmps:=st2.tmps,roots:=upd st2.roots n (s1.roots n) }:=by
 unfold vT at h ⊢;rw [h1,h2];split at h
 case h_2=>simp at h
 rename_i nl es cap row hr;split at h
 case isFalse=>simp at h
 rename_i hc;simp only [cb] at h;subst h;simp only [if_pos hc,aC]
def KH (H:Hb P st) {ts:List Tmp} {e:SE} {st':St} (h:e.apply st=some st') (hd:∀ d,e.dst=some d->d∉ts) (hv:∀ n cells,e=.s n cells->∀ t∈ts,vQ n st t=true):Es ts st st':=by
 intro t ht;cases e with
 | q d c=>
  simp only [SE.apply,cb] at h;subst h;cases d with
  | none=>exact ⟨rfl,fun _ _ _ _ _ _ _ _=>rfl⟩
  | some d=>
   have hne:d≠t:=by rintro rfl; exact hd d rfl ht
   exact ⟨by simp [St.put,hC,hne],fun _ _ _ _ _ _ _ _=>rfl⟩
 | n d tmp root=>
  simp only [SE.apply] at h;split at h
  ·rename_i hdd;simp only [cb] at h;subst h;have hne:d≠t:=by rintro rfl; exact hd d rfl ht
   refine ⟨by simp [hC,hne],?_⟩;intro c hc k v n p ho hp;have:n≠d:=by
    rintro rfl;exact H.alive hc ho hp (zg hdd)
   simp [aN this]
  ·simp at h
 | s n cells=>
  obtain ⟨nl,es,cap,row,e1,e2,e3,rfl⟩:=vp h;refine ⟨rfl,?_⟩;intro c hc k v n' p ho hp;have:=Md (hv n cells rfl t ht) hc ho hp;simp [aN this]
def Je (f:Nat->C) {n k:Nat} (h:n≠k) (a b:C):upd (upd f n a) k b=upd (upd f k b) n a:=by
 funext x
 by_cases e1:x=n
 ·subst e1; simp [aC,aN h]
 ·by_cases e2:x=k
  ·subst e2; simp [aC,aN e1]
  ·simp [aN e1,aN e2]
def Wm {n:Nat} {cells:List C} {e2:SE} {s1 s2:St} (h1:vT n cells st=some s1) (h2:e2.apply s1=some s2) (hn:∀ n' c',e2=.s n' c'->n'≠n) (hH:∀ d t r,e2=.n d t r->d≠H0) :
  ∃ s1',e2.apply st=some s1'/\vT n cells s1'=some s2:=by
 obtain ⟨nl,es,cap,row,g1,g2,g3,rfl⟩:=vp h1;cases e2 with
 | q d c=>
  simp only [SE.apply,cb] at h2;subst h2;refine ⟨_,rfl,?_⟩;cases d with
  | none=>exact h1
  | some d=>
   rw [sX (st:=st) (st2:=st.put (some d) c) rfl rfl h1];simp [St.put,aC]
 | n d tmp root=>
  have hH:=hH d tmp root rfl;have hdn:d≠n:=by
   rintro rfl;simp [SE.apply,aC,dP] at h2
  simp only [SE.apply,aN hdn] at h2;split at h2
  case h_2=>simp at h2
  rename_i hdd;simp only [cb] at h2;subst h2;refine ⟨{ tmps:=st.tmps.set d tmp,roots:=upd st.roots d root },by simp only [SE.apply,hdd],?_⟩;rw [sX (st:=st) (by simp [aN hdn.symm]) (by simp [aN hH.symm]) h1];simp only [aC,cb,St.mk.injEq,true_and];exact Je _ hdn _ _
 | s n2 cells2=>
  have hnn:=hn n2 cells2 rfl;obtain ⟨nl2,es2,cap2,row2,k1,k2,k3,rfl⟩:=vp h2;have hH0:n≠H0:=by omega
  have hH2:n2≠H0:=by omega
  refine ⟨_,sX (st2:=st) (by simp [aN hnn]) (by simp [aN hH0.symm]) h2,?_⟩;rw [sX (st:=st) (by simp [aN hnn.symm]) (by simp [aN hH2.symm]) h1];simp only [aC,cb,St.mk.injEq,true_and];exact Je _ hnn _ _
def Y0 {n:Nat} {cells:List C} {e1:SE} {s1 s2:St} (h1:e1.apply st=some s1) (h2:vT n cells s1=some s2) (hn:∀ n' c',e1=.s n' c'->n'≠n) (hH:∀ d t r,e1=.n d t r->d≠H0/\d≠n) :
  ∃ s1',vT n cells st=some s1'/\e1.apply s1'=some s2:=by
 cases e1 with
 | q d c=>
  simp only [SE.apply,cb] at h1;subst h1;cases d with
  | none=>exact ⟨s2,h2,rfl⟩
  | some d=>
   obtain ⟨nl,es,cap,row,g1,g2,g3,rfl⟩:=vp h2;exact ⟨_,sX (st:=st.put (some d) c) (st2:=st) rfl rfl h2,by simp [SE.apply,St.put,aC]⟩
 | n d tmp root=>
  obtain ⟨hH,hdn⟩:=hH d tmp root rfl;simp only [SE.apply] at h1;split at h1
  case h_2=>simp at h1
  rename_i hdd;simp only [cb] at h1;subst h1;obtain ⟨nl,es,cap,row,g1,g2,g3,rfl⟩:=vp h2;refine ⟨_,sX (st2:=st) (by simp [aN hdn.symm]) (by simp [aN hH.symm]) h2,?_⟩;simp only [SE.apply,aN hdn,hdd,aC,cb,St.mk.injEq,true_and];exact Je _ hdn.symm _ _
 | s n2 cells2=>
  have hnn:=hn n2 cells2 rfl;obtain ⟨s1',g1,g2⟩:=Wm (e2:=.s n cells) h1 h2 (by rintro _ _ h; cases h; exact hnn.symm) (by rintro _ _ _ h; cases h);exact ⟨s1',g1,g2⟩
def UK {e1 e2:SE} {s1 s2:St} (h1:e1.apply st=some s1) (h2:e2.apply s1=some s2) (hne:∀ d1 d2,e1.dst=some d1->e2.dst=some d2->d1≠d2)
  (hs1:∀ n c,e1=.s n c->(∀ n' c',e2=.s n' c'->n'≠n)/\∀ d t r,e2=.n d t r->d≠H0) (hs2:∀ n c,e2=.s n c->(∀ n' c',e1=.s n' c'->n'≠n)/\∀ d t r,e1=.n d t r->d≠H0/\d≠n) :
  ∃ s1',e2.apply st=some s1'/\e1.apply s1'=some s2:=by
 by_cases c1:∃ n c,e1=.s n c
 ·obtain ⟨n,c,rfl⟩:=c1; exact Wm h1 h2 (hs1 n c rfl).1 (hs1 n c rfl).2
 by_cases c2:∃ n c,e2=.s n c
 ·obtain ⟨n,c,rfl⟩:=c2; exact Y0 h1 h2 (hs2 n c rfl).1 (hs2 n c rfl).2
 cases e1 with
 | q d c=>
  simp only [SE.apply,cb] at h1;subst h1;cases d with
  | none=>exact ⟨s2,h2,rfl⟩
  | some d=>
   cases e2 with
   | s n c=>exact (c2 ⟨_,_,rfl⟩).elim
   | q d' c'=>
    simp only [SE.apply,cb] at h2;subst h2;refine ⟨_,rfl,?_⟩;cases d' with
    | none=>rfl
    | some d'=>
     have:=hne d d' rfl rfl;simp only [SE.apply,St.put,cb];rw [adq _ _ this.symm]
   | n d' tmp root=>
    have:=hne d d' rfl rfl;cases hdd:dP (st.roots d') with
    | true=>
     simp only [SE.apply,St.put,hdd,cb] at h2 ⊢;subst h2;exact ⟨_,rfl,by rw [adq _ _ this.symm]⟩
    | false=>simp [SE.apply,St.put,hdd] at h2
 | n d tmp root=>
  simp only [SE.apply] at h1;split at h1
  ·rename_i hdd;simp only [cb] at h1;subst h1;cases e2 with
   | s n c=>exact (c2 ⟨_,_,rfl⟩).elim
   | q d' c'=>
    simp only [SE.apply,cb] at h2;subst h2;refine ⟨_,rfl,?_⟩;cases d' with
    | none=>simp [SE.apply,St.put,hdd]
    | some d'=>
     have:=hne d d' rfl rfl;simp only [SE.apply,St.put,hdd,cb];rw [adq _ _ this.symm]
   | n d' tmp' root'=>
    have hn:=hne d d' rfl rfl;cases hdd':dP (st.roots d') with
    | true=>
     simp only [SE.apply,aN hn.symm,hdd',cb] at h2 ⊢;subst h2;refine ⟨_,rfl,?_⟩;simp only [aN hn,hdd,cb];rw [adq _ _ hn.symm]
     congr 1
     funext k
     simp only [upd];by_cases k1:k=d
     ·subst k1; simp [hn]
     ·by_cases k2:k=d'
      ·subst k2; simp [hn.symm]
      ·simp [k1,k2]
    | false=>simp [SE.apply,aN hn.symm,hdd'] at h2
  ·simp at h1
 | s n c=>exact (c1 ⟨_,_,rfl⟩).elim
def Jo {ops:Array Oper} {i:Nat} {o:Oper} {st st2:St} (h:∀ t∈lM ops o,st2.tmps[t]?=st.tmps[t]?):chk ops i o st2=chk ops i o st:=by
 unfold chk
 congr 1
 funext j
 cases (ops[j]?).bind NQ with
 | none=>rfl
 | some n=>
  have:(lM ops o).all (vQ n st2)=(lM ops o).all (vQ n st):=by
   rw [xY,cq,cq];constructor
   ·intro g t ht; have:=g t ht; simpa [vQ,h t ht] using this
   ·intro g t ht; have:=g t ht; simpa [vQ,h t ht] using this
  simp only [this]
def Lm {ops:Array Oper} {i j:Nat} {x y:Oper} {n t:Nat} {v:Operand} (hy:ops[j]?=some y) (hop:y.op=.store t (.tmp n) v) (hlt:j < ops.size) (hb:ER ops j=false) (hrl:pc ops j=false) (hu:JS ops i j=true) (h:chk ops i x st=true) :
  (∀ d,x.dst=some d->d < H0)/\∀ t∈lM ops x,vQ n st t=true:=by
 unfold chk at h;rw [cq] at h;have:=h j (by
  have h0:j∈MI ops:=by
   unfold MI;rw [nR];refine ⟨nY.2 hlt,?_⟩;simp [hy,J6,hop,hb]
  unfold zy;split
  ·rename_i ha;have:=cq.1 ha j h0;simp [pc,this,ha] at hrl
  ·exact h0)
 simp only [hu,ny,nt,hy,cc,NQ,hop,cv,cq] at this;refine ⟨?_,this.2⟩;intro d hd;have:=this.1;rw [hd] at this;simpa using this
def acj {E:Env} (H:Hb P st) {ops:Array Oper} {i j:Nat} {x y:Oper} (hx:ops[i]?=some x) (hy:ops[j]?=some y) (hbx:ER ops i=false) (hby:ER ops j=false) (hrx:pc ops i=false) (hry:pc ops j=false) (hu:JS ops i j=true) (hu':JS ops j i=true) (hd:Qb ops x y=true) {s1 s2:St}
  (h1:bx E ops x st=some s1) (k1:chk ops i x st=true) (h2:bx E ops y s1=some s2) (k2:chk ops j y s1=true) :
  ∃ s1',bx E ops y st=some s1'/\chk ops j y st=true/\bx E ops x s1'=some s2/\chk ops i x s1'=true:=by
 have hil:=(nc.1 hx).1;have hjl:=(nc.1 hy).1;unfold bx at h1 h2;split at h1
 case h_2=>simp at h1
 rename_i e1 he1;split at h2
 case h_2=>simp at h2
 rename_i e2 he2;have D1:=IW he1;have D2:=IW he2;simp only [Qb,cv] at hd;obtain ⟨⟨c1,c2⟩,c3⟩:=hd;have n1:∀ d,e1.dst=some d->d∉lM ops y:=by
  intro d hd hm;rw [D1] at hd;rw [hd] at c1;simp at c1;exact c1 hm
 have n2:∀ d,e2.dst=some d->d∉lM ops x:=by
  intro d hd hm;rw [D2] at hd;rw [hd] at c2;simp at c2;exact c2 hm
 have T1:∀ t∈lM ops y,s1.tmps[t]?=st.tmps[t]?:=by
  intro t ht;cases e1 with
  | q d c=>
   simp only [SE.apply,cb] at h1;subst h1;cases d with
   | none=>rfl
   | some d=>
    have hne:d≠t:=by rintro rfl; exact n1 d rfl ht
    simp [St.put,hC,hne]
  | n d tmp root=>
   simp only [SE.apply] at h1;split at h1
   ·simp only [cb] at h1;subst h1;have hne:d≠t:=by rintro rfl; exact n1 d rfl ht
    simp [hC,hne]
   ·simp at h1
  | s n c=>
   obtain ⟨_,_,_,_,_,_,_,rfl⟩:=vp h1;rfl
 have k2':chk ops j y st=true:=by rw [<-Jo T1]; exact k2
 have A1:=KH (ts:=lM ops y) H h1 n1 (by
  rintro n c rfl;rcases DH he1 with ⟨_,h⟩|⟨_,_,_,_,h⟩|⟨t,n',v,_,_,hop,_,h⟩
  ·cases h
  ·cases h
  ·cases h;exact (Lm hx hop hil hbx hrx hu' k2').2)
 rw [MX A1] at he2;have S1:∀ n c,e1=.s n c->(∀ d,y.dst=some d->d < H0)/\(∀ t∈lM ops y,vQ n st t=true)/\n∈lM ops x:=by
  rintro n c rfl;rcases DH he1 with ⟨_,h⟩|⟨_,_,_,_,h⟩|⟨t,n',v,_,_,hop,_,h⟩
  ·cases h
  ·cases h
  ·cases h;obtain ⟨q1,q2⟩:=Lm hx hop hil hbx hrx hu' k2';exact ⟨q1,q2,cF.2 (.inl (zG (by simp [hop,Op.operands])))⟩
 have S2:∀ n c,e2=.s n c->(∀ d,x.dst=some d->d < H0)/\(∀ t∈lM ops x,vQ n st t=true)/\n∈lM ops y:=by
  rintro n c rfl;rcases DH he2 with ⟨_,h⟩|⟨_,_,_,_,h⟩|⟨t,n',v,_,_,hop,_,h⟩
  ·cases h
  ·cases h
  ·cases h;obtain ⟨q1,q2⟩:=Lm hy hop hjl hby hry hu k1;exact ⟨q1,q2,cF.2 (.inl (zG (by simp [hop,Op.operands])))⟩
 have V:∀ n c,e1=.s n c->∃ q,st.tmps[n]?=some (.pref n [] 0 0)/\q=():=by
  rintro n c rfl;rcases DH he1 with ⟨_,h⟩|⟨_,_,_,_,h⟩|⟨t,n',v,_,_,hop,hev,h⟩
  ·cases h
  ·cases h
  ·cases h;simp only [St.ev] at hev;cases hc:st.tmps[n]? with
   | none=>simp [hc] at hev
   | some u=>simp [hc] at hev; subst hev; exact ⟨(),rfl,rfl⟩
 have SS:∀ n c n' c',e1=.s n c->e2=.s n' c'->n'≠n:=by
  intro n c n' c' g1 g2;obtain ⟨_,hv,_⟩:=V n c g1;obtain ⟨_,q2,_⟩:=S2 n' c' g2;obtain ⟨_,_,q3⟩:=S1 n c g1;have:=Md (q2 n q3) hv (k:=1) (v:=.pref n [] 0 0) (n':=n) (p:=[]) rfl rfl;exact this.symm
 obtain ⟨s1',g1,g2⟩:=UK h1 h2 (by
  intro d1 d2 hd1 hd2;rw [D1] at hd1;rw [D2] at hd2;rw [hd1,hd2] at c3;simpa using c3) (by
  intro n c h;refine ⟨fun n' c' h'=>SS n c n' c' h h',?_⟩;rintro d t r rfl;exact Nat.ne_of_lt ((S1 n c h).1 d (by rw [<-D2]; rfl))) (by
  intro n c h;refine ⟨fun n' c' h'=>(SS n' c' n c h' h).symm,?_⟩;rintro d t r rfl;refine ⟨Nat.ne_of_lt ((S2 n c h).1 d (by rw [<-D1]; rfl)),?_⟩;rintro rfl;exact n1 d rfl (S2 d c h).2.2)
 have A2:=KH (ts:=lM ops x) H g1 n2 (fun n c h=>(S2 n c h).2.1);refine ⟨s1',by simp only [bx,he2]; exact g1,k2',?_,?_⟩
 ·simp only [bx,MX A2,he1];exact g2
 ·rw [Jo (fun t ht=>(A2 t ht).1)];exact k1
def Iz {E:Env} {ops:Array Oper} {i:Nat} {o:Oper} {st':St} (hb:ER ops i=false) (hrl:pc ops i=false) (h:wC E ops i o st=some st'):bx E ops o st=some st'/\chk ops i o st=true:=by
 unfold wC at h;split at h
 ·rename_i s hs;split at h
  ·rename_i hc; rw [hs]; exact ⟨h,hc⟩
  ·simp at h
 ·simp [kn,hb,hrl] at h
def Bp {ops:Array Oper} {i:Nat} (h:pc ops i=true):(zy ops).isEmpty=true:=by
 simp only [pc,cv] at h;simp [zy,h.2]
theorem IA {ops:Array Oper} {i:Nat} {o:Oper} (hf:(zy ops).isEmpty=true):chk ops i o st=true:=by
 unfold chk;rw [adr.1 hf];rfl
def HG {E:Env} {ops:Array Oper} {i:Nat} {o:Oper} {st':St} (hr:pc ops i=true) (h:eM E ops o st=some st'):wC E ops i o st=some st':=by
 unfold wC;cases hs:bx E ops o st with
 | some s=>
  simp only [IA (Bp hr),if_true];rw [Bi hs] at h;exact h
 | none=>simp only [kn,hr,nE,Bp hr,Bool.and_self,if_true]; exact h
def Jk {ops:Array Oper} {i:Nat} {o:Oper} (ho:ops[i]?=some o) (h:pc ops i=true):∃ t x v,o.op=.store t x v/\o.dst=none/\o.guard=none:=by
 simp only [pc,I4,cv,ho,cx,nk] at h;obtain ⟨⟨⟨⟨h1,h2⟩,h3⟩,_⟩,_⟩:=h;unfold J6 at h1;split at h1
 ·rename_i t x v hop; exact ⟨t,x,v,hop,by simpa using h2,by simpa using h3⟩
 ·simp at h1
def KE {ops:Array Oper} {i j:Nat} {x:Oper} (hx:ops[j]?=some x) (h:pc ops i=true) (hne:j≠i) (h1:iQ ops ops.size j i=false) (h2:iQ ops ops.size i j=false) (h3:G5 ops j i=false):∃ d y,x.dst=some d/\x.guard=none/\(x.op=.move y∨x.op=.assign y):=by
 simp only [pc,I4,cv,cq,nY] at h;have:=h.1.2 j (nc.1 hx).1;simp only [h1,h2,h3,hx,cx,nk,nH,nx,beq_iff_eq] at this;have hm:=this.resolve_left hne;simp only [VS,cv] at hm;obtain ⟨hg,hm⟩:=hm;split at hm
 ·rename_i y d hop hd; exact ⟨d,y,hd,by simpa using hg,.inl hop⟩
 ·rename_i y d hop hd; exact ⟨d,y,hd,by simpa using hg,.inr hop⟩
 ·simp at hm
def Xf {ops:Array Oper} {i j:Nat} (h:i<=j):G5 ops j i=false:=by
 have:Nat.blt j i=false:=by rw [adV]; intro h'; rw [ads] at h'; omega
 unfold G5;cases ops.size with
 | zero=>rfl
 | succ n=>simp [Iv,this]
def Ei {E:Env} {ops:Array Oper} {x:Oper} {d:Nat} {y:Operand} (hd:x.dst=some d) (hg:x.guard=none) (hop:x.op=.move y∨x.op=.assign y) (st:St):bx E ops x st=some (st.put (some d) (st.ev y))/\eM E ops x st=some (st.put (some d) (st.ev y)):=by
 have h1:bx E ops x st=some (st.put (some d) (st.ev y)):=by
  rcases hop with hop|hop<;>simp [bx,mM,hg,fC,hop,qSE,qop,SE.apply,hd]
 exact ⟨h1,Bi h1⟩
theorem Mw {E:Env} {ops:Array Oper} {o:Oper} {t:TypeId} {x v:Operand} (hop:o.op=.store t x v) (hd:o.dst=none) (hg:o.guard=none) (st:St):eM E ops o st=match E.T t with|some ti=>jU ti (st.ev x) (st.ev v) st|none=>none:=by
 obtain ⟨dst,op,ty,pos,after,guard⟩:=o;simp only at hop hd hg;subst hop; subst hd; subst hg;simp only [eM,exe,lA,kU,fZ];cases E.T t with
 | none=>rfl
 | some ti=>simp only; cases jU ti (st.ev x) (st.ev v) st<;>rfl
theorem OX {y:Operand} {d:Nat} {c:C} (h:y≠.tmp d):(st.put (some d) c).ev y=st.ev y:=by
 cases y with
 | tmp t=>
  have:d≠t:=fun e=>h (by rw [e]);simp [St.ev,St.put,hC,this]
 | _=>rfl
def OD {E:Env} {ops:Array Oper} {o x:Oper} {d:Nat} {y:Operand} {t:TypeId} {p v:Operand} (hd:x.dst=some d) (hg:x.guard=none) (hop:x.op=.move y∨x.op=.assign y)
  (hso:o.op=.store t p v) (hsd:o.dst=none) (hsg:o.guard=none) (hdis:d∉lM ops o) {s2:St} :
  eM E ops o (st.put (some d) (st.ev y))=some s2↔∃ s1,eM E ops o st=some s1/\s2=s1.put (some d) (s1.ev y):=by
 have hp:p≠.tmp d:=by rintro rfl; exact hdis (cF.2 (.inl (zG (by simp [hso,Op.operands]))))
 have hv:v≠.tmp d:=by rintro rfl; exact hdis (cF.2 (.inl (zG (by simp [hso,Op.operands]))))
 rw [Mw hso hsd hsg,Mw hso hsd hsg,OX hp,OX hv];cases E.T t with
 | none=>simp
 | some ti=>exact Uu (c:=.dead) y (fun g R' hgc=>ZN st.tmps st.roots R' y g hgc)
def vf {E:Env} {ops:Array Oper} {i:Nat} {o:Oper} {st':St} (h:bx E ops o st=some st') (hc:chk ops i o st=true):wC E ops i o st=some st':=by
 unfold wC; rw [h]; simp [hc]
def G8 {ops:Array Oper} (h:zt ops=true) {i:Nat} {o:Oper} (ho:ops[i]?=some o) {e:Edge} (he:e∈o.after) (hb:Region.binds .any e=true):e.on < i:=by
 simp only [zt,cv,cq,nY] at h;have hi:=(nc.1 ho).1;have:=h.1 i hi;rw [ho] at this;simp only [cx,nk,aes] at this;have:=this e he;simpa [hb] using this
def Mt {ops:Array Oper} (h:zt ops=true) {i j:Nat} {x y:Oper} (hj:ops[j]?=some x) (hi:ops[i]?=some y) (hlt:j < i) (ho:iQ ops ops.size j i=false):Qb ops x y=true:=by
 simp only [zt,cv,cq,nY] at h;have:=h.2 i (nc.1 hi).1 j hlt;rw [ho,hj,hi] at this;simpa using this
def Td {ops:Array Oper} (h:zt ops=true):∀ (k j i:Nat),iQ ops k j i=true->j < i:=by
 intro k
 induction k with
 | zero=>intro j i ho; simp [iQ] at ho
 | succ k ih=>
  intro j i ho;simp only [iQ] at ho;cases hi:ops[i]? with
  | none=>simp [hi] at ho
  | some o=>
   simp only [hi,cx,nk,adW,cv,nx,beq_iff_eq] at ho;rcases ho with ⟨e,he,rfl,hb⟩|⟨e,he,_,hb,hor⟩
   ·exact G8 h hi he hb
   ·have h1:=G8 h hi he hb;have:=ih j e.on hor; omega
def Wg {ops:Array Oper} (h:zt ops=true) {i j:Nat} (hi:i < ops.size) (hj:j < ops.size) (hlt:j < i) (ho:iQ ops ops.size j i=false):ER ops i=false/\ER ops j=false:=by
 have n1:iQ ops ops.size i j=false:=by
  cases hh:iQ ops ops.size i j with
  | false=>rfl
  | true=>have:=Td h _ _ _ hh; omega
 constructor
 ·rw [adV];intro hb;simp only [ER,cq,nY] at hb;have:=hb j hj;rw [ho,n1] at this;simp at this;omega
 ·rw [adV];intro hb;simp only [ER,cq,nY] at hb;have:=hb i hi;rw [ho,n1] at this;simp at this;omega
def aap {E:Env} (hT:TOk P E) (hG:GOk P E) {ops:Array Oper} (hS:zt ops=true) {i:Nat} {o:Oper} (hi:ops[i]?=some o) {post:List (Nat × Oper)} {stf:St}:∀ (pre:List (Nat × Oper)) {st:St},Hb P st ->
  (∀ x∈pre,ops[x.1]?=some x.2/\x.1 < i/\iQ ops ops.size x.1 i=false/\G5 ops x.1 i=false)->yQ E ops (pre++(i,o)::post) st=some stf ->
  ∃ st1,wC E ops i o st=some st1/\yQ E ops (pre++post) st1=some stf:=by
 intro pre
 induction pre with
 | nil=>
  intro st _ _ h;simp only [cO,yQ] at h;split at h
  ·rename_i s hs; exact ⟨s,hs,h⟩
  ·simp at h
 | cons x pre ih=>
  intro st H hpre h;obtain ⟨j,x⟩:=x;simp only [nK,yQ] at h;split at h
  ·rename_i s1 hs1;obtain ⟨e1,e2,e3,e4⟩:=hpre (j,x) (by simp);simp only at e1 e2 e3 e4;obtain ⟨s2,g1,g2⟩:=ih (H.step hT hG e1 (qX hs1)) (fun y hy=>hpre y (by simp [hy])) h;obtain ⟨b1,b2⟩:=Wg hS (nc.1 hi).1 (nc.1 e1).1 e2 e3;have n1:iQ ops ops.size i j=false:=by
    cases hh:iQ ops ops.size i j with
    | false=>rfl
    | true=>have:=Td hS _ _ _ hh; omega
   have hne:j≠i:=by omega
   have hdj:=Mt hS e1 hi e2 e3;simp only [Qb,cv] at hdj;by_cases ri:pc ops i=true
   ·obtain ⟨d,y,k1,k2,k3⟩:=KE e1 ri hne e3 n1 e4;obtain ⟨t,p,v,k4,k5,k6⟩:=Jk hi ri;have hm:=(Ei (E:=E) (ops:=ops) k1 k2 k3 st).2;rw [qX hs1] at hm;cases hm;have hdis:d∉lM ops o:=by have:=hdj.1.1; rw [k1] at this; simpa using this
    obtain ⟨s1',f1,rfl⟩:=(OD k1 k2 k3 k4 k5 k6 hdis).1 (qX g1);refine ⟨s1',HG ri f1,?_⟩;have:=vf (i:=j) (Ei (E:=E) (ops:=ops) k1 k2 k3 s1').1 (IA (Bp ri));simp only [nK,yQ,this];exact g2
   by_cases rj:pc ops j=true
   ·obtain ⟨d,y,k1,k2,k3⟩:=KE hi rj hne.symm n1 e3 (Xf (by omega));obtain ⟨t,p,v,k4,k5,k6⟩:=Jk e1 rj;have hm:=(Ei (E:=E) (ops:=ops) k1 k2 k3 s1).2;rw [qX g1] at hm;cases hm;have hdis:d∉lM ops x:=by have:=hdj.1.2; rw [k1] at this; simpa using this
    have hx2:=(OD (st:=st) k1 k2 k3 k4 k5 k6 hdis (s2:=s1.put (some d) (s1.ev y)) (E:=E)).2 ⟨s1,qX hs1,rfl⟩;refine ⟨_,vf (Ei (E:=E) (ops:=ops) k1 k2 k3 st).1 (IA (Bp rj)),?_⟩;simp only [nK,yQ,HG rj hx2];exact g2
   rw [xm] at ri rj;obtain ⟨a1,a2⟩:=Iz b2 rj hs1;obtain ⟨a3,a4⟩:=Iz b1 ri g1;obtain ⟨s1',f1,f2,f3,f4⟩:=acj H e1 hi b2 b1 rj ri (by simp [JS,n1,e3]; omega) (by simp [JS,n1,e3]; omega) (Mt hS e1 hi e2 e3) a1 a2 a3 a4;refine ⟨s1',vf f1 f2,?_⟩;simp only [nK,yQ,vf (i:=j) f3 f4];exact g2
  ·simp at h
def fN (ops:Array Oper) (listed:Array Bool):List (Nat × Oper):=(List.range ops.size).filterMap fun k=>if listed.getD k true then none else (ops[k]?).map fun o=>(k,o)
def wL {ops:Array Oper} {listed:Array Bool} (hdown:∀ i o e,listed.getD i false=true->ops[i]?=some o->e∈o.after->Region.binds .any e=true->listed.getD e.on false=true) :
  ∀ (k j i:Nat) (o:Oper),ops[i]?=some o->(∀ e∈o.after,Region.binds .any e=true->listed.getD e.on false=true)->iQ ops k j i=true->listed.getD j false=true:=by
 intro k
 induction k with
 | zero=>intro j i o _ _ h; simp [iQ] at h
 | succ k ih=>
  intro j i o hi he h;simp only [iQ,hi,cx,nk,adW,cv,nx,beq_iff_eq] at h;rcases h with ⟨e,hm,rfl,hb⟩|⟨e,hm,_,hb,hor⟩
  ·exact he e hm hb
  ·have h1:=he e hm hb;cases ho':ops[e.on]? with
   | none=>cases k<;>simp [iQ,ho'] at hor
   | some o'=>exact ih j e.on o' ho' (fun e' hm' hb'=>hdown e.on o' e' h1 ho' hm' hb') hor
def AQ {α β:Type} {f g:α->Option β}:∀ {l:List α},(∀ x∈l,f x=g x)->l.filterMap f=l.filterMap g:=by
 intro l
 induction l with
 | nil=>intro _; rfl
 | cons x l ih=>intro h; rw [adt,adt,h x (by simp),ih (fun y hy=>h y (by simp [hy]))]
def zF {ops:Array Oper} {listed:Array Bool} {x:Nat × Oper}:x∈fN ops listed↔ops[x.1]?=some x.2/\listed.getD x.1 true=false:=by
 unfold fN;simp only [adU,nY];constructor
 ·rintro ⟨k,hk,h⟩;split at h
  ·simp at h
  ·rename_i hl;simp only [cj] at h;obtain ⟨o,h1,rfl⟩:=h;exact ⟨h1,by simpa using hl⟩
 ·rintro ⟨h1,h2⟩;exact ⟨x.1,(nc.1 h1).1,by rw [h2,h1]; simp⟩
def HL (ops:Array Oper) (listed:Array Bool):(fN ops listed).Pairwise (fun x y=>x.1 < y.1):=by
 unfold fN;rw [List.pairwise_filterMap];refine List.Pairwise.imp ?_ List.pairwise_lt_range;intro a b hab x hx y hy;split at hx
 ·simp at hx
 ·split at hy
  ·simp at hy
  ·simp only [cj] at hx hy;obtain ⟨_,_,rfl⟩:=hx;obtain ⟨_,_,rfl⟩:=hy;exact hab
def Uq {ops:Array Oper} {listed:Array Bool} {i:Nat} (hi:i < listed.size):fN ops (listed.setIfInBounds i true)=(fN ops listed).filter fun x=>x.1 != i:=by
 unfold fN;rw [List.filter_filterMap];apply AQ;intro k hk;by_cases e:i=k
 ·subst e;have:(listed.setIfInBounds i true).getD i true=true:=by simp [xv,xD,hi]
  rw [this];generalize listed.getD i true=v;cases v<;>cases ops[i]?<;>simp [Option.filter]
 ·have:(listed.setIfInBounds i true).getD k true=listed.getD k true:=getD_set_ne true e;rw [this];generalize listed.getD k true=v;cases v<;>cases ops[k]?<;>simp [Option.filter,xE e]
def mK {listed:Array Bool} {i:Nat} (h:listed.getD i false=true):listed.getD i true=true:=by
 simp only [xv] at h ⊢;cases hi:listed[i]? with
 | none=>simp [hi] at h
 | some b=>simpa [hi] using h
def mL {α:Type} (P:Program) (s:Sem α):Prop:=∀ w v w1,s.run P w=.ok v w1->w1=w/\∀ w',s.run P w'=.ok v w'
def mL.bind {α β:Type} {s:Sem α} {f:α->Sem β} (h:mL P s) (k:∀ a,mL P (f a)):mL P (s >>= f):=by
 intro w v w1 e;rw [Sem.run_bind] at e;cases hs:s.run P w with
 | ok a w2=>
  rw [hs] at e;obtain ⟨rfl,h1⟩:=h _ _ _ hs;obtain ⟨rfl,h2⟩:=k a _ _ _ e;exact ⟨rfl,fun w'=>by rw [Sem.run_bind,h1]; exact h2 w'⟩
 | _=>rw [hs] at e; cases e
theorem mL.pure {α:Type} (a:α):mL P (Pure.pure a:Sem α):=fun w v w1 e=>by cases e; exact ⟨rfl,fun _=>rfl⟩
def mL.stuck {α:Type} (s:String):mL P (Go.stuck s:Sem α):=fun w v w1 e=>by cases e
def mL.uns {α:Type} (s:Unsupported):mL P (unsupported s:Sem α):=fun w v w1 e=>by cases e
theorem mL.prog:mL P program:=fun w v w1 e=>by cases e; exact ⟨rfl,fun _=>rfl⟩
def mL.und (t:TypeId):mL P (underlying t):=.bind .prog fun p=>by cases p.underlying t<;>first|exact .pure _|exact .stuck _
def mL.size (t:TypeId):mL P (sizeOf t):=.bind (.bind .prog fun p=>by cases p.info? t<;>first|exact .pure _|exact .stuck _) fun _=>.pure _
def mL.bound (x:Value) (y:Nat) (c:BoundsCode):mL P (Instr.sliceBound x y c):=by
 refine .bind ?_ fun a=>?_
 ·unfold asIntOf; split<;>first|exact .pure _|exact .stuck _|exact .uns _
 ·dsimp only; split
  ·exact .pure _
  ·intro w v w1 e; simp [boundsPanic,runtimePanic] at e; (repeat' split at e)<;>cases e
def mL.bounds (b:Bool) (l c:Nat) (lo hi mx:Option Value):mL P (Instr.sliceBounds b l c lo hi mx):=by
 unfold Instr.sliceBounds;repeat' first|exact .bound _ _ _|exact .pure _|exact .stuck _|refine .bind ?_ fun _=>?_|split
def mL.slice (t:TypeId) (u:Value) (lo hi mx:Option Value):mL P (Instr.sliceAt t u lo hi mx):=by
 refine .bind (.und t) fun d=>?_;split
 ·refine .bind (by unfold Instr.sureAddr; split<;>first|exact .pure _|exact .stuck _) fun _=>.bind (.bounds _ _ _ _ _ _) fun _=>.bind (.size _) fun _=>.pure _
 ·refine .bind (.und t) fun d=>?_;split
  ·split
   ·exact .bind (.stuck _) fun _=>.bind (.bounds _ _ _ _ _ _) fun _=>.pure _
   ·exact .bind (.bounds _ _ _ _ _ _) fun _=>.pure _
  ·exact .bind (.bounds _ _ _ _ _ _) fun _=>.bind (.size _) fun _=>.pure _
  ·refine .bind ?_ fun _=>.bind (.und _) fun _=>?_
   ·unfold asAddr; split
    ·exact .pure _
    ·exact fun w v w1 e=>by simp [runtimePanic] at e
    ·exact .stuck _
   ·split
    ·exact .bind (.bounds _ _ _ _ _ _) fun _=>.bind (.size _) fun _=>.pure _
    ·exact .stuck _
  ·exact .stuck _
def mL.sub (t:TypeId) (n:Int) (k k':IntKind) (b:Int) (x y:Operand):mL P (do eqGuard .sub t x y (.int k' n) (.int k b); binOp .sub t (.int k' n) (.int k b)):=by
 refine .bind (.pure ()) fun _=>?_;simp only [binOp];split<;>first|exact .stuck _|exact .pure _
def Bq {ops:Array Oper} {o:Oper} {a:Act} {w:World} {K:Act->World->Prop} {s:Sem Value} (hg:o.guard=none) (he:execOp a.eval o=do pure (.value (<-s))) (hf:mL P s) (h:o.wp P a w K (fun _ _ _=>False)):∃ v,Yields P ops o v a/\K (a.put o.dst v) w:=by
 unfold Oper.wp at h;rw [he,Sem.run_bind] at h;cases hs:s.run P w with
 | ok v w1=>
  obtain ⟨rfl,h1⟩:=hf _ _ _ hs;rw [hs] at h;exact ⟨v,.inl ⟨by simp [Region.wanted,hg],fun w'=>by rw [he,Sem.run_bind,h1]; rfl⟩,h⟩
 | halt x w1=>rw [hs] at h; cases x<;>exact h.elim
def TT {E:Env} {s1:St} {ops:Array Oper} {o:Oper} {a:Act} {w:World} {K:Act->World->Prop} (H:Inv X st a w) (hs:eM E ops o st=some s1) (ht:Ma o=true) (h:o.wp P a w K (fun _ _ _=>False)):∃ v,Yields P ops o v a/\K (a.put o.dst v) w:=by
 obtain ⟨dst,op,ty,pos,after,guard⟩:=o;simp only [Ma,cv,xZ] at ht;obtain ⟨rfl,ht⟩:=ht;have key:∀ v,(execOp a.eval ⟨dst,op,ty,pos,after,none⟩)=Pure.pure (.value v)->∃ v,Yields P ops ⟨dst,op,ty,pos,after,none⟩ v a/\K (a.put dst v) w:=fun v e=>Bq (s:=Pure.pure v) rfl e (.pure v) h;split at ht
 ·rename_i x ix;refine Bq rfl rfl ?_ h;unfold Instr.extract;split
  ·split<;>first|exact .pure _|exact .stuck _
  ·exact .stuck _
 ·exact key _ rfl
 ·exact key _ rfl
 ·exact Bq rfl rfl (.slice _ _ _ _ _) h
 ·rename_i t x k b t';obtain ⟨m,H⟩:=H;have hx:=bm H x;simp only [eM,exe,lA,kU,qop,fZ] at hs;cases hc:Io (E.T t) .sub (st.ev x) (st.ev (.const (.int k b))) with
  | none=>rw [hc] at hs; cases hs
  | some c=>
   rw [show st.ev (.const (.int k b))=.val (.int k b) from rfl] at hc;generalize hp:(C.val (.int k b))=p at hc;unfold Io at hc;split at hc
   ·rename_i e1;rw [e1] at hx;refine Bq rfl (s:=do eqGuard .sub t x (.const (.int k b)) (a.eval x) (.int k b); binOp .sub t (a.eval x) (.int k b)) rfl ?_ h;rw [hx.of_val];exact .sub _ _ _ _ _ _ _
   all_goals first|cases hc|cases hp
 ·cases ht
def ZJ (p:Nat->Prop) (h:∃ k,p k):∃ k,p k/\∀ j,p j->k<=j:=by
 classical
 obtain ⟨k,hk⟩:=h
 induction k using Nat.strongRecOn with
 | _ k ih=>
  by_cases hj:∃ j,j < k/\p j
  ·obtain ⟨j,h1,h2⟩:=hj;exact ih j h1 h2
  ·exact ⟨k,hk,fun j hp=>by
    rcases nS j k with h|h
    ·exact (hj ⟨j,h,hp⟩).elim
    ·exact h⟩
def UU {ops:Array Oper} {i:Nat} {o:Oper} (hi:ops[i]?=some o) (h:JL ops i=true):Ma o=true/\Region.noSelect ops=true/\∀ j oj,ops[j]?=some oj->j≠i->iQ ops ops.size j i=false->(∀ e∈oj.after,Region.binds .any e=true->e.on≠i)->o.apart ops oj=true:=by
 unfold JL at h;rw [hi] at h;simp only [cv,cq,nY] at h;refine ⟨h.1.1,h.1.2,?_⟩;intro j oj hj hne hor hno;have:=h.2 j (nc.1 hj).1;simp only [hj,hor,nH,nx,beq_iff_eq,hne,false_or] at this;rcases this with h1|h1
 ·obtain ⟨e,he,hb⟩:=adW.1 h1;simp only [cv,beq_iff_eq] at hb;exact absurd hb.2 (hno e he hb.1)
 ·exact h1
def P0 {ops:Array Oper} {listed:Array Bool} (hsz:listed.size=ops.size)
  (hdown:∀ i o e,listed.getD i false=true->ops[i]?=some o->e∈o.after->Region.binds .any e=true->listed.getD e.on false=true) {i:Nat} {o:Oper} (hi2:ops[i]?=some o)
  (hi3:∀ e∈o.after,Region.binds .any e=true->listed.getD e.on false=true) (hno:∀ k,k < i->(JL ops k=true/\k∈Region.ready .any ops listed)->False) :
  ∀ f x,Iv ops f x i=true->listed.getD x false=true:=by
 intro f
 induction f with
 | zero=>intro x h; cases h
 | succ f ih=>
  intro x h;simp only [Iv,cv,ads] at h;obtain ⟨hlt,q1,q2⟩:=h;have hin:=(nc.1 hi2).1;cases hx:ops[x]? with
  | none=>rw [hx] at q2; cases q2
  | some ox=>
   rw [hx] at q2;have hd:∀ e∈ox.after,Region.binds .any e=true->listed.getD e.on false=true:=by
    intro e he hb;have:=(aes.1 q2) e he;simp only [hb,ny,nt,nx] at this;exact this.elim (wL hdown ops.size e.on i o hi2 hi3) (ih e.on)
   cases hl:listed.getD x false with
   | true=>rfl
   | false=>
    refine (hno x hlt ⟨q1,mem_ready.2 ⟨?_,ox,hx,hd⟩⟩).elim;simp only [xv] at hl ⊢;rw [acV (by omega)] at hl ⊢;simpa using hl
def Yf {E:Env} (hT:TOk P E) (hG:GOk P E) {ops:Array Oper} (hS:zt ops=true) {stf:St} {listed:Array Bool} {a:Act} {w:World} (H:Inv X st a w) (hsz:listed.size=ops.size)
  (hdown:∀ i o e,listed.getD i false=true->ops[i]?=some o->e∈o.after->Region.binds .any e=true->listed.getD e.on false=true) {i:Nat} {o:Oper} (hi2:ops[i]?=some o) (hi1:listed.getD i true=false)
  (hi3:∀ e∈o.after,Region.binds .any e=true->listed.getD e.on false=true) (hno:∀ k,k < i->(JL ops k=true/\k∈Region.ready .any ops listed)->False) (h:yQ E ops (fN ops listed) st=some stf) :
  ∃ s1,wC E ops i o st=some s1/\yQ E ops (fN ops (listed.setIfInBounds i true)) s1=some stf/\(fN ops (listed.setIfInBounds i true)).length+1=(fN ops listed).length ∧
   (∀ k o e,(listed.setIfInBounds i true).getD k false=true->ops[k]?=some o->e∈o.after->Region.binds .any e=true->(listed.setIfInBounds i true).getD e.on false=true):=by
 have hm:(i,o)∈fN ops listed:=zF.2 ⟨hi2,hi1⟩;obtain ⟨pre,post,hpp⟩:=List.append_of_mem hm;have hs:=HL ops listed;rw [hpp] at hs h;have hilt:=(nc.1 hi2).1;have hpre:∀ x∈pre,ops[x.1]?=some x.2/\x.1 < i/\iQ ops ops.size x.1 i=false/\G5 ops x.1 i=false:=by
  intro x hx;obtain ⟨h1,h2⟩:=zF.1 (show x∈fN ops listed by rw [hpp]; simp [hx]);have hlt:x.1 < i:=(xk.1 hs).2.2 x hx (i,o) (by simp);refine ⟨h1,hlt,?_,?_⟩
  ·cases hor:iQ ops ops.size x.1 i with
   | false=>rfl
   | true=>
    have:=wL hdown ops.size x.1 i o hi2 hi3 hor;have:=mK this;rw [h2] at this;simp at this
  ·cases hea:G5 ops x.1 i with
   | false=>rfl
   | true=>
    have:=mK (P0 hsz hdown hi2 hi3 hno _ _ hea);rw [h2] at this;simp at this
 obtain ⟨x1,f1,f2⟩:=aap hT hG hS hi2 pre (⟨X,a,w,H⟩:Hb P st) hpre h;have hrest:fN ops (listed.setIfInBounds i true)=pre++post:=by
  rw [Uq (by omega),hpp,xz,adX];simp only [bne_self_eq_false,cR,if_false]
  congr 1
  ·rw [xO];intro x hx;have:=(hpre x hx).2.1;simp; omega
  ·rw [xO];intro x hx;have:=aet (xk.1 hs).2.1 hx;simp at this;simp; omega
 refine ⟨x1,f1,by rw [hrest]; exact f2,by rw [hrest,hpp]; simp; omega,?_⟩;intro k o' e hk ho' he hb;by_cases e1:i=k
 ·subst e1;rw [hi2] at ho';cases ho';exact getD_set_true (hi3 e he hb)
 ·rw [getD_set_ne false e1] at hk;exact getD_set_true (hdown k o' e hk ho' he hb)
def TF {E:Env} (hT:TOk P E) (hG:GOk P E) {ops:Array Oper} (hS:zt ops=true) {Q:Exit->Act->World->Prop} {stf:St} (hq:∀ a w,Inv X stf a w->Q .normal a w) (hQ:∀ c a w,¬ Q (.panic c) a w):∀ (fuel:Nat) {listed:Array Bool} {st:St} {a:Act} {w:World},
  listed.size=ops.size->(fN ops listed).length=fuel->(∀ i o e,listed.getD i false=true->ops[i]?=some o->e∈o.after->Region.binds .any e=true->listed.getD e.on false=true) ->
  Inv X st a w->yQ E ops (fN ops listed) st=some stf->wpAny P .any ops Q fuel listed a w:=by
 have unl:∀ {listed:Array Bool} {j:Nat},listed.size=ops.size->j < ops.size->listed.getD j true=true->listed.getD j false=true:=by
  intro listed j hsz hj h;simp only [xv] at h ⊢;rw [acV (by omega)] at h ⊢;simpa using h
 intro fuel
 induction fuel with
 | zero=>
  intro listed st a w hsz hl hdown H h;have hnil:fN ops listed=[]:=cQ hl;refine ⟨?_,?_⟩
  ·rw [List.eq_nil_iff_forall_not_mem];intro j hj;rw [mem_ready] at hj;obtain ⟨h1,o,h2,_⟩:=hj;have:(j,o)∈fN ops listed:=zF.2 ⟨h2,h1⟩;rw [hnil] at this;simp at this
  ·rw [hnil] at h;simp only [yQ,cb] at h;subst h;exact hq a w H
 | succ fuel ih=>
  intro listed st a w hsz hl hdown H h;by_cases hx:∃ k,JL ops k=true/\k∈Region.ready .any ops listed
  ·obtain ⟨i,⟨htk,hrdy⟩,hmin⟩:=ZJ _ hx;obtain ⟨hi1,o,hi2,hi3⟩:=mem_ready.1 hrdy;obtain ⟨x1,f1,f2,f3,f4⟩:=Yf hT hG hS H hsz hdown hi2 hi1 hi3 (fun k hk hp=>by have:=hmin k hp; omega) h;obtain ⟨t1,t2,t3⟩:=UU hi2 htk;have hw:=FW hT hG H hi2 (qX f1) (K:=fun a' w'=>Inv X x1 a' w') (Q:=fun _ _ _=>False) (fun _ _ h=>h);unfold wpOp at hw;rw [hi2] at hw;simp only at hw;have hgd:Region.wanted o (yielded ops a.tmps)=true:=by
    have:o.guard=none:=by simp only [Ma,cv,xZ] at t1; exact t1.1
    simp [Region.wanted,this]
   rw [if_pos hgd] at hw;rcases hw with hw|⟨_,_,_,hw⟩
   case inr=>exact hw.elim
   obtain ⟨v,hy,H1⟩:=TT (ops:=ops) H (qX f1) t1 hw;refine wpAny_first hi2 (Region.noSelect_spec t2) (fun c a w hp=>(hQ c _ _ hp).elim) fuel listed a w ?_ hrdy hy ?_
   ·intro j oj hj hne hun hno;refine t3 j oj hj hne ?_ hno;cases hor:iQ ops ops.size j i with
    | false=>rfl
    | true=>
     have:=wL hdown ops.size j i o hi2 hi3 hor;have:=mK this;rw [hun] at this;simp at this
   ·exact ih (by simp [hsz]) (by omega) f4 H1 f2
  refine ⟨?_,?_⟩
  ·intro hr;exfalso;cases hc:fN ops listed with
   | nil=>rw [hc] at hl; simp at hl
   | cons x xs=>
    obtain ⟨h1,h2⟩:=zF.1 (show x∈fN ops listed by rw [hc]; simp);have hx:x.1∈Region.ready .any ops listed:=by
     rw [mem_ready];refine ⟨h2,x.2,h1,?_⟩;intro e he hb;have hlt:=G8 hS h1 he hb;have hin:=(nc.1 h1).1;refine unl hsz (by omega) ?_;cases hle:listed.getD e.on true with
     | true=>rfl
     | false=>
      have hm:(e.on,ops[e.on])∈fN ops listed:=zF.2 ⟨acV (by omega),hle⟩;have hs:=HL ops listed;rw [hc] at hm hs;rcases cK.1 hm with hm|hm
      ·have:=congrArg Prod.fst hm; simp at this; omega
      ·have:=aet hs hm; simp at this; omega
    rw [hr] at hx;simp at hx
  ·intro i hi;rw [mem_ready] at hi;obtain ⟨hi1,o,hi2,hi3⟩:=hi;obtain ⟨x1,f1,f2,f3,f4⟩:=Yf hT hG hS H hsz hdown hi2 hi1 hi3 (fun k _ hp=>hx ⟨k,hp⟩) h;refine FW hT hG H hi2 (qX f1) ?_;intro a' w' H';exact ih (by simp [hsz]) (by omega) f4 H' f2
def SY {E:Env} (hT:TOk P E) (hG:GOk P E) (hmix:P.follows .mixedOrders=true) {ops:Array Oper} (hS:zt ops=true) {Q:Exit->Act->World->Prop} {stf:St} (H:Inv X st a w) (h:yQ E ops (fN ops (Array.replicate ops.size false)) st=some stf)
  (hq:∀ a w,Inv X stf a w->Q .normal a w) (hQ:∀ c a w,¬ Q (.panic c) a w):wpAny P .any ops Q ops.size (Array.replicate ops.size false) a { w with drawn:=w.drawn+1 }:=by
 obtain ⟨m,H⟩:=H;have hrep:∀ i,(Array.replicate ops.size false).getD i false=false:=by
  intro i;simp only [xv,adu];split<;>rfl
 refine TF hT hG hS hq hQ ops.size (st:=st) (by simp) ?_ ?_ ⟨m,H.world rfl rfl rfl rfl⟩ h
 ·have:fN ops (Array.replicate ops.size false)=(List.range ops.size).filterMap fun k=>(ops[k]?).map fun o=>(k,o):=by
   unfold fN;apply AQ;intro k hk;simp only [nY] at hk;have:(Array.replicate ops.size false).getD k true=false:=by simp [xv,hk]
   rw [this];simp
  rw [this];have:∀ (l:List Nat),(∀ k∈l,k < ops.size)->(l.filterMap fun k=>(ops[k]?).map fun o=>(k,o)).length=l.length:=by
   intro l
   induction l with
   | nil=>intro _; rfl
   | cons k l ih=>
    intro hk;have h1:=hk k (by simp);rw [adt];simp only [acV h1,cx,cC];rw [ih (fun x hx=>hk x (by simp [hx]))]
  rw [this _ (by simp)];simp
 ·intro i o e hi;rw [hrep] at hi;simp at hi
end
section
variable {X:Ctx} {st:St} {P:Program}
end
def wA (E:Env) (ops:Array Oper):Nat->List Oper->St->Option St
 | _,[],st=>some st
 | k,o::l,st=>match yD E ops k o st with
  | some st'=>wA E ops (k+1) l st'
  | none=>none
def F3 (E:Env) (ops:Array Oper) (draw:Bool) (st:St):Option St:=
 match draw with
 | true=>match wA E ops 0 ops.toList st with
  | some s=>if B9 ops s=true then some s else none
  | none=>none
 | false=>rG E ops ops.toList st
def s6 (s:St):Prop:=∃ X a w,Inv X s a w
def aV (s s':St):Prop:=∀ X a w,Inv X s a w->Inv X s' a w
def W (E:Env):Code->(Exit->St->Prop)->St->Prop
 | .skip,Q,st=>Q .normal st
 | .region _ ops draw,Q,st=>∃ st',F3 E ops draw st=some st'/\Q .normal st'
 | .seq x y,Q,st=>W E x (fun e s=>match e with
  | .normal=>W E y Q s
  | e=>Q e s) st
 | .cond c x y,Q,st=>match st.ev c with
  | .val (.bool b)=>(b=true->W E x Q st)/\(b=false->W E y Q st)
  | _=>False
 | .block id c,Q,st=>W E c (fun e s=>match e with
  | .exit i=>if i=id then Q .normal s else Q (.exit i) s
  | e=>Q e s) st
 | .loop c,Q,st=>s6 st->∃ (I:St->Prop) (μ:St->Nat),(∃ s0,aV st s0/\I s0)/\∀ s,I s->s6 s->W E c (fun e s'=>match e with
  | .normal=>∃ s'',aV s' s''/\I s''/\μ s'' < μ s
  | e=>Q e s') s
 | .exit id,Q,st=>Q (.exit id) st
 | .label _,Q,st=>Q .normal st
 | .scope c,Q,st=>W E c (fun e s=>match e with
  | .goto _=>False
  | e=>Q e s) st
 | .ret,Q,st=>Q .ret st
 | _,_,_=>False
def jE:Code->Bool
 | .region _ ops true=>zt ops
 | .seq x y=>jE x && jE y
 | .cond _ x y=>jE x && jE y
 | .block _ c=>jE c
 | .loop c=>jE c
 | .scope c=>jE c
 | _=>true
section
variable {X:Ctx} {m:Nat->aq->Value} {st:St} {a:Act} {w:World} {P:Program}
theorem UN {e:SE} {s1:St} {t:Nat} (h:e.apply st=some s1) (hd:∀ d,e.dst=some d->d≠t):s1.tmps[t]?=st.tmps[t]?:=by
 cases e with
 | q d c=>
  simp only [SE.apply,cb] at h;subst h;cases d with
  | none=>rfl
  | some d=>simp [St.put,hC,hd d rfl]
 | n d tmp root=>
  simp only [SE.apply] at h;split at h
  ·simp only [cb] at h;subst h;simp [hC,hd d rfl]
  ·simp at h
 | s n c=>
  obtain ⟨_,_,_,_,_,_,_,rfl⟩:=vp h;rfl
def Qe {E:Env} {ops:Array Oper} {i:Nat} {o:Oper} {s1:St} (hf:(zy ops).isEmpty=false) (h:yD E ops i o st=some s1):bx E ops o st=some s1:=by
 unfold yD at h;split at h
 ·rename_i s hs; rw [hs]; exact h
 ·simp [kn,hf] at h
def Sc {E:Env} {ops:Array Oper} {o:Oper} {s1:St} {t:Nat} (h:bx E ops o st=some s1) (hd:o.dst≠some t):s1.tmps[t]?=st.tmps[t]?:=by
 unfold bx at h;split at h
 case h_2=>simp at h
 rename_i e he;refine UN h ?_;rintro d hd' rfl;rw [IW he] at hd';exact hd hd'
def Uv {E:Env} {ops:Array Oper} (hf:(zy ops).isEmpty=false):∀ (l:List Oper) (k:Nat) (st:St) {stf:St} {t:Nat},wA E ops k l st=some stf->(∀ o∈l,o.dst≠some t)->stf.tmps[t]?=st.tmps[t]?:=by
 intro l
 induction l with
 | nil=>intro k st stf t h _; simp only [wA,cb] at h; subst h; rfl
 | cons o l ih=>
  intro k st stf t h hd;simp only [wA] at h;split at h
  ·rename_i s1 hs;rw [ih _ _ h (fun o' ho=>hd o' (by simp [ho])),Sc (Qe hf hs) (hd o (by simp))]
  ·simp at h
theorem Xx {ops:Array Oper} {i:Nat} {o:Oper} (hf:(zy ops).isEmpty=true):chk ops i o st=true:=by
 unfold chk;rw [adr.1 hf];rfl
def Ug {E:Env} {ops:Array Oper} {stf:St} (hc:B9 ops stf=true):∀ (l:List Oper) (k:Nat) (st:St),(∀ j,l[j]?=ops[k+j]?)->wA E ops k l st=some stf->yQ E ops ((l.zipIdx k).map fun x=>(x.2,x.1)) st=some stf:=by
 intro l
 induction l with
 | nil=>intro k st _ h; exact h
 | cons o l ih=>
  intro k st hl h;have h':=h;simp only [wA] at h;split at h
  case h_2=>simp at h
  rename_i s1 hs;have ho:ops[k]?=some o:=by have:=hl 0; simpa using this.symm
  have hkl:=(nc.1 ho).1;have hD:wC E ops k o st=some s1:=by
   have hck:∀ s,bx E ops o st=some s->chk ops k o st=true:=by
    intro s hss;cases hf:(zy ops).isEmpty with
    | true=>exact Xx hf
    | false=>
     simp only [B9,hf,nt,cv,cq,nY] at hc;have h2:=hc.2 k hkl;rw [ho] at h2;simp only at h2;rw [Jo (st:=stf) (st2:=st)] at *
     ·exact h2
     ·intro t ht;refine (Uv hf (o::l) k st h' ?_).symm;intro o' ho' hdd;obtain ⟨j,hj⟩:=cH ho';rw [hl j] at hj;have hjl:=(nc.1 hj).1;have hs:=hc.1;simp only [ssa,cq,nY] at hs;have:=hs k hkl (k+j) hjl;rw [ho,hj] at this;simp only [hdd] at this;simp at this;rcases this with h|h
      ·omega
      ·exact h ht
   unfold yD at hs;unfold wC;split at hs
   ·rename_i s hss;simp only [cb] at hs;subst hs;simp only [hss,hck _ hss,if_true]
   ·rename_i hss;first|(rw [hss]; exact hs)|exact hs
  simp only [adG,nv,yQ,hD];exact ih (k+1) s1 (fun j=>by have:=hl (j+1); rw [nn] at this; rw [this]; congr 1; omega) h
def UQ (ops:Array Oper):fN ops (Array.replicate ops.size false)=(ops.toList.zipIdx 0).map fun x=>(x.2,x.1):=by
 have h1:fN ops (Array.replicate ops.size false)=(List.range ops.size).filterMap fun k=>(ops[k]?).map fun o=>(k,o):=by
  unfold fN;apply AQ;intro k hk;simp only [nY] at hk;have:(Array.replicate ops.size false).getD k true=false:=by simp [xv,hk]
  rw [this];simp
 rw [h1];have key:∀ (l:List Oper) (k:Nat),(∀ j,l[j]?=ops[k+j]?)->(List.range' k l.length).filterMap (fun k=>(ops[k]?).map fun o=>(k,o))=(l.zipIdx k).map fun x=>(x.2,x.1):=by
  intro l
  induction l with
  | nil=>intro k _; rfl
  | cons o l ih=>
   intro k hl;have h0:ops[k]?=some o:=by have:=hl 0; simpa using this.symm
   simp only [cC,xX,adt,h0,cx,adG,nv];rw [ih (k+1) (fun j=>by have:=hl (j+1); rw [nn] at this; rw [this]; congr 1; omega)]
 have:=key ops.toList 0 (fun j=>by simp);rw [<-this,aeu];simp
def sW (p:Nat->Prop) (h:∃ k,p k):∃ k,p k/\∀ j,p j->k<=j:=by
 classical
 obtain ⟨k,hk⟩:=h
 induction k using Nat.strongRecOn with
 | _ k ih=>
  by_cases hj:∃ j,j < k/\p j
  ·obtain ⟨j,h1,h2⟩:=hj;exact ih j h1 h2
  ·exact ⟨k,hk,fun j hp=>by by_cases hlt:j < k; exact absurd ⟨j,hlt,hp⟩ hj; omega⟩
def KQ (X:Ctx) (ts:List Tmp) (a:Act) (Q:Exit->St->Prop) (e:Exit) (a':Act) (w':World):Prop:=(∃ s,Q e s/\Inv X s a' w')/\(e=.outgrown∨tU ts a a')
def KQ.mk' {ts:List Tmp} {Q:Exit->St->Prop} {e:Exit} {s:St} {a0 a':Act} (h:Q e s) (H:Inv X s a' w) (hs:tU ts a0 a'):KQ X ts a0 Q e a' w:=⟨⟨s,h,H⟩,.inr hs⟩
def KQ.from {ts:List Tmp} {Q:Exit->St->Prop} {e:Exit} {a0 a1 a':Act} (h:KQ X ts a1 Q e a' w) (hs:tU ts a0 a1):KQ X ts a0 Q e a' w:=⟨h.1,h.2.imp id fun h=>hs.trans h⟩
def ZK {E:Env} (hT:TOk P E) (hG:GOk P E) (hmix:P.follows .mixedOrders=true) {ts:List Tmp}:∀ (c:Code) {Q:Exit->St->Prop} {st:St} {a:Act} {w:World},jE c=true->kW ts c=true->W E c Q st->Inv X st a w->c.wp P (KQ X ts a Q) a w:=by
 intro c
 induction c with
 | skip=>intro Q st a w _ _ h H; exact wp_skip (.mk' h H (.refl _ _))
 | region id ops draw=>
  intro Q st a w hc hk h H;obtain ⟨st',h1,h2⟩:=h;cases draw with
  | true=>
   unfold F3 at h1;dsimp only at h1;split at h1
   case h_2=>simp at h1
   rename_i s hs;split at h1
   case isFalse=>simp at h1
   rename_i hfin;simp only [cb] at h1;subst h1;have h1:=Ug hfin ops.toList 0 st (fun j=>by simp) hs;rw [<-UQ] at h1;refine wp_mono (wp_region_any hmix (L7 hk _ _ _ _ (.refl _ _) (SY (Q:=fun e a' w'=>e=.normal/\Inv X s a' w') hT hG hmix hc H h1 (fun a w H'=>⟨rfl,H'⟩) (fun c a w h=>by cases h.1)))) ?_;rintro e a' w' ⟨⟨rfl,Hf⟩,hsm⟩;exact ⟨⟨s,h2,Hf⟩,hsm⟩
  | false=>
   simp only [F3] at h1;refine wp_region (Ux hk _ _ _ (.refl _ _) ?_);have:=YH hT hG (Q:=fun e a' w'=>∃ s,Q e s/\Inv X s a' w') ops.toList 0 H (fun j=>by simp) h1 (fun a w H'=>⟨st',h2,H'⟩);rw [aeu];simpa using this
 | seq x y ihx ihy=>
  intro Q st a w hc hk h H;simp only [jE,cv] at hc;simp only [kW,cv] at hk;refine wp_seq (wp_mono (ihx hc.1 hk.1 h H) ?_);rintro e a' w' ⟨⟨s,hs,H'⟩,hsm⟩;cases e with
  | normal=>exact wp_mono (ihy hc.2 hk.2 hs H') fun e a2 w2 h2=>h2.from (hsm.resolve_left (by simp))
  | _=>exact ⟨⟨s,hs,H'⟩,hsm⟩
 | cond c x y ihx ihy=>
  intro Q st a w hc hk h H;simp only [jE,cv] at hc;simp only [kW,cv] at hk;simp only [W] at h;split at h
  ·rename_i b hb;obtain ⟨m,HM⟩:=H;have hr:=bm HM c;rw [hb] at hr;have hv:=hr.of_val;cases b with
   | true=>exact wp_cond_true hv (ihx hc.1 hk.1 (h.1 rfl) ⟨m,HM⟩)
   | false=>exact wp_cond_false hv (ihy hc.2 hk.2 (h.2 rfl) ⟨m,HM⟩)
  ·exact h.elim
 | block id c ih=>
  intro Q st a w hc hk h H;refine wp_block (wp_mono (ih hc hk h H) ?_);rintro e a' w' ⟨⟨s,hs,H'⟩,hsm⟩;cases e with
  | exit i=>
   simp only at hs;simp only [Exit.inBlock];have hsm':=hsm.resolve_left (by simp);split at hs
   ·rename_i hi; rw [if_pos hi]; exact .mk' hs H' hsm'
   ·rename_i hi; rw [if_neg hi]; exact .mk' hs H' hsm'
  | _=>exact ⟨⟨s,hs,H'⟩,hsm⟩
 | loop c ih=>
  intro Q st a w hc hk h H;obtain ⟨I,μ,⟨s0,hw,hI⟩,hround⟩:=h ⟨_,_,_,H⟩;have key:∀ (n:Nat) (s:St) (a:Act) (w:World),μ s=n->I s->Inv X s a w->(Code.loop c).wp P (KQ X ts a Q) a w:=by
   classical
   intro n s a0 w hn hIs Hs
   let J:Act->World->Prop:=fun a w=>(∃ s,I s/\Inv X s a w)/\tU ts a0 a
   let ν:Act->World->Nat:=fun a w=>if h:∃ k,∃ s,I s/\Inv X s a w/\μ s=k then Classical.choose (sW _ h) else 0
   refine wp_loop J ν ⟨⟨s,hIs,Hs⟩,.refl _ _⟩ ?_;rintro a w ⟨⟨s1,hI1,H1⟩,hs0⟩;have hex:∃ k,∃ s,I s/\Inv X s a w/\μ s=k:=⟨_,s1,hI1,H1,rfl⟩;obtain ⟨s2,hI2,H2,hm2⟩:=(xJ (sW _ hex)).1;have hν:ν a w=μ s2:=by simp only [ν]; rw [dif_pos hex,<-hm2]
   refine wp_mono (ih hc hk (hround s2 hI2 ⟨_,_,_,H2⟩) H2) ?_;rintro e a' w' ⟨⟨s',hs',H'⟩,hsm⟩;cases e with
   | normal=>
    obtain ⟨s'',hw',hI',hlt⟩:=hs';have H'':=hw' X a' w' H';refine ⟨⟨⟨s'',hI',H''⟩,hs0.trans (hsm.resolve_left (by simp))⟩,?_⟩;have hex':∃ k,∃ s,I s/\Inv X s a' w'/\μ s=k:=⟨_,s'',hI',H'',rfl⟩;have:ν a' w'<=μ s'':=by simp only [ν]; rw [dif_pos hex']; exact (xJ (sW _ hex')).2 _ ⟨s'',hI',H'',rfl⟩
    omega
   | _=>exact KQ.from (a1:=a) ⟨⟨s',hs',H'⟩,hsm⟩ hs0
  have hk':=key _ s0 a w rfl hI (hw X a w H);exact hk'
 | exit id=>intro Q st a w _ _ h H; exact wp_exit (.mk' h H (.refl _ _))
 | label l=>intro Q st a w _ _ h H; exact wp_label (.mk' h H (.refl _ _))
 | scope c ih=>
  intro Q st a w hc hk h H;refine wp_scope_straight (wp_mono (ih hc hk h H) ?_);rintro e a' w' ⟨⟨s,hs,H'⟩,hsm⟩;cases e with
  | goto l=>exact hs.elim
  | _=>exact ⟨⟨s,hs,H'⟩,hsm⟩
 | ret=>intro Q st a w _ _ h H; exact wp_ret (.mk' h H (.refl _ _))
 | _=>intros; simp_all [W]
def Wk (E:Env) (c:Code) (Q:Exit->St->Prop) (st:St):Prop:=∀ (P:Program),TOk P E->GOk P E->P.follows .mixedOrders=true->jE c=true ->
 ∀ (X:Ctx) (a:Act) (w:World),Inv X st a w->∀ ts:List Tmp,kW ts c=true->c.wp P (KQ X ts a Q) a w
def Gh {E:Env} {c:Code} {Q:Exit->St->Prop} {st:St} (h:W E c Q st):Wk E c Q st:=fun P hT hG hm hc X a w H ts hk=>ZK hT hG hm c hc hk h H
end
def iX (own:List Bool) (i:Nat) (c:C):C:=if own.getD i false then kr 3 i [] c else c
def zM (own:List Bool) (cs:List C) (n:Nat):St:={ tmps:=Dq (iX own) 0 cs++List.replicate (n - cs.length) .dead,roots:=R0 own cs }
def Nz (E:Env) (s:St):ResultVar->Option C
 | .tmp t=>some ((s.tmps[t]?).getD .dead)
 | .cell a t=>match E.T t with
  | some ti=>qu s ti ((s.tmps[a]?).getD .dead)
  | none=>none
def wX (E:Env) (s:St):List ResultVar->Option (List C)
 | []=>some []
 | v::vs=>match Nz E s v,wX E s vs with
  | some c,some cs=>some (c::cs)
  | _,_=>none
def wb:C->Option C
 | .agg cs=>if cs.all C.cellOk then some (.agg (cs.map C.frz)) else none
 | c=>if c.cellOk then some c.frz else none
def eY:List C->Option (List C)
 | []=>some []
 | c::cs=>match wb c,eY cs with
  | some c',some cs'=>some (c'::cs')
  | _,_=>none
def og:List C->C
 | [c]=>c
 | cs=>.tup cs
def zH (E:Env) (vs:List ResultVar) (s:St):Option C:=
 match wX E s vs with
 | some cs=>match eY cs with
  | some rs=>some (og rs)
  | none=>match jz (cs.flatMap bo).length H0 (cs.flatMap bo) .dead s with
   | some (s1,_)=>some (og (ib s1.roots H0 cs))
   | none=>none
 | none=>none
def bB (r:C):Prop:=∀ (w:World) (S S':Nat->Prop) (m:aq->Value) (d:Nat) (p:aq) (u:Value),rel w S L0 m true d p r u->rel w S' L0 m true d p r u
section
variable {X:Ctx} {m:Nat->aq->Value} {st:St} {a:Act} {w:World} {P:Program}
def Nb (tm:Array Value) (v:ResultVar):Sem Value:=
 match v with
 | .tmp t=>pure (tm.getD t undef)
 | .cell a t=>do loadVar t (<-asAddr (tm.getD a undef))
def Y8 {E:Env} (hT:TOk P E) (H:ar X m st a w) {v:ResultVar} {c:C} (h:Nz E st v=some c) :
  ∃ u,(Nb a.tmps v).run P w=.ok u w/\aB X m st w c u:=by
 cases v with
 | tmp t=>
  simp only [Nz,cb] at h;subst h;exact ⟨_,rfl,bm H (.tmp t)⟩
 | cell x t=>
  simp only [Nz] at h;split at h
  ·rename_i ti hti;have hx:=bm H (.tmp x);obtain ⟨u,h1,h2⟩:=Tu H (hT t ti hti) hx h;refine ⟨u,?_,h2⟩;simp only [Act.eval] at h1;show ((do loadVar t (<-asAddr (a.tmps.getD x undef)):Sem Value)).run P w=_;generalize a.tmps.getD x undef=y at h1 hx ⊢;cases y with
   | pointer ao=>
    cases ao with
    | none=>simp [Instr.loadAt,Instr.sureAddr,stuck] at h1
    | some ad=>simpa [Instr.loadAt,Instr.sureAddr,asAddr] using h1
   | _=>simp [Instr.loadAt,Instr.sureAddr,stuck] at h1
  ·simp at h
def JM {E:Env} (hT:TOk P E) (H:ar X m st a w):∀ {vs:List ResultVar} {cs:List C},wX E st vs=some cs ->
  ∃ us:List Value,(vs.mapM (Nb a.tmps)).run P w=.ok us w/\us.length=cs.length/\∀ (j:Nat) (c:C),cs[j]?=some c->∃ u,us[j]?=some u/\aB X m st w c u:=by
 intro vs
 induction vs with
 | nil=>intro cs h; simp only [wX,cb] at h; subst h; exact ⟨[],by simp,rfl,by simp⟩
 | cons v vs ih=>
  intro cs h;simp only [wX] at h;split at h
  ·rename_i c cs' h1 h2;simp only [cb] at h;subst h;obtain ⟨u,e1,e2⟩:=Y8 hT H h1;obtain ⟨us,f1,f2,f3⟩:=ih h2;refine ⟨u::us,?_,by simp [f2],?_⟩
   ·rw [List.mapM_cons,Sem.run_bind,e1,Result.andThen_ok,Sem.run_bind,f1,Result.andThen_ok]; rfl
   ·intro j c' hj;cases j with
    | zero=>simp only [cr,cb] at hj; subst hj; exact ⟨u,rfl,e2⟩
    | succ j=>simpa using f3 j c' (by simpa using hj)
  ·simp at h
def GP (us:List Value):Value:=if h:us.toArray.size=1 then us.toArray[0] else .tuple us.toArray
theorem Bv {fn:Func} {us:List Value} (h:(fn.results.toList.mapM (Nb a.tmps)).run P w=.ok us w):(results fn a.tmps).run P w=.ok (GP us) w:=by
 have e:results fn a.tmps=(do let vs <-fn.results.mapM (Nb a.tmps); pure (if h:vs.size=1 then vs[0] else Value.tuple vs)):=by
  unfold results
  congr 2
 rw [e];rw [Array.mapM_eq_mapM_toList];simp only [Sem.run_bind,map_eq_pure_bind,h,Result.andThen_ok,Sem.run_pure];rfl
def QC {S:Nat->Prop} {mr:aq->Value} {cs:List C} {us:List Value} (hl:us.length=cs.length) {d:Nat}
  (h1:∀ c,cs=[c]->∃ u,us[0]?=some u/\rel w S L0 mr true d [] c u)
  (h2:(∀ c,cs≠[c])->∀ (j:Nat) (c:C),cs[j]?=some c->∃ u,us[j]?=some u/\rel w S L0 mr true d [(0,j)] c u):rel w S L0 mr true (d+1) [] (og cs) (GP us):=by
 by_cases hc:∃ c,cs=[c]
 ·obtain ⟨c,rfl⟩:=hc;obtain ⟨u,e1,e2⟩:=h1 c rfl;cases us with
  | nil=>simp at hl
  | cons v us=>
   simp only [cC,cW,Nat.add_eq_right,adY] at hl;subst hl;simp only [cr,cb] at e1;subst e1;simpa [og,GP] using aT _ _ (xf d) e2
 ·have hp:og cs=.tup cs:=by
   match cs,hc with
   | [],_=>rfl
   | [c],hc=>exact absurd ⟨c,rfl⟩ hc
   | _::_::_,_=>rfl
  rw [hp];have hne:¬ us.toArray.size=1:=by
   intro h1;simp only [nP] at h1;rw [hl] at h1;exact hc (adZ.1 h1)
  refine ⟨us.toArray,by simp only [GP]; rw [dif_neg hne],by simp [hl],fun j c hj=>?_⟩;obtain ⟨u,e1,e2⟩:=h2 (fun c hcc=>hc ⟨c,hcc⟩) j c hj;exact ⟨u,by simpa using e1,by simpa using e2⟩
def Ji {c r:C} {u:Value} (h:aB X m st w c u) (hp:wb c=some r):(∃ d,∀ (mr:aq->Value) (p:aq),rel w (X.S st.roots m) L0 mr true d p r u)/\∀ q,¬ ak r q:=by
 cases c with
 | agg cs=>
  simp only [wb] at hp;split at hp
  ·rename_i hall;simp only [cb] at hp;subst hp;obtain ⟨d,h⟩:=h;cases d with
   | zero=>exact h.elim
   | succ d=>
    obtain ⟨arr,rfl,h2,h3⟩:=h;refine ⟨⟨d+1,fun mr p=>⟨arr,rfl,by simpa using h2,fun j c hj=>?_⟩⟩,?_⟩
    ·simp only [cu,cj] at hj;obtain ⟨c0,hj,rfl⟩:=hj;obtain ⟨u',e1,e2⟩:=h3 j c0 hj;exact ⟨u',e1,A7 (cq.1 hall c0 (cg hj)) e2⟩
    ·intro q ho;cases q with
     | nil=>simp [ak,C.at,C.isOwn] at ho
     | cons s q=>
      unfold ak at ho;simp only [C.at,C.kid] at ho;split at ho
      ·cases hc:(cs.map C.frz)[s.2]? with
       | none=>simp [hc] at ho
       | some c'=>
        simp only [hc,cc] at ho;simp only [cu,cj] at hc;obtain ⟨c0,hc,rfl⟩:=hc;exact oz (cq.1 hall c0 (cg hc)) ho
      ·simp at ho
  ·simp at hp
 | _=>
  simp only [wb] at hp;split at hp
  ·rename_i hok;simp only [cb] at hp;subst hp;obtain ⟨d,h⟩:=h;exact ⟨⟨d,fun mr p=>A7 hok h⟩,fun q=>oz hok⟩
  ·simp at hp
def TS:∀ {cs rs:List C},eY cs=some rs->rs.length=cs.length/\∀ (j:Nat) (r:C),rs[j]?=some r->∃ c,cs[j]?=some c/\wb c=some r:=by
 intro cs
 induction cs with
 | nil=>intro rs h; simp only [eY,cb] at h; subst h; simp
 | cons c cs ih=>
  intro rs h;simp only [eY] at h;split at h
  ·rename_i c' cs' h1 h2;simp only [cb] at h;subst h;obtain ⟨g1,g2⟩:=ih h2;refine ⟨by simp [g1],?_⟩;intro j r hj;cases j with
   | zero=>simp only [cr,cb] at hj; subst hj; exact ⟨c,rfl,h1⟩
   | succ j=>simpa using g2 j r (by simpa using hj)
  ·simp at h
structure Done (X:Ctx) (w:World) (r:C) (u:Value):Prop where
 ex:∃ mr d,rel w (fun b=>(X.S0 b∨X.w0.heap.size<=b)/\¬ iR r mr b) L0 mr true d [] r u ∧
   (∀ q q' b,ak r q->ak r q'->blk (mr q)=some b->blk (mr q')=some b->q=q')/\(∀ b,iR r mr b->X.w0.heap.size<=b∨X.K b)
 fr:Fr X w
def MK {E:Env} (hT:TOk P E) (H:ar X m st a w) {cs rs:List C} {us:List Value} (hl:us.length=cs.length) (hr:∀ (j:Nat) (c:C),cs[j]?=some c->∃ u,us[j]?=some u/\aB X m st w c u) (hp:eY cs=some rs):(∃ d,rel w (X.S st.roots m) L0 dm true d [] (og rs) (GP us))/\∀ q,¬ ak (og rs) q:=by
 obtain ⟨g1,g2⟩:=TS hp;have hno:∀ q,¬ ak (og rs) q:=by
  intro q ho;by_cases hc:∃ c,rs=[c]
  ·obtain ⟨c,rfl⟩:=hc;obtain ⟨c0,e1,e2⟩:=g2 0 c rfl;obtain ⟨u,e3,e4⟩:=hr 0 c0 e1;exact (Ji e4 e2).2 q ho
  ·have hpk:og rs=.tup rs:=by
    match rs,hc with
    | [],_=>rfl
    | [c],hc=>exact absurd ⟨c,rfl⟩ hc
    | _::_::_,_=>rfl
   rw [hpk] at ho;cases q with
   | nil=>simp [ak,C.at,C.isOwn] at ho
   | cons s q=>
    unfold ak at ho;simp only [C.at,C.kid] at ho;split at ho
    ·cases hc:rs[s.2]? with
     | none=>simp [hc] at ho
     | some c'=>
      simp only [hc,cc] at ho;obtain ⟨c0,e1,e2⟩:=g2 _ c' hc;obtain ⟨u,e3,e4⟩:=hr _ c0 e1;exact (Ji e4 e2).2 q ho
    ·simp at ho
 have hd:∃ D,∀ (j:Nat) (r:C),rs[j]?=some r->∃ u,us[j]?=some u/\∀ (mr:aq->Value) (p:aq),rel w (X.S st.roots m) L0 mr true D p r u:=by
  clear hno;have key:∀ (n:Nat),∃ D,∀ (j:Nat) (r:C),j < n->rs[j]?=some r->∃ u,us[j]?=some u/\∀ (mr:aq->Value) (p:aq),rel w (X.S st.roots m) L0 mr true D p r u:=by
   intro n
   induction n with
   | zero=>exact ⟨0,fun j r hj=>by omega⟩
   | succ n ih=>
    obtain ⟨D,hD⟩:=ih;cases hn:rs[n]? with
    | none=>exact ⟨D,fun j r hj hr=>by
      by_cases e:j=n
      ·subst e; rw [hn] at hr; simp at hr
      ·exact hD j r (by omega) hr⟩
    | some r0=>
     obtain ⟨c0,e1,e2⟩:=g2 n r0 hn;obtain ⟨u0,e3,e4⟩:=hr n c0 e1;obtain ⟨⟨d0,e5⟩,_⟩:=Ji e4 e2;refine ⟨max D d0,fun j r hj hrj=>?_⟩;by_cases e:j=n
     ·subst e;rw [hn] at hrj;cases hrj;exact ⟨u0,e3,fun mr p=>aT _ _ (n9 _ _) (e5 mr p)⟩
     ·obtain ⟨u,f1,f2⟩:=hD j r (by omega) hrj;exact ⟨u,f1,fun mr p=>aT _ _ (nW _ _) (f2 mr p)⟩
  obtain ⟨D,hD⟩:=key rs.length;exact ⟨D,fun j r hj=>hD j r (cd.1 hj).1 hj⟩
 obtain ⟨D,hD⟩:=hd;have hrel:=QC (w:=w) (S:=X.S st.roots m) (mr:=dm) (cs:=rs) (us:=us) (by omega) (d:=D) (by
  intro c hc;subst hc;obtain ⟨u,e1,e2⟩:=hD 0 c rfl;exact ⟨u,e1,e2 dm []⟩) (by
  intro _ j c hj;obtain ⟨u,e1,e2⟩:=hD j c hj;exact ⟨u,e1,e2 dm _⟩)
 exact ⟨⟨D+1,hrel⟩,hno⟩
def DG {E:Env} (hT:TOk P E) (H:ar X m st a w) {cs rs:List C} {us:List Value} (hl:us.length=cs.length) (hr:∀ (j:Nat) (c:C),cs[j]?=some c->∃ u,us[j]?=some u/\aB X m st w c u) (hp:eY cs=some rs):Done X w (og rs) (GP us):=by
 obtain ⟨⟨D,hrel⟩,hno⟩:=MK hT H hl hr hp;refine ⟨⟨dm,D,?_,fun q q' b ho=>(hno q ho).elim,fun b ⟨q,ho,_⟩=>(hno q ho).elim⟩,H.fr⟩;exact av (fun b _ hs=>⟨⟨hs.1,fun ⟨q,ho,_⟩=>hno q ho⟩,rfl⟩) D (fun _ _ _ h=>h) (fun _ q b ho=>(hno q ho).elim) (fun _ q ho=>(hno q ho).elim) hrel
def yT (cs:List C) (q:aq):Nat × aq:=
 match cs,q with
 | [c],q=>gU H0 c q
 | cs,(_,i)::q=>gU (hOf H0 cs i) ((cs[i]?).getD .dead) q
 | _,[]=>(H0,[])
def ES {E:Env} (hT:TOk P E) (H:ar X m st a w) {cs:List C} {us:List Value} (hl:us.length=cs.length) (hr:∀ (j:Nat) (c:C),cs[j]?=some c->∃ u,us[j]?=some u/\aB X m st w c u) {s1:St} {kp:C} (hp:jz (cs.flatMap bo).length H0 (cs.flatMap bo) .dead st=some (s1,kp)):Done X w (og (ib s1.roots H0 cs)) (GP us):=by
 obtain ⟨vs,v1,v2,v3⟩:=KO hl hr;obtain ⟨m',H',_,g1,_⟩:=Af (cs.flatMap bo).length rfl v1 (cw _) H v2 (keep:=.dead) (ku:=undef) ⟨1,trivial⟩ hp;have comps:∀ (i:Nat) (c:C),cs[i]?=some c->∃ u,us[i]?=some u/\∃ d,rel w (X.S s1.roots m') L0 (fun q=>m' (gU (hOf H0 cs i) c q).1 (gU (hOf H0 cs i) c q).2) true d [] (j4 s1.roots (hOf H0 cs i) c) u:=by
  intro i c hc;obtain ⟨u,hu,_⟩:=hr i c hc;refine ⟨u,hu,?_⟩;have h3:=v3 i c u hc hu;have hh:hOf H0 cs i=H0+hOf 0 cs i:=by have:=Da H0 cs 0 i; simpa using this
  have:=Ry (w:=w) (R:=fun n=>s1.roots (H0+n)) (S:=X.S s1.roots m') (m:=fun n=>m' (H0+n)) (h:=hOf 0 cs i) (c:=c) (u:=u) h3 (fun n v hn=>g1 n v hn);obtain ⟨d,hd⟩:=this;refine ⟨d,?_⟩;have e1:j4 (fun n=>s1.roots (H0+n)) (hOf 0 cs i) c=j4 s1.roots (hOf H0 cs i) c:=by
   cases c<;>simp [j4,hh,nf]
  rw [e1] at hd;refine av (fun b _ hb=>⟨hb,rfl⟩) d (fun _ _ _ h=>h) (fun _ _ _ _ _ _=>rfl) (fun _ q _=>?_) hd;simp only [cO];have e2:(gU (hOf H0 cs i) c q)=(H0+(gU (hOf 0 cs i) c q).1,(gU (hOf 0 cs i) c q).2):=by
   cases c<;>cases q<;>simp [gU,hh,nf]
  rw [e2]
 have hone:∀ c,cs=[c]->∀ q,yT cs q=gU H0 c q:=by rintro c rfl q; simp [yT]
 have hmany:(∀ c,cs≠[c])->∀ (s:Nat × Nat) q,yT cs (s::q)=gU (hOf H0 cs s.2) ((cs[s.2]?).getD .dead) q:=by
  intro hne s q
  match cs,hne with
  | [],_=>simp [yT]
  | [c],hne=>exact absurd rfl (hne c)
  | _::_::_,_=>simp [yT]
 have hpack1:∀ c,cs=[c]->og (ib s1.roots H0 cs)=j4 s1.roots H0 c:=by
  rintro c rfl;rw [sr];rfl
 have hpackn:(∀ c,cs≠[c])->og (ib s1.roots H0 cs)=.tup (ib s1.roots H0 cs):=by
  intro hne
  match cs,hne with
  | [],_=>rfl
  | [c],hne=>exact absurd rfl (hne c)
  | _::_::_,_=>rw [sr,sr]; rfl
 have hh0:∀ c,cs=[c]->hOf H0 cs 0=H0:=by rintro c rfl; rfl
 have own_names:∀ q,ak (og (ib s1.roots H0 cs)) q->ak (s1.roots (yT cs q).1) (yT cs q).2:=by
  intro q ho;by_cases hc:∃ c,cs=[c]
  ·obtain ⟨c,hc⟩:=hc;rw [hpack1 c hc] at ho;rw [hone c hc];exact (y4 ho).1
  ·have hne:∀ c,cs≠[c]:=fun c h=>hc ⟨c,h⟩;rw [hpackn hne] at ho;cases q with
   | nil=>simp [ak,C.at,C.isOwn] at ho
   | cons s q=>
    rw [hmany hne];unfold ak at ho;simp only [C.at,C.kid] at ho;split at ho
    ·rw [yr] at ho;cases hci:cs[s.2]? with
     | none=>simp [hci] at ho
     | some c=>
      simp only [hci,cx,cc] at ho;exact (y4 ho).1
    ·simp at ho
 have inj_names:∀ q q',ak (og (ib s1.roots H0 cs)) q->ak (og (ib s1.roots H0 cs)) q'->yT cs q=yT cs q'->q=q':=by
  intro q q' ho ho' he;by_cases hc:∃ c,cs=[c]
  ·obtain ⟨c,hc⟩:=hc;rw [hpack1 c hc] at ho ho';rw [hone c hc,hone c hc] at he;exact LK ho ho' he
  ·have hne:∀ c,cs≠[c]:=fun c h=>hc ⟨c,h⟩;rw [hpackn hne] at ho ho';cases q with
   | nil=>simp [ak,C.at,C.isOwn] at ho
   | cons s q=>
    cases q' with
    | nil=>simp [ak,C.at,C.isOwn] at ho'
    | cons s' q'=>
     rw [hmany hne,hmany hne] at he;unfold ak at ho ho';simp only [C.at,C.kid] at ho ho';split at ho
     case isFalse=>simp at ho
     rename_i hs;split at ho'
     case isFalse=>simp at ho'
     rename_i hs';rw [yr] at ho ho';cases hci:cs[s.2]? with
     | none=>simp [hci] at ho
     | some c=>
      cases hci':cs[s'.2]? with
      | none=>simp [hci'] at ho'
      | some c'=>
       simp only [hci,hci',cx,cc,nk] at ho ho' he;obtain ⟨_,r1,r2⟩:=y4 ho;obtain ⟨_,r3,r4⟩:=y4 ho';have l1:s.2 < cs.length:=(cd.1 hci).1;have l2:s'.2 < cs.length:=(cd.1 hci').1;have hsame:s.2=s'.2:=by
        rcases xy s.2 s'.2 with hlt|heq|hgt
        ·have:=MH (h:=H0) hci hlt l2;rw [he] at r2;omega
        ·exact heq
        ·have:=MH (h:=H0) hci' hgt l1;rw [<-he] at r4;omega
       obtain ⟨i,j⟩:=s;obtain ⟨i',j'⟩:=s';simp only at hs hs' hsame hci hci' ho ho' he;subst hs; subst hs'; subst hsame;rw [hci] at hci';cases hci';rw [LK ho ho' he]
 have sub:∀ b,iR (og (ib s1.roots H0 cs)) (fun q=>m' (yT cs q).1 (yT cs q).2) b->aI s1.roots m' b:=by
  rintro b ⟨q,ho,hb⟩;exact ⟨_,_,own_names q ho,hb⟩
 have hD:∃ D,∀ i,i < cs.length->∃ c u,cs[i]?=some c/\us[i]?=some u/\rel w (X.S s1.roots m') L0 (fun q=>m' (gU (hOf H0 cs i) c q).1 (gU (hOf H0 cs i) c q).2) true D [] (j4 s1.roots (hOf H0 cs i) c) u:=by
  refine ED (Q:=fun i D=>∃ c u,cs[i]?=some c/\us[i]?=some u/\rel w (X.S s1.roots m') L0 (fun q=>m' (gU (hOf H0 cs i) c q).1 (gU (hOf H0 cs i) c q).2) true D [] (j4 s1.roots (hOf H0 cs i) c) u) ?_ cs.length ?_
  ·rintro i d d' hd ⟨c,u,e1,e2,e3⟩; exact ⟨c,u,e1,e2,aT _ _ hd e3⟩
  ·intro i hi;have e1:cs[i]?=some cs[i]:=by simp [hi]
   obtain ⟨u,e2,d,e3⟩:=comps i _ e1;exact ⟨d,_,u,e1,e2,e3⟩
 obtain ⟨D,hD⟩:=hD;refine ⟨⟨fun q=>m' (yT cs q).1 (yT cs q).2,D+1,?_,?_,?_⟩,H'.fr⟩
 ·refine av (S:=X.S s1.roots m') (m:=fun q=>m' (yT cs q).1 (yT cs q).2) (p:=[]) (w:=w) (fun b _ hs=>⟨⟨hs.1,fun hb=>hs.2 (sub b hb)⟩,rfl⟩) (D+1) (fun _ _ _ h=>h) (fun _ _ _ _ _ _=>rfl) (fun _ _ _=>rfl) ?_;refine QC (by rw [FH]; exact hl) ?_ ?_
  ·intro r hr1;have hlen:cs.length=1:=by rw [<-FH s1.roots (h:=H0),hr1]; rfl
   obtain ⟨c,hc⟩:=adZ.1 hlen;obtain ⟨c',u,e1,e2,e3⟩:=hD 0 (by omega);have:j4 s1.roots (hOf H0 cs 0) c'=r:=by
    have:=yr s1.roots (cs:=cs) (h:=H0) (i:=0);rw [hr1,e1] at this;simpa using this.symm
   rw [<-this];refine ⟨u,e2,av (fun b _ hb=>⟨hb,rfl⟩) D (fun _ _ _ h=>h) (fun _ _ _ _ _ _=>rfl) (fun _ q _=>?_) e3⟩;subst hc;simp only [cr,cb] at e1;subst e1;simp only [cO,hOf];rw [hone c rfl]
  ·intro hne j r hj;have hne':∀ c,cs≠[c]:=by
    rintro c rfl;exact hne (j4 s1.roots H0 c) (by rw [sr]; rfl)
   rw [yr] at hj;simp only [cj] at hj;obtain ⟨c,hc,rfl⟩:=hj;obtain ⟨c',u,e1,e2,e3⟩:=hD j (cd.1 hc).1;rw [hc] at e1;cases e1;refine ⟨u,e2,av (fun b _ hb=>⟨hb,rfl⟩) D (fun _ _ _ h=>h) (fun _ _ _ _ _ _=>rfl) (fun _ q _=>?_) e3⟩;simp only [cO,nK];rw [hmany hne'];simp only [hc,nk]
 ·intro q q' b ho ho' hb hb';have:=H'.inj _ _ _ _ b (own_names q ho) (own_names q' ho') hb hb';exact inj_names q q' ho ho' (Prod.ext this.1 this.2)
 ·rintro b ⟨q,ho,hb⟩;exact H'.own _ _ b (own_names q ho) hb
def LR {own:List Bool} {cs:List C} {us:List Value} {S:Nat->Prop} {n:Nat} (hl:us.length=cs.length) (hn:cs.length<=n)
  (hr:∀ (i:Nat) (c:C),cs[i]?=some c->∃ u d,us[i]?=some u/\rel w (fun b=>S b/\¬ aI (R0 own cs) m b) L0 (m i) (own.getD i false) d [] c u) (hinj:Inj (R0 own cs) m) :
  ar (Bn w S (aI (R0 own cs) m)) m (zM own cs n) { tmps:=us.toArray++Array.replicate (n - us.toArray.size) undef,defers:=[] } w:=by
 have hS:∀ b,b < w.heap.size->(S b/\¬ aI (R0 own cs) m b)->Ctx.S (Bn w S (aI (R0 own cs) m)) (R0 own cs) m b/\w.heap[b]?=w.heap[b]?:=fun b _ hb=>⟨⟨.inl (.inl hb.1),hb.2⟩,rfl⟩;refine ⟨?_,?_,?_,hinj,?_,⟨rfl,rfl,rfl,cw _,cw _,fun _ _ _=>rfl⟩,rfl⟩
 ·simp only [zM,hU,lN,xo,ac7,nP,aev]; omega
 ·intro t c ht;simp only [zM] at ht;by_cases hlt:t < cs.length
  ·rw [cE (by rw [lN]; exact hlt),Gu] at ht;simp only [cj,cS] at ht;obtain ⟨c0,h0,rfl⟩:=ht;obtain ⟨u,d,e1,e2⟩:=hr t c0 h0;refine ⟨u,?_⟩;have hu:(us.toArray++Array.replicate (n - us.toArray.size) undef)[t]?=some u:=by
    rw [xh (by simp; omega)]; simpa using e1
   unfold iX;cases ho:own.getD t false with
   | false=>
    rw [ho] at e2;exact ⟨d,hu,by
     simp only [cR,if_false];exact av hS d (fun _ _ _ h=>h.elim) (fun h=>by simp at h) (fun h=>by simp at h) e2⟩
   | true=>
    rw [ho] at e2;refine ⟨d+1,hu,?_⟩;simp only [if_true];have e3:=av (m':=m t) (p':=[]) hS d (L':=L0) (fun _ _ _ h=>h) (fun _ _ _ _ _ _=>rfl) (fun _ _ _=>rfl) e2;refine QQ 3 e3 ?_;intro q nl es cap rows u' dd hq hrel;obtain ⟨a1,k,dd',f1,f2,f3,f4,f5,fz,f6,f7⟩:=eb hrel;simp only [cO] at f1 f2 ⊢;refine ⟨nl,es,cap,rows,a1,k,a1,k,?_,f2,by omega,by rw [f1,f2],f3,by omega,by simp,by simp,?_⟩
    ·have ho':=ho;rw [xN] at ho';simp [zM,R0,ho',h0,hq]
    ·rcases f7 with f7|⟨b,off,arr,elem,g1,_⟩
     ·exact .inl f7
     ·exact .inr ⟨b,off,g1,by simpa using g1⟩
  ·rw [cP (by rw [lN]; omega)] at ht;simp only [adM] at ht;split at ht
   ·rename_i h1;simp only [cb] at ht;subst ht;rw [lN] at h1;refine ⟨undef,1,?_,trivial⟩;rw [ac5 (by simp; omega)];simp only [nP,adu];rw [if_pos (by omega)]
   ·simp at ht
 ·intro i;simp only [zM,R0];cases ho:own.getD i false with
  | false=>exact ⟨undef,1,by simp only [cR,if_false]; trivial⟩
  | true=>
   simp only [if_true];cases hc:cs[i]? with
   | none=>exact ⟨undef,1,trivial⟩
   | some c=>
    obtain ⟨u,d,e1,e2⟩:=hr i c hc;rw [ho] at e2;exact ⟨u,d,av hS d (fun _ _ _ h=>h) (fun _ _ _ _ _ _=>rfl) (fun _ _ _=>rfl) e2⟩
 ·intro i p b ho hb;exact .inr ⟨i,p,ho,hb⟩
end
def Ae:TypeDesc->Option EK
 | .int _=>some .int
 | .string=>some .str
 | .bool=>some .bool
 | _=>none
def K7 (one:TypeId->Option (List EK)):Nat->List Field->Option (List EK)
 | _,[]=>some []
 | k,f::fs=>match one f.type with
  | some e=>match K7 one (k+e.length) fs with
   | some es=>if f.name ≠ "_" ∧ f.offset = k then some (e ++ es) else none
   | none=>none
  | none=>none
def ekT (P:Program):Nat->TypeId->Option (List EK)
 | 0,t=>(P.underlying t).bind fun d=>(Ae d).map ([·])
 | g+1,t=>match P.underlying t with
  | some (.struct fields)=>match K7 (ekT P g) 0 fields.toList with
   | some es=>if P.stoodInHeld t=false/\(P.info? t).map (·.size)=some es.length then some es else none
   | none=>none
  | d=>d.bind fun d=>(Ae d).map ([·])
def PI (P:Program) (t:Nat):List EK:=
 match P.underlying t with
 | some (.struct fields)=>if P.stoodInHeld t=false/\P.eqGuardType P.depth t=false then (K7 (ekT P 3) 0 fields.toList).getD [] else []
 | some (.array n e)=>if P.eqGuardType P.depth t=false/\(P.info? e).map (·.size)=some 1 then (((P.underlying e).bind Ae).map fun k=>List.replicate n k).getD [] else []
 | _=>[]
def Qz (P:Program):TypeDesc->TK
 | .slice e=>match P.info? e with
  | some i=>.slice e i.size
  | none=>.other
 | .struct fields=>if (fields.toList.mapM (fun f=>(P.info? f.type).map fun i=>(f.offset,i.size))).isSome then .struct (fields.toList.map fun f=>(f.offset,f.type)) else .other
 | .array n e=>match P.info? e with
  | some i=>.arr n e i.size
  | none=>.other
 | .string=>.str
 | .int k=>.int k
 | .bool=>.bool
 | _=>.other
def eB (P:Program) (t:Nat):Option TI:=
 match P.info? t,P.underlying t with
 | some i,some d=>match i.zero with
  | some z=>if z.cells.toList.length=i.size/\z.cells.toList.all Value.oneCell'=true then
    some { size:=i.size,agg:=Q0 d,bytes:=i.bytes,zero:=z.cells.toList,eqs:=PI P t,kind:=Qz P d }
   else none
  | none=>none
 | _,_=>none
def Vt {P:Program} (d:TypeDesc):Vl P d (Qz P d):=by
 unfold Qz;split
 ·split
  ·rename_i i hi; exact ⟨rfl,i,hi,rfl⟩
  ·trivial
 ·rename_i fields;split
  ·rename_i h;obtain ⟨pl,hpl⟩:=ac3.1 h;refine ⟨fields,rfl,?_,pl,hpl⟩;intro k o t hk;simp only [cu,cj,cz] at hk;obtain ⟨f,h1,h2,h3⟩:=hk;exact ⟨f,by simpa using h1,h2,h3⟩
  ·trivial
 ·split
  ·rename_i i hi; exact ⟨rfl,i,hi,rfl⟩
  ·trivial
 all_goals first|rfl|trivial
def Xj {P:Program} {w:World} {t:Nat} {d:TypeDesc} (hd:P.underlying t=some d) (he:(Ae d).isSome=true) {cs:Array Value} {k:Nat} {v:Value} (hv:cs[k]?=some v):(part t cs k).run P w=.ok v w:=by
 unfold part isAgg;cases d<;>simp [Ae] at he<;>simp [run_underlying hd,hv]
def pv (P:Program) (t:TypeId) (xs:List C):Value:=
 match P.underlying t with
 | some (.struct _)=>.agg (xs.map C.toV).toArray
 | _=>(xs.head?.map C.toV).getD undef
def X6 (P:Program) (D:Nat) (one:TypeId->Option (List EK)):Prop:=∀ t e,one t=some e ->
 (∀ (w:World) (cs:List C) (k:Nat),k+e.length<=cs.length->(part t (cs.map C.toV).toArray k).run P w=.ok (pv P t ((cs.drop k).take e.length)) w) ∧
 (∀ (w:World) (d:Nat) (as bs:List C) (b:Bool),D<=d->dE e as bs=some b->(Op.equalIn d t (pv P t as) (pv P t bs)).run P w=.ok b w)
def FY:∀ {e es:List EK} {as bs:List C} {b:Bool},dE (e++es) as bs=some b ->
  ∃ x y,dE e (as.take e.length) (bs.take e.length)=some x/\dE es (as.drop e.length) (bs.drop e.length)=some y/\b=(x && y)/\e.length<=as.length/\e.length<=bs.length:=by
 intro e
 induction e with
 | nil=>intro es as bs b h; exact ⟨true,b,rfl,by simpa using h,by simp,by simp,by simp⟩
 | cons k e ih=>
  intro es as bs b h;cases as with
  | nil=>simp [dE] at h
  | cons x as=>
   cases bs with
   | nil=>simp [dE] at h
   | cons y bs=>
    simp only [nK,dE] at h;split at h
    case h_2=>simp at h
    rename_i b1 b2 h1 h2;simp only [cb] at h;subst h;obtain ⟨u,v,g1,g2,rfl,g4,g5⟩:=ih h2;exact ⟨b1 && u,v,by simp [dE,h1,g1],by simpa using g2,by simp [Bool.and_assoc],by simpa using g4,by simpa using g5⟩
def SO:∀ {e:List EK} {as bs:List C} {b:Bool},dE e as bs=some b->as.length=e.length/\bs.length=e.length:=by
 intro e
 induction e with
 | nil=>intro as bs b h; cases as<;>cases bs<;>simp [dE] at h; simp
 | cons k e ih=>
  intro as bs b h;cases as with
  | nil=>simp [dE] at h
  | cons x as=>
   cases bs with
   | nil=>simp [dE] at h
   | cons y bs=>
    simp only [dE] at h;split at h
    case h_2=>simp at h
    rename_i b1 b2 h1 h2;have:=ih h2;simp [this]
def KB {P:Program} {one:TypeId->Option (List EK)} {D d:Nat} (ho:X6 P D one) (hd:D<=d) {as0 bs0:List C}:∀ {fs:List Field} {k:Nat} {es:List EK} {b:Bool} (w:World),K7 one k fs=some es->k<=as0.length->k<=bs0.length->dE es (as0.drop k) (bs0.drop k)=some b ->
  (Op.eqFields d (as0.map C.toV).toArray (bs0.map C.toV).toArray fs).run P w=.ok b w:=by
 intro fs
 induction fs with
 | nil=>
  intro k es b w he ha hb hq;simp only [K7,cb] at he;subst he;have:b=true:=by
   revert hq;generalize as0.drop k=u;generalize bs0.drop k=v;cases u<;>cases v<;>simp [dE]
  subst this;rfl
 | cons f fs ih=>
  intro k es b w he ha hb hq;simp only [K7] at he;split at he
  case h_2=>simp at he
  rename_i e h1;split at he
  case h_2=>simp at he
  rename_i es' h2;split at he
  case isFalse=>simp at he
  rename_i hf;simp only [cb] at he;subst he;obtain ⟨x,y,g1,g2,rfl,g4,g5⟩:=FY hq;simp only [ac8] at g4 g5;obtain ⟨o1,o2⟩:=ho _ _ h1;rw [acW,acW] at g2;have hr:=ih w h2 (by omega) (by omega) g2;have p1:=o1 w as0 k (by omega);have p2:=o1 w bs0 k (by omega);have p3:=o2 w d _ _ x hd g1;simp only [Op.eqFields,if_pos hf.1,hf.2,Sem.run_bind,p1,p2,Result.andThen_ok,p3];cases x<;>simp [hr]
def Gz {P:Program} {t:TypeId} {dd:TypeDesc} {e:List EK} (hu:P.underlying t=some dd) (he:(Ae dd).map ([·])=some e) :
  (∀ (w:World) (cs:List C) (k:Nat),k+e.length<=cs.length->(part t (cs.map C.toV).toArray k).run P w=.ok (pv P t ((cs.drop k).take e.length)) w) ∧
  (∀ (w:World) (d:Nat) (as bs:List C) (b:Bool),1<=d->dE e as bs=some b->(Op.equalIn d t (pv P t as) (pv P t bs)).run P w=.ok b w):=by
 cases ho:Ae dd with
 | none=>simp [ho] at he
 | some k0=>
 simp only [ho,cx,cb] at he;subst he;have hpv:∀ x:C,pv P t [x]=x.toV:=by
  intro x;unfold pv;rw [hu];cases dd<;>simp [Ae] at ho<;>simp
 refine ⟨?_,?_⟩
 ·intro w cs k hk;simp only [cC,cW,cS] at hk ⊢;have hlt:k < cs.length:=by omega
  have:(cs.drop k).take 1=[cs[k]]:=by
   rw [xp hlt]; rfl
  rw [this,hpv];exact Xj hu (by simp [ho]) (by simp [hlt])
 ·intro w d as bs b hd hq;obtain ⟨d,rfl⟩:∃ d',d=d'+1:=⟨d - 1,by omega⟩;obtain ⟨l1,l2⟩:=SO hq
  match as,bs,l1,l2 with
  | [x],[y],_,_=>
   rw [hpv,hpv];simp only [dE] at hq;split at hq
   case h_2=>simp at hq
   rename_i b1 b2 hq1 hq2;simp only [cb] at hq2 hq;subst hq2;rw [nJ] at hq;subst hq;have h1:=ho;unfold Jx at hq1;split at hq1
   ·cases dd<;>simp [Ae] at h1
    split at hq1
    ·rename_i hk;simp only [cb] at hq1;subst hq1; subst hk;simp only [C.toV,run_equalIn_int w _ _ _ _ _ _ hu];rfl
    ·simp at hq1
   ·cases dd<;>simp [Ae] at h1
    simp only [cb] at hq1;subst hq1;simp only [C.toV,run_equalIn_string w _ _ _ _ hu,sEq]
   ·cases dd<;>simp [Ae] at h1
    simp only [cb] at hq1;subst hq1;simp only [C.toV,run_equalIn_bool' w _ _ _ _ hu];rfl
   ·simp at hq1
def WU {P:Program} {el:TypeId} {dd:TypeDesc} {k:EK} (hu:P.underlying el=some dd) (hk:Ae dd=some k) {d:Nat} (hd:1<=d) {as0 bs0:List C}:∀ (n i:Nat) (b:Bool) (w:World),i<=as0.length->i<=bs0.length->dE (List.replicate n k) (as0.drop i) (bs0.drop i)=some b ->
  (forIn (List.range' i n) ((none,()):Option Bool × Unit) fun i r=>(do
    let x <-part el (as0.map C.toV).toArray i
    let y <-part el (bs0.map C.toV).toArray i
    let z <-Op.equalIn d el x y
    if z=false then pure (ForInStep.done (some false,())) else pure (ForInStep.yield (none,())):Sem (ForInStep (Option Bool × Unit)))).run P w=.ok (if b=true then (none,()) else (some false,())) w:=by
 intro n
 induction n with
 | zero=>
  intro i b w ha hb hq;have:b=true:=by
   revert hq;simp only [List.replicate];generalize as0.drop i=u;generalize bs0.drop i=v;cases u<;>cases v<;>simp [dE]
  subst this;simp
 | succ n ih=>
  intro i b w ha hb hq;have hq':dE ([k]++List.replicate n k) (as0.drop i) (bs0.drop i)=some b:=by simpa [List.replicate] using hq
  obtain ⟨x,y,g1,g2,rfl,g4,g5⟩:=FY hq';simp only [ac8,cC,cW] at g4 g5;obtain ⟨o1,o2⟩:=Gz (P:=P) (t:=el) hu (e:=[k]) (by simp [hk]);rw [acW,acW] at g2;have hr:=ih (i+1) y w (by omega) (by omega) (by simpa using g2);have p1:=o1 w as0 i (by simp; omega);have p2:=o1 w bs0 i (by simp; omega);have p3:=o2 w d _ _ x hd g1;simp only [xX,List.forIn_cons,Nat.mul_one,Sem.run_bind,p1,p2,Result.andThen_ok,p3];cases x
  ·simp
  ·simpa using hr
def Np {P:Program} {t el:TypeId} {n:Nat} {dd:TypeDesc} {k:EK} (ht:P.underlying t=some (.array n el)) (hu:P.underlying el=some dd) (hk:Ae dd=some k) (hs:(P.info? el).map (·.size)=some 1) {d:Nat} (hd:1<=d) (w:World) {as bs:List C} {b:Bool} (hq:dE (List.replicate n k) as bs=some b) :
  (Op.equalIn (d+1) t (.agg (as.map C.toV).toArray) (.agg (bs.map C.toV).toArray)).run P w=.ok b w:=by
 cases hi:P.info? el with
 | none=>simp [hi] at hs
 | some i=>
 have hs':i.size=1:=by simpa [hi] using hs
 have:=WU hu hk hd n 0 b w (cU _) (cU _) (by simpa using hq);simp only [Op.equalIn,Sem.run_bind,run_underlying ht,Result.andThen_ok,sizeOf,typeInfo,run_program,hi];simp [hs',this];cases b<;>simp
def ZO (P:Program):∀ g,X6 P (g+1) (ekT P g):=by
 intro g
 induction g with
 | zero=>
  intro t e h;simp only [ekT] at h;cases hu:P.underlying t with
  | none=>simp [hu] at h
  | some dd=>
   rw [hu] at h;exact Gz hu (by simpa using h)
 | succ g ih=>
  intro t e h;simp only [ekT] at h;split at h
  ·rename_i fields hu;split at h
   case h_2=>simp at h
   rename_i es hes;split at h
   case isFalse=>simp at h
   rename_i hc;simp only [cb] at h;subst h;have hpv:∀ xs:List C,pv P t xs=.agg (xs.map C.toV).toArray:=by intro xs; unfold pv; rw [hu]
   have hfo:P.fieldsOf t=fields:=by simp [Program.fieldsOf,hu]
   cases hi:P.info? t with
   | none=>simp [hi] at hc
   | some i=>
   have hsz:i.size=es.length:=by simpa [hi] using hc.2
   refine ⟨?_,?_⟩
   ·intro w cs k hk;rw [hpv];simp [part,isAgg,run_underlying hu,sizeOf,typeInfo,hi,hsz,aeh,aei,nT,xd]
   ·intro w d as bs b hd hq;obtain ⟨d,rfl⟩:∃ d',d=d'+1:=⟨d - 1,by omega⟩;rw [hpv,hpv,run_equalIn_struct w _ t _ _ (by rw [hfo]; exact hu) hc.1,hfo];exact KB ih (by omega) w hes (by omega) (by omega) (by simpa using hq)
  ·cases hu:P.underlying t with
   | none=>simp [hu] at h
   | some dd=>
    rw [hu] at h;obtain ⟨a1,a2⟩:=Gz hu (by simpa using h);exact ⟨a1,fun w d as bs b hd=>a2 w d as bs b (by omega)⟩
def Xm {P:Program} {t:Nat} (h:(PI P t).isEmpty=false):ZI P t (PI P t):=by
 unfold PI at h ⊢;split at h
 ·rename_i fields hu;split at h
  ·rename_i hc;simp only [hc,and_self,if_true] at h ⊢;cases he:K7 (ekT P 3) 0 fields.toList with
   | none=>simp [he] at h
   | some es=>
    simp only [he,nk] at h ⊢;intro w as bs b hq;refine ⟨fun op x y=>run_eqGuard_agg w op t x y _ _ hc.2,?_⟩;have hfo:P.fieldsOf t=fields:=by simp [Program.fieldsOf,hu]
    rw [Eo,run_equalIn_struct w _ t _ _ (by rw [hfo]; exact hu) hc.1,hfo];exact KB (ZO P 3) (by omega) w he (by omega) (by omega) (by simpa using hq)
  ·simp at h
 ·rename_i n e hu;split at h
  ·rename_i hc;rw [if_pos hc];cases hd:P.underlying e with
   | none=>simp [hd] at h
   | some dd=>
    simp only [hd,cc] at h ⊢;cases hk:Ae dd with
    | none=>simp [hk] at h
    | some k=>
     simp only [hk,cx,nk] at h ⊢;intro w as bs b hq;refine ⟨fun op x y=>run_eqGuard_agg w op t x y _ _ hc.1,?_⟩;rw [Eo];exact Np hu hd hk hc.2 (by omega) w hq
  ·simp at h
 ·simp at h
def zo (P:Program) (G:Nat->Nat->Option FnS):TOk P { T:=eB P,G:=G }:=by
 intro t ti h;simp only [eB] at h;split at h
 case h_2=>simp at h
 rename_i i d hi hd;split at h
 case h_2=>simp at h
 rename_i z hz;split at h
 case isFalse=>simp at h
 rename_i hc;simp only [cb] at h;subst h;exact ⟨⟨i,hi,rfl,rfl,z,hz,rfl⟩,⟨d,hd,rfl,Vt d⟩,hc.1,fun v hv=>cq.1 hc.2 v hv,fun h=>Xm h⟩
end Go.Abs
