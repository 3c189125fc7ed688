/- A library of readings of Go values with their ownership,and of walks on them. No statement of the program. -/
import Derived.Test.YteldkhmcgloafaaAbsC
import Derived.Scope
import Derived.Laws.StructEq
set_option linter.unusedSimpArgs false
set_option linter.unusedVariables false
namespace Go.Abs
inductive SE where
 | q (d:Option Tmp) (c:C)
 | n (d:Nat) (tmp root:C)
 | s (n:Nat) (cells:List C)
def storeV (n:Nat) (cells:List C) (st:St):Option St:=
 match st.roots n with
 | .sl true nl es cap [row]=>if isDead (st.roots H0)=true/\n < H0/\row.all leafC=true/\cells.length<=row.length then some { tmps:=st.tmps,roots:=upd st.roots n (.sl true nl es cap [cells.map C.frz++row.drop cells.length]) } else none
 | _=>none
theorem zn {α:Type} (f:α->α) (x:α) (post:List α):∀ pre:List α,(pre++x::post).modify pre.length f=pre++f x::post:=by
 intro pre
 induction pre with
 | nil=>rfl
 | cons y pre ih=>simpa [List.modify_cons] using ih
theorem Al (f:Nat->C) (n:Nat) (a b:C):upd (upd f n a) n b=upd f n b:=by
 funext k
 by_cases e:k=n
 ·subst e; simp [ah]
 ·simp [upd_ne e]
theorem vA {n:Nat} (hn:n < H0):∀ (cs:List C) {st:St} {j:Nat} {pre row:List C} {nl:Option Bool} {es:Nat} {cap:Option Nat},st.roots n=.sl true nl es cap [pre++row]->pre.length=j->cs.length<=row.length->row.all leafC=true ->
  bS n [] 0 j cs st=some { tmps:=st.tmps,roots:=upd st.roots n (.sl true nl es cap [pre++(cs.map C.frz++row.drop cs.length)]) }:=by
 intro cs
 induction cs with
 | nil=>
  intro st j pre row nl es cap hr hj hl hrow;simp only [bS,List.map_nil,List.nil_append,List.length_nil,List.drop_zero,Option.some.injEq];rw [<-hr];cases st with
  | mk t r=>
   simp only [St.mk.injEq,true_and]
   funext k
   by_cases e:k=n
   ·subst e; simp [ah]
   ·simp [upd_ne e]
 | cons c cs ih=>
  intro st j pre row nl es cap hr hj hl hrow;cases row with
  | nil=>simp at hl
  | cons r0 row=>
   simp only [List.all_cons,Bool.and_eq_true] at hrow;have h1:(pre++r0::row)[j]?=some r0:=by rw [<-hj]; simp
   have h2:(pre++r0::row).modify j (fun _=>c.frz)=(pre++[c.frz])++row:=by
    rw [<-hj,zn];simp
   simp only [bS,St.node,C.at,hr,List.getElem?_cons_zero];rw [if_pos ⟨by simp; omega,hn⟩];rw [ih (pre:=pre++[c.frz]) (row:=row) (nl:=nl) (es:=es) (cap:=cap) (by simp [ah,C.turn,h2]) (by simp [hj]) (by simpa using hl) hrow.2];simp [poiAt,h1,hrow.1,Al,C.turn,h2]
def SE.apply:SE->St->Option St
 | .q d c,st=>some (st.put d c)
 | .n d tmp root,st=>match isDead (st.roots d) with
  | true=>some { tmps:=st.tmps.set d tmp,roots:=upd st.roots d root }
  | false=>none
 | .s k cells,st=>storeV k cells st
def qSE (o:Oper):Option C->Option SE
 | some c=>some (.q o.dst c)
 | none=>none
def Env.Gs (E:Env) (d f:Nat):Option FnS:=match E.L d f with
 | some _=>none
 | none=>E.G d f
theorem Cw {E:Env} {d f:Nat} {fs:FnS} (h:E.Gs d f=some fs):E.L d f=none/\E.G d f=some fs:=by
 unfold Env.Gs at h;split at h
 ·cases h
 ·rename_i hL; exact ⟨hL,h⟩
def callSE (E:Env) (o:Oper) (c:Call) (st:St):Option SE:=
 match o.dst,callTo st c with
 | some d,some (f,args)=>if d < H0 then match E.Gs d f with
   | some fs=>if fs.own=[] then match snaps st args with
     | some cs=>if fs.pure=true∨args.all (fun c=>!gP c)=true then match fs.fn cs with
       | some r=>if ownD 3 r then some (.n d (viewD 3 d [] r) r) else some (.q (some d) (viewD 3 d [] r))
       | none=>none
      else none
     | none=>none
    else none
   | none=>none
  else none
 | _,_=>none
def boxSE (d:Nat) (ti:TI) (c:C):Option SE:=
 match gm ti c with
 | some cells=>if cells.all C.cellOk then some (.n d (.pref d [] 0 0) (.sl true none ti.size (some 1) ([cells].map (·.map C.frz)))) else none
 | none=>none
def kN (E:Env) (d:Nat) (ti:TI) (len:Nat) (parts:List (Nat × C)):Option SE:=
 match ti.kind with
 | .slice e es=>if (E.T e).isNone then none else match buildC E { ti with kind:=.arr len e es } parts (List.replicate (len * es) .dead) with
  | some flat=>if len * es<=16777216/\es≠0 then
    if flat.all C.cellOk then some (.n d (.pal d [] 0 len none) (.sl true none es (some len) ((chunks es len flat).map (·.map C.frz)))) else none
   else none
  | none=>none
 | _=>none
def gT (E:Env) (cp:Option Nat) (d:Nat) (ti:TI) (len:Nat) (parts:List (Nat × C)):Option SE:=
 match ti.kind with
 | .slice e es=>if (E.T e).isNone then none else match buildC E { ti with kind:=.arr len e es } parts (List.replicate (len * es) .dead) with
  | some flat=>if len * es<=16777216/\es≠0 then
    if flat.all C.cellOk then some (.q (some d) (.sl false none es cp ((chunks es len flat).map (·.map C.frz)))) else none
   else none
  | none=>none
 | _=>none
def ly (E:Env) (d:Nat) (ti:TI) (len:Nat) (parts:List (Nat × C)):Option SE:=
 match E.F d with
 | some false=>gT E none d ti len parts
 | some true=>gT E (some len) d ti len parts
 | _=>kN E d ti len parts
def oB (E:Env) (o:Oper) (t:TypeId) (x v:Operand) (st:St):Option SE:=
 match o.dst,E.T t,x with
 | none,some ti,.tmp n=>match st.ev (.tmp n) with
  | .pref n' [] 0 0=>if n'=n then match gm ti (st.ev v) with
    | some cells=>if cells.all C.cellOk=true then some (.s n cells) else none
    | none=>none
   else none
  | _=>none
 | _,_,_=>none
def bodySE (E:Env) (o:Oper) (st:St):Option SE:=
 match o.op with
 | .alloc t=>match o.dst,E.T t with
  | some d,some ti=>some (.n d (.pref d [] 0 0) (.sl true none ti.size (some 1) [ti.zero.map .val]))
  | _,_=>none
 | .box t x=>match o.dst,E.T t with
  | some d,some ti=>boxSE d ti (st.ev x)
  | _,_=>none
 | .buildSlice t len parts=>match o.dst,E.T t with
  | some d,some ti=>ly E d ti len (parts.toList.map fun x=>(x.1,st.ev x.2))
  | _,_=>none
 | .store t x v=>oB E o t x v st
 | .call c=>match c.callee with
  | .builtin .append=>none
  | .builtin _=>qSE o (qop E st (.call c))
  | _=>callSE E o c st
 | op=>qSE o (qop E st op)
def seff (E:Env) (ops:Array Oper) (o:Oper) (st:St):Option SE:=
 match o.guard with
 | none=>bodySE E o st
 | some (j,want)=>match (ops[j]?).bind (·.dst) with
  | some t=>match st.tmps[t]? with
   | some (.val (.bool b))=>if b=want then bodySE E o st else some (.q o.dst (.val undef))
   | some (.val (.tuple _))=>some (.q o.dst (.val undef))
   | _=>none
  | none=>none
def aC (E:Env) (ops:Array Oper) (o:Oper) (st:St):Option St:=
 match seff E ops o st with
 | some e=>e.apply st
 | none=>none
section
variable {X:Ctx} {m:Nat->Path->Value} {st:St} {a:Act} {w:World} {P:Program}
theorem oq {d:Nat} (h:isDead (st.roots d)=true):st.fresh d=st:=by simp [St.fresh,h]
theorem kE {E:Env} {ops:Array Oper} {o:Oper} {st':St} (h:aC E ops o st=some st'):stepO E ops o st=some st':=by
 have body:∀ e,bodySE E o st=some e->e.apply st=some st'->exe E o st=some st':=by
  intro e he hap
  suffices h0:exe0 E o st=some st' by
   have hp:preX E o st=none:=by
    cases hpx:preX E o st with
    | none=>rfl
    | some s=>
     exfalso;unfold preX at hpx;split at hpx
     ·rename_i hop;simp [bodySE,hop] at he
     ·simp at hpx
   simp [exe,hp,h0]
  have quiet:∀ op,qSE o (qop E st op)=some e->put? o st (qop E st op)=some st':=by
   intro op hq;cases hc:qop E st op with
   | none=>simp [hc,qSE] at hq
   | some c=>
    simp only [hc,qSE,Option.some.injEq] at hq;subst hq;simpa [put?,SE.apply] using hap
  unfold bodySE at he;unfold exe0;split at he
  ·rename_i t hop;simp only [hop];split at he
   ·rename_i d ti hd hti;simp only [Option.some.injEq] at he;subst he;simp only [SE.apply] at hap;split at hap
    ·rename_i hdd;simp only [hd,hti];rw [<-hap];simp [allocX,oq hdd]
    ·simp at hap
   ·simp at he
  ·rename_i t x hop;simp only [hop];split at he
   ·rename_i d ti hd hti;unfold boxSE at he;split at he
    ·rename_i cells hun;split at he
     ·rename_i hall;simp only [Option.some.injEq] at he;subst he;simp only [SE.apply] at hap;split at hap
      ·rename_i hdd;simp only [hd,hti,boxX,oq hdd,hun,hall,if_true];rw [<-hap];rfl
      ·simp at hap
     ·simp at he
    ·simp at he
   ·simp at he
  ·rename_i t len parts hop;simp only [hop];split at he
   ·rename_i d ti hd hti;unfold ly at he;split at he
    ·rename_i hF;unfold gT at he;split at he
     ·rename_i e' es hk;split at he
      ·simp at he
      ·rename_i hE;split at he
       ·rename_i flat hflat;split at he
        ·rename_i hc;split at he
         ·rename_i hall;simp only [Option.some.injEq] at he;subst he;simp only [SE.apply] at hap;simp only [hd,hti,fm,hF,iY,hk,hflat,hall,if_true];rw [if_neg hE,if_pos hc,<-hap]
         ·simp at he
        ·simp at he
       ·simp at he
     ·simp at he
    ·rename_i hF;unfold gT at he;split at he
     ·rename_i e' es hk;split at he
      ·simp at he
      ·rename_i hE;split at he
       ·rename_i flat hflat;split at he
        ·rename_i hc;split at he
         ·rename_i hall;simp only [Option.some.injEq] at he;subst he;simp only [SE.apply] at hap;simp only [hd,hti,fm,hF,iY,hk,hflat,hall,if_true];rw [if_neg hE,if_pos hc,<-hap]
         ·simp at he
        ·simp at he
       ·simp at he
     ·simp at he
    ·rename_i hF;have hX:fm E d ti len parts.toList st=ji E d ti len parts.toList st:=by
      unfold fm;split
      ·rename_i hF'; exact absurd hF' ‹_›
      ·rename_i hF'; exact absurd hF' ‹_›
      ·rfl
     unfold kN at he;split at he
     ·rename_i e' es hk;split at he
      ·simp at he
      ·rename_i hE;split at he
       ·rename_i flat hflat;split at he
        ·rename_i hc;split at he
         ·rename_i hall;simp only [Option.some.injEq] at he;subst he;simp only [SE.apply] at hap;split at hap
          ·rename_i hdd;simp only [hd,hti,hX,ji,hk,oq hdd,hflat,hall,if_true];rw [if_neg hE,if_pos hc,<-hap];rfl
          ·simp at hap
         ·simp at he
        ·simp at he
       ·simp at he
     ·simp at he
   ·simp at he
  ·rename_i t x v hop;simp only [hop];unfold oB at he;split at he
   case h_2=>simp at he
   rename_i ti n hd ht;split at he
   case h_2=>simp at he
   rename_i n' hev;split at he
   case isFalse=>simp at he
   rename_i hn;subst hn;split at he
   case h_2=>simp at he
   rename_i cells hun;split at he
   case isFalse=>simp at he
   rename_i hall;simp only [Option.some.injEq] at he;subst he;simp only [SE.apply,storeV] at hap;split at hap
   case h_2=>simp at hap
   rename_i nl es cap row hr;split at hap
   case isFalse=>simp at hap
   rename_i hc;simp only [hd,ht,storeX,hun,hev,hall,if_true,hc.1];rw [vA hc.2.1 cells (j:=0) (pre:=[]) (row:=row) (by simpa using hr) rfl hc.2.2.2 hc.2.2.1];simpa using hap
  ·rename_i c hop;simp only [hop];split at he
   ·simp at he
   ·rename_i b hb;simp only [hb];exact quiet _ he
   ·rename_i hb1 hb2;have:callE E o c st=some st':=by
     unfold callSE at he;unfold callE;split at he
     ·rename_i d f args hd hct;simp only [hd,hct];split at he
      ·rename_i hdH;rw [if_pos hdH];unfold callX;split at he
       ·rename_i fs hfs;obtain ⟨hL,hfs⟩:=Cw hfs;simp only [hL,hfs];split at he
        ·rename_i hown;rw [if_pos hown];split at he
         ·rename_i cs hsn;simp only [hsn];split at he
          ·rename_i hpv;rw [if_pos hpv];split at he
           ·rename_i r hr;simp only [hr];split at he
            ·rename_i hod;simp only [Option.some.injEq] at he;subst he;simp only [SE.apply] at hap;split at hap
             ·rename_i hdd;rw [<-hap];simp [bindX,hod,oq hdd]
             ·simp at hap
            ·rename_i hod;simp only [Option.some.injEq] at he;subst he;simp only [SE.apply,Option.some.injEq] at hap;rw [<-hap];simp [bindX,hod,St.put]
           ·simp at he
          ·simp at he
         ·simp at he
        ·simp at he
       ·simp at he
      ·simp at he
     ·simp at he
    split
    ·rename_i hb; exact (hb1 hb).elim
    ·rename_i b hb hb'; exact (hb2 b hb').elim
    ·exact this
  ·rename_i h1 h2 h3 h4 h5;have:=quiet _ he;split
   ·rename_i t hop; exact (h1 t hop).elim
   ·rename_i t x hop; exact (h2 t x hop).elim
   ·rename_i t len parts hop; exact (h3 t len parts hop).elim
   ·rename_i t x v hop; exact (h4 t x v hop).elim
   ·rename_i c hop; exact (h5 c hop).elim
   ·exact this
 unfold aC at h;split at h
 ·rename_i e he;unfold seff at he;unfold stepO;split at he
  ·rename_i hg;simp only [hg];exact body e he h
  ·rename_i j want hg;simp only [hg];split at he
   ·rename_i t ht;simp only [ht];split at he
    ·rename_i b hb;simp only [hb];split at he
     ·rename_i hbw;rw [if_pos hbw];exact body e he h
     ·rename_i hbw;rw [if_neg hbw];simp only [Option.some.injEq] at he;subst he;simpa [SE.apply] using h
    ·rename_i vs hb;simp only [hb];simp only [Option.some.injEq] at he;subst he;simpa [SE.apply] using h
    ·simp at he
   ·simp at he
 ·simp at h
def Live (P:Program) (st:St):Prop:=∃ X a w,Inv X st a w
theorem At {o:Oper} {K:Act->World->Prop} (h:o.wp P a w K (fun _ _ _=>False)):∃ a' w',K a' w':=by
 unfold Oper.wp at h;generalize (execOp a.eval o).run P w=r at h;cases r with
 | ok n w'=>
  cases n<;>simp only [Oper.upon] at h<;>first|exact ⟨_,_,h⟩|exact h.elim|skip
  ·obtain ⟨e,w'',fr,h,_⟩:=h [];cases e with
   | returned v=>exact ⟨_,_,h⟩
   | panicked c=>exact h.elim
   | outgrown=>obtain ⟨_,_,h⟩:=h; exact h.elim
  ·obtain ⟨v,w'',h,_⟩:=h (default:Frame) [];exact ⟨_,_,h⟩
 | halt x w'=>cases x<;>simp only [Oper.upon] at h
theorem Live.step {E:Env} (hT:TOk P E) (hG:GOk P E) (H:Live P st) {ops:Array Oper} {i:Nat} {o:Oper} (ho:ops[i]?=some o) {st':St} (h:stepO E ops o st=some st'):Live P st':=by
 obtain ⟨X,a,w,H⟩:=H;have:=ma hT hG H ho h (K:=fun a' w'=>Inv X st' a' w') (Q:=fun _ _ _=>False) (fun _ _ h=>h);unfold wpOp at this;rw [ho] at this;simp only at this;split at this
 ·rcases this with h|⟨_,_,_,h⟩
  ·obtain ⟨a',w',h⟩:=At h;exact ⟨X,a',w',h⟩
  ·exact h.elim
 ·exact ⟨X,_,_,this⟩
def Alike (ts:List Tmp) (st st2:St):Prop:=
 ∀ t∈ts,st2.tmps[t]?=st.tmps[t]?/\∀ c,st.tmps[t]?=some c->∀ k v n p,occ k c v->v.place=some (n,p)->st2.roots n=st.roots n
def tmpsOf (xs:List Operand):List Tmp:=xs.filterMap fun|.tmp t=>some t|_=>none
def AlikeC (st st2:St) (c:C):Prop:=∀ k v n p,occ k c v->v.place=some (n,p)->st2.roots n=st.roots n
theorem Alike.ev {ts:List Tmp} {st st2:St} (h:Alike ts st st2) {x:Operand} (hx:∀ t,x=.tmp t->t∈ts):st2.ev x=st.ev x/\AlikeC st st2 (st.ev x):=by
 cases x with
 | tmp t=>
  obtain ⟨h1,h2⟩:=h t (hx t rfl);refine ⟨by simp [St.ev,h1],?_⟩;simp only [St.ev];cases hc:st.tmps[t]? with
  | none=>intro k v n p ho _; cases k<;>exact ho.elim
  | some c=>exact h2 c hc
 | const v=>
  refine ⟨rfl,?_⟩;intro k v' n p ho _;simp only [St.ev] at ho;cases v with
  | agg cs=>
   cases k with
   | zero=>exact ho.elim
   | succ k=>
    obtain ⟨c',hm,ho⟩:=ho;simp only [List.mem_map] at hm;obtain ⟨v,_,rfl⟩:=hm;cases k<;>exact ho.elim
  | _=>cases k<;>exact ho.elim
 | func f=>
  refine ⟨rfl,?_⟩;intro k v' n p ho _;cases k with
  | zero=>exact ho.elim
  | succ k=>obtain ⟨c',hm,ho⟩:=ho; simp at hm
 | global g=>exact ⟨rfl,fun k v n p ho _=>by cases k<;>exact ho.elim⟩
theorem AlikeC.node {st st2:St} {c:C} (h:AlikeC st st2 c) {n:Nat} {p:Path} (hp:c.place=some (n,p)) (q:Path):st2.node n q=st.node n q:=by
 have ho:occ 1 c c:=by cases c<;>simp [C.place] at hp<;>rfl
 simp [St.node,h 1 c n p ho hp]
theorem zu {st st2:St} {ti:TI} {x:C} (h:AlikeC st st2 x):loadC st2 ti x=loadC st ti x:=by
 cases x with
 | pref n p i j=>simp only [loadC,h.node (n:=n) (p:=p) rfl p]
 | _=>rfl
theorem yJ {st st2:St} {x:C} (h:AlikeC st st2 x):rowsC st2 x=rowsC st x:=by
 cases x with
 | pal n p lo len cap=>simp only [rowsC,h.node (n:=n) (p:=p) rfl p]
 | _=>unfold rowsC; first|rfl|(split<;>simp_all)
theorem tD {st st2:St} {ti:TI} {x ix:C} (h:AlikeC st st2 x):fq st2 ti x ix=fq st ti x ix:=by
 unfold fq;cases x with
 | pal n p lo len cap=>cases ti.kind<;>first|rfl|simp only [h.node (n:=n) (p:=p) rfl p]
 | _=>cases ti.kind<;>rfl
theorem yE {st st2:St} {ti:TI} {x:C} {lo hi mx:Option C} (h:AlikeC st st2 x):sliceC st2 ti x lo hi mx=sliceC st ti x lo hi mx:=by
 unfold sliceC;cases x with
 | pal n p lo0 len cap=>cases ti.kind<;>first|rfl|simp only [h.node (n:=n) (p:=p) rfl p]
 | val v=>cases ti.kind<;>cases v<;>first|rfl|(rename_i a l k; cases a<;>first|rfl|(cases l<;>first|rfl|(cases k<;>rfl)))
 | _=>cases ti.kind<;>rfl
theorem pD {st st2:St} {c:C} (h:AlikeC st st2 c):snap0 st2 c=snap0 st c:=by
 cases c with
 | pal n p lo len cap=>simp only [snap0,h.node (n:=n) (p:=p) rfl p]
 | pref n p i j=>simp only [snap0,h.node (n:=n) (p:=p) rfl p]
 | _=>rfl
theorem sS {st st2:St}:∀ {cs:List C},(∀ c∈cs,AlikeC st st2 c)->snapL st2 cs=snapL st cs:=by
 intro cs
 induction cs with
 | nil=>intro _; rfl
 | cons c cs ih=>intro h; simp only [snapL,pD (h c (by simp)),ih (fun c hc=>h c (by simp [hc]))]
theorem zC {st st2:St} {c:C} (h:AlikeC st st2 c):snap st2 c=snap st c:=by
 cases c with
 | agg cs=>simp only [snap,sS (cs:=cs) (fun c hc k v n p ho hp=>h (k+1) v n p ⟨c,hc,ho⟩ hp)]
 | clo f cs=>simp only [snap,sS (cs:=cs) (fun c hc k v n p ho hp=>h (k+1) v n p ⟨c,hc,ho⟩ hp)]
 | pal n p lo len cap=>exact pD h
 | pref n p i j=>exact pD h
 | _=>rfl
theorem yo {st st2:St}:∀ {cs:List C},(∀ c∈cs,AlikeC st st2 c)->snaps st2 cs=snaps st cs:=by
 intro cs
 induction cs with
 | nil=>intro _; rfl
 | cons c cs ih=>intro h; simp only [snaps,zC (h c (by simp)),ih (fun c hc=>h c (by simp [hc]))]
theorem map_ev {st st2:St} {xs:List Operand} {ts:List Tmp} (h:Alike ts st st2) (hx:∀ x∈xs,∀ t,x=.tmp t->t∈ts):xs.map st2.ev=xs.map st.ev:=by
 apply List.map_congr_left;intro x hm;exact (h.ev (hx x hm)).1
theorem uR {E:Env} {op:Op} {ts:List Tmp} {st st2:St} (h:Alike ts st st2) (hx:∀ x∈op.operands,∀ t,x=.tmp t->t∈ts):qop E st2 op=qop E st op:=by
 have e1:∀ x∈op.operands,st2.ev x=st.ev x:=fun x hm=>(h.ev (hx x hm)).1;have e2:∀ x∈op.operands,AlikeC st st2 (st.ev x):=fun x hm=>(h.ev (hx x hm)).2;cases op with
 | move x=>simp only [qop]; rw [e1 x (by simp [Op.operands])]
 | assign x=>simp only [qop]; rw [e1 x (by simp [Op.operands])]
 | pick c x y=>simp only [qop]; rw [e1 c (by simp [Op.operands]),e1 x (by simp [Op.operands]),e1 y (by simp [Op.operands])]
 | load t x=>simp only [qop]; rw [e1 x (by simp [Op.operands])]; simp only [zu (e2 x (by simp [Op.operands]))]
 | fieldAddr s x f=>simp only [qop]; rw [e1 x (by simp [Op.operands])]
 | field s x f=>simp only [qop]; rw [e1 x (by simp [Op.operands])]
 | indexAddr t x ix=>simp only [qop]; rw [e1 x (by simp [Op.operands]),e1 ix (by simp [Op.operands])]; simp only [tD (e2 x (by simp [Op.operands]))]
 | index t x ix=>simp only [qop]; rw [e1 x (by simp [Op.operands]),e1 ix (by simp [Op.operands])]
 | binOp op t x y yt=>simp only [qop]; rw [e1 x (by simp [Op.operands]),e1 y (by simp [Op.operands])]
 | unOp op t x=>simp only [qop]; rw [e1 x (by simp [Op.operands])]
 | convert src dst x=>simp only [qop]; rw [e1 x (by simp [Op.operands])]; simp only [strQ,yJ (e2 x (by simp [Op.operands]))]
 | extract x i=>simp only [qop]; rw [e1 x (by simp [Op.operands])]
 | slice t x lo hi mx=>
  have o:∀ (y:Option Operand),(∀ z,y=some z->z∈(Op.slice t x lo hi mx).operands)->y.map st2.ev=y.map st.ev:=by
   intro y hy;cases y with
   | none=>rfl
   | some z=>simp [e1 z (hy z rfl)]
  simp only [qop];rw [e1 x (by simp [Op.operands]),o lo (by rintro z rfl; simp [Op.operands]),o hi (by rintro z rfl; simp [Op.operands]),o mx (by rintro z rfl; simp [Op.operands])];simp only [yE (e2 x (by simp [Op.operands]))]
 | makeFunc fn first caps=>
  cases fn with
  | func f=>simp only [qop]; rw [map_ev h (xs:=caps.toList) (fun x hm=>hx x (by simp [Op.operands]; right; simpa using hm)),map_ev h (xs:=first.toList) (fun x hm=>hx x (by simp [Op.operands]; left; simpa using hm))]
  | _=>rfl
 | nilCheck x=>simp only [qop]; rw [e1 x (by simp [Op.operands])]
 | build t parts=>
  simp only [qop];have:(parts.toList.map fun x=>(x.1,st2.ev x.2))=parts.toList.map fun x=>(x.1,st.ev x.2):=by
   apply List.map_congr_left;intro x hm;rw [e1 x.2 (by simp only [Op.operands,List.mem_toArray,List.mem_map]; exact ⟨x,hm,rfl⟩)]
  rw [this]
 | call c=>
  obtain ⟨callee,args,argTypes⟩:=c;cases callee with
  | builtin b=>
   simp only [qop];rw [map_ev h (xs:=args.toList) (fun x hm=>hx x (by simp [Op.operands,Call.operands]; simpa using hm))]
  | _=>rfl
 | _=>rfl
theorem wK {c:Call} {ts:List Tmp} {st st2:St} (h:Alike ts st st2) (hx:∀ x∈c.operands,∀ t,x=.tmp t->t∈ts):callTo st2 c=callTo st c/\∀ f args,callTo st c=some (f,args)->∀ y∈args,AlikeC st st2 y:=by
 obtain ⟨callee,cargs,ctys⟩:=c;cases callee with
 | value x=>
  have hx0:=h.ev (hx x (by simp [Call.operands]));have hargs:=map_ev h (xs:=cargs.toList) (fun x hm=>hx x (by simp [Call.operands]; right; simpa using hm));refine ⟨by simp only [callTo,hx0.1,hargs],?_⟩;intro f args hc y hy;simp only [callTo] at hc;split at hc
  ·rename_i f' caps hev;simp only [Option.some.injEq,Prod.mk.injEq] at hc;obtain ⟨rfl,rfl⟩:=hc;have hy:y∈cargs.toList.map st.ev∨y∈caps:=by
    unfold cloA at hy;split at hy
    ·exact List.mem_append.1 hy
    ·exact (List.mem_append.1 hy).symm
   rcases hy with hy|hy
   ·simp only [List.mem_map] at hy;obtain ⟨z,hz,rfl⟩:=hy;exact (h.ev (hx z (by simp [Call.operands]; right; simpa using hz))).2
   ·intro k v n p ho hp;refine hx0.2 (k+1) v n p ?_ hp;rw [hev];exact ⟨y,hy,ho⟩
  ·simp at hc
 | invoke _ _=>exact ⟨rfl,by simp [callTo]⟩
 | builtin _=>exact ⟨rfl,by simp [callTo]⟩
theorem wZ {E:Env} {o:Oper} {ts:List Tmp} {st st2:St} (h:Alike ts st st2) (hx:∀ x∈o.op.operands,∀ t,x=.tmp t->t∈ts):bodySE E o st2=bodySE E o st:=by
 unfold bodySE;split
 ·rfl
 ·rename_i t x hop;rw [(h.ev (hx x (by simp [hop,Op.operands]))).1]
 ·rename_i t len parts hop;have:(parts.toList.map fun x=>(x.1,st2.ev x.2))=parts.toList.map fun x=>(x.1,st.ev x.2):=by
   apply List.map_congr_left;intro x hm;rw [(h.ev (hx x.2 (by simp only [hop,Op.operands,List.mem_toArray,List.mem_map]; exact ⟨x,hm,rfl⟩))).1]
  rw [this]
 ·rename_i t x v hop;unfold oB;cases x with
  | tmp n=>
   have a1:=(h.ev (hx (.tmp n) (by simp [hop,Op.operands]))).1;have a2:=(h.ev (hx v (by simp [hop,Op.operands]))).1;cases o.dst with
   | some d=>rfl
   | none=>cases E.T t with
    | none=>rfl
    | some ti=>simp only [a1,a2]
  | _=>cases o.dst<;>cases E.T t<;>rfl
 ·rename_i c hop;have hq:=uR (E:=E) (op:=.call c) h (by rw [<-hop]; exact hx);obtain ⟨hc1,hc2⟩:=wK (c:=c) h (by intro x hm; exact hx x (by simp only [hop,Op.operands]; exact hm));have hcall:callSE E o c st2=callSE E o c st:=by
   unfold callSE;rw [hc1];split
   ·rename_i d f args hd hct;rw [yo (hc2 f args hct)]
   ·rfl
  split
  ·rfl
  ·rw [hq]
  ·exact hcall
 ·rename_i h1 h2 h3 h4 h5;rw [uR (E:=E) h hx]
end
end Go.Abs

namespace Go.Abs
def Same (ts:List Tmp) (a a':Act):Prop:=∀ t∈ts,a'.tmps[t]?=a.tmps[t]?
theorem Same.refl (ts:List Tmp) (a:Act):Same ts a a:=fun _ _=>rfl
theorem Same.trans {ts:List Tmp} {a b c:Act} (h:Same ts a b) (h':Same ts b c):Same ts a c:=fun t ht=>(h' t ht).trans (h t ht)
def Kp (ts:List Tmp) (a:Act) (Q:Exit->Act->World->Prop) (e:Exit) (a':Act) (w':World):Prop:=Q e a' w'/\(e=.outgrown∨Same ts a a')
def keepO (ts:List Tmp) (o:Oper):Bool:=match o.dst with
 | some d=>!ts.contains d
 | none=>true
def keepC (ts:List Tmp):Code->Bool
 | .region _ ops _=>ops.toList.all (keepO ts)
 | .seq x y=>keepC ts x && keepC ts y
 | .cond _ x y=>keepC ts x && keepC ts y
 | .block _ c=>keepC ts c
 | .loop c=>keepC ts c
 | .scope c=>keepC ts c
 | _=>true
theorem rJ:∀ c:Code,keepC [] c=true:=by
 intro c
 induction c with
 | region id ops d=>simp only [keepC,List.all_eq_true]; intro o _; unfold keepO; split<;>rfl
 | seq x y hx hy=>simp [keepC,hx,hy]
 | cond c x y hx hy=>simp [keepC,hx,hy]
 | block id c h=>simpa [keepC] using h
 | loop c h=>simpa [keepC] using h
 | scope c h=>simpa [keepC] using h
 | _=>rfl
theorem oU {ts:List Tmp} {o:Oper} (ho:keepO ts o=true) (a:Act) (v:Value):Same ts a (a.put o.dst v):=by
 intro t ht;unfold keepO at ho;unfold Act.put;split at ho
 ·rename_i d hd;rw [hd];have hne:d≠t:=by
   rintro rfl;simp only [Bool.not_eq_true',List.contains_eq_mem,decide_eq_false_iff_not] at ho;exact ho ht
  simp [Array.getElem?_setIfInBounds,hne]
 ·rename_i hd; rw [hd]
theorem LetsOut.keep {ts:List Tmp} {a:Act} {Q:Exit->Act->World->Prop} (h:LetsOut Q):LetsOut (Kp ts a Q):=by
 obtain ⟨a',w',h⟩:=h;exact ⟨a',w',h,.inl rfl⟩
section
variable {P:Program} {ops:Array Oper} {Q:Exit->Act->World->Prop} {ts:List Tmp}
theorem tT {o:Oper} (ho:keepO ts o=true) {a0 a:Act} {w:World} (h0:Same ts a0 a) {K K':Act->World->Prop} (hK:∀ a' w',K a' w'->Same ts a0 a'->K' a' w') (h:o.wp P a w K Q):o.wp P a w K' (Kp ts a0 Q):=by
 unfold Oper.wp at *;generalize (execOp a.eval o).run P w=r at *;have hp:∀ v,Same ts a0 (a.put o.dst v):=fun v=>h0.trans (oU ho a v);cases r with
 | ok n w'=>
  cases n<;>simp only [Oper.upon] at h ⊢
  case value v=>exact hK _ _ h (hp v)
  case skip=>exact hK _ _ h (hp undef)
  case defer d=>
   refine hK _ _ h (h0.trans ?_);have:=oU ho ({ a with defers:=d::a.defers }) undef;exact this
  case enter f args=>
   refine Calls.mono h (fun e w'' he=>?_);cases e with
   | returned v=>exact hK _ _ he (hp v)
   | panicked c=>exact ⟨he,.inr h0⟩
   | outgrown=>exact LetsOut.keep he
  case row row args=>exact Rows.mono h (fun v _ he=>hK _ _ he (hp v))
  all_goals exact h
 | halt x w'=>
  cases x<;>simp only [Oper.upon] at h ⊢
  case panic v=>exact ⟨h,.inr h0⟩
  all_goals exact h
theorem me (hk:ops.toList.all (keepO ts)=true) {i:Nat} {o:Oper} (ho:ops[i]?=some o):keepO ts o=true:=by
 rw [List.all_eq_true] at hk;exact hk o (by have:=Array.mem_of_getElem? ho; simpa using this)
theorem tM (hk:ops.toList.all (keepO ts)=true) {a0:Act}:∀ (l:List Nat) (a:Act) (w:World),Same ts a0 a->wpOps P ops Q l a w->wpOps P ops (Kp ts a0 Q) l a w:=by
 intro l
 induction l with
 | nil=>intro a w h0 h; exact ⟨h,.inr h0⟩
 | cons i l ih=>
  intro a w h0 h;rw [wpOps_cons] at h ⊢;unfold wpOp at h ⊢;split
  ·rename_i he; rw [he] at h; exact ih _ _ h0 h
  ·rename_i o ho;rw [ho] at h;simp only at h;split
   ·rename_i hw;rw [if_pos hw] at h;rcases h with h|h
    ·exact .inl (tT (me hk ho) h0 (fun a' w' hk' hs=>ih _ _ hs hk') h)
    ·exact .inr ⟨h.1,LetsOut.keep h.2⟩
   ·rename_i hw;rw [if_neg hw] at h;exact ih _ _ (h0.trans (oU (me hk ho) a undef)) h
theorem lB {md:Region.Mode} (hk:ops.toList.all (keepO ts)=true) {a0:Act}:∀ (fuel:Nat) (listed:Array Bool) (a:Act) (w:World),Same ts a0 a->wpAny P md ops Q fuel listed a w->wpAny P md ops (Kp ts a0 Q) fuel listed a w:=by
 intro fuel
 induction fuel with
 | zero=>intro listed a w h0 h; exact ⟨h.1,h.2,.inr h0⟩
 | succ fuel ih=>
  intro listed a w h0 h;refine ⟨fun hr=>⟨h.1 hr,.inr h0⟩,fun i hi=>?_⟩;have h2:=h.2 i hi;unfold wpOp at h2 ⊢;split
  ·rename_i he; rw [he] at h2; exact ih _ _ _ h0 h2
  ·rename_i o ho;rw [ho] at h2;simp only at h2;split
   ·rename_i hw;rw [if_pos hw] at h2;rcases h2 with h2|h2
    ·exact .inl (tT (me hk ho) h0 (fun a' w' hk' hs=>ih _ _ _ hs hk') h2)
    ·exact .inr ⟨h2.1,LetsOut.keep h2.2⟩
   ·rename_i hw;rw [if_neg hw] at h2;exact ih _ _ _ (h0.trans (oU (me hk ho) a undef)) h2
end
end Go.Abs

namespace Go.Abs
def eT (g:C->C):Prop:=(∀ v,g (.val v)=.val v)/\(∀ vs:List Value,g (.agg (vs.map .val))=.agg (vs.map .val))/\g .dead=.dead/\∀ f,g (.clo f [])=.clo f []
theorem eT.id:eT id:=⟨fun _=>rfl,fun _=>rfl,rfl,fun _=>rfl⟩
theorem eT.poi (f:Nat->Path->Bool):eT (poi f):=by
 refine ⟨fun _=>rfl,?_,rfl,fun _=>rfl⟩;intro vs;have:(C.agg (vs.map .val)).ment f 3=false:=by
  simp only [C.ment,List.any_eq_false,List.mem_map];rintro c ⟨v,_,rfl⟩;simp [C.ment]
 simp [Go.Abs.poi,this]
theorem eT.comp {g h:C->C} (hg:eT g) (hh:eT h):eT (g ∘ h):=
 ⟨fun v=>by simp [hh.1,hg.1],fun vs=>by simp [hh.2.1,hg.2.1],by simp [hh.2.2.1,hg.2.2.1],fun f=>by simp [hh.2.2.2,hg.2.2.2]⟩
def Unif {β:Type} (R:Nat->C) (f:St->Option (St × β)):Prop:=(∀ ts,f ⟨ts,R⟩=none)∨∃ g R' b,eT g/\∀ ts,f ⟨ts,R⟩=some (⟨ts.map g,R'⟩,b)
theorem Unif.none {β:Type} {R:Nat->C} {f:St->Option (St × β)} (h:∀ ts,f ⟨ts,R⟩=none):Unif R f:=.inl h
theorem Unif.same {β:Type} {R:Nat->C} {f:St->Option (St × β)} (b:β) (h:∀ ts,f ⟨ts,R⟩=some (⟨ts,R⟩,b)):Unif R f:=.inr ⟨id,R,b,.id,fun ts=>by rw [h]; simp⟩
theorem Unif.step {β γ:Type} {R:Nat->C} {f:St->Option (St × β)} {k:β->St->Option (St × γ)} {F:St->Option (St × γ)} (h:Unif R f) (hk:∀ b R',Unif R' (k b))
  (hF:∀ ts,F ⟨ts,R⟩=match f ⟨ts,R⟩ with|some (s,b)=>k b s|Option.none=>Option.none):Unif R F:=by
 rcases h with h|⟨g,R',b,hg,h⟩
 ·exact .inl fun ts=>by rw [hF,h]
 ·rcases hk b R' with h2|⟨g2,R2,c,hg2,h2⟩
  ·exact .inl fun ts=>by rw [hF,h]; exact h2 _
  ·exact .inr ⟨g2 ∘ g,R2,c,hg2.comp hg,fun ts=>by rw [hF,h]; simp only; rw [h2]; simp⟩
def one (f:St->Option St) (s:St):Option (St × Unit):=(f s).map fun s=>(s,())
theorem uP (n:Nat) (q:Path) (i:Nat):∀ (cs:List C) (j:Nat) (R:Nat->C),Unif R (one (bS n q i j cs))
 | [],j,R=>.same () fun ts=>rfl
 | c::cs,j,R=>by
  cases hn:(R n).at q with
  | none=>exact .none fun ts=>by simp [one,bS,St.node,hn]
  | some nd=>
   by_cases hc:∃ nl es cap rows row,nd=.sl true nl es cap rows/\rows[i]?=some row/\(j < row.length/\n < H0)
   ·obtain ⟨nl,es,cap,rows,row,rfl,h1,h2⟩:=hc;have key:∃ g,eT g/\∀ ts,poiAt n q i j row ts=ts.map g:=by
     unfold poiAt;split
     ·rename_i c0 _;by_cases hl:leafC c0=true
      ·exact ⟨id,.id,fun ts=>by simp [hl]⟩
      ·exact ⟨_,.poi _,fun ts=>by simp only [hl]; rfl⟩
     ·exact ⟨id,.id,fun ts=>by simp⟩
    obtain ⟨g,hg,hgt⟩:=key;rcases uP n q i cs (j+1) (upd R n ((R n).turn (fun _=>c.frz) (q++[(i,j)]))) with h|⟨g2,R2,b,hg2,h⟩
    ·refine .none fun ts=>?_;have:=h (ts.map g);simpa [one,bS,St.node,hn,h1,h2,hgt] using this
    ·refine .inr ⟨g2 ∘ g,R2,b,hg2.comp hg,fun ts=>?_⟩;have:=h (ts.map g);simpa [one,bS,St.node,hn,h1,h2,hgt] using this
   ·refine .none fun ts=>?_;simp only [one,bS,St.node,hn];split
    ·rename_i nl es cap rows he;split
     ·rename_i row hr;split
      ·rename_i hh;simp only [Option.some.injEq] at he;exact (hc ⟨nl,es,cap,rows,row,he,hr,hh⟩).elim
      ·rfl
     ·rfl
    ·rfl
theorem vw (n:Nat) (q:Path) (i:Nat):∀ (k j h:Nat) (R:Nat->C),Unif R (one (dU n q i j k h))
 | 0,j,h,R=>.same () fun ts=>by cases h<;>rfl
 | k+1,j,h,R=>by
  cases hn:(R n).at q with
  | none=>exact .none fun ts=>by simp [one,dU,St.node,hn]
  | some nd=>
   by_cases hc:∃ nl es cap rows row,nd=.sl true nl es cap rows/\rows[i]?=some row/\(j < row.length/\n < H0)
   ·obtain ⟨nl,es,cap,rows,row,rfl,h1,h2⟩:=hc;rcases vw n q i k (j+1) (h+1) (upd (upd R n ((R n).turn (fun _=>R h) (q++[(i,j)]))) h .dead) with h'|⟨g2,R2,b,hg2,h'⟩
    ·refine .none fun ts=>?_;have:=h' (ts.map (poi (fun n' p'=>n' == h || (n' == n && preJ (q++[(i,j)]) p'))));simpa [one,dU,St.node,hn,h1,h2,St.plug] using this
    ·refine .inr ⟨g2 ∘ poi (fun n' p'=>n' == h || (n' == n && preJ (q++[(i,j)]) p')),R2,b,hg2.comp (.poi _),fun ts=>?_⟩;have:=h' (ts.map (poi (fun n' p'=>n' == h || (n' == n && preJ (q++[(i,j)]) p'))));simpa [one,dU,St.node,hn,h1,h2,St.plug] using this
   ·refine .none fun ts=>?_;simp only [one,dU,St.node,hn];split
    ·rename_i nl es cap rows he;split
     ·rename_i row hr;split
      ·rename_i hh;simp only [Option.some.injEq] at he;exact (hc ⟨nl,es,cap,rows,row,he,hr,hh⟩).elim
      ·rfl
     ·rfl
    ·rfl
theorem ze (h:Nat) (c:C) (R:Nat->C):Unif R (prep1 h c):=by
 by_cases hd:isDead (R h)=true
 case neg=>exact .none fun ts=>by simp [prep1,hd]
 by_cases hp:∃ n p lo len cap,c=.pal n p lo len cap
 ·obtain ⟨n,p,lo,len,cap,rfl⟩:=hp;cases hn:(R n).at p with
  | none=>exact .none fun ts=>by simp [prep1,hd,St.node,hn]
  | some nd=>
   by_cases hc:∃ nl es cap' rows,nd=.sl true nl es cap' rows/\n < H0
   ·obtain ⟨nl,es,cap',rows,rfl,hlt⟩:=hc;refine .inr ⟨poi (fun n' p'=>n' == n && preJ p p'),(St.move ⟨[],R⟩ n p lo len cap h es rows).roots,fun n' p'=>n' == n && preJ p p',.poi _,fun ts=>?_⟩;simp [prep1,hd,St.node,hn,hlt,St.move]
   ·refine .none fun ts=>?_;simp only [prep1,hd,if_true,St.node,hn];split
    ·rename_i nl es cap' rows he;split
     ·rename_i hlt;simp only [Option.some.injEq] at he;exact (hc ⟨nl,es,cap',rows,he,hlt⟩).elim
     ·rfl
    ·rfl
 ·have e:∀ ts,prep1 h c ⟨ts,R⟩=if c.cellOk then some (⟨ts,upd R h c.frz⟩,fun _ _=>false) else none:=by
   intro ts;cases c with
   | pal n p lo len cap=>exact (hp ⟨n,p,lo,len,cap,rfl⟩).elim
   | _=>simp [prep1,hd]
  cases hok:c.cellOk with
  | true=>exact .inr ⟨id,upd R h c.frz,fun _ _=>false,.id,fun ts=>by rw [e,hok]; simp⟩
  | false=>exact .none fun ts=>by rw [e,hok]; simp
theorem si:∀ (k h:Nat) (cs:List C) (keep:C) (R:Nat->C),Unif R (bR k h cs keep)
 | 0,h,cs,keep,R=>.same keep fun ts=>by cases cs<;>rfl
 | k+1,h,[],keep,R=>.same keep fun ts=>rfl
 | k+1,h,c::cs,keep,R=>by
  refine Unif.step (ze h c R) (k:=fun f=>bR k (h+1) (cs.map (poi f)) (poi f keep)) (fun f R'=>si k (h+1) _ _ R') (fun ts=>?_);simp only [bR];cases prep1 h c ⟨ts,R⟩ with
  | none=>rfl
  | some x=>rfl
theorem zS (ti:TI) (x v:C) (R:Nat->C):Unif R (one (storeX ti x v)):=by
 cases hu:gm ti v with
 | none=>exact .none fun ts=>by simp [one,storeX,hu]
 | some cells=>
  by_cases hx:∃ n q i j,x=.pref n q i j
  ·obtain ⟨n,q,i,j,rfl⟩:=hx;by_cases hok:(cells.all C.cellOk)=true
   ·by_cases hd:isDead (R H0)=true
    ·rcases uP n q i cells j R with h|⟨g,R2,b,hg,h⟩
     ·exact .none fun ts=>by have:=h ts; simpa [one,storeX,hu,hok,hd] using this
     ·exact .inr ⟨g,R2,b,hg,fun ts=>by have:=h ts; simpa [one,storeX,hu,hok,hd] using this⟩
    ·exact .none fun ts=>by simp [one,storeX,hu,hok,hd]
   ·refine Unif.step (si cells.length H0 cells (.pref n q i j) R) (k:=fun c=>match c with|.pref n q i j=>one (dU n q i j cells.length H0)|_=>fun _=>none) ?_ (fun ts=>?_)
    ·intro c R';cases c with
     | pref n q i j=>exact vw n q i _ j _ R'
     | _=>exact .none fun _=>rfl
    ·simp only [one,storeX,hu,hok,if_false,Bool.false_eq_true];cases bR cells.length H0 cells (.pref n q i j) ⟨ts,R⟩ with
     | none=>rfl
     | some y=>
      obtain ⟨s,c⟩:=y;cases c<;>rfl
  ·refine .none fun ts=>?_;cases x with
   | pref n q i j=>exact (hx ⟨n,q,i,j,rfl⟩).elim
   | _=>simp [one,storeX,hu]
theorem zi {ti:TI} {x v c:C} {d:Nat} {st s2:St} (y:Operand) (hc:∀ g R',eT g->St.ev ⟨st.tmps.map g,R'⟩ y=g (st.ev y)) :
  storeX ti x v (st.put (some d) (st.ev y))=some s2↔∃ s1,storeX ti x v st=some s1/\s2=s1.put (some d) (s1.ev y):=by
 obtain ⟨ts,R⟩:=st;rcases zS ti x v R with h|⟨g,R',b,hg,h⟩
 ·have h1:∀ ts,storeX ti x v ⟨ts,R⟩=none:=fun ts=>by have:=h ts; simpa [one] using this
  simp [St.put,h1]
 ·have h1:∀ ts,storeX ti x v ⟨ts,R⟩=some ⟨ts.map g,R'⟩:=fun ts=>by have:=h ts; simpa [one] using this
  have:=hc g R' hg;simp only [St.put,h1,Option.some.injEq,exists_eq_left',List.map_set];constructor
  ·rintro rfl; rw [this]
  ·rintro rfl; rw [this]
theorem ev_map (ts:List C) (R R':Nat->C) (y:Operand) (g:C->C) (hg:eT g):St.ev ⟨ts.map g,R'⟩ y=g (St.ev ⟨ts,R⟩ y):=by
 cases y with
 | tmp t=>
  simp only [St.ev,List.getElem?_map];cases ts[t]? with
  | none=>simp [hg.2.2.1]
  | some c=>rfl
 | const v=>
  simp only [St.ev];cases v with
  | agg cs=>exact (hg.2.1 cs.toList).symm
  | _=>exact (hg.1 _).symm
 | func f=>exact (hg.2.2.2 (cloN f)).symm
 | global n=>exact hg.2.2.1.symm
end Go.Abs

namespace Go.Abs
def agree (V:Nat->Bool) (R R2:Nat->C):Prop:=∀ n,V n=true->R2 n=R n
def mixR (V:Nat->Bool) (R' R2:Nat->C):Nat->C:=fun n=>if V n=true then R' n else R2 n
theorem iW {V:Nat->Bool} {R' R2:Nat->C}:agree V R' (mixR V R' R2):=fun n h=>by simp [mixR,h]
theorem oD {V:Nat->Bool} {R' R'' R2:Nat->C}:mixR V R'' (mixR V R' R2)=mixR V R'' R2:=by funext n; simp only [mixR]; split<;>rfl
theorem tf {V:Nat->Bool} {R R2:Nat->C} (h:agree V R R2):mixR V R R2=R2:=by
 funext n
 simp only [mixR];split
 ·rename_i hv; exact (h n hv).symm
 ·rfl
theorem gO {V:Nat->Bool} {R R2:Nat->C} {n:Nat} {c:C} (hn:V n=true) (h:agree V R R2):upd R2 n c=mixR V (upd R n c) R2:=by
 funext k
 simp only [mixR,upd];by_cases hk:k=n
 ·subst hk; simp [hn]
 ·simp only [hk,if_false];split
  ·rename_i hv; exact h k hv
  ·rfl
inductive TT (hit:Nat->Path->Bool) (d:Option Nat):(List C->List C)->Prop
 | id:TT hit d id
 | poi (f:Nat->Path->Bool) (hf:∀ n p,f n p=true->hit n p=true):TT hit d (List.map (poi f))
 | set (k:Nat) (c:C) (hk:d=some k):TT hit d (fun ts=>ts.set k c)
 | comp {g h:List C->List C} (hg:TT hit d g) (hh:TT hit d h):TT hit d (fun ts=>g (h ts))
theorem rR {f g:Nat->Path->Bool} (hfg:∀ n p,f n p=true->g n p=true):∀ (k:Nat) (c:C),c.ment g k=false->c.ment f k=false:=by
 have leaf:∀ n p,g n p=false->f n p=false:=fun n p h=>by
  cases hf:f n p with
  | false=>rfl
  | true=>rw [hfg n p hf] at h; cases h
 intro k
 induction k with
 | zero=>intro c h; cases c<;>simp_all [C.ment]
 | succ k ih=>
  intro c h;cases c with
  | agg cs=>simp only [C.ment,List.any_eq_false,Bool.not_eq_true] at h ⊢; exact fun x hx=>ih x (h x hx)
  | tup cs=>simp only [C.ment,List.any_eq_false,Bool.not_eq_true] at h ⊢; exact fun x hx=>ih x (h x hx)
  | clo f cs=>simp only [C.ment,List.any_eq_false,Bool.not_eq_true] at h ⊢; exact fun x hx=>ih x (h x hx)
  | _=>simp_all [C.ment]
theorem TT.length {hit:Nat->Path->Bool} {d:Option Nat} {G:List C->List C} (h:TT hit d G):∀ ts,(G ts).length=ts.length:=by
 induction h with
 | id=>intro ts; rfl
 | poi f hf=>intro ts; simp
 | set k c hk=>intro ts; simp
 | comp hg hh ig ih=>intro ts; rw [ig,ih]
theorem TT.get {hit:Nat->Path->Bool} {d:Option Nat} {G:List C->List C} (h:TT hit d G):∀ (ts:List C) (t:Nat),d≠some t->(∀ c,ts[t]?=some c->c.ment hit 3=false)->(G ts)[t]?=ts[t]?:=by
 induction h with
 | id=>intro ts t _ _; rfl
 | poi f hf=>
  intro ts t _ hm;rw [List.getElem?_map];cases hc:ts[t]? with
  | none=>rfl
  | some c=>simp [Go.Abs.poi,rR hf 3 c (hm c hc)]
 | set k c hk=>intro ts t hd _; rw [List.getElem?_set_ne]; rintro rfl; exact hd hk
 | comp hg hh ig ih=>
  intro ts t hd hm;have h1:=ih ts t hd hm;rw [ig _ t hd (fun c hc=>hm c (by rw [<-h1]; exact hc)),h1]
theorem TT.back {hit:Nat->Path->Bool} {d:Option Nat} {G:List C->List C} (h:TT hit d G):∀ (ts:List C) (t:Nat),d≠some t->∀ c,(G ts)[t]?=some c->c≠.dead->ts[t]?=some c:=by
 induction h with
 | id=>intro ts t _ c h _; exact h
 | poi f hf=>
  intro ts t _ c h hd;rw [List.getElem?_map,Option.map_eq_some_iff] at h;obtain ⟨c0,h0,rfl⟩:=h;rcases dI f c0 with e|⟨e,_⟩
  ·exact (hd e).elim
  ·rw [e]; exact h0
 | set k c hk=>
  intro ts t hd c' h _;rw [List.getElem?_set_ne] at h
  ·exact h
  ·rintro rfl; exact hd hk
 | comp hg hh ig ih=>intro ts t hd c h hdd; exact ih ts t hd c (ig _ t hd c h hdd) hdd
theorem TT.set_comm {hit:Nat->Path->Bool} {d:Option Nat} {G:List C->List C} (h:TT hit d G):∀ (ts:List C) (t:Nat) (c:C),d≠some t->c.ment hit 3=false->G (ts.set t c)=(G ts).set t c:=by
 induction h with
 | id=>intro ts t c _ _; rfl
 | poi f hf=>intro ts t c _ hm; rw [List.map_set]; simp [Go.Abs.poi,rR hf 3 c hm]
 | set k c hk=>intro ts t c' hd _; exact List.set_comm _ _ (fun e=>hd (by rw [hk,e]))
 | comp hg hh ig ih=>intro ts t c hd hm; exact (congrArg _ (ih ts t c hd hm)).trans (ig _ t c hd hm)
def Loc {β:Type} (V:Nat->Bool) (hit:Nat->Path->Bool) (d:Option Nat) (R:Nat->C) (f:St->Option (St × β)):Prop:=
 (∀ R2 ts,agree V R R2->f ⟨ts,R2⟩=none)∨∃ G R' b,TT hit d G/\∀ R2 ts,agree V R R2->f ⟨ts,R2⟩=some (⟨G ts,mixR V R' R2⟩,b)
theorem Loc.same {β:Type} {V:Nat->Bool} {hit:Nat->Path->Bool} {d:Option Nat} {R:Nat->C} {f:St->Option (St × β)} (b:β) (h:∀ R2 ts,agree V R R2->f ⟨ts,R2⟩=some (⟨ts,R2⟩,b)):Loc V hit d R f:=
 .inr ⟨id,R,b,.id,fun R2 ts ha=>by rw [h R2 ts ha,tf ha]; rfl⟩
theorem Loc.step {β γ:Type} {V:Nat->Bool} {hit:Nat->Path->Bool} {d:Option Nat} {R:Nat->C} {f:St->Option (St × β)} {k:β->St->Option (St × γ)} {F:St->Option (St × γ)} (h:Loc V hit d R f) (hk:∀ b R',Loc V hit d R' (k b))
  (hF:∀ R2 ts,agree V R R2->F ⟨ts,R2⟩=match f ⟨ts,R2⟩ with|some (s,b)=>k b s|none=>none):Loc V hit d R F:=by
 rcases h with h|⟨G,R',b,hG,h⟩
 ·exact .inl fun R2 ts ha=>by rw [hF R2 ts ha,h R2 ts ha]
 ·rcases hk b R' with h2|⟨G2,R3,c,hG2,h2⟩
  ·exact .inl fun R2 ts ha=>by rw [hF R2 ts ha,h R2 ts ha]; exact h2 _ _ iW
  ·exact .inr ⟨fun ts=>G2 (G ts),R3,c,.comp hG2 hG,fun R2 ts ha=>by
    rw [hF R2 ts ha,h R2 ts ha];simp only;rw [h2 _ _ iW,oD]⟩
theorem wc {V:Nat->Bool} {hit:Nat->Path->Bool} {d:Option Nat} (n:Nat) (q:Path) (i:Nat) (hV:V n=true) (hh:∀ j p,preJ (q++[(i,j)]) p=true->hit n p=true):∀ (cs:List C) (j:Nat) (R:Nat->C),Loc V hit d R (one (bS n q i j cs))
 | [],j,R=>.same () fun R2 ts ha=>rfl
 | c::cs,j,R=>by
  cases hn:(R n).at q with
  | none=>exact .inl fun R2 ts ha=>by simp [one,bS,St.node,ha n hV,hn]
  | some nd=>
   by_cases hc:∃ nl es cap rows row,nd=.sl true nl es cap rows/\rows[i]?=some row/\(j < row.length/\n < H0)
   ·obtain ⟨nl,es,cap,rows,row,rfl,h1,h2⟩:=hc;have key:∃ G,TT hit d G/\∀ ts,poiAt n q i j row ts=G ts:=by
     unfold poiAt;split
     ·rename_i c0 _;by_cases hl:leafC c0=true
      ·exact ⟨id,.id,fun ts=>by simp [hl]⟩
      ·refine ⟨_,.poi (fun n' p'=>n' == n && preJ (q++[(i,j)]) p') ?_,fun ts=>by simp [hl]⟩;intro n' p' h;simp only [Bool.and_eq_true,beq_iff_eq] at h;obtain ⟨rfl,h⟩:=h;exact hh j p' h
     ·exact ⟨id,.id,fun ts=>by simp⟩
    obtain ⟨G,hG,hGt⟩:=key;have hstep:∀ R2 ts,agree V R R2->one (bS n q i j (c::cs)) ⟨ts,R2⟩=one (bS n q i (j+1) cs) ⟨G ts,mixR V (upd R n ((R n).turn (fun _=>c.frz) (q++[(i,j)]))) R2⟩:=by
     intro R2 ts ha;rw [<-gO hV ha];simp [one,bS,St.node,ha n hV,hn,h1,h2,hGt]
    rcases wc n q i hV hh cs (j+1) (upd R n ((R n).turn (fun _=>c.frz) (q++[(i,j)]))) with h|⟨G2,R3,b,hG2,h⟩
    ·exact .inl fun R2 ts ha=>by rw [hstep R2 ts ha]; exact h _ _ iW
    ·exact .inr ⟨fun ts=>G2 (G ts),R3,b,.comp hG2 hG,fun R2 ts ha=>by rw [hstep R2 ts ha,h _ _ iW,oD]⟩
   ·refine .inl fun R2 ts ha=>?_;simp only [one,bS,St.node,ha n hV,hn];split
    ·rename_i nl es cap rows he;split
     ·rename_i row hr;split
      ·rename_i hh;simp only [Option.some.injEq] at he;exact (hc ⟨nl,es,cap,rows,row,he,hr,hh⟩).elim
      ·rfl
     ·rfl
    ·rfl
theorem vY {V:Nat->Bool} {hit:Nat->Path->Bool} {d:Option Nat} (n:Nat) (q:Path) (i:Nat) (hV:V n=true) (hH:∀ h,H0<=h->V h=true) (hHh:∀ h p,H0<=h->hit h p=true) (hh:∀ j p,preJ (q++[(i,j)]) p=true->hit n p=true) :
  ∀ (k j h:Nat) (R:Nat->C),H0<=h->Loc V hit d R (one (dU n q i j k h))
 | 0,j,h,R,_=>.same () fun R2 ts ha=>by cases h<;>rfl
 | k+1,j,h,R,hge=>by
  cases hn:(R n).at q with
  | none=>exact .inl fun R2 ts ha=>by simp [one,dU,St.node,ha n hV,hn]
  | some nd=>
   by_cases hc:∃ nl es cap rows row,nd=.sl true nl es cap rows/\rows[i]?=some row/\(j < row.length/\n < H0)
   ·obtain ⟨nl,es,cap,rows,row,rfl,h1,h2⟩:=hc;have hTT:TT hit d (List.map (poi (fun n' p'=>n' == h || (n' == n && preJ (q++[(i,j)]) p')))):=by
     refine .poi _ ?_;intro n' p' e;simp only [Bool.or_eq_true,Bool.and_eq_true,beq_iff_eq] at e;rcases e with rfl|⟨rfl,e⟩
     ·exact hHh _ _ hge
     ·exact hh j p' e
    have hstep:∀ R2 ts,agree V R R2->one (dU n q i j (k+1) h) ⟨ts,R2⟩=one (dU n q i (j+1) k (h+1)) ⟨ts.map (poi (fun n' p'=>n' == h || (n' == n && preJ (q++[(i,j)]) p'))),mixR V (upd (upd R n ((R n).turn (fun _=>R h) (q++[(i,j)]))) h .dead) R2⟩:=by
     intro R2 ts ha;have e1:mixR V (upd (upd R n ((R n).turn (fun _=>R h) (q++[(i,j)]))) h .dead) R2=upd (upd R2 n ((R n).turn (fun _=>R h) (q++[(i,j)]))) h .dead:=by
      rw [gO hV ha,gO (hH h hge) iW,oD]
     rw [e1];simp [one,dU,St.node,ha n hV,ha h (hH h hge),hn,h1,h2,St.plug]
    rcases vY n q i hV hH hHh hh k (j+1) (h+1) (upd (upd R n ((R n).turn (fun _=>R h) (q++[(i,j)]))) h .dead) (by omega) with h'|⟨G2,R3,b,hG2,h'⟩
    ·exact .inl fun R2 ts ha=>by rw [hstep R2 ts ha]; exact h' _ _ iW
    ·exact .inr ⟨fun ts=>G2 (ts.map _),R3,b,.comp hG2 hTT,fun R2 ts ha=>by rw [hstep R2 ts ha,h' _ _ iW,oD]⟩
   ·refine .inl fun R2 ts ha=>?_;simp only [one,dU,St.node,ha n hV,hn];split
    ·rename_i nl es cap rows he;split
     ·rename_i row hr;split
      ·rename_i hh;simp only [Option.some.injEq] at he;exact (hc ⟨nl,es,cap,rows,row,he,hr,hh⟩).elim
      ·rfl
     ·rfl
    ·rfl
def palIn (V:Nat->Bool) (hit:Nat->Path->Bool) (c:C):Prop:=∀ n p lo len cap,c=.pal n p lo len cap->V n=true/\∀ p',preJ p p'=true->hit n p'=true
theorem Ag {V:Nat->Bool} {hit:Nat->Path->Bool} {d:Option Nat} (h:Nat) (c:C) (R:Nat->C) (hV:V h=true) (hc0:palIn V hit c):Loc V hit d R (prep1 h c):=by
 by_cases hd:isDead (R h)=true
 case neg=>exact .inl fun R2 ts ha=>by simp [prep1,ha h hV,hd]
 by_cases hp:∃ n p lo len cap,c=.pal n p lo len cap
 ·obtain ⟨n,p,lo,len,cap,rfl⟩:=hp;obtain ⟨hVn,hhit⟩:=hc0 n p lo len cap rfl;cases hn:(R n).at p with
  | none=>exact .inl fun R2 ts ha=>by simp [prep1,ha h hV,ha n hVn,hd,St.node,hn]
  | some nd=>
   by_cases hc:∃ nl es cap' rows,nd=.sl true nl es cap' rows/\n < H0
   ·obtain ⟨nl,es,cap',rows,rfl,hlt⟩:=hc;refine .inr ⟨List.map (poi (fun n' p'=>n' == n && preJ p p')),upd (upd R n ((R n).turn (fun _=>.dead) p)) h (.sl true none es cap ((rows.drop lo).take len)),fun n' p'=>n' == n && preJ p p',.poi _ ?_,fun R2 ts ha=>?_⟩
    ·intro n' p' e;simp only [Bool.and_eq_true,beq_iff_eq] at e;obtain ⟨rfl,e⟩:=e;exact hhit p' e
    ·have e1:mixR V (upd (upd R n ((R n).turn (fun _=>.dead) p)) h (.sl true none es cap ((rows.drop lo).take len))) R2=upd (upd R2 n ((R n).turn (fun _=>.dead) p)) h (.sl true none es cap ((rows.drop lo).take len)):=by
      rw [gO hVn ha,gO hV iW,oD]
     rw [e1];simp [prep1,ha h hV,ha n hVn,hd,St.node,hn,hlt,St.move]
   ·refine .inl fun R2 ts ha=>?_;simp only [prep1,ha h hV,hd,if_true,St.node,ha n hVn,hn];split
    ·rename_i nl es cap' rows he;split
     ·rename_i hlt;simp only [Option.some.injEq] at he;exact (hc ⟨nl,es,cap',rows,he,hlt⟩).elim
     ·rfl
    ·rfl
 ·have e:∀ R2 ts,agree V R R2->prep1 h c ⟨ts,R2⟩=if c.cellOk then some (⟨ts,upd R2 h c.frz⟩,fun _ _=>false) else none:=by
   intro R2 ts ha;cases c with
   | pal n p lo len cap=>exact (hp ⟨n,p,lo,len,cap,rfl⟩).elim
   | _=>simp [prep1,ha h hV,hd]
  cases hok:c.cellOk with
  | true=>exact .inr ⟨id,upd R h c.frz,fun _ _=>false,.id,fun R2 ts ha=>by rw [e R2 ts ha,hok,<-gO hV ha]; simp⟩
  | false=>exact .inl fun R2 ts ha=>by rw [e R2 ts ha,hok]; simp
theorem AS {V:Nat->Bool} {hit:Nat->Path->Bool} {c:C} (h:palIn V hit c) (f:Nat->Path->Bool):palIn V hit (poi f c):=by
 intro n p lo len cap e;rcases dI f c with h1|⟨h1,_⟩
 ·rw [h1] at e; cases e
 ·rw [h1] at e; exact h n p lo len cap e
theorem sU {V:Nat->Bool} {hit:Nat->Path->Bool} {d:Option Nat} (hH:∀ h,H0<=h->V h=true):∀ (k h:Nat) (cs:List C) (keep:C) (R:Nat->C),H0<=h->(∀ c∈cs,palIn V hit c)->Loc V hit d R (bR k h cs keep)
 | 0,h,cs,keep,R,_,_=>.same keep fun R2 ts ha=>by cases cs<;>rfl
 | k+1,h,[],keep,R,_,_=>.same keep fun R2 ts ha=>rfl
 | k+1,h,c::cs,keep,R,hge,hc=>by
  refine Loc.step (Ag h c R (hH h hge) (hc c (by simp))) (k:=fun f=>bR k (h+1) (cs.map (poi f)) (poi f keep)) (fun f R'=>sU hH k (h+1) _ _ R' (by omega) ?_) (fun R2 ts ha=>?_)
  ·intro x hx;simp only [List.mem_map] at hx;obtain ⟨y,hy,rfl⟩:=hx;exact AS (hc y (by simp [hy])) f
  ·simp only [bR];cases prep1 h c ⟨ts,R2⟩ with
   | none=>rfl
   | some x=>rfl
theorem dX {V:Nat->Bool} {R R2:Nat->C} (ha:agree V R R2) (es:Nat) (x:C) (hx:∀ n p lo len cap,x=.pal n p lo len cap->V n=true) (ts ts':List C):bW ⟨ts,R2⟩ es x=bW ⟨ts',R⟩ es x:=by
 cases x with
 | pal n p lo len cap=>simp only [bW,St.node]; rw [ha n (hx n p lo len cap rfl)]
 | val v=>unfold bW; split<;>simp_all
 | _=>rfl
theorem ph {V:Nat->Bool} {hit:Nat->Path->Bool} {d0:Option Nat} (d:Nat) (R:Nat->C) (hV:V d=true) (hh:∀ p,hit d p=true):Loc V hit d0 R (one fun st=>some (st.fresh d)):=by
 by_cases hd:isDead (R d)=true
 ·exact .same () fun R2 ts ha=>by simp [one,St.fresh,ha d hV,hd]
 ·refine .inr ⟨List.map (poi fun n' _=>n' == d),upd R d .dead,(),.poi _ ?_,fun R2 ts ha=>?_⟩
  ·intro n p e;simp only [beq_iff_eq] at e;subst e; exact hh p
  ·rw [<-gO hV ha];simp [one,St.fresh,ha d hV,hd,St.drop]
theorem BS {V:Nat->Bool} {hit:Nat->Path->Bool} (d es:Nat) (s:C) (R:Nat->C) (hVd:V d=true) (hd:∀ p,hit d p=true) (hs:palIn V hit s):Loc V hit (some d) R (bI d es s):=by
 have hnil:∀ R,Loc V hit (some d) R (fun st=>some (adopt d es (st.fresh d),([]:List (List C)))):=by
  intro R;refine Loc.step (ph d R hVd hd) (k:=fun _ st=>some (adopt d es st,([]:List (List C)))) (fun _ R'=>?_) (fun R2 ts _=>rfl);exact .inr ⟨id,upd R' d (.sl true none es none []),[],.id,fun R2 ts ha=>by rw [<-gO hVd ha]; rfl⟩
 cases s with
 | val v=>
  by_cases hv:v=.slice none 0 0
  ·subst hv; exact hnil R
  ·refine .inl fun R2 ts _=>?_;unfold bI;split
   ·rename_i h; simp only [C.val.injEq] at h; exact (hv h).elim
   ·rename_i h; cases h
   ·rename_i h; cases h
   ·rfl
 | sl own nl es' cap rows=>
  by_cases h0:cap=some 0/\rows=[]/\es'=es
  ·obtain ⟨rfl,rfl,rfl⟩:=h0;have e:bI d es' (.sl own nl es' (some 0) [])=fun st=>some (adopt d es' (st.fresh d),[]):=by funext st; simp [bI]
   rw [e]; exact hnil R
  ·refine .inl fun R2 ts _=>?_;unfold bI;split
   ·rename_i h; cases h
   ·rename_i h;simp only [C.sl.injEq] at h;obtain ⟨_,_,rfl,rfl,rfl⟩:=h;rw [if_neg];intro e; exact h0 ⟨rfl,rfl,e⟩
   ·rename_i h; cases h
   ·rfl
 | pal n p lo len cap=>
  obtain ⟨hVn,hhit⟩:=hs n p lo len cap rfl;cases hn:(R n).at p with
  | none=>exact .inl fun R2 ts ha=>by simp [bI,St.node,ha n hVn,hn]
  | some nd=>
   by_cases hc:∃ nl es' cap' rows,nd=.sl true nl es' cap' rows/\es'=es
   ·obtain ⟨nl,es',cap',rows,rfl,rfl⟩:=hc;by_cases hnd:n=d
    ·subst hnd;by_cases hw:p=[]/\lo=0/\len=rows.length
     ·obtain ⟨rfl,rfl,rfl⟩:=hw;exact .inr ⟨id,R,rows,.id,fun R2 ts ha=>by simp [bI,St.node,ha n hVn,hn,tf ha]⟩
     ·exact .inl fun R2 ts ha=>by
       simp only [bI,St.node,ha n hVn,hn,if_true];rw [if_neg hw]
    ·by_cases hlt:n < H0
     ·refine Loc.step (ph d R hVd hd) (k:=fun _ st=>some (st.move n p lo len cap d es' rows,(rows.drop lo).take len)) (fun _ R'=>?_) (fun R2 ts ha=>by simp [bI,St.node,ha n hVn,hn,hnd,hlt,one]);refine .inr ⟨List.map (poi (fun n' p'=>n' == n && preJ p p')),upd (upd R' n ((R' n).turn (fun _=>.dead) p)) d (.sl true none es' cap ((rows.drop lo).take len)),(rows.drop lo).take len,.poi _ ?_,fun R2 ts ha=>?_⟩
      ·intro n' p' e;simp only [Bool.and_eq_true,beq_iff_eq] at e;obtain ⟨rfl,e⟩:=e;exact hhit p' e
      ·have e1:mixR V (upd (upd R' n ((R' n).turn (fun _=>.dead) p)) d (.sl true none es' cap ((rows.drop lo).take len))) R2=upd (upd R2 n ((R' n).turn (fun _=>.dead) p)) d (.sl true none es' cap ((rows.drop lo).take len)):=by
        rw [gO hVn ha,gO hVd iW,oD]
       rw [e1];simp [St.move,ha n hVn]
     ·exact .inl fun R2 ts ha=>by simp [bI,St.node,ha n hVn,hn,hnd,hlt]
   ·refine .inl fun R2 ts ha=>?_;simp only [bI,St.node,ha n hVn,hn];split
    ·rename_i nl es' cap' rows he;rw [if_neg];intro e;simp only [Option.some.injEq] at he;exact hc ⟨nl,es',cap',rows,he,e⟩
    ·rfl
 | _=>exact .inl fun R2 ts _=>rfl
def jy (d es:Nat) (te:TI) (s x:C) (st:St):Option St:=
 match bW st es x with
 | some extra=>match bI d es s st with
  | some (st1,rows)=>if (rows.length+extra.length) * (te.bytes - 1+1)<=140737488355328 then
    some { (grown d es (rows++extra) st1) with tmps:=(grown d es (rows++extra) st1).tmps.set d (.pal d [] 0 (rows++extra).length none) } else none
  | none=>none
 | none=>none
theorem uF {V:Nat->Bool} {hit:Nat->Path->Bool} (d es:Nat) (te:TI) (s x:C) (R:Nat->C) (hVd:V d=true) (hd:∀ p,hit d p=true) (hs:palIn V hit s) (hx:∀ n p lo len cap,x=.pal n p lo len cap->V n=true):Loc V hit (some d) R (one (jy d es te s x)):=by
 cases hsr:bW ⟨[],R⟩ es x with
 | none=>exact .inl fun R2 ts ha=>by simp [one,jy,dX ha es x hx ts [],hsr]
 | some extra=>
  refine Loc.step (BS d es s R hVd hd hs) (k:=fun rows st1=>if (rows.length+extra.length) * (te.bytes - 1+1)<=140737488355328 then
    some ({ (grown d es (rows++extra) st1) with tmps:=(grown d es (rows++extra) st1).tmps.set d (.pal d [] 0 (rows++extra).length none) },()) else none) (fun rows R'=>?_) (fun R2 ts ha=>?_)
  ·by_cases hb:(rows.length+extra.length) * (te.bytes - 1+1)<=140737488355328
   ·refine .inr ⟨fun ts=>(ts.map (poi fun n' _=>n' == d)).set d (.pal d [] 0 (rows++extra).length none),upd R' d (.sl true none es none (rows++extra)),(),.comp (.set d _ rfl) (.poi _ ?_),fun R2 ts ha=>?_⟩
    ·intro n p e;simp only [beq_iff_eq] at e;subst e; exact hd p
    ·rw [<-gO hVd ha];simp only [hb,if_true,grown]
   ·exact .inl fun R2 ts ha=>by simp only [hb,if_false]
  ·simp only [one,jy,dX ha es x hx ts [],hsr];cases bI d es s ⟨ts,R2⟩ with
   | none=>rfl
   | some y=>
    obtain ⟨st1,rows⟩:=y;simp only;split<;>rfl
theorem mM {V:Nat->Bool} {R R2:Nat->C} (ha:agree V R R2) (x:C) (hx:∀ n p lo len cap,x=.pal n p lo len cap->V n=true) (ts ts':List C):roomS ⟨ts,R2⟩ x=roomS ⟨ts',R⟩ x:=by
 cases x with
 | pal n p lo len cap=>simp only [roomS,St.node]; rw [ha n (hx n p lo len cap rfl)]
 | val v=>unfold roomS; split<;>simp_all
 | _=>rfl
theorem vG {V:Nat->Bool} {hit:Nat->Path->Bool} (d es:Nat) (te tix:TI) (s x:C) (R:Nat->C) (hVd:V d=true) (hd:∀ p,hit d p=true) (hs:palIn V hit s) (hx:∀ n p lo len cap,x=.pal n p lo len cap->V n=true):Loc V hit (some d) R (one (ai d es te tix s x)):=by
 have hs':∀ n p lo len cap,s=.pal n p lo len cap->V n=true:=fun n p lo len cap e=>(hs n p lo len cap e).1;have hext:∀ R2 ts,agree V R R2->extOf ⟨ts,R2⟩ es tix x=extOf ⟨[],R⟩ es tix x:=by
  intro R2 ts ha;unfold extOf;split
  ·rfl
  ·rw [dX ha es x hx ts []]
  ·rfl
 cases h1:roomS ⟨[],R⟩ s with
 | none=>exact .inl fun R2 ts ha=>by simp [one,ai,mM ha s hs' ts [],h1]
 | some kk=>
 cases h2:bW ⟨[],R⟩ es s with
 | none=>exact .inl fun R2 ts ha=>by simp [one,ai,mM ha s hs' ts [],dX ha es s hs' ts [],h1,h2]
 | some olds=>
 cases h3:extOf ⟨[],R⟩ es tix x with
 | none=>exact .inl fun R2 ts ha=>by simp [one,ai,mM ha s hs' ts [],dX ha es s hs' ts [],hext R2 ts ha,h1,h2,h3]
 | some ex=>
 by_cases hc:kk < olds.length+(ex.all te).length/\es≠0/\d < H0/\(olds.length+(ex.all te).length) * (te.bytes - 1+1)<=140737488355328
 ·refine Loc.step (ph d R hVd hd) (k:=fun _ st=>some ({ tmps:=st.tmps.set d (.pal d [] 0 (olds++ex.all te).length none),roots:=upd st.roots d (.sl true none es none (olds++ex.all te)) },())) (fun _ R'=>?_) (fun R2 ts ha=>?_)
  ·exact .inr ⟨fun ts=>ts.set d (.pal d [] 0 (olds++ex.all te).length none),upd R' d (.sl true none es none (olds++ex.all te)),(),.set d _ rfl,fun R2 ts ha=>by rw [<-gO hVd ha]⟩
  ·simp only [one,ai,mM ha s hs' ts [],dX ha es s hs' ts [],hext R2 ts ha,h1,h2,h3];rw [if_pos hc];rfl
 ·refine .inl fun R2 ts ha=>?_;simp only [one,ai,mM ha s hs' ts [],dX ha es s hs' ts [],hext R2 ts ha,h1,h2,h3];rw [if_neg hc];rfl
theorem vJ {V:Nat->Bool} {hit:Nat->Path->Bool} (d es:Nat) (te:TI) (s x:C) (R:Nat->C) (hVd:V d=true) (hd:∀ p,hit d p=true) (hx:∀ n p lo len cap,x=.pal n p lo len cap->V n=true):Loc V hit (some d) R (one (ey d es te s x)):=by
 by_cases hsl:∃ nl es' kk rows,s=.sl false nl es' (some kk) rows
 case neg=>
  refine .inl fun R2 ts ha=>?_;unfold one ey;split
  ·rename_i nl es' kk rows; exact (hsl ⟨nl,es',kk,rows,rfl⟩).elim
  ·rfl
 obtain ⟨nl,es',kk,rows,rfl⟩:=hsl;cases hsr:bW ⟨[],R⟩ es x with
 | none=>exact .inl fun R2 ts ha=>by simp [one,ey,dX ha es x hx ts [],hsr]
 | some extra=>
  by_cases hc:es'=es/\rows.all (·.all C.cellOk)=true/\kk=rows.length/\es≠0/\d < H0/\(rows.length+extra.length) * (te.bytes - 1+1)<=140737488355328
  ·refine Loc.step (ph d R hVd hd) (k:=fun _ st=>some ({ tmps:=(st.tmps.map (poi fun n' _=>n' == d)).set d (.sl false none es none (frzRows rows++extra)),roots:=st.roots },())) (fun _ R'=>?_) (fun R2 ts ha=>?_)
   ·refine .inr ⟨fun ts=>(ts.map (poi fun n' _=>n' == d)).set d (.sl false none es none (frzRows rows++extra)),R',(),.comp (.set d _ rfl) (.poi _ ?_),fun R2 ts ha=>by rw [tf ha]⟩;intro n p e;simp only [beq_iff_eq] at e;subst e; exact hd p
   ·simp only [one,ey,dX ha es x hx ts [],hsr];rw [if_pos hc];rfl
  ·refine .inl fun R2 ts ha=>?_;simp only [one,ey,dX ha es x hx ts [],hsr];rw [if_neg hc];rfl
theorem uf {V:Nat->Bool} {hit:Nat->Path->Bool} (d es:Nat) (s x:C) (R:Nat->C) (hs:palIn V hit s) (hx:∀ n p lo len cap,x=.pal n p lo len cap->V n=true):Loc V hit (some d) R (one (dg d es s x)):=by
 by_cases hsl:∃ n lo len cp,s=.pal n [] lo len cp
 case neg=>
  refine .inl fun R2 ts ha=>?_;unfold one dg;split
  ·rename_i n lo len cp extra _; exact (hsl ⟨n,lo,len,cp,rfl⟩).elim
  ·rfl
 obtain ⟨n,lo,len,cp,rfl⟩:=hsl;obtain ⟨hVn,hhit⟩:=hs n [] lo len cp rfl;cases hsr:bW ⟨[],R⟩ es x with
 | none=>exact .inl fun R2 ts ha=>by simp [one,dg,dX ha es x hx ts [],hsr]
 | some extra=>
  by_cases hc:∃ nl es' cap rows,R n=.sl true nl es' cap rows/\(es'=es/\es≠0/\lo+len < rows.length/\rows.all (·.all plainD)=true/\lo+len+extra.length<=rows.length/\(∀ c∈cp,len+extra.length<=c))
  ·obtain ⟨nl,es',cap,rows,hR,hcc⟩:=hc;refine .inr ⟨fun ts=>(ts.map (poi (deepV n))).set d (.pal n [] lo (len+extra.length) cp),upd R n (.sl true nl es cap (au (frzRows rows) (lo+len) extra)),(),.comp (.set d _ rfl) (.poi _ ?_),fun R2 ts ha=>?_⟩
   ·intro n' p' e;simp only [deepV,Bool.and_eq_true,beq_iff_eq] at e;rw [e.1];exact hhit p' rfl
   ·rw [<-gO hVn ha];simp only [one,dg,dX ha es x hx ts [],hsr,ha n hVn,hR];rw [if_pos hcc];rfl
  ·refine .inl fun R2 ts ha=>?_;simp only [one,dg,dX ha es x hx ts [],hsr,ha n hVn];split
   ·rename_i nl es' cap rows hR;rw [if_neg]
    ·rfl
    ·intro e; exact hc ⟨nl,es',cap,rows,hR,e⟩
   ·rfl
def appV (fr:Option Bool) (d es:Nat) (te tix:TI) (s x:C) (st:St):Option St:=
 match fr with
 | some false=>ey d es te s x st
 | some true=>ai d es te tix s x st
 | none=>match dg d es s x st with
  | some st'=>some st'
  | none=>jy d es te s x st
theorem BK {V:Nat->Bool} {hit:Nat->Path->Bool} (fr:Option Bool) (d es:Nat) (te tix:TI) (s x:C) (R:Nat->C) (hVd:V d=true) (hd:∀ p,hit d p=true) (hs:palIn V hit s) (hx:∀ n p lo len cap,x=.pal n p lo len cap->V n=true):Loc V hit (some d) R (one (appV fr d es te tix s x)):=by
 cases fr with
 | some b=>cases b with
  | false=>exact vJ d es te s x R hVd hd hx
  | true=>exact vG d es te tix s x R hVd hd hs hx
 | none=>
  rcases uf (V:=V) (hit:=hit) d es s x R hs hx with h|⟨G,R',b,hG,h⟩
  ·have e:∀ R2 ts,agree V R R2->dg d es s x ⟨ts,R2⟩=none:=fun R2 ts ha=>by have:=h R2 ts ha; simpa [one] using this
   rcases uF (V:=V) (hit:=hit) d es te s x R hVd hd hs hx with h2|⟨G,R',b,hG,h2⟩
   ·exact .inl fun R2 ts ha=>by have:=h2 R2 ts ha; simpa [one,appV,e R2 ts ha] using this
   ·exact .inr ⟨G,R',b,hG,fun R2 ts ha=>by have:=h2 R2 ts ha; simpa [one,appV,e R2 ts ha] using this⟩
  ·exact .inr ⟨G,R',b,hG,fun R2 ts ha=>by
    have:=h R2 ts ha;simp only [one,Option.map_eq_some_iff] at this;obtain ⟨s',e1,e2⟩:=this;simp only [one,appV,e1];simpa using e2⟩
def palsIn (V:Nat->Bool) (hit:Nat->Path->Bool) (v:C):Prop:=palIn V hit v/\∀ cs,v=.agg cs->∀ c∈cs,palIn V hit c
theorem Av {V:Nat->Bool} {hit:Nat->Path->Bool} (ti:TI) (n:Nat) (q:Path) (i j:Nat) (v:C) (R:Nat->C) (hV:V n=true) (hH:∀ h,H0<=h->V h=true) (hHh:∀ h p,H0<=h->hit h p=true) (hh:∀ j p,preJ (q++[(i,j)]) p=true->hit n p=true) (hv:palsIn V hit v) :
  Loc V hit none R (one (storeX ti (.pref n q i j) v)):=by
 cases hu:gm ti v with
 | none=>exact .inl fun R2 ts ha=>by simp [one,storeX,hu]
 | some cells=>
  have hcells:∀ c∈cells,palIn V hit c:=by
   intro c hc;unfold gm at hu;split at hu
   ·split at hu
    ·rename_i cs;split at hu
     ·simp only [Option.some.injEq] at hu; subst hu; exact hv.2 _ rfl c hc
     ·simp at hu
    ·simp at hu
   ·split at hu
    ·simp only [Option.some.injEq] at hu;subst hu;simp only [List.mem_singleton] at hc;subst hc;exact hv.1
    ·simp at hu
  by_cases hok:(cells.all C.cellOk)=true
  ·by_cases hd:isDead (R H0)=true
   ·rcases wc (V:=V) (hit:=hit) (d:=none) n q i hV hh cells j R with h|⟨G,R',b,hG,h⟩
    ·exact .inl fun R2 ts ha=>by have:=h R2 ts ha; simpa [one,storeX,hu,hok,ha H0 (hH H0 (Nat.le_refl _)),hd] using this
    ·exact .inr ⟨G,R',b,hG,fun R2 ts ha=>by have:=h R2 ts ha; simpa [one,storeX,hu,hok,ha H0 (hH H0 (Nat.le_refl _)),hd] using this⟩
   ·exact .inl fun R2 ts ha=>by simp [one,storeX,hu,hok,ha H0 (hH H0 (Nat.le_refl _)),hd]
  ·refine Loc.step (sU hH cells.length H0 cells (.pref n q i j) R (Nat.le_refl _) hcells) (k:=fun c=>match c with|.pref n' q' i' j'=>if (n',q',i',j')=(n,q,i,j) then one (dU n q i j cells.length H0) else fun _=>none|_=>fun _=>none) ?_ (fun R2 ts ha=>?_)
   ·intro c R';cases c with
    | pref n' q' i' j'=>
     simp only;split
     ·exact vY n q i hV hH hHh hh _ j _ R' (Nat.le_refl _)
     ·exact .inl fun _ _ _=>rfl
    | _=>exact .inl fun _ _ _=>rfl
   ·simp only [one,storeX,hu,hok,if_false,Bool.false_eq_true];cases hp:bR cells.length H0 cells (.pref n q i j) ⟨ts,R2⟩ with
    | none=>rfl
    | some y=>
     obtain ⟨s,c⟩:=y;have keep:∀ (k h:Nat) (cs:List C) (keep:C) (st s:St) (c:C),bR k h cs keep st=some (s,c)->c=keep∨c=.dead:=by
      intro k
      induction k with
      | zero=>intro h cs keep st s c e; simp only [bR,Option.some.injEq,Prod.mk.injEq] at e; exact .inl e.2.symm
      | succ k ih=>
       intro h cs keep st s c e;cases cs with
       | nil=>simp only [bR,Option.some.injEq,Prod.mk.injEq] at e; exact .inl e.2.symm
       | cons x xs=>
        simp only [bR] at e;split at e
        ·rename_i st' f _;rcases ih _ _ _ _ _ _ e with h1|h1
         ·rcases dI f keep with h2|⟨h2,_⟩
          ·right; rw [h1,h2]
          ·left; rw [h1,h2]
         ·exact .inr h1
        ·simp at e
     rcases keep _ _ _ _ _ _ _ hp with rfl|rfl
     ·simp only [if_true]; rfl
     ·rfl
end Go.Abs

namespace Go.Abs
def oK (ops:Array Oper) (o:Oper):List Tmp:=
 match o.guard with
 | some (j,_)=>((ops[j]?).bind (·.dst)).toList
 | none=>[]
def looks (ops:Array Oper) (o:Oper):List Tmp:=tmpsOf o.op.operands.toList++oK ops o
def disj (ops:Array Oper) (x y:Oper):Bool:=
 (match x.dst with|some d=>!(looks ops y).contains d|none=>true) && (match y.dst with|some d=>!(looks ops x).contains d|none=>true) &&
 (match x.dst,y.dst with|some d,some e=>d != e|_,_=>true)
def ordB (ops:Array Oper):Nat->Nat->Nat->Bool
 | 0,_,_=>false
 | k+1,j,i=>((ops[i]?).map fun o=>(o.after.any fun e=>e.on == j && Region.binds .any e) || o.after.any fun e=>Nat.blt j e.on && (Region.binds .any e && ordB ops k j e.on)).getD false
def barB (ops:Array Oper) (i:Nat):Bool:=(List.range ops.size).all fun j=>j == i || ordB ops ops.size j i || ordB ops ops.size i j
def drawS (ops:Array Oper):Bool:=
 ((List.range ops.size).all fun i=>((ops[i]?).map fun o=>o.after.all fun e=>!Region.binds .any e || decide (e.on < i)).getD true) &&
 ((List.range ops.size).all fun i=>(List.range i).all fun j=>(match ops[j]?,ops[i]? with|some x,some y=>disj ops x y|_,_=>true) || ordB ops ops.size j i)
def tX (o:Oper):Option Tmp:=
 match o.op with
 | .store _ (.tmp n) _=>some n
 | _=>none
def sF (o:Oper):Bool:=
 match o.op with
 | .store ..=>true
 | _=>false
def isMove (o:Oper):Bool:=o.guard.isNone && (match o.op,o.dst with|.move _,some _=>true|.assign _,some _=>true|_,_=>false)
def relax0 (ops:Array Oper) (i:Nat):Bool:=((ops[i]?).map fun o=>sF o && o.dst.isNone && o.guard.isNone).getD false &&
 (List.range ops.size).all fun j=>j == i || ordB ops ops.size j i || ordB ops ops.size i j || ((ops[j]?).map isMove).getD false
def free0 (ops:Array Oper):List Nat:=(List.range ops.size).filter fun j=>((ops[j]?).map sF).getD false && !barB ops j
def freeS (ops:Array Oper):List Nat:=if (free0 ops).all (relax0 ops) then [] else free0 ops
def relaxB (ops:Array Oper) (i:Nat):Bool:=relax0 ops i && (free0 ops).all (relax0 ops)
def barC (ops:Array Oper) (i:Nat):Bool:=(barB ops i || relaxB ops i) && (freeS ops).isEmpty
def unord (ops:Array Oper) (i j:Nat):Bool:=i != j && !ordB ops ops.size i j && !ordB ops ops.size j i
def noView (n:Nat) (st:St) (t:Tmp):Bool:=
 match st.tmps[t]? with
 | some c=>!(c.ment (fun n' _=>n' == n) 3)
 | none=>true
def chk (ops:Array Oper) (i:Nat) (o:Oper) (st:St):Bool:=
 (freeS ops).all fun j=>!(unord ops i j) || (match (ops[j]?).bind tX with
  | some n=>(match o.dst with|some d=>decide (d < H0)|none=>true) && (looks ops o).all (noView n st)
  | none=>true)
def stepE (E:Env) (ops:Array Oper) (i:Nat) (o:Oper) (st:St):Option St:=
 match aC E ops o st with
 | some st'=>some st'
 | none=>if barC ops i=true then stepO E ops o st else none
def stepD (E:Env) (ops:Array Oper) (i:Nat) (o:Oper) (st:St):Option St:=
 match aC E ops o st with
 | some st'=>if chk ops i o st=true then some st' else none
 | none=>if barC ops i=true then stepO E ops o st else none
def ssa (ops:Array Oper):Bool:=
 (List.range ops.size).all fun i=>(List.range ops.size).all fun k=>decide (k < i) || (match ops[i]?,ops[k]? with
  | some x,some y=>(match y.dst with|some d=>!(looks ops x).contains d|none=>true)
  | _,_=>true)
def finChk (ops:Array Oper) (st:St):Bool:=
 (freeS ops).isEmpty || (ssa ops && (List.range ops.size).all fun i=>match ops[i]? with|some o=>chk ops i o st|none=>true)
def runD (E:Env) (ops:Array Oper):List (Nat × Oper)->St->Option St
 | [],st=>some st
 | (i,o)::l,st=>match stepD E ops i o st with
  | some st'=>runD E ops l st'
  | none=>none
section
variable {X:Ctx} {m:Nat->Path->Value} {st:St} {a:Act} {w:World} {P:Program}
theorem km {E:Env} {ops:Array Oper} {i:Nat} {o:Oper} {st':St} (h:stepD E ops i o st=some st'):stepO E ops o st=some st':=by
 unfold stepD at h;split at h
 ·rename_i s hs;split at h
  ·simp only [Option.some.injEq] at h;subst h;exact kE hs
  ·simp at h
 ·split at h
  ·exact h
  ·simp at h
theorem iG {xs:List Operand} {t:Tmp} (h:Operand.tmp t∈xs):t∈tmpsOf xs:=by
 simp only [tmpsOf,List.mem_filterMap];exact ⟨_,h,rfl⟩
theorem lz {E:Env} {ops:Array Oper} {o:Oper} {st st2:St} (h:Alike (looks ops o) st st2):seff E ops o st2=seff E ops o st:=by
 have hb:=wZ (E:=E) (o:=o) h (by
  intro x hx t ht;subst ht;exact List.mem_append.2 (.inl (iG (by simpa using hx))))
 unfold seff;split
 ·exact hb
 ·rename_i j want hg;split
  ·rename_i t ht;have:st2.tmps[t]?=st.tmps[t]?:=(h t (List.mem_append.2 (.inr (by simp [oK,hg,ht])))).1;rw [this,hb]
  ·rfl
theorem wL {E:Env} {o:Oper} {e:SE} (h:bodySE E o st=some e):(∃ c,e=.q o.dst c)∨(∃ d t r,o.dst=some d/\e=.n d t r)∨∃ t n v cells,o.dst=none/\o.op=.store t (.tmp n) v/\st.ev (.tmp n)=.pref n [] 0 0/\e=.s n cells:=by
 have quiet:∀ {x:Option C},qSE o x=some e->(∃ c,e=.q o.dst c)∨(∃ d t r,o.dst=some d/\e=.n d t r)∨∃ t n v cells,o.dst=none/\o.op=.store t (.tmp n) v/\st.ev (.tmp n)=.pref n [] 0 0/\e=.s n cells:=by
  intro x hq;cases x with
  | none=>simp [qSE] at hq
  | some c=>simp only [qSE,Option.some.injEq] at hq; exact .inl ⟨c,hq.symm⟩
 unfold bodySE at h;split at h
 ·split at h
  ·rename_i d ti hd hti;simp only [Option.some.injEq] at h;exact .inr (.inl ⟨d,_,_,hd,h.symm⟩)
  ·simp at h
 ·split at h
  ·rename_i d ti hd hti;unfold boxSE at h;split at h
   ·split at h
    ·simp only [Option.some.injEq] at h;exact .inr (.inl ⟨d,_,_,hd,h.symm⟩)
    ·simp at h
   ·simp at h
  ·simp at h
 ·split at h
  ·rename_i d ti hd hti;unfold ly at h;split at h
   ·unfold gT at h;split at h
    ·split at h
     ·simp at h
     ·split at h
      ·split at h
       ·split at h
        ·simp only [Option.some.injEq] at h;exact .inl ⟨_,by rw [<-h,hd]⟩
        ·simp at h
       ·simp at h
      ·simp at h
    ·simp at h
   ·unfold gT at h;split at h
    ·split at h
     ·simp at h
     ·split at h
      ·split at h
       ·split at h
        ·simp only [Option.some.injEq] at h;exact .inl ⟨_,by rw [<-h,hd]⟩
        ·simp at h
       ·simp at h
      ·simp at h
    ·simp at h
   ·unfold kN at h;split at h
    ·split at h
     ·simp at h
     ·split at h
      ·split at h
       ·split at h
        ·simp only [Option.some.injEq] at h;exact .inr (.inl ⟨d,_,_,hd,h.symm⟩)
        ·simp at h
       ·simp at h
      ·simp at h
    ·simp at h
  ·simp at h
 ·rename_i t x v hop;unfold oB at h;split at h
  case h_2=>simp at h
  rename_i ti n hd ht;split at h
  case h_2=>simp at h
  rename_i n' hev;split at h
  case isFalse=>simp at h
  rename_i hn;subst hn;split at h
  case h_2=>simp at h
  split at h
  case isFalse=>simp at h
  simp only [Option.some.injEq] at h;exact .inr (.inr ⟨t,n',v,_,hd,hop,hev,h.symm⟩)
 ·split at h
  ·simp at h
  ·exact quiet h
  ·unfold callSE at h;split at h
   ·rename_i d f args hd hct;split at h
    ·split at h
     ·split at h
      ·split at h
       ·split at h
        ·split at h
         ·split at h
          ·simp only [Option.some.injEq] at h;exact .inr (.inl ⟨d,_,_,hd,h.symm⟩)
          ·simp only [Option.some.injEq] at h;exact .inl ⟨_,by rw [hd]; exact h.symm⟩
         ·simp at h
        ·simp at h
       ·simp at h
      ·simp at h
     ·simp at h
    ·simp at h
   ·simp at h
 ·exact quiet h
theorem lZ {E:Env} {ops:Array Oper} {o:Oper} {e:SE} (h:seff E ops o st=some e):(∃ c,e=.q o.dst c)∨(∃ d t r,o.dst=some d/\e=.n d t r)∨∃ t n v cells,o.dst=none/\o.op=.store t (.tmp n) v/\st.ev (.tmp n)=.pref n [] 0 0/\e=.s n cells:=by
 unfold seff at h;split at h
 ·exact wL h
 ·split at h
  ·split at h
   ·split at h
    ·exact wL h
    ·simp only [Option.some.injEq] at h; exact .inl ⟨_,h.symm⟩
   ·simp only [Option.some.injEq] at h; exact .inl ⟨_,h.symm⟩
   ·simp at h
  ·simp at h
theorem Live.alive (H:Live P st) {t:Nat} {c v:C} {k n:Nat} {p:Path} (hc:st.tmps[t]?=some c) (ho:occ k c v) (hp:v.place=some (n,p)):st.roots n≠.dead:=by
 obtain ⟨X,a,w,m,H⟩:=H;obtain ⟨u,d,_,hr⟩:=H.tmp t c hc;have key:∀ (k d:Nat) (c:C) (q:Path) (u:Value),occ k c v->rel w (X.S st.roots m) (Lv st.roots m) dm false d q c u->∃ u',Lv st.roots m v u':=by
  intro k
  induction k with
  | zero=>intro d c q u ho _; exact ho.elim
  | succ k ih=>
   intro d c q u ho hr;cases d with
   | zero=>exact hr.elim
   | succ d=>
    cases c with
    | pref n p i j=>simp only [occ] at ho; subst ho; exact ⟨u,hr⟩
    | pal n p lo len cap=>simp only [occ] at ho; subst ho; exact ⟨u,hr⟩
    | agg cs=>
     obtain ⟨c',hm,ho⟩:=ho;obtain ⟨j,hj⟩:=List.getElem?_of_mem hm;obtain ⟨arr,h1,h2,h3⟩:=hr;obtain ⟨u',e1,e2⟩:=h3 j c' hj;exact ih d c' _ u' ho e2
    | tup cs=>
     obtain ⟨c',hm,ho⟩:=ho;obtain ⟨j,hj⟩:=List.getElem?_of_mem hm;obtain ⟨arr,h1,h2,h3⟩:=hr;obtain ⟨u',e1,e2⟩:=h3 j c' hj;exact ih d c' _ u' ho e2
    | clo f cs=>
     obtain ⟨c',hm,ho⟩:=ho;obtain ⟨j,hj⟩:=List.getElem?_of_mem hm;obtain ⟨arr,h1,h2,h3⟩:=hr;obtain ⟨u',e1,e2⟩:=h3 j c' hj;exact ih d c' _ u' ho e2
    | _=>exact ho.elim
 obtain ⟨u',hl⟩:=key k d c [] u ho hr;exact j7 hp hl
def SE.dst:SE->Option Nat
 | .q d _=>d
 | .n d _ _=>some d
 | .s _ _=>none
theorem j5 {E:Env} {ops:Array Oper} {o:Oper} {e:SE} (h:seff E ops o st=some e):e.dst=o.dst:=by
 rcases lZ h with ⟨c,rfl⟩|⟨d,t,r,hd,rfl⟩|⟨t,n,v,cells,hd,_,_,rfl⟩
 ·rfl
 ·rw [hd]; rfl
 ·rw [hd]; rfl
theorem tK {n:Nat} {t:Tmp} (h:noView n st t=true) {c:C} (hc:st.tmps[t]?=some c) {k:Nat} {v:C} {n':Nat} {p:Path} (ho:occ k c v) (hp:v.place=some (n',p)):n'≠n:=by
 unfold noView at h;rw [hc] at h;simp only [Bool.not_eq_true'] at h;obtain ⟨n2,p2,e1,e2⟩:=dT k 3 c v h ho;rw [hp] at e1;simp only [Option.some.injEq,Prod.mk.injEq] at e1;obtain ⟨rfl,rfl⟩:=e1;simpa using e2
theorem j3 {n:Nat} {cells:List C} {s1:St} (h:storeV n cells st=some s1):∃ nl es cap row,st.roots n=.sl true nl es cap [row]/\isDead (st.roots H0)=true/\n < H0/\s1={ tmps:=st.tmps,roots:=upd st.roots n (.sl true nl es cap [cells.map C.frz++row.drop cells.length]) }:=by
 unfold storeV at h;split at h
 case h_2=>simp at h
 rename_i nl es cap row hr;split at h
 case isFalse=>simp at h
 rename_i hc;simp only [Option.some.injEq] at h;exact ⟨nl,es,cap,row,hr,hc.1,hc.2.1,h.symm⟩
theorem jm {n:Nat} {cells:List C} {st2:St} (h1:st2.roots n=st.roots n) (h2:isDead (st2.roots H0)=isDead (st.roots H0)) {s1:St} (h:storeV n cells st=some s1) :
  storeV n cells st2=some { tmps:=st2.tmps,roots:=upd st2.roots n (s1.roots n) }:=by
 unfold storeV at h ⊢;rw [h1,h2];split at h
 case h_2=>simp at h
 rename_i nl es cap row hr;split at h
 case isFalse=>simp at h
 rename_i hc;simp only [Option.some.injEq] at h;subst h;simp only [if_pos hc,ah]
theorem mw (H:Live P st) {ts:List Tmp} {e:SE} {st':St} (h:e.apply st=some st') (hd:∀ d,e.dst=some d->d∉ts) (hv:∀ n cells,e=.s n cells->∀ t∈ts,noView n st t=true):Alike ts st st':=by
 intro t ht;cases e with
 | q d c=>
  simp only [SE.apply,Option.some.injEq] at h;subst h;cases d with
  | none=>exact ⟨rfl,fun _ _ _ _ _ _ _ _=>rfl⟩
  | some d=>
   have hne:d≠t:=by rintro rfl; exact hd d rfl ht
   exact ⟨by simp [St.put,List.getElem?_set,hne],fun _ _ _ _ _ _ _ _=>rfl⟩
 | n d tmp root=>
  simp only [SE.apply] at h;split at h
  ·rename_i hdd;simp only [Option.some.injEq] at h;subst h;have hne:d≠t:=by rintro rfl; exact hd d rfl ht
   refine ⟨by simp [List.getElem?_set,hne],?_⟩;intro c hc k v n p ho hp;have:n≠d:=by
    rintro rfl;exact H.alive hc ho hp (lr hdd)
   simp [upd_ne this]
  ·simp at h
 | s n cells=>
  obtain ⟨nl,es,cap,row,e1,e2,e3,rfl⟩:=j3 h;refine ⟨rfl,?_⟩;intro c hc k v n' p ho hp;have:=tK (hv n cells rfl t ht) hc ho hp;simp [upd_ne this]
theorem rU (f:Nat->C) {n k:Nat} (h:n≠k) (a b:C):upd (upd f n a) k b=upd (upd f k b) n a:=by
 funext x
 by_cases e1:x=n
 ·subst e1; simp [ah,upd_ne h]
 ·by_cases e2:x=k
  ·subst e2; simp [ah,upd_ne e1]
  ·simp [upd_ne e1,upd_ne e2]
theorem comm_s {n:Nat} {cells:List C} {e2:SE} {s1 s2:St} (h1:storeV n cells st=some s1) (h2:e2.apply s1=some s2) (hn:∀ n' c',e2=.s n' c'->n'≠n) (hH:∀ d t r,e2=.n d t r->d≠H0) :
  ∃ s1',e2.apply st=some s1'/\storeV n cells s1'=some s2:=by
 obtain ⟨nl,es,cap,row,g1,g2,g3,rfl⟩:=j3 h1;cases e2 with
 | q d c=>
  simp only [SE.apply,Option.some.injEq] at h2;subst h2;refine ⟨_,rfl,?_⟩;cases d with
  | none=>exact h1
  | some d=>
   rw [jm (st:=st) (st2:=st.put (some d) c) rfl rfl h1];simp [St.put,ah]
 | n d tmp root=>
  have hH:=hH d tmp root rfl;have hdn:d≠n:=by
   rintro rfl;simp [SE.apply,ah,isDead] at h2
  simp only [SE.apply,upd_ne hdn] at h2;split at h2
  case h_2=>simp at h2
  rename_i hdd;simp only [Option.some.injEq] at h2;subst h2;refine ⟨{ tmps:=st.tmps.set d tmp,roots:=upd st.roots d root },by simp only [SE.apply,hdd],?_⟩;rw [jm (st:=st) (by simp [upd_ne hdn.symm]) (by simp [upd_ne hH.symm]) h1];simp only [ah,Option.some.injEq,St.mk.injEq,true_and];exact rU _ hdn _ _
 | s n2 cells2=>
  have hnn:=hn n2 cells2 rfl;obtain ⟨nl2,es2,cap2,row2,k1,k2,k3,rfl⟩:=j3 h2;have hH0:n≠H0:=by omega
  have hH2:n2≠H0:=by omega
  refine ⟨_,jm (st2:=st) (by simp [upd_ne hnn]) (by simp [upd_ne hH0.symm]) h2,?_⟩;rw [jm (st:=st) (by simp [upd_ne hnn.symm]) (by simp [upd_ne hH2.symm]) h1];simp only [ah,Option.some.injEq,St.mk.injEq,true_and];exact rU _ hnn _ _
theorem CJ {n:Nat} {cells:List C} {e1:SE} {s1 s2:St} (h1:e1.apply st=some s1) (h2:storeV n cells s1=some s2) (hn:∀ n' c',e1=.s n' c'->n'≠n) (hH:∀ d t r,e1=.n d t r->d≠H0/\d≠n) :
  ∃ s1',storeV n cells st=some s1'/\e1.apply s1'=some s2:=by
 cases e1 with
 | q d c=>
  simp only [SE.apply,Option.some.injEq] at h1;subst h1;cases d with
  | none=>exact ⟨s2,h2,rfl⟩
  | some d=>
   obtain ⟨nl,es,cap,row,g1,g2,g3,rfl⟩:=j3 h2;exact ⟨_,jm (st:=st.put (some d) c) (st2:=st) rfl rfl h2,by simp [SE.apply,St.put,ah]⟩
 | n d tmp root=>
  obtain ⟨hH,hdn⟩:=hH d tmp root rfl;simp only [SE.apply] at h1;split at h1
  case h_2=>simp at h1
  rename_i hdd;simp only [Option.some.injEq] at h1;subst h1;obtain ⟨nl,es,cap,row,g1,g2,g3,rfl⟩:=j3 h2;refine ⟨_,jm (st2:=st) (by simp [upd_ne hdn.symm]) (by simp [upd_ne hH.symm]) h2,?_⟩;simp only [SE.apply,upd_ne hdn,hdd,ah,Option.some.injEq,St.mk.injEq,true_and];exact rU _ hdn.symm _ _
 | s n2 cells2=>
  have hnn:=hn n2 cells2 rfl;obtain ⟨s1',g1,g2⟩:=comm_s (e2:=.s n cells) h1 h2 (by rintro _ _ h; cases h; exact hnn.symm) (by rintro _ _ _ h; cases h);exact ⟨s1',g1,g2⟩
theorem tl {e1 e2:SE} {s1 s2:St} (h1:e1.apply st=some s1) (h2:e2.apply s1=some s2) (hne:∀ d1 d2,e1.dst=some d1->e2.dst=some d2->d1≠d2)
  (hs1:∀ n c,e1=.s n c->(∀ n' c',e2=.s n' c'->n'≠n)/\∀ d t r,e2=.n d t r->d≠H0) (hs2:∀ n c,e2=.s n c->(∀ n' c',e1=.s n' c'->n'≠n)/\∀ d t r,e1=.n d t r->d≠H0/\d≠n) :
  ∃ s1',e2.apply st=some s1'/\e1.apply s1'=some s2:=by
 by_cases c1:∃ n c,e1=.s n c
 ·obtain ⟨n,c,rfl⟩:=c1; exact comm_s h1 h2 (hs1 n c rfl).1 (hs1 n c rfl).2
 by_cases c2:∃ n c,e2=.s n c
 ·obtain ⟨n,c,rfl⟩:=c2; exact CJ h1 h2 (hs2 n c rfl).1 (hs2 n c rfl).2
 cases e1 with
 | q d c=>
  simp only [SE.apply,Option.some.injEq] at h1;subst h1;cases d with
  | none=>exact ⟨s2,h2,rfl⟩
  | some d=>
   cases e2 with
   | s n c=>exact (c2 ⟨_,_,rfl⟩).elim
   | q d' c'=>
    simp only [SE.apply,Option.some.injEq] at h2;subst h2;refine ⟨_,rfl,?_⟩;cases d' with
    | none=>rfl
    | some d'=>
     have:=hne d d' rfl rfl;simp only [SE.apply,St.put,Option.some.injEq];rw [List.set_comm _ _ this.symm]
   | n d' tmp root=>
    have:=hne d d' rfl rfl;cases hdd:isDead (st.roots d') with
    | true=>
     simp only [SE.apply,St.put,hdd,Option.some.injEq] at h2 ⊢;subst h2;exact ⟨_,rfl,by rw [List.set_comm _ _ this.symm]⟩
    | false=>simp [SE.apply,St.put,hdd] at h2
 | n d tmp root=>
  simp only [SE.apply] at h1;split at h1
  ·rename_i hdd;simp only [Option.some.injEq] at h1;subst h1;cases e2 with
   | s n c=>exact (c2 ⟨_,_,rfl⟩).elim
   | q d' c'=>
    simp only [SE.apply,Option.some.injEq] at h2;subst h2;refine ⟨_,rfl,?_⟩;cases d' with
    | none=>simp [SE.apply,St.put,hdd]
    | some d'=>
     have:=hne d d' rfl rfl;simp only [SE.apply,St.put,hdd,Option.some.injEq];rw [List.set_comm _ _ this.symm]
   | n d' tmp' root'=>
    have hn:=hne d d' rfl rfl;cases hdd':isDead (st.roots d') with
    | true=>
     simp only [SE.apply,upd_ne hn.symm,hdd',Option.some.injEq] at h2 ⊢;subst h2;refine ⟨_,rfl,?_⟩;simp only [upd_ne hn,hdd,Option.some.injEq];rw [List.set_comm _ _ hn.symm]
     congr 1
     funext k
     simp only [upd];by_cases k1:k=d
     ·subst k1; simp [hn]
     ·by_cases k2:k=d'
      ·subst k2; simp [hn.symm]
      ·simp [k1,k2]
    | false=>simp [SE.apply,upd_ne hn.symm,hdd'] at h2
  ·simp at h1
 | s n c=>exact (c1 ⟨_,_,rfl⟩).elim
theorem rV {ops:Array Oper} {i:Nat} {o:Oper} {st st2:St} (h:∀ t∈looks ops o,st2.tmps[t]?=st.tmps[t]?):chk ops i o st2=chk ops i o st:=by
 unfold chk
 congr 1
 funext j
 cases (ops[j]?).bind tX with
 | none=>rfl
 | some n=>
  have:(looks ops o).all (noView n st2)=(looks ops o).all (noView n st):=by
   rw [Bool.eq_iff_iff,List.all_eq_true,List.all_eq_true];constructor
   ·intro g t ht; have:=g t ht; simpa [noView,h t ht] using this
   ·intro g t ht; have:=g t ht; simpa [noView,h t ht] using this
  simp only [this]
theorem tg {ops:Array Oper} {i j:Nat} {x y:Oper} {n t:Nat} {v:Operand} (hy:ops[j]?=some y) (hop:y.op=.store t (.tmp n) v) (hlt:j < ops.size) (hb:barB ops j=false) (hrl:relaxB ops j=false) (hu:unord ops i j=true) (h:chk ops i x st=true) :
  (∀ d,x.dst=some d->d < H0)/\∀ t∈looks ops x,noView n st t=true:=by
 unfold chk at h;rw [List.all_eq_true] at h;have:=h j (by
  have h0:j∈free0 ops:=by
   unfold free0;rw [List.mem_filter];refine ⟨List.mem_range.2 hlt,?_⟩;simp [hy,sF,hop,hb]
  unfold freeS;split
  ·rename_i ha;have:=List.all_eq_true.1 ha j h0;simp [relaxB,this,ha] at hrl
  ·exact h0)
 simp only [hu,Bool.not_true,Bool.false_or,hy,Option.bind_some,tX,hop,Bool.and_eq_true,List.all_eq_true] at this;refine ⟨?_,this.2⟩;intro d hd;have:=this.1;rw [hd] at this;simpa using this
theorem swap {E:Env} (H:Live P st) {ops:Array Oper} {i j:Nat} {x y:Oper} (hx:ops[i]?=some x) (hy:ops[j]?=some y) (hbx:barB ops i=false) (hby:barB ops j=false) (hrx:relaxB ops i=false) (hry:relaxB ops j=false) (hu:unord ops i j=true) (hu':unord ops j i=true) (hd:disj ops x y=true) {s1 s2:St}
  (h1:aC E ops x st=some s1) (k1:chk ops i x st=true) (h2:aC E ops y s1=some s2) (k2:chk ops j y s1=true) :
  ∃ s1',aC E ops y st=some s1'/\chk ops j y st=true/\aC E ops x s1'=some s2/\chk ops i x s1'=true:=by
 have hil:=(Array.getElem?_eq_some_iff.1 hx).1;have hjl:=(Array.getElem?_eq_some_iff.1 hy).1;unfold aC at h1 h2;split at h1
 case h_2=>simp at h1
 rename_i e1 he1;split at h2
 case h_2=>simp at h2
 rename_i e2 he2;have D1:=j5 he1;have D2:=j5 he2;simp only [disj,Bool.and_eq_true] at hd;obtain ⟨⟨c1,c2⟩,c3⟩:=hd;have n1:∀ d,e1.dst=some d->d∉looks ops y:=by
  intro d hd hm;rw [D1] at hd;rw [hd] at c1;simp at c1;exact c1 hm
 have n2:∀ d,e2.dst=some d->d∉looks ops x:=by
  intro d hd hm;rw [D2] at hd;rw [hd] at c2;simp at c2;exact c2 hm
 have T1:∀ t∈looks ops y,s1.tmps[t]?=st.tmps[t]?:=by
  intro t ht;cases e1 with
  | q d c=>
   simp only [SE.apply,Option.some.injEq] at h1;subst h1;cases d with
   | none=>rfl
   | some d=>
    have hne:d≠t:=by rintro rfl; exact n1 d rfl ht
    simp [St.put,List.getElem?_set,hne]
  | n d tmp root=>
   simp only [SE.apply] at h1;split at h1
   ·simp only [Option.some.injEq] at h1;subst h1;have hne:d≠t:=by rintro rfl; exact n1 d rfl ht
    simp [List.getElem?_set,hne]
   ·simp at h1
  | s n c=>
   obtain ⟨_,_,_,_,_,_,_,rfl⟩:=j3 h1;rfl
 have k2':chk ops j y st=true:=by rw [<-rV T1]; exact k2
 have A1:=mw (ts:=looks ops y) H h1 n1 (by
  rintro n c rfl;rcases lZ he1 with ⟨_,h⟩|⟨_,_,_,_,h⟩|⟨t,n',v,_,_,hop,_,h⟩
  ·cases h
  ·cases h
  ·cases h;exact (tg hx hop hil hbx hrx hu' k2').2)
 rw [lz A1] at he2;have S1:∀ n c,e1=.s n c->(∀ d,y.dst=some d->d < H0)/\(∀ t∈looks ops y,noView n st t=true)/\n∈looks ops x:=by
  rintro n c rfl;rcases lZ he1 with ⟨_,h⟩|⟨_,_,_,_,h⟩|⟨t,n',v,_,_,hop,_,h⟩
  ·cases h
  ·cases h
  ·cases h;obtain ⟨q1,q2⟩:=tg hx hop hil hbx hrx hu' k2';exact ⟨q1,q2,List.mem_append.2 (.inl (iG (by simp [hop,Op.operands])))⟩
 have S2:∀ n c,e2=.s n c->(∀ d,x.dst=some d->d < H0)/\(∀ t∈looks ops x,noView n st t=true)/\n∈looks ops y:=by
  rintro n c rfl;rcases lZ he2 with ⟨_,h⟩|⟨_,_,_,_,h⟩|⟨t,n',v,_,_,hop,_,h⟩
  ·cases h
  ·cases h
  ·cases h;obtain ⟨q1,q2⟩:=tg hy hop hjl hby hry hu k1;exact ⟨q1,q2,List.mem_append.2 (.inl (iG (by simp [hop,Op.operands])))⟩
 have V:∀ n c,e1=.s n c->∃ q,st.tmps[n]?=some (.pref n [] 0 0)/\q=():=by
  rintro n c rfl;rcases lZ he1 with ⟨_,h⟩|⟨_,_,_,_,h⟩|⟨t,n',v,_,_,hop,hev,h⟩
  ·cases h
  ·cases h
  ·cases h;simp only [St.ev] at hev;cases hc:st.tmps[n]? with
   | none=>simp [hc] at hev
   | some u=>simp [hc] at hev; subst hev; exact ⟨(),rfl,rfl⟩
 have SS:∀ n c n' c',e1=.s n c->e2=.s n' c'->n'≠n:=by
  intro n c n' c' g1 g2;obtain ⟨_,hv,_⟩:=V n c g1;obtain ⟨_,q2,_⟩:=S2 n' c' g2;obtain ⟨_,_,q3⟩:=S1 n c g1;have:=tK (q2 n q3) hv (k:=1) (v:=.pref n [] 0 0) (n':=n) (p:=[]) rfl rfl;exact this.symm
 obtain ⟨s1',g1,g2⟩:=tl h1 h2 (by
  intro d1 d2 hd1 hd2;rw [D1] at hd1;rw [D2] at hd2;rw [hd1,hd2] at c3;simpa using c3) (by
  intro n c h;refine ⟨fun n' c' h'=>SS n c n' c' h h',?_⟩;rintro d t r rfl;exact Nat.ne_of_lt ((S1 n c h).1 d (by rw [<-D2]; rfl))) (by
  intro n c h;refine ⟨fun n' c' h'=>(SS n' c' n c h' h).symm,?_⟩;rintro d t r rfl;refine ⟨Nat.ne_of_lt ((S2 n c h).1 d (by rw [<-D1]; rfl)),?_⟩;rintro rfl;exact n1 d rfl (S2 d c h).2.2)
 have A2:=mw (ts:=looks ops x) H g1 n2 (fun n c h=>(S2 n c h).2.1);refine ⟨s1',by simp only [aC,he2]; exact g1,k2',?_,?_⟩
 ·simp only [aC,lz A2,he1];exact g2
 ·rw [rV (fun t ht=>(A2 t ht).1)];exact k1
theorem se {E:Env} {ops:Array Oper} {i:Nat} {o:Oper} {st':St} (hb:barB ops i=false) (hrl:relaxB ops i=false) (h:stepD E ops i o st=some st'):aC E ops o st=some st'/\chk ops i o st=true:=by
 unfold stepD at h;split at h
 ·rename_i s hs;split at h
  ·rename_i hc; rw [hs]; exact ⟨h,hc⟩
  ·simp at h
 ·simp [barC,hb,hrl] at h
theorem mA {ops:Array Oper} {i:Nat} (h:relaxB ops i=true):(freeS ops).isEmpty=true:=by
 simp only [relaxB,Bool.and_eq_true] at h;simp [freeS,h.2]
theorem rS {ops:Array Oper} {i:Nat} {o:Oper} (hf:(freeS ops).isEmpty=true):chk ops i o st=true:=by
 unfold chk;rw [List.isEmpty_iff.1 hf];rfl
theorem rh {E:Env} {ops:Array Oper} {i:Nat} {o:Oper} {st':St} (hr:relaxB ops i=true) (h:stepO E ops o st=some st'):stepD E ops i o st=some st':=by
 unfold stepD;cases hs:aC E ops o st with
 | some s=>
  simp only [rS (mA hr),if_true];rw [kE hs] at h;exact h
 | none=>simp only [barC,hr,Bool.or_true,mA hr,Bool.and_self,if_true]; exact h
theorem rD {ops:Array Oper} {i:Nat} {o:Oper} (ho:ops[i]?=some o) (h:relaxB ops i=true):∃ t x v,o.op=.store t x v/\o.dst=none/\o.guard=none:=by
 simp only [relaxB,relax0,Bool.and_eq_true,ho,Option.map_some,Option.getD_some] at h;obtain ⟨⟨⟨⟨h1,h2⟩,h3⟩,_⟩,_⟩:=h;unfold sF at h1;split at h1
 ·rename_i t x v hop; exact ⟨t,x,v,hop,by simpa using h2,by simpa using h3⟩
 ·simp at h1
theorem sW {ops:Array Oper} {i j:Nat} {x:Oper} (hx:ops[j]?=some x) (h:relaxB ops i=true) (hne:j≠i) (h1:ordB ops ops.size j i=false) (h2:ordB ops ops.size i j=false):∃ d y,x.dst=some d/\x.guard=none/\(x.op=.move y∨x.op=.assign y):=by
 simp only [relaxB,relax0,Bool.and_eq_true,List.all_eq_true,List.mem_range] at h;have:=h.1.2 j (Array.getElem?_eq_some_iff.1 hx).1;simp only [h1,h2,hx,Option.map_some,Option.getD_some,Bool.or_false,Bool.or_eq_true,beq_iff_eq] at this;have hm:=this.resolve_left hne;simp only [isMove,Bool.and_eq_true] at hm;obtain ⟨hg,hm⟩:=hm;split at hm
 ·rename_i y d hop hd; exact ⟨d,y,hd,by simpa using hg,.inl hop⟩
 ·rename_i y d hop hd; exact ⟨d,y,hd,by simpa using hg,.inr hop⟩
 ·simp at hm
theorem px {E:Env} {ops:Array Oper} {x:Oper} {d:Nat} {y:Operand} (hd:x.dst=some d) (hg:x.guard=none) (hop:x.op=.move y∨x.op=.assign y) (st:St):aC E ops x st=some (st.put (some d) (st.ev y))/\stepO E ops x st=some (st.put (some d) (st.ev y)):=by
 have h1:aC E ops x st=some (st.put (some d) (st.ev y)):=by
  rcases hop with hop|hop<;>simp [aC,seff,hg,bodySE,hop,qSE,qop,SE.apply,hd]
 exact ⟨h1,kE h1⟩
theorem qH {E:Env} {ops:Array Oper} {o:Oper} {t:TypeId} {x v:Operand} (hop:o.op=.store t x v) (hd:o.dst=none) (hg:o.guard=none) (st:St):stepO E ops o st=match E.T t with|some ti=>storeX ti (st.ev x) (st.ev v) st|none=>none:=by
 obtain ⟨dst,op,ty,pos,after,guard⟩:=o;simp only at hop hd hg;subst hop; subst hd; subst hg;simp only [stepO,exe,preX,exe0,altX];cases E.T t with
 | none=>rfl
 | some ti=>simp only; cases storeX ti (st.ev x) (st.ev v) st<;>rfl
theorem u6 {y:Operand} {d:Nat} {c:C} (h:y≠.tmp d):(st.put (some d) c).ev y=st.ev y:=by
 cases y with
 | tmp t=>
  have:d≠t:=fun e=>h (by rw [e]);simp [St.ev,St.put,List.getElem?_set,this]
 | _=>rfl
theorem va {E:Env} {ops:Array Oper} {o x:Oper} {d:Nat} {y:Operand} {t:TypeId} {p v:Operand} (hd:x.dst=some d) (hg:x.guard=none) (hop:x.op=.move y∨x.op=.assign y)
  (hso:o.op=.store t p v) (hsd:o.dst=none) (hsg:o.guard=none) (hdis:d∉looks ops o) {s2:St} :
  stepO E ops o (st.put (some d) (st.ev y))=some s2↔∃ s1,stepO E ops o st=some s1/\s2=s1.put (some d) (s1.ev y):=by
 have hp:p≠.tmp d:=by rintro rfl; exact hdis (List.mem_append.2 (.inl (iG (by simp [hso,Op.operands]))))
 have hv:v≠.tmp d:=by rintro rfl; exact hdis (List.mem_append.2 (.inl (iG (by simp [hso,Op.operands]))))
 rw [qH hso hsd hsg,qH hso hsd hsg,u6 hp,u6 hv];cases E.T t with
 | none=>simp
 | some ti=>exact zi (c:=.dead) y (fun g R' hgc=>ev_map st.tmps st.roots R' y g hgc)
theorem jL {E:Env} {ops:Array Oper} {i:Nat} {o:Oper} {st':St} (h:aC E ops o st=some st') (hc:chk ops i o st=true):stepD E ops i o st=some st':=by
 unfold stepD; rw [h]; simp [hc]
theorem od {ops:Array Oper} (h:drawS ops=true) {i:Nat} {o:Oper} (ho:ops[i]?=some o) {e:Edge} (he:e∈o.after) (hb:Region.binds .any e=true):e.on < i:=by
 simp only [drawS,Bool.and_eq_true,List.all_eq_true,List.mem_range] at h;have hi:=(Array.getElem?_eq_some_iff.1 ho).1;have:=h.1 i hi;rw [ho] at this;simp only [Option.map_some,Option.getD_some,Array.all_eq_true'] at this;have:=this e he;simpa [hb] using this
theorem qu {ops:Array Oper} (h:drawS ops=true) {i j:Nat} {x y:Oper} (hj:ops[j]?=some x) (hi:ops[i]?=some y) (hlt:j < i) (ho:ordB ops ops.size j i=false):disj ops x y=true:=by
 simp only [drawS,Bool.and_eq_true,List.all_eq_true,List.mem_range] at h;have:=h.2 i (Array.getElem?_eq_some_iff.1 hi).1 j hlt;rw [ho,hj,hi] at this;simpa using this
theorem tV {ops:Array Oper} (h:drawS ops=true):∀ (k j i:Nat),ordB ops k j i=true->j < i:=by
 intro k
 induction k with
 | zero=>intro j i ho; simp [ordB] at ho
 | succ k ih=>
  intro j i ho;simp only [ordB] at ho;cases hi:ops[i]? with
  | none=>simp [hi] at ho
  | some o=>
   simp only [hi,Option.map_some,Option.getD_some,Array.any_eq_true',Bool.and_eq_true,Bool.or_eq_true,beq_iff_eq] at ho;rcases ho with ⟨e,he,rfl,hb⟩|⟨e,he,_,hb,hor⟩
   ·exact od h hi he hb
   ·have h1:=od h hi he hb;have:=ih j e.on hor; omega
theorem AE {ops:Array Oper} (h:drawS ops=true) {i j:Nat} (hi:i < ops.size) (hj:j < ops.size) (hlt:j < i) (ho:ordB ops ops.size j i=false):barB ops i=false/\barB ops j=false:=by
 have n1:ordB ops ops.size i j=false:=by
  cases hh:ordB ops ops.size i j with
  | false=>rfl
  | true=>have:=tV h _ _ _ hh; omega
 constructor
 ·rw [Bool.eq_false_iff];intro hb;simp only [barB,List.all_eq_true,List.mem_range] at hb;have:=hb j hj;rw [ho,n1] at this;simp at this;omega
 ·rw [Bool.eq_false_iff];intro hb;simp only [barB,List.all_eq_true,List.mem_range] at hb;have:=hb i hi;rw [ho,n1] at this;simp at this;omega
theorem front {E:Env} (hT:TOk P E) (hG:GOk P E) {ops:Array Oper} (hS:drawS ops=true) {i:Nat} {o:Oper} (hi:ops[i]?=some o) {post:List (Nat × Oper)} {stf:St}:∀ (pre:List (Nat × Oper)) {st:St},Live P st ->
  (∀ x∈pre,ops[x.1]?=some x.2/\x.1 < i/\ordB ops ops.size x.1 i=false)->runD E ops (pre++(i,o)::post) st=some stf ->
  ∃ st1,stepD E ops i o st=some st1/\runD E ops (pre++post) st1=some stf:=by
 intro pre
 induction pre with
 | nil=>
  intro st _ _ h;simp only [List.nil_append,runD] at h;split at h
  ·rename_i s hs; exact ⟨s,hs,h⟩
  ·simp at h
 | cons x pre ih=>
  intro st H hpre h;obtain ⟨j,x⟩:=x;simp only [List.cons_append,runD] at h;split at h
  ·rename_i s1 hs1;obtain ⟨e1,e2,e3⟩:=hpre (j,x) (by simp);simp only at e1 e2 e3;obtain ⟨s2,g1,g2⟩:=ih (H.step hT hG e1 (km hs1)) (fun y hy=>hpre y (by simp [hy])) h;obtain ⟨b1,b2⟩:=AE hS (Array.getElem?_eq_some_iff.1 hi).1 (Array.getElem?_eq_some_iff.1 e1).1 e2 e3;have n1:ordB ops ops.size i j=false:=by
    cases hh:ordB ops ops.size i j with
    | false=>rfl
    | true=>have:=tV hS _ _ _ hh; omega
   have hne:j≠i:=by omega
   have hdj:=qu hS e1 hi e2 e3;simp only [disj,Bool.and_eq_true] at hdj;by_cases ri:relaxB ops i=true
   ·obtain ⟨d,y,k1,k2,k3⟩:=sW e1 ri hne e3 n1;obtain ⟨t,p,v,k4,k5,k6⟩:=rD hi ri;have hm:=(px (E:=E) (ops:=ops) k1 k2 k3 st).2;rw [km hs1] at hm;cases hm;have hdis:d∉looks ops o:=by have:=hdj.1.1; rw [k1] at this; simpa using this
    obtain ⟨s1',f1,rfl⟩:=(va k1 k2 k3 k4 k5 k6 hdis).1 (km g1);refine ⟨s1',rh ri f1,?_⟩;have:=jL (i:=j) (px (E:=E) (ops:=ops) k1 k2 k3 s1').1 (rS (mA ri));simp only [List.cons_append,runD,this];exact g2
   by_cases rj:relaxB ops j=true
   ·obtain ⟨d,y,k1,k2,k3⟩:=sW hi rj hne.symm n1 e3;obtain ⟨t,p,v,k4,k5,k6⟩:=rD e1 rj;have hm:=(px (E:=E) (ops:=ops) k1 k2 k3 s1).2;rw [km g1] at hm;cases hm;have hdis:d∉looks ops x:=by have:=hdj.1.2; rw [k1] at this; simpa using this
    have hx2:=(va (st:=st) k1 k2 k3 k4 k5 k6 hdis (s2:=s1.put (some d) (s1.ev y)) (E:=E)).2 ⟨s1,km hs1,rfl⟩;refine ⟨_,jL (px (E:=E) (ops:=ops) k1 k2 k3 st).1 (rS (mA rj)),?_⟩;simp only [List.cons_append,runD,rh rj hx2];exact g2
   rw [Bool.not_eq_true] at ri rj;obtain ⟨a1,a2⟩:=se b2 rj hs1;obtain ⟨a3,a4⟩:=se b1 ri g1;obtain ⟨s1',f1,f2,f3,f4⟩:=swap H e1 hi b2 b1 rj ri (by simp [unord,n1,e3]; omega) (by simp [unord,n1,e3]; omega) (qu hS e1 hi e2 e3) a1 a2 a3 a4;refine ⟨s1',jL f1 f2,?_⟩;simp only [List.cons_append,runD,jL (i:=j) f3 f4];exact g2
  ·simp at h
def restOf (ops:Array Oper) (listed:Array Bool):List (Nat × Oper):=(List.range ops.size).filterMap fun k=>if listed.getD k true then none else (ops[k]?).map fun o=>(k,o)
theorem iP {ops:Array Oper} {listed:Array Bool} (hdown:∀ i o e,listed.getD i false=true->ops[i]?=some o->e∈o.after->Region.binds .any e=true->listed.getD e.on false=true) :
  ∀ (k j i:Nat) (o:Oper),ops[i]?=some o->(∀ e∈o.after,Region.binds .any e=true->listed.getD e.on false=true)->ordB ops k j i=true->listed.getD j false=true:=by
 intro k
 induction k with
 | zero=>intro j i o _ _ h; simp [ordB] at h
 | succ k ih=>
  intro j i o hi he h;simp only [ordB,hi,Option.map_some,Option.getD_some,Array.any_eq_true',Bool.and_eq_true,Bool.or_eq_true,beq_iff_eq] at h;rcases h with ⟨e,hm,rfl,hb⟩|⟨e,hm,_,hb,hor⟩
  ·exact he e hm hb
  ·have h1:=he e hm hb;cases ho':ops[e.on]? with
   | none=>cases k<;>simp [ordB,ho'] at hor
   | some o'=>exact ih j e.on o' ho' (fun e' hm' hb'=>hdown e.on o' e' h1 ho' hm' hb') hor
theorem jg {α β:Type} {f g:α->Option β}:∀ {l:List α},(∀ x∈l,f x=g x)->l.filterMap f=l.filterMap g:=by
 intro l
 induction l with
 | nil=>intro _; rfl
 | cons x l ih=>intro h; rw [List.filterMap_cons,List.filterMap_cons,h x (by simp),ih (fun y hy=>h y (by simp [hy]))]
theorem fT {ops:Array Oper} {listed:Array Bool} {x:Nat × Oper}:x∈restOf ops listed↔ops[x.1]?=some x.2/\listed.getD x.1 true=false:=by
 unfold restOf;simp only [List.mem_filterMap,List.mem_range];constructor
 ·rintro ⟨k,hk,h⟩;split at h
  ·simp at h
  ·rename_i hl;simp only [Option.map_eq_some_iff] at h;obtain ⟨o,h1,rfl⟩:=h;exact ⟨h1,by simpa using hl⟩
 ·rintro ⟨h1,h2⟩;exact ⟨x.1,(Array.getElem?_eq_some_iff.1 h1).1,by rw [h2,h1]; simp⟩
theorem kK (ops:Array Oper) (listed:Array Bool):(restOf ops listed).Pairwise (fun x y=>x.1 < y.1):=by
 unfold restOf;rw [List.pairwise_filterMap];refine List.Pairwise.imp ?_ List.pairwise_lt_range;intro a b hab x hx y hy;split at hx
 ·simp at hx
 ·split at hy
  ·simp at hy
  ·simp only [Option.map_eq_some_iff] at hx hy;obtain ⟨_,_,rfl⟩:=hx;obtain ⟨_,_,rfl⟩:=hy;exact hab
theorem tO {ops:Array Oper} {listed:Array Bool} {i:Nat} (hi:i < listed.size):restOf ops (listed.setIfInBounds i true)=(restOf ops listed).filter fun x=>x.1 != i:=by
 unfold restOf;rw [List.filter_filterMap];apply jg;intro k hk;by_cases e:i=k
 ·subst e;have:(listed.setIfInBounds i true).getD i true=true:=by simp [Array.getD_eq_getD_getElem?,Array.getElem?_setIfInBounds,hi]
  rw [this];generalize listed.getD i true=v;cases v<;>cases ops[i]?<;>simp [Option.filter]
 ·have:(listed.setIfInBounds i true).getD k true=listed.getD k true:=getD_set_ne true e;rw [this];generalize listed.getD k true=v;cases v<;>cases ops[k]?<;>simp [Option.filter,Ne.symm e]
theorem fD {listed:Array Bool} {i:Nat} (h:listed.getD i false=true):listed.getD i true=true:=by
 simp only [Array.getD_eq_getD_getElem?] at h ⊢;cases hi:listed[i]? with
 | none=>simp [hi] at h
 | some b=>simpa [hi] using h
theorem zt {E:Env} (hT:TOk P E) (hG:GOk P E) {ops:Array Oper} (hS:drawS ops=true) {Q:Exit->Act->World->Prop} {stf:St} (hq:∀ a w,Inv X stf a w->Q .normal a w):∀ (fuel:Nat) {listed:Array Bool} {st:St} {a:Act} {w:World},
  listed.size=ops.size->(restOf ops listed).length=fuel->(∀ i o e,listed.getD i false=true->ops[i]?=some o->e∈o.after->Region.binds .any e=true->listed.getD e.on false=true) ->
  Inv X st a w->runD E ops (restOf ops listed) st=some stf->wpAny P .any ops Q fuel listed a w:=by
 have unl:∀ {listed:Array Bool} {j:Nat},listed.size=ops.size->j < ops.size->listed.getD j true=true->listed.getD j false=true:=by
  intro listed j hsz hj h;simp only [Array.getD_eq_getD_getElem?] at h ⊢;rw [Array.getElem?_eq_getElem (by omega)] at h ⊢;simpa using h
 intro fuel
 induction fuel with
 | zero=>
  intro listed st a w hsz hl hdown H h;have hnil:restOf ops listed=[]:=List.eq_nil_of_length_eq_zero hl;refine ⟨?_,?_⟩
  ·rw [List.eq_nil_iff_forall_not_mem];intro j hj;rw [mem_ready] at hj;obtain ⟨h1,o,h2,_⟩:=hj;have:(j,o)∈restOf ops listed:=fT.2 ⟨h2,h1⟩;rw [hnil] at this;simp at this
  ·rw [hnil] at h;simp only [runD,Option.some.injEq] at h;subst h;exact hq a w H
 | succ fuel ih=>
  intro listed st a w hsz hl hdown H h;refine ⟨?_,?_⟩
  ·intro hr;exfalso;cases hc:restOf ops listed with
   | nil=>rw [hc] at hl; simp at hl
   | cons x xs=>
    obtain ⟨h1,h2⟩:=fT.1 (show x∈restOf ops listed by rw [hc]; simp);have hx:x.1∈Region.ready .any ops listed:=by
     rw [mem_ready];refine ⟨h2,x.2,h1,?_⟩;intro e he hb;have hlt:=od hS h1 he hb;have hin:=(Array.getElem?_eq_some_iff.1 h1).1;refine unl hsz (by omega) ?_;cases hle:listed.getD e.on true with
     | true=>rfl
     | false=>
      have hm:(e.on,ops[e.on])∈restOf ops listed:=fT.2 ⟨Array.getElem?_eq_getElem (by omega),hle⟩;have hs:=kK ops listed;rw [hc] at hm hs;rcases List.mem_cons.1 hm with hm|hm
      ·have:=congrArg Prod.fst hm; simp at this; omega
      ·have:=List.rel_of_pairwise_cons hs hm; simp at this; omega
    rw [hr] at hx;simp at hx
  ·intro i hi;rw [mem_ready] at hi;obtain ⟨hi1,o,hi2,hi3⟩:=hi;have hm:(i,o)∈restOf ops listed:=fT.2 ⟨hi2,hi1⟩;obtain ⟨pre,post,hpp⟩:=List.append_of_mem hm;have hs:=kK ops listed;rw [hpp] at hs h;have hilt:=(Array.getElem?_eq_some_iff.1 hi2).1;have hpre:∀ x∈pre,ops[x.1]?=some x.2/\x.1 < i/\ordB ops ops.size x.1 i=false:=by
    intro x hx;obtain ⟨h1,h2⟩:=fT.1 (show x∈restOf ops listed by rw [hpp]; simp [hx]);have hlt:x.1 < i:=by
     have:=(List.pairwise_append.1 hs).2.2 x hx (i,o) (by simp);exact this
    refine ⟨h1,hlt,?_⟩;cases hor:ordB ops ops.size x.1 i with
    | false=>rfl
    | true=>
     have:=iP hdown ops.size x.1 i o hi2 hi3 hor;have:=fD this;rw [h2] at this;simp at this
   obtain ⟨st1,f1,f2⟩:=front hT hG hS hi2 pre (⟨X,a,w,H⟩:Live P st) hpre h;have hrest:restOf ops (listed.setIfInBounds i true)=pre++post:=by
    rw [tO (by omega),hpp,List.filter_append,List.filter_cons];simp only [bne_self_eq_false,Bool.false_eq_true,if_false]
    congr 1
    ·rw [List.filter_eq_self];intro x hx;have:=(hpre x hx).2.1;simp; omega
    ·rw [List.filter_eq_self];intro x hx;have:=List.rel_of_pairwise_cons (List.pairwise_append.1 hs).2.1 hx;simp at this;simp; omega
   refine ma hT hG H hi2 (km f1) ?_;intro a' w' H';refine ih (by simp [hsz]) ?_ ?_ H' (by rw [hrest]; exact f2)
   ·rw [hrest];rw [hpp] at hl;simp at hl ⊢;omega
   ·intro k o' e hk ho' he hb;by_cases e1:i=k
    ·subst e1;rw [hi2] at ho';cases ho';exact getD_set_true (hi3 e he hb)
    ·rw [getD_set_ne false e1] at hk;exact getD_set_true (hdown k o' e hk ho' he hb)
theorem ym {E:Env} (hT:TOk P E) (hG:GOk P E) (hmix:P.follows .mixedOrders=true) {ops:Array Oper} (hS:drawS ops=true) {Q:Exit->Act->World->Prop} {stf:St} (H:Inv X st a w) (h:runD E ops (restOf ops (Array.replicate ops.size false)) st=some stf)
  (hq:∀ a w,Inv X stf a w->Q .normal a w):wpAny P .any ops Q ops.size (Array.replicate ops.size false) a { w with drawn:=w.drawn+1 }:=by
 obtain ⟨m,H⟩:=H;have hrep:∀ i,(Array.replicate ops.size false).getD i false=false:=by
  intro i;simp only [Array.getD_eq_getD_getElem?,Array.getElem?_replicate];split<;>rfl
 refine zt hT hG hS hq ops.size (st:=st) (by simp) ?_ ?_ ⟨m,H.world rfl rfl rfl rfl⟩ h
 ·have:restOf ops (Array.replicate ops.size false)=(List.range ops.size).filterMap fun k=>(ops[k]?).map fun o=>(k,o):=by
   unfold restOf;apply jg;intro k hk;simp only [List.mem_range] at hk;have:(Array.replicate ops.size false).getD k true=false:=by simp [Array.getD_eq_getD_getElem?,hk]
   rw [this];simp
  rw [this];have:∀ (l:List Nat),(∀ k∈l,k < ops.size)->(l.filterMap fun k=>(ops[k]?).map fun o=>(k,o)).length=l.length:=by
   intro l
   induction l with
   | nil=>intro _; rfl
   | cons k l ih=>
    intro hk;have h1:=hk k (by simp);rw [List.filterMap_cons];simp only [Array.getElem?_eq_getElem h1,Option.map_some,List.length_cons];rw [ih (fun x hx=>hk x (by simp [hx]))]
  rw [this _ (by simp)];simp
 ·intro i o e hi;rw [hrep] at hi;simp at hi
end
end Go.Abs

namespace Go.Abs
inductive HE where
 | ap (d:Nat) (s x:C)
 | st (x v:C)
def rootIs (n:Nat):C->Bool
 | .pal m _ _ _ _=>m == n
 | _=>false
def HE.V:HE->Nat->Bool
 | .ap d s x,n=>n == d || rootIs n s || rootIs n x
 | .st x v,n=>(match x with|.pref m _ _ _=>m == n|_=>false) || Nat.ble H0 n || rootIs n v || (match v with|.agg cs=>cs.any (rootIs n)|_=>false)
def HE.hit:HE->Nat->Path->Bool
 | .ap d s _,n,p=>n == d || (match s with|.pal m p0 _ _ _=>m == n && preJ p0 p|_=>false)
 | .st x v,n,_=>HE.V (.st x v) n
def HE.dst:HE->Option Nat
 | .ap d _ _=>some d
 | .st _ _=>none
theorem HE.hit_V (e:HE) (n:Nat) (p:Path) (h:e.hit n p=true):e.V n=true:=by
 cases e with
 | st x v=>exact h
 | ap d s x=>
  simp only [HE.hit,Bool.or_eq_true] at h;simp only [HE.V,Bool.or_eq_true];rcases h with h|h
  ·exact .inl (.inl h)
  ·refine .inl (.inr ?_);split at h
   ·simp only [Bool.and_eq_true] at h; exact h.1
   ·cases h
def hardB (o:Oper):Bool:=
 match o.op with
 | .store ..=>true
 | .call { callee:=.builtin .append,.. }=>true
 | _=>false
def onB (ops:Array Oper) (o:Oper) (st:St):Bool:=
 match o.guard with
 | none=>true
 | some (j,want)=>match (ops[j]?).bind (·.dst) with
  | some t=>(match st.tmps[t]? with|some (.val (.bool b))=>b == want|_=>false)
  | none=>false
def hardN (ops:Array Oper) (o:Oper) (st:St):Bool:=hardB o && onB ops o st
def hardE (o:Oper) (st:St):Option HE:=
 match o.op with
 | .store _ x v=>some (.st (st.ev x) (st.ev v))
 | .call { callee:=.builtin .append,args,argTypes }=>match o.dst,args.toList with
  | some d,[s,x]=>some (.ap d (st.ev s) (st.ev x))
  | _,_=>none
 | _=>none
def appVX (E:Env) (t tx:TypeId) (d:Nat) (s x:C) (st:St):Option St:=
 match E.T t,E.T tx with
 | some ti,some tix=>match ti.kind,tix.kind with
  | .slice e es,.slice e' es'=>if e=e'/\es=es'/\es≠0/\d < H0 then match E.T e with
   | some te=>appV (E.F d) d es te tix s x st
   | none=>none else none
  | _,_=>none
 | _,_=>none
def kV (E:Env) (t:TypeId) (x v:C) (st:St):Option St:=
 match E.T t with
 | some ti=>storeX ti x v st
 | none=>none
def hardF (E:Env) (o:Oper) (he:HE) (st:St):Option St:=
 match o.op,he with
 | .store t _ _,.st x v=>if o.dst.isNone then kV E t x v st else none
 | .call { callee:=.builtin .append,args,argTypes },.ap d s x=>match argTypes.toList with
  | [t,tx]=>appVX E t tx d s x st
  | _=>none
 | _,_=>none
theorem jY {V:Nat->Bool} {hit:Nat->Path->Bool} {d:Option Nat} {R:Nat->C}:Loc V hit d R (one fun _=>none):=.inl fun _ _ _=>rfl
theorem Ap (E:Env) (t tx:TypeId) (d:Nat) (s x:C) (R:Nat->C):Loc (HE.ap d s x).V (HE.ap d s x).hit (some d) R (one (appVX E t tx d s x)):=by
 unfold appVX;cases E.T t with
 | none=>exact jY
 | some ti=>cases E.T tx with
  | none=>exact jY
  | some tix=>
   simp only;cases ti.kind<;>cases tix.kind<;>(try exact jY)
   rename_i e es e' es';simp only;by_cases hc:e=e'/\es=es'/\es≠0/\d < H0
   ·simp only [if_pos hc];cases E.T e with
    | none=>exact jY
    | some te=>
     simp only;refine BK _ d es te tix s x R (by simp [HE.V]) (fun p=>by simp [HE.hit]) ?_ ?_
     ·rintro n p lo len cap rfl;exact ⟨by simp [HE.V,rootIs],fun p' hp=>by simp [HE.hit,hp]⟩
     ·rintro n p lo len cap rfl;simp [HE.V,rootIs]
   ·simp only [if_neg hc]; exact jY
theorem yu (E:Env) (t:TypeId) (x v:C) (R:Nat->C):Loc (HE.st x v).V (HE.st x v).hit none R (one (kV E t x v)):=by
 unfold kV;cases E.T t with
 | none=>exact jY
 | some ti=>
  simp only;by_cases hx:∃ n q i j,x=.pref n q i j
  ·obtain ⟨n,q,i,j,rfl⟩:=hx;refine Av ti n q i j v R (by simp [HE.V]) (fun h hh=>by simp [HE.V,hh]) (fun h p hh=>by simp [HE.hit,HE.V,hh]) (fun j p _=>by simp [HE.hit,HE.V]) ⟨?_,?_⟩
   ·rintro m p lo len cap rfl;exact ⟨by simp [HE.V,rootIs],fun p' _=>by simp [HE.hit,HE.V,rootIs]⟩
   ·rintro cs rfl c hc m p lo len cap rfl;have:cs.any (rootIs m)=true:=List.any_eq_true.2 ⟨_,hc,by simp [rootIs]⟩;exact ⟨by simp [HE.V,this],fun p' _=>by simp [HE.hit,HE.V,this]⟩
  ·refine .inl fun R2 ts _=>?_;simp only [one];cases hu:gm ti v with
   | none=>simp [storeX,hu]
   | some cells=>
    cases x with
    | pref n q i j=>exact (hx ⟨n,q,i,j,rfl⟩).elim
    | _=>simp [storeX,hu]
theorem vn {E:Env} {o:Oper} {st0:St} {he:HE} (h:hardE o st0=some he) (R:Nat->C):Loc he.V he.hit he.dst R (one (hardF E o he)):=by
 obtain ⟨dst,op,ty,pos,after,guard⟩:=o;unfold hardE at h;split at h
 ·rename_i t x v hop;simp only at hop;subst hop;simp only [Option.some.injEq] at h;subst h;by_cases hc:dst.isNone=true
  ·have:hardF E ⟨dst,.store t x v,ty,pos,after,guard⟩ (.st (st0.ev x) (st0.ev v))=kV E t (st0.ev x) (st0.ev v):=by funext s; simp only [hardF,hc,if_true]
   rw [this];exact yu E t _ _ R
  ·have:hardF E ⟨dst,.store t x v,ty,pos,after,guard⟩ (.st (st0.ev x) (st0.ev v))=fun _=>none:=by funext s; simp only [hardF,hc,if_false]; rfl
   rw [this]; exact jY
 ·rename_i args argTypes hop;simp only at hop;subst hop;simp only at h;split at h
  ·rename_i d s x _;simp only [Option.some.injEq] at h;subst h;by_cases ha:∃ t tx,argTypes.toList=[t,tx]
   ·obtain ⟨t,tx,ha⟩:=ha;have:hardF E ⟨some d,.call ⟨.builtin .append,args,argTypes⟩,ty,pos,after,guard⟩ (.ap d (st0.ev s) (st0.ev x))=appVX E t tx d (st0.ev s) (st0.ev x):=by funext s; simp only [hardF,ha]
    rw [this];exact Ap E t tx d _ _ R
   ·have:hardF E ⟨some d,.call ⟨.builtin .append,args,argTypes⟩,ty,pos,after,guard⟩ (.ap d (st0.ev s) (st0.ev x))=fun _=>none:=by
     funext s
     simp only [hardF];split
     ·rename_i t tx h; exact (ha ⟨t,tx,h⟩).elim
     ·rfl
    rw [this]; exact jY
  ·simp at h
 ·simp at h
theorem A7 {E:Env} {t tx:TypeId} {d:Nat} {s x:Operand} {st st':St} {ty:TypeId} {pos:String} {after:Array Edge} {guard:Option (Nat × Bool)} {args:Array Operand} {argTypes:Array TypeId} (ha:args.toList=[s,x]) (ht:argTypes.toList=[t,tx])
  (h:appVX E t tx d (st.ev s) (st.ev x) st=some st'):exe E ⟨some d,.call ⟨.builtin .append,args,argTypes⟩,ty,pos,after,guard⟩ st=some st':=by
 unfold appVX at h;split at h
 case h_2=>simp at h
 rename_i ti tix e1 e2;split at h
 case h_2=>simp at h
 rename_i e es e' es' k1 k2;split at h
 case isFalse=>simp at h
 rename_i hc;obtain ⟨rfl,rfl,h0,hH⟩:=hc;split at h
 case h_2=>simp at h
 rename_i te e3;unfold appV at h;simp only [exe,preX,exe0,ha,ht,e1,e2,k1,k2,and_self,if_true];split at h
 ·rename_i hF; simp only [hF,e3,h]
 ·rename_i hF; simp only [hF,e3,h]
 ·rename_i hF;simp only [hF];split at h
  ·rename_i s' hs; rw [hs]; exact h
  ·rename_i hs;rw [hs];simp only;have:jG E d ti s x st=some st':=by
    unfold jG;rw [k1];simp only [e3];rw [if_neg (by omega)];unfold jy at h;cases hsr:bW st es (st.ev x) with
    | none=>simp [hsr] at h
    | some extra=>
     rw [hsr] at h;simp only at h ⊢;cases hb:bI d es (st.ev s) st with
     | none=>simp [hb] at h
     | some y=>
      obtain ⟨st1,rows⟩:=y;rw [hb] at h;exact h
   rw [this]
theorem BT {E:Env} {ops:Array Oper} {o:Oper} {st:St} (h:onB ops o st=true):stepO E ops o st=exe E o st:=by
 unfold onB at h;unfold stepO;split at h
 ·rename_i hg; simp only [hg]
 ·rename_i j want hg;simp only [hg];split at h
  ·rename_i t ht;simp only [ht];split at h
   ·rename_i b hb; simp only [hb]; rw [if_pos (by simpa using h)]
   ·cases h
  ·cases h
theorem Au {E:Env} {ops:Array Oper} {o:Oper} {st st':St} {he:HE} (hn:hardN ops o st=true) (h:hardE o st=some he) (hf:hardF E o he st=some st'):stepO E ops o st=some st':=by
 simp only [hardN,Bool.and_eq_true] at hn;rw [BT hn.2];obtain ⟨dst,op,ty,pos,after,guard⟩:=o;unfold hardE at h;split at h
 ·rename_i t x v hop;simp only at hop;subst hop;simp only [Option.some.injEq] at h;subst h;simp only [hardF] at hf;split at hf
  case isFalse=>simp at hf
  rename_i hc;rw [Option.isNone_iff_eq_none] at hc;subst hc;have:=qH (E:=E) (ops:=ops) (o:=⟨none,.store t x v,ty,pos,after,none⟩) rfl rfl rfl st;have e:stepO E ops ⟨none,.store t x v,ty,pos,after,none⟩ st=exe E ⟨none,.store t x v,ty,pos,after,guard⟩ st:=rfl;rw [<-e,this];exact hf
 ·rename_i args argTypes hop;simp only at hop;subst hop;simp only at h;split at h
  ·rename_i d s x ha;simp only [Option.some.injEq] at h;subst h;simp only [hardF] at hf;split at hf
   ·rename_i t tx ht;exact A7 ha ht hf
   ·simp at hf
  ·simp at h
 ·simp at h
inductive Ent where
 | b (cs:List C) (d:Option Nat) (kd:Nat)
 | h (he:HE)
def pZ (he:HE) (cs:List C) (d:Option Nat):Bool:=
 match he,cs with
 | .ap dA (.pal n ((_,j0)::_) _ _ _) _,[res,.pref m [] _ j]=>m == n && m != dA && j != j0 && d.isSome && (match res with|.agg _=>false|_=>true) && !(res.ment he.hit 3) && !((C.pref m [] 0 j).ment he.hit 3)
 | _,_=>false
def cfE (he:HE) (cs:List C) (d:Option Nat) (kd:Nat):Bool:=
 (cs.all (fun c=>!(c.ment (if kd == 1 then he.hit else fun n _=>he.V n) 3)) || (kd == 2 && pZ he cs d)) && (match d with|some d=>!he.V d|none=>true)
def compat:Ent->Ent->Bool
 | .h a,.b cs d bl=>cfE a cs d bl
 | .b cs d bl,.h a=>cfE a cs d bl
 | .b ..,.b ..=>true
 | .h _,.h _=>false
theorem yq (a b:Ent):compat a b=compat b a:=by cases a<;>cases b<;>rfl
abbrev Hist:=Nat->Option Ent
def updH (h:Hist) (i:Nat) (e:Ent):Hist:=fun k=>if k=i then some e else h k
def tmpOp (o:Oper):Bool:=o.guard.isNone && (match o.op with|.extract ..=>true|.move _=>true|.assign _=>true|_=>false)
def tmpOk (ops:Array Oper) (x:Nat):Bool:=
 match ops[x]? with
 | some o=>tmpOp o && Region.noSelect ops && (List.range ops.size).all fun j=>j == x || ordB ops ops.size j x || (match ops[j]? with|some oj=>oj.after.any (fun e=>Region.binds .any e && e.on == x) || o.apart ops oj|none=>true)
 | none=>false
def early (ops:Array Oper) (x A:Nat):Bool:=
 Nat.blt x A && tmpOk ops x && (match ops[x]? with|some o=>o.after.all fun e=>!(Region.binds .any e) || ordB ops ops.size e.on A|none=>false)
def unordE (ops:Array Oper) (i j:Nat):Bool:=unord ops i j && !(early ops i j) && !(early ops j i)
def okE (ops:Array Oper) (i:Nat) (e:Ent) (h:Hist):Bool:=
 (h i).isNone && (List.range ops.size).all fun j=>(match h j with|some e'=>compat e e'|none=>true) || !(unordE ops i j)
def qg (o:Oper):Bool:=
 match o.op with
 | .move _|.assign _|.fieldAddr ..|.extract ..|.unOp ..|.binOp ..|.pick ..|.build ..|.alloc _|.buildSlice ..|.box ..|.field ..=>true
 | _=>false
def kdOf (o:Oper):Nat:=
 if qg o then 1 else match o.op,o.guard with
 | .load _ (.tmp _),none=>2
 | _,_=>0
def needs (ops:Array Oper) (i:Nat):Bool:=(List.range ops.size).any fun j=>unord ops i j && ((ops[j]?).map hardB).getD false
def vals (ops:Array Oper) (o:Oper) (st:St):List C:=(looks ops o).map fun t=>(st.tmps[t]?).getD .dead
def SE.val:SE->C
 | .q (some _) c=>c
 | .q none _=>.dead
 | .n _ c _=>c
 | .s _ _=>.dead
def yS:C->Bool
 | .dead=>false
 | _=>true
def deadOk (ops:Array Oper) (i:Nat) (o:Oper) (st:St):Bool:=!(needs ops i) || (vals ops o st).all yS
def stepH (E:Env) (ops:Array Oper) (i:Nat) (o:Oper) (x:St × Hist):Option (St × Hist):=
 if hardN ops o x.1=true then match hardE o x.1 with
  | some he=>if okE ops i (.h he) x.2=true then match hardF E o he x.1 with
    | some s=>some (s,updH x.2 i (.h he))
    | none=>none else none
  | none=>none
 else match seff E ops o x.1 with
  | some e=>if deadOk ops i o x.1=true/\okE ops i (.b (e.val::vals ops o x.1) e.dst (kdOf o)) x.2=true then match e.apply x.1 with
    | some s=>some (s,updH x.2 i (.b (e.val::vals ops o x.1) e.dst (kdOf o)))
    | none=>none else none
  | none=>none
theorem oh {E:Env} {ops:Array Oper} {i:Nat} {o:Oper} {st s:St} {h h':Hist} (hh:hardN ops o st=true) (hs:stepH E ops i o (st,h)=some (s,h')) :
  ∃ he,hardE o st=some he/\okE ops i (.h he) h=true/\hardF E o he st=some s/\h'=updH h i (.h he):=by
 unfold stepH at hs;rw [if_pos hh] at hs;split at hs
 ·rename_i he hE;split at hs
  ·rename_i hok;split at hs
   ·rename_i s0 hF;simp only [Option.some.injEq,Prod.mk.injEq] at hs;obtain ⟨rfl,rfl⟩:=hs;exact ⟨he,hE,hok,hF,rfl⟩
   ·simp at hs
  ·simp at hs
 ·simp at hs
theorem lE {E:Env} {ops:Array Oper} {i:Nat} {o:Oper} {st s:St} {h h':Hist} (hh:hardN ops o st=false) (hs:stepH E ops i o (st,h)=some (s,h')) :
  ∃ e,seff E ops o st=some e/\deadOk ops i o st=true/\okE ops i (.b (e.val::vals ops o st) e.dst (kdOf o)) h=true/\e.apply st=some s/\h'=updH h i (.b (e.val::vals ops o st) e.dst (kdOf o)):=by
 unfold stepH at hs;rw [if_neg (by simp [hh])] at hs;split at hs
 ·rename_i e hE;split at hs
  ·rename_i hok;split at hs
   ·rename_i s0 hF;simp only [Option.some.injEq,Prod.mk.injEq] at hs;obtain ⟨rfl,rfl⟩:=hs;exact ⟨e,hE,hok.1,hok.2,hF,rfl⟩
   ·simp at hs
  ·simp at hs
 ·simp at hs
theorem mY {E:Env} {ops:Array Oper} {i:Nat} {o:Oper} {st s:St} {h:Hist} {he:HE} (hh:hardN ops o st=true) (h1:hardE o st=some he) (h2:okE ops i (.h he) h=true) (h3:hardF E o he st=some s):stepH E ops i o (st,h)=some (s,updH h i (.h he)):=by
 simp only [stepH,hh,if_true,h1,h2,h3]
theorem iK {E:Env} {ops:Array Oper} {i:Nat} {o:Oper} {st s:St} {h:Hist} {e:SE} (hh:hardN ops o st=false) (h1:seff E ops o st=some e) (h2:deadOk ops i o st=true) (h3:okE ops i (.b (e.val::vals ops o st) e.dst (kdOf o)) h=true) (h4:e.apply st=some s) :
  stepH E ops i o (st,h)=some (s,updH h i (.b (e.val::vals ops o st) e.dst (kdOf o))):=by
 simp only [stepH,hh,Bool.false_eq_true,if_false,h1,h2,h3,and_self,if_true,h4]
theorem qV {ops:Array Oper} {i j:Nat} {a b:Ent} {h:Hist} (hi:i < ops.size) (hj:j < ops.size) (hne:i≠j) (hu:unordE ops i j=true) (hu':unordE ops j i=true) (h1:okE ops j a h=true) (h2:okE ops i b (updH h j a)=true) :
  okE ops i b h=true/\okE ops j a (updH h i b)=true/\compat b a=true/\updH (updH h j a) i b=updH (updH h i b) j a:=by
 simp only [okE,Bool.and_eq_true,List.all_eq_true,List.mem_range,Option.isNone_iff_eq_none] at h1 h2 ⊢;have hij:=h2.2 j hj;simp only [hu,Bool.not_true,Bool.or_false,updH,if_true] at hij;refine ⟨⟨?_,?_⟩,⟨?_,?_⟩,hij,?_⟩
 ·have:=h2.1; simpa [updH,hne] using this
 ·intro k hk;by_cases e:k=j
  ·subst e; simp [h1.1]
  ·have:=h2.2 k hk; simpa [updH,e] using this
 ·simp [updH,Ne.symm hne,h1.1]
 ·intro k hk;by_cases e:k=i
  ·subst e; simp [updH,hu',yq a b,hij]
  ·have:=h1.2 k hk; simpa [updH,e] using this
 ·funext k
  simp only [updH];by_cases e1:k=i
  ·subst e1; simp [hne]
  ·simp [e1]
section
variable {X:Ctx} {st:St} {P:Program}
theorem qp {E:Env} {ops:Array Oper} {i:Nat} {o:Oper} {st s:St} {h h':Hist} (hs:stepH E ops i o (st,h)=some (s,h')):stepO E ops o st=some s:=by
 by_cases hh:hardN ops o st=true
 ·obtain ⟨he,h1,h2,h3,_⟩:=oh hh hs; exact Au hh h1 h3
 ·obtain ⟨e,h1,h2,h3,h4,_⟩:=lE (by simpa using hh) hs;exact kE (by simp only [aC,h1,h4])
theorem qz {E:Env} {ops:Array Oper} {o:Oper} {e:SE} (hh:hardN ops o st=false) (h:seff E ops o st=some e):∀ n cs,e≠.s n cs:=by
 rintro n cs rfl;rcases lZ h with ⟨c,h⟩|⟨d,t,r,_,h⟩|⟨t,n',v,cells,_,hop,_,_⟩
 ·cases h
 ·cases h
 ·have hb:hardB o=true:=by simp [hardB,hop]
  simp only [hardN,hb,Bool.true_and] at hh;unfold seff at h;unfold onB at hh;split at h
  ·rename_i hg; simp [hg] at hh
  ·rename_i j want hg;simp only [hg] at hh;split at h
   ·rename_i t ht;simp only [ht] at hh;split at h
    ·rename_i b hb;simp only [hb] at hh;split at h
     ·rename_i hbw; simp [hbw] at hh
     ·simp at h
    ·simp at h
    ·simp at h
   ·simp at h
theorem ko {ops:Array Oper} {o:Oper} {st st2:St} (hT:∀ t∈looks ops o,st2.tmps[t]?=st.tmps[t]?):hardN ops o st2=hardN ops o st:=by
 unfold hardN onB;cases hg:o.guard with
 | none=>rfl
 | some q=>
  obtain ⟨j,want⟩:=q;simp only;cases ht:(ops[j]?).bind (·.dst) with
  | none=>rfl
  | some t=>
   simp only;rw [hT t (List.mem_append.2 (.inr (by simp [oK,hg,ht])))]
theorem zs {E:Env} {o:Oper} {st st2:St} (hb:qg o=true) (h:∀ x∈o.op.operands,st2.ev x=st.ev x):bodySE E o st2=bodySE E o st:=by
 obtain ⟨dst,op,ty,pos,after,guard⟩:=o;simp only at h;cases op with
 | move x=>simp only [bodySE,qop]; rw [h x (by simp [Op.operands])]
 | assign x=>simp only [bodySE,qop]; rw [h x (by simp [Op.operands])]
 | pick c x y=>simp only [bodySE,qop]; rw [h c (by simp [Op.operands]),h x (by simp [Op.operands]),h y (by simp [Op.operands])]
 | fieldAddr s x f=>simp only [bodySE,qop]; rw [h x (by simp [Op.operands])]
 | field s x f=>simp only [bodySE,qop]; rw [h x (by simp [Op.operands])]
 | binOp op t x y yt=>simp only [bodySE,qop]; rw [h x (by simp [Op.operands]),h y (by simp [Op.operands])]
 | unOp op t x=>simp only [bodySE,qop]; rw [h x (by simp [Op.operands])]
 | extract x i=>simp only [bodySE,qop]; rw [h x (by simp [Op.operands])]
 | box t x=>simp only [bodySE]; rw [h x (by simp [Op.operands])]
 | alloc t=>rfl
 | build t parts=>
  simp only [bodySE,qop];have:(parts.toList.map fun x=>(x.1,st2.ev x.2))=parts.toList.map fun x=>(x.1,st.ev x.2):=by
   apply List.map_congr_left;intro x hm;rw [h x.2 (by simp only [Op.operands,List.mem_toArray,List.mem_map]; exact ⟨x,hm,rfl⟩)]
  rw [this]
 | buildSlice t len parts=>
  simp only [bodySE];have:(parts.toList.map fun x=>(x.1,st2.ev x.2))=parts.toList.map fun x=>(x.1,st.ev x.2):=by
   apply List.map_congr_left;intro x hm;rw [h x.2 (by simp only [Op.operands,List.mem_toArray,List.mem_map]; exact ⟨x,hm,rfl⟩)]
  rw [this]
 | _=>simp [qg] at hb
theorem yV {ts:List Tmp} {st st2:St} {x:Operand} (hx:∀ t,x=.tmp t->t∈ts) (h:∀ t∈ts,st2.tmps[t]?=st.tmps[t]?):st2.ev x=st.ev x:=by
 cases x with
 | tmp t=>simp [St.ev,h t (hx t rfl)]
 | _=>rfl
theorem pe {E:Env} {ops:Array Oper} {o:Oper} {st st2:St} (hT:∀ t∈looks ops o,st2.tmps[t]?=st.tmps[t]?) (hA:qg o=false->Alike (looks ops o) st st2):seff E ops o st2=seff E ops o st:=by
 cases hb:qg o with
 | false=>exact lz (hA hb)
 | true=>
  have hbody:=zs (E:=E) (o:=o) (st:=st) (st2:=st2) hb (fun x hx=>yV (ts:=looks ops o) (fun t ht=>by subst ht; exact List.mem_append.2 (.inl (iG (by simpa using hx)))) hT);unfold seff;split
  ·exact hbody
  ·rename_i j want hg;split
   ·rename_i t ht;rw [hT t (List.mem_append.2 (.inr (by simp [oK,hg,ht]))),hbody]
   ·rfl
theorem tB {ops:Array Oper} {o:Oper} {st st2:St} (hT:∀ t∈looks ops o,st2.tmps[t]?=st.tmps[t]?):hardE o st2=hardE o st:=by
 have key:∀ x∈o.op.operands,st2.ev x=st.ev x:=fun x hx=>yV (ts:=looks ops o) (fun t ht=>by subst ht; exact List.mem_append.2 (.inl (iG (by simpa using hx)))) hT;obtain ⟨dst,op,ty,pos,after,guard⟩:=o;simp only at key;unfold hardE;split
 ·rename_i t x v hop;simp only at hop;subst hop;rw [key x (by simp [Op.operands]),key v (by simp [Op.operands])]
 ·rename_i args argTypes hop;simp only at hop;subst hop;simp only;split
  ·rename_i d s x ha;have ha':args=#[s,x]:=by rw [<-ha]
   subst ha';rw [key s (by simp [Op.operands,Call.operands]),key x (by simp [Op.operands,Call.operands])]
  ·rfl
 ·rfl
theorem pt {ops:Array Oper} {o:Oper} {st st2:St} (hT:∀ t∈looks ops o,st2.tmps[t]?=st.tmps[t]?):vals ops o st2=vals ops o st:=by
 unfold vals;apply List.map_congr_left;intro t ht;rw [hT t ht]
theorem uV {e:SE} {s:St} (hs:∀ n cs,e≠.s n cs) (h:e.apply st=some s):s.tmps=(match e.dst with|some d=>st.tmps.set d e.val|none=>st.tmps):=by
 cases e with
 | q d c=>simp only [SE.apply,Option.some.injEq] at h; subst h; cases d<;>rfl
 | n d c r=>
  simp only [SE.apply] at h;split at h
  ·simp only [Option.some.injEq] at h; subst h; rfl
  ·simp at h
 | s n cs=>exact (hs n cs rfl).elim
theorem uU {e:SE} {s:St} (hs:∀ n cs,e≠.s n cs) (h:e.apply st=some s) {t:Nat} (ht:∀ d,e.dst=some d->d≠t):s.tmps[t]?=st.tmps[t]?:=by
 rw [uV hs h];cases hd:e.dst with
 | none=>rfl
 | some d=>simp [List.getElem?_set,ht d hd]
theorem rZ {V:Nat->Bool} {R':Nat->C} {G:List C->List C} {hit:Nat->Path->Bool} {dA:Option Nat} (hG:TT hit dA G) {e:SE} (hs:∀ n cs,e≠.s n cs) (hc:e.val.ment hit 3=false) (hd:∀ d,e.dst=some d->V d=false/\dA≠some d) :
  (∀ s,e.apply st=some s->agree V st.roots s.roots/\e.apply ⟨G st.tmps,mixR V R' st.roots⟩=some ⟨G s.tmps,mixR V R' s.roots⟩) ∧
  (∀ s2,e.apply ⟨G st.tmps,mixR V R' st.roots⟩=some s2->∃ s,e.apply st=some s):=by
 cases e with
 | q d c=>
  refine ⟨fun s h=>?_,fun s2 h=>⟨_,rfl⟩⟩;simp only [SE.apply,Option.some.injEq] at h;subst h;cases d with
  | none=>exact ⟨fun _ _=>rfl,rfl⟩
  | some d=>exact ⟨fun _ _=>rfl,by simp only [SE.apply,St.put]; rw [hG.set_comm _ d c (hd d rfl).2 hc]⟩
 | n d c r=>
  have hVd:=(hd d rfl).1;have hm:(mixR V R' st.roots) d=st.roots d:=by simp [mixR,hVd]
  refine ⟨fun s h=>?_,fun s2 h=>?_⟩
  ·simp only [SE.apply] at h;split at h
   ·rename_i hdd;simp only [Option.some.injEq] at h;subst h;refine ⟨fun n hn=>by show upd st.roots d r n=_; rw [upd_ne (by rintro rfl; rw [hVd] at hn; cases hn)],?_⟩;simp only [SE.apply,hm,hdd];rw [hG.set_comm _ d c (hd d rfl).2 hc]
    congr 2
    funext k
    simp only [mixR,upd];by_cases hk:k=d
    ·subst hk; simp [hVd]
    ·simp [hk]
   ·simp at h
  ·simp only [SE.apply,hm] at h;split at h
   ·rename_i hdd; exact ⟨_,by simp only [SE.apply,hdd]; rfl⟩
   ·simp at h
 | s n cs=>exact (hs n cs rfl).elim
theorem he_dst {o:Oper} {he:HE} (h:hardE o st=some he):∀ d,he.dst=some d->o.dst=some d:=by
 unfold hardE at h;split at h
 ·simp only [Option.some.injEq] at h; subst h; intro d hd; cases hd
 ·split at h
  ·rename_i d s x hd _;simp only [Option.some.injEq] at h;subst h;intro d' hd'; cases hd'; exact hd
  ·simp at h
 ·simp at h
theorem wm {ops:Array Oper} {o:Oper} {V:Nat->Bool} {s1 s2:St} (hT:∀ t∈looks ops o,s2.tmps[t]?=s1.tmps[t]?) (hR:∀ n,V n=false->s2.roots n=s1.roots n)
  (hm:∀ t∈looks ops o,∀ c,s1.tmps[t]?=some c->c.ment (fun n _=>V n) 3=false):Alike (looks ops o) s1 s2:=by
 intro t ht;refine ⟨hT t ht,?_⟩;intro c hc k v n p ho hp;obtain ⟨n',p',e1,e2⟩:=dT k 3 c v (hm t ht c hc) ho;rw [hp] at e1;cases e1;exact hR n e2
theorem pX {he:HE} {cs:List C} {d:Option Nat} {kd:Nat} (h:cfE he cs d kd=true):(∀ c∈cs,c.ment he.hit 3=false)/\(kd=1∨(∀ c∈cs,c.ment (fun n _=>he.V n) 3=false)∨(kd=2/\pZ he cs d=true)):=by
 simp only [cfE,Bool.and_eq_true,Bool.or_eq_true,List.all_eq_true,Bool.not_eq_true',beq_iff_eq] at h;rcases h.1 with h1|⟨h1,h2⟩
 ·by_cases hk:kd=1
  ·subst hk;exact ⟨fun c hc=>by simpa using h1 c hc,.inl rfl⟩
  ·simp only [hk,if_false] at h1;exact ⟨fun c hc=>rR (fun n p hh=>he.hit_V n p hh) 3 c (h1 c hc),.inr (.inl h1)⟩
 ·refine ⟨?_,.inr (.inr ⟨h1,h2⟩)⟩;unfold pZ at h2;split at h2
  ·rename_i dA n i0 j0 q lo len cap x res m i j;simp only [Bool.and_eq_true,Bool.not_eq_true'] at h2;intro c hc;simp only [List.mem_cons,List.not_mem_nil,or_false] at hc;rcases hc with rfl|rfl
   ·exact h2.1.2
   ·have:=h2.2;simpa [C.ment] using this
  ·cases h2
theorem zb {he:HE} {cs:List C} {d:Nat} {kd:Nat} (h:cfE he cs (some d) kd=true):he.V d=false:=by
 simp only [cfE,Bool.and_eq_true,Bool.not_eq_true'] at h;exact h.2
theorem qN {ops:Array Oper} {o:Oper} {t:Tmp} (ht:t∈looks ops o) {c:C} (hc:st.tmps[t]?=some c):c∈vals ops o st:=by
 unfold vals;rw [List.mem_map];exact ⟨t,ht,by rw [hc]; rfl⟩
theorem zv {ti:TI} (hag:ti.agg=false) {la lb:List C} (hl:la.length=lb.length) (hh:la.head?=lb.head?):packC ti la=packC ti lb:=by
 unfold packC;rw [hag];simp only [Bool.false_eq_true,if_false]
 match la,lb with
 | [],[]=>rfl
 | [a],[b]=>simp only [List.head?_cons,Option.some.injEq] at hh; rw [hh]
 | [],b::_=>simp at hl
 | _::_,[]=>simp at hl
 | [_],_::_::_=>simp at hl
 | _::_::_,[_]=>simp at hl
 | _::_::_,_::_::_=>rfl
theorem sd (n:Nat) (p:Path) (i:Nat):∀ (j:Nat) (xs:List C),(eg n p i j xs).length=xs.length
 | _,[]=>rfl
 | j,_::xs=>by simp only [eg,List.length_cons,sd n p i (j+1) xs]
theorem qZ (n:Nat) (p:Path) (i j:Nat) (xs:List C):(eg n p i j xs).head?=xs.head?.map (viewC n p i j):=by cases xs<;>rfl
theorem AJ {st st2:St} {ti:TI} {n i j i0 j0:Nat} {q:Path} (hj:j≠j0) (hag:ti.agg=false) (hR:st2.roots n=st.roots n∨st2.roots n=(st.roots n).turn (fun _=>.dead) ((i0,j0)::q)) :
  loadC st2 ti (.pref n [] i j)=loadC st ti (.pref n [] i j):=by
 rcases hR with hR|hR
 ·simp only [loadC,St.node,hR]
 ·simp only [loadC,St.node,hR,C.at];cases hc:st.roots n with
  | sl own nl es cap rows=>
   simp only [C.turn,C.at];cases own with
   | false=>rfl
   | true=>
    simp only [List.getElem?_modify];cases hr:rows[i]? with
    | none=>rfl
    | some row=>
     simp only [Option.map_eq_map,Option.map_some];split
     ·simp only [List.length_modify];split
      ·refine zv hag (by simp [sd]) ?_;rw [qZ,qZ]
       congr 1
       simp only [List.head?_take,List.head?_drop,List.getElem?_modify,Ne.symm hj,if_false];split
       ·rfl
       ·cases row[j]?<;>rfl
      ·rfl
     ·rfl
  | agg cs=>rfl
  | tup cs=>rfl
  | _=>rfl
theorem w6 {d n:Nat} (h:n≠d):(st.fresh d).roots n=st.roots n:=by
 unfold St.fresh;split
 ·rfl
 ·simp only [St.drop,upd_ne h]
theorem Ah {fr:Option Bool} {d es:Nat} {te tix:TI} {n lo len i0 j0:Nat} {q:Path} {cap:Option Nat} {x:C} {st':St} (hne:n≠d) (h:appV fr d es te tix (.pal n ((i0,j0)::q) lo len cap) x st=some st') :
  st'.roots n=st.roots n∨st'.roots n=(st.roots n).turn (fun _=>.dead) ((i0,j0)::q):=by
 unfold appV at h;split at h
 ·simp [ey] at h
 ·left;unfold ai at h;split at h
  ·split at h
   ·simp only [Option.some.injEq] at h;subst h;simp only [upd_ne hne];exact w6 hne
   ·simp at h
  ·simp at h
 ·have:dg d es (.pal n ((i0,j0)::q) lo len cap) x st=none:=by unfold dg; rfl
  rw [this] at h;simp only at h;unfold jy at h;split at h
  case h_2=>simp at h
  split at h
  case h_2=>simp at h
  rename_i st1 rows hb;split at h
  case isFalse=>simp at h
  simp only [Option.some.injEq] at h;subst h;unfold bI at hb;simp only at hb;split at hb
  case h_2=>simp at hb
  split at hb
  case isFalse=>simp at hb
  split at hb
  case isFalse=>simp at hb
  simp only [Option.some.injEq,Prod.mk.injEq] at hb;obtain ⟨rfl,_⟩:=hb;right;simp only [grown,upd_ne hne,St.move,ah];rw [w6 hne]
theorem zM {E:Env} {o:Oper} {d:Nat} {n lo len i0 j0:Nat} {q:Path} {cap:Option Nat} {x:C} {st':St} (hne:n≠d) (h:hardF E o (.ap d (.pal n ((i0,j0)::q) lo len cap) x) st=some st') :
  st'.roots n=st.roots n∨st'.roots n=(st.roots n).turn (fun _=>.dead) ((i0,j0)::q):=by
 unfold hardF at h;split at h
 ·rename_i h1 h2; cases h2
 ·rename_i h1 h2;cases h2;split at h
  ·unfold appVX at h;split at h
   case h_2=>simp at h
   split at h
   case h_2=>simp at h
   split at h
   case isFalse=>simp at h
   split at h
   case h_2=>simp at h
   exact Ah hne h
  ·simp at h
 ·simp at h
theorem AH {E:Env} {ops:Array Oper} {o:Oper} {t:TypeId} {k:Tmp} (ho:o.op=.load t (.tmp k)) (hg:o.guard=none):seff E ops o st=match E.T t with|some ti=>qSE o (loadC st ti (st.ev (.tmp k)))|none=>none:=by
 unfold seff bodySE;rw [hg,ho];simp only [qop];cases E.T t<;>rfl
theorem vh {E:Env} {ops:Array Oper} {o oA:Oper} {he:HE} {sa sb s0 s1:St} {e:SE} (hk:kdOf o=2) (hF:hardF E oA he s0=some s1) (hab:(sa=s0/\sb=s1)∨(sa=s1/\sb=s0))
  (hT:∀ t∈looks ops o,sb.tmps[t]?=sa.tmps[t]?) (hs:seff E ops o sa=some e) (hsib:pZ he (e.val::vals ops o sa) e.dst=true):seff E ops o sb=some e:=by
 obtain ⟨t,k,ho,hg⟩:∃ t k,o.op=.load t (.tmp k)/\o.guard=none:=by
  unfold kdOf at hk;split at hk
  ·cases hk
  ·split at hk
   ·rename_i t k h1 h2; exact ⟨t,k,h1,h2⟩
   ·cases hk
 have hlk:k∈looks ops o:=List.mem_append.2 (.inl (iG (by simp [ho,Op.operands])));have hlooks:looks ops o=[k]:=by simp [looks,oK,hg,ho,Op.operands,tmpsOf]
 have hev:sb.ev (.tmp k)=sa.ev (.tmp k):=by simp [St.ev,hT k hlk]
 have hv:vals ops o sa=[sa.ev (.tmp k)]:=by simp [vals,hlooks,St.ev]
 rw [AH ho hg] at hs ⊢;rw [hv] at hsib;unfold pZ at hsib;split at hsib
 case h_2=>cases hsib
 rename_i dA n i0 j0 q lo len cap x res m i j hcs;simp only [List.cons.injEq,and_true] at hcs;obtain ⟨rfl,hp⟩:=hcs;simp only [Bool.and_eq_true,beq_iff_eq,bne_iff_ne,ne_eq,Option.isSome_iff_exists] at hsib;obtain ⟨⟨⟨⟨⟨⟨rfl,h2⟩,h3⟩,d,h4⟩,h5⟩,_⟩,_⟩:=hsib;rw [hev,hp];rw [hp] at hs;cases hti:E.T t with
 | none=>rw [hti] at hs; cases hs
 | some ti=>
  rw [hti] at hs;simp only at hs ⊢;cases hl:loadC sa ti (.pref m [] i j) with
  | none=>rw [hl] at hs; cases hs
  | some c=>
   have hs':=hs;rw [hl] at hs;simp only [qSE,Option.some.injEq] at hs;subst hs;simp only [SE.dst] at h4;simp only [h4,SE.val] at h5;have hag:ti.agg=false:=by
    cases hb:ti.agg with
    | false=>rfl
    | true=>
     exfalso;have:∃ cs,c=.agg cs:=by
      simp only [loadC] at hl;split at hl
      ·split at hl
       ·split at hl
        ·simp only [packC,hb,if_true,Option.some.injEq] at hl; exact ⟨_,hl.symm⟩
        ·cases hl
       ·cases hl
      ·cases hl
     obtain ⟨cs,rfl⟩:=this;simp at h5
   have hroot:=zM (i0:=i0) (j0:=j0) h2 hF;have:loadC s1 ti (.pref m [] i j)=loadC s0 ti (.pref m [] i j):=AJ h3 hag hroot;rcases hab with ⟨rfl,rfl⟩|⟨rfl,rfl⟩
   ·rw [this]; exact hs'
   ·rw [<-this]; exact hs'
theorem swapH {E:Env} (H:Live P st) {ops:Array Oper} {i j:Nat} {x y:Oper} (hx:ops[j]?=some x) (hy:ops[i]?=some y) (hne:i≠j) (hu:unordE ops i j=true) (hu':unordE ops j i=true) (hd:disj ops x y=true) {s1 s2:St} {h h1 h2:Hist}
  (g1:stepH E ops j x (st,h)=some (s1,h1)) (g2:stepH E ops i y (s1,h1)=some (s2,h2)) :
  ∃ s1' h1',stepH E ops i y (st,h)=some (s1',h1')/\stepH E ops j x (s1',h1')=some (s2,h2):=by
 have hil:=(Array.getElem?_eq_some_iff.1 hy).1;have hjl:=(Array.getElem?_eq_some_iff.1 hx).1;simp only [disj,Bool.and_eq_true] at hd;obtain ⟨⟨c1,c2⟩,c3⟩:=hd;have n1:∀ d,x.dst=some d->d∉looks ops y:=by
  intro d hd hm;rw [hd] at c1;simp at c1;exact c1 hm
 have n2:∀ d,y.dst=some d->d∉looks ops x:=by
  intro d hd hm;rw [hd] at c2;simp at c2;exact c2 hm
 have n3:∀ d,x.dst=some d->y.dst≠some d:=by
  intro d hd hm;rw [hd,hm] at c3;simp at c3
 by_cases bx:hardN ops x st=true
 ·obtain ⟨he,a1,a2,a3,rfl⟩:=oh bx g1;by_cases by_:hardN ops y s1=true
  ·obtain ⟨he2,b1,b2,b3,rfl⟩:=oh by_ g2;have:=(qV hil hjl hne hu hu' a2 b2).2.2.1;simp [compat] at this
  ·rw [Bool.not_eq_true] at by_;obtain ⟨e,b1,b2,b3,b4,rfl⟩:=lE by_ g2;obtain ⟨o1,o2,o3,o4⟩:=qV hil hjl hne hu hu' a2 b3;simp only [compat] at o3;have hdE:=j5 b1;have hnS:=qz by_ b1;have dA:∀ t∈looks ops y,he.dst≠some t:=fun t ht e=>n1 t (he_dst a1 t e) ht;have hndd:needs ops i=true:=by
    unfold needs;rw [List.any_eq_true];exact ⟨j,List.mem_range.2 hjl,by simp only [unordE,Bool.and_eq_true] at hu; have bx':=bx; simp only [hardN,Bool.and_eq_true] at bx'; simp [hu.1.1,hx,bx'.1]⟩
   have live:∀ c∈vals ops y s1,yS c=true:=by
    intro c hc;simp only [deadOk,hndd,Bool.not_true,Bool.false_or,List.all_eq_true] at b2;exact b2 c hc
   rcases vn (E:=E) a1 st.roots with hL|⟨G,R',u,hG,hL⟩
   ·have:=hL st.roots st.tmps (fun _ _=>rfl);simp [one,a3] at this
   have F:∀ R2 ts,agree he.V st.roots R2->hardF E x he ⟨ts,R2⟩=some ⟨G ts,mixR he.V R' R2⟩:=by
    intro R2 ts ha;have:=hL R2 ts ha;simp only [one,Option.map_eq_some_iff] at this;obtain ⟨s,q1,q2⟩:=this;rw [q1];cases q2; rfl
   have e1:s1=⟨G st.tmps,mixR he.V R' st.roots⟩:=by
    have:=F st.roots st.tmps (fun _ _=>rfl);have h3:hardF E x he ⟨st.tmps,st.roots⟩=some s1:=a3;rw [h3] at this;exact Option.some.inj this
   subst e1;have T:∀ t∈looks ops y,st.tmps[t]?=(G st.tmps)[t]?:=by
    intro t ht;cases hc:(G st.tmps)[t]? with
    | none=>
     rw [List.getElem?_eq_none_iff] at hc ⊢;rw [hG.length] at hc;exact hc
    | some c=>
     have hm:c∈vals ops y ⟨G st.tmps,mixR he.V R' st.roots⟩:=qN ht hc;have:=live c hm;exact hG.back _ t (dA t ht) c hc (by rintro rfl; cases this)
   have hment:∀ t∈looks ops y,∀ c,(G st.tmps)[t]?=some c->c∈(e.val::vals ops y ⟨G st.tmps,mixR he.V R' st.roots⟩):=fun t ht c hc=>List.mem_cons_of_mem _ (qN (st:=⟨G st.tmps,mixR he.V R' st.roots⟩) ht hc);have hse:seff E ops y st=some e:=by
    rcases (pX o3).2 with hk|hk|⟨hk,hk2⟩
    ·rw [<-b1];exact pe (st:=⟨G st.tmps,mixR he.V R' st.roots⟩) T (fun hbl=>by simp [kdOf,hbl] at hk; split at hk<;>cases hk)
    ·rw [<-b1];exact pe (st:=⟨G st.tmps,mixR he.V R' st.roots⟩) T (fun hbl=>wm (V:=he.V) T (fun n hn=>by simp [mixR,hn]) (fun t ht c hc=>hk c (hment t ht c hc)))
    ·exact vh hk a3 (.inr ⟨rfl,rfl⟩) T b1 hk2
   have hvals:vals ops y st=vals ops y ⟨G st.tmps,mixR he.V R' st.roots⟩:=pt (st:=⟨G st.tmps,mixR he.V R' st.roots⟩) T;have hcv:=(pX o3).1 e.val (by simp);have hdst:∀ d,e.dst=some d->he.V d=false/\he.dst≠some d:=by
    intro d hd;rw [hd] at o3;refine ⟨zb o3,fun hh=>?_⟩;rw [hdE] at hd;exact n3 d (he_dst a1 d hh) hd
   obtain ⟨m1,m2⟩:=rZ (R':=R') (st:=st) hG hnS hcv hdst;obtain ⟨s1',f1⟩:=m2 s2 b4;obtain ⟨f2,f3⟩:=m1 s1' f1;rw [b4] at f3;simp only [Option.some.injEq] at f3;subst f3;have by2:hardN ops y st=false:=by rw [ko (st:=⟨G st.tmps,mixR he.V R' st.roots⟩) T]; exact by_
   refine ⟨s1',_,iK by2 hse (by unfold deadOk at b2 ⊢; rw [hvals]; exact b2) (by rw [hvals]; exact o1) f1,?_⟩;have hT1:∀ t∈looks ops x,s1'.tmps[t]?=st.tmps[t]?:=fun t ht=>uU hnS f1 (fun d hd=>by rintro rfl; rw [hdE] at hd; exact n2 d hd ht);have a1':hardE x s1'=some he:=by rw [tB hT1]; exact a1
   rw [hvals,o4];exact mY (by rw [ko hT1]; exact bx) a1' o2 (F s1'.roots s1'.tmps f2)
 ·rw [Bool.not_eq_true] at bx;obtain ⟨e,a1,a2,a3,a4,rfl⟩:=lE bx g1;have hdE:=j5 a1;have hnS:=qz bx a1;by_cases by_:hardN ops y s1=true
  ·obtain ⟨he,b1,b2,b3,rfl⟩:=oh by_ g2;obtain ⟨o1,o2,o3,o4⟩:=qV hil hjl hne hu hu' a3 b2;simp only [compat] at o3;have hT1:∀ t∈looks ops y,s1.tmps[t]?=st.tmps[t]?:=fun t ht=>uU hnS a4 (fun d hd=>by rintro rfl; rw [hdE] at hd; exact n1 d hd ht);have b1':hardE y st=some he:=by rw [<-tB hT1]; exact b1
   have dA:∀ t∈looks ops x,he.dst≠some t:=fun t ht e=>n2 t (he_dst b1 t e) ht;have hcv:=(pX o3).1 e.val (by simp);have hdst:∀ d,e.dst=some d->he.V d=false/\he.dst≠some d:=by
    intro d hd;rw [hd] at o3;refine ⟨zb o3,fun hh=>?_⟩;rw [hdE] at hd;exact n3 d hd (he_dst b1 d hh)
   rcases vn (E:=E) b1 st.roots with hL|⟨G,R',u,hG,hL⟩
   ·have hag:agree he.V st.roots s1.roots:=by
     have:=(rZ (st:=st) (V:=he.V) (R':=st.roots) (G:=id) (hit:=he.hit) (dA:=he.dst) .id hnS hcv hdst).1 s1 a4;exact this.1
    have:=hL s1.roots s1.tmps hag;have h3:hardF E y he ⟨s1.tmps,s1.roots⟩=some s2:=b3;simp [one,h3] at this
   have F:∀ R2 ts,agree he.V st.roots R2->hardF E y he ⟨ts,R2⟩=some ⟨G ts,mixR he.V R' R2⟩:=by
    intro R2 ts ha;have:=hL R2 ts ha;simp only [one,Option.map_eq_some_iff] at this;obtain ⟨s,q1,q2⟩:=this;rw [q1];cases q2; rfl
   obtain ⟨m1,m2⟩:=rZ (R':=R') (st:=st) hG hnS hcv hdst;obtain ⟨f2,f3⟩:=m1 s1 a4;have e2:s2=⟨G s1.tmps,mixR he.V R' s1.roots⟩:=by
    have h3:hardF E y he ⟨s1.tmps,s1.roots⟩=some s2:=b3;rw [F s1.roots s1.tmps f2] at h3;exact (Option.some.inj h3).symm
   subst e2;have FA:hardF E y he st=some ⟨G st.tmps,mixR he.V R' st.roots⟩:=F st.roots st.tmps (fun _ _=>rfl);refine ⟨_,_,mY (by rw [<-ko hT1]; exact by_) b1' o1 FA,?_⟩;have T:∀ t∈looks ops x,(G st.tmps)[t]?=st.tmps[t]?:=by
    intro t ht;refine hG.get _ t (dA t ht) (fun c hc=>?_);exact (pX o3).1 c (List.mem_cons_of_mem _ (qN ht hc))
   have hse:seff E ops x ⟨G st.tmps,mixR he.V R' st.roots⟩=some e:=by
    rcases (pX o3).2 with hk|hk|⟨hk,hk2⟩
    ·rw [<-a1];exact pe (st:=st) T (fun hbl=>by simp [kdOf,hbl] at hk; split at hk<;>cases hk)
    ·rw [<-a1];exact pe (st:=st) T (fun hbl=>wm (V:=he.V) (s1:=st) T (fun n hn=>by simp [mixR,hn]) (fun t ht c hc=>hk c (List.mem_cons_of_mem _ (qN ht hc))))
    ·exact vh hk FA (.inl ⟨rfl,rfl⟩) T a1 hk2
   have hvals:vals ops x ⟨G st.tmps,mixR he.V R' st.roots⟩=vals ops x st:=pt (st:=st) T;have:=iK (ops:=ops) (i:=j) (h:=updH h i (.h he)) (by rw [ko (st:=st) T]; exact bx) hse (by unfold deadOk at a2 ⊢; rw [hvals]; exact a2) (by rw [hvals]; exact o2) f3;rw [this,hvals,o4]
  ·rw [Bool.not_eq_true] at by_;obtain ⟨e',b1,b2,b3,b4,rfl⟩:=lE by_ g2;obtain ⟨o1,o2,o3,o4⟩:=qV hil hjl hne hu hu' a3 b3;have hdE':=j5 b1;have hnS':=qz by_ b1;have A1:Alike (looks ops y) st s1:=mw H a4 (fun d hd=>by rw [hdE] at hd; exact n1 d hd) (fun n cs h=>(hnS n cs h).elim);have T1:∀ t∈looks ops y,s1.tmps[t]?=st.tmps[t]?:=fun t ht=>(A1 t ht).1;have hse:seff E ops y st=some e':=by rw [<-lz A1]; exact b1
   have hv:=pt (ops:=ops) (o:=y) T1;obtain ⟨s1',f1,f2⟩:=tl a4 b4 (by
    intro d1 d2 h1 h2 e;subst e;rw [hdE] at h1;rw [hdE'] at h2;exact n3 d1 h1 h2) (fun n c h=>(hnS n c h).elim) (fun n c h=>(hnS' n c h).elim)
   have A2:Alike (looks ops x) st s1':=mw H f1 (fun d hd=>by rw [hdE'] at hd; exact n2 d hd) (fun n cs h=>(hnS' n cs h).elim);have T2:∀ t∈looks ops x,s1'.tmps[t]?=st.tmps[t]?:=fun t ht=>(A2 t ht).1;have hv2:=pt (ops:=ops) (o:=x) T2;refine ⟨s1',_,iK (by rw [<-ko T1]; exact by_) hse (by unfold deadOk at b2 ⊢; rw [<-hv]; exact b2) (by rw [<-hv]; exact o1) f1,?_⟩;have:=iK (ops:=ops) (i:=j) (h:=updH h i (.b (e'.val::vals ops y st) e'.dst (kdOf y))) (by rw [ko T2]; exact bx) (by rw [lz A2]; exact a1) (by unfold deadOk at a2 ⊢; rw [hv2]; exact a2) (by rw [hv2,<-hv]; exact o2) f2;rw [this,hv2,<-hv,o4]
def runH (E:Env) (ops:Array Oper):List (Nat × Oper)->St × Hist->Option (St × Hist)
 | [],x=>some x
 | (i,o)::l,x=>match stepH E ops i o x with
  | some x'=>runH E ops l x'
  | none=>none
theorem frontH {E:Env} (hT:TOk P E) (hG:GOk P E) {ops:Array Oper} (hS:drawS ops=true) {i:Nat} {o:Oper} (hi:ops[i]?=some o) {post:List (Nat × Oper)} {xf:St × Hist}:∀ (pre:List (Nat × Oper)) {x:St × Hist},Live P x.1 ->
  (∀ x∈pre,ops[x.1]?=some x.2/\x.1 < i/\ordB ops ops.size x.1 i=false/\early ops x.1 i=false)->runH E ops (pre++(i,o)::post) x=some xf ->
  ∃ x1,stepH E ops i o x=some x1/\runH E ops (pre++post) x1=some xf:=by
 intro pre
 induction pre with
 | nil=>
  intro x _ _ h;simp only [List.nil_append,runH] at h;split at h
  ·rename_i s hs; exact ⟨s,hs,h⟩
  ·simp at h
 | cons y pre ih=>
  intro x H hpre h;obtain ⟨j,y⟩:=y;obtain ⟨st,hist⟩:=x;simp only [List.cons_append,runH] at h;split at h
  ·rename_i x1 hs1;obtain ⟨s1,h1⟩:=x1;obtain ⟨e1,e2,e3,e4⟩:=hpre (j,y) (by simp);simp only at e1 e2 e3 e4;have e5:early ops i j=false:=by
    unfold early;have:Nat.blt i j=false:=by rw [<-Bool.not_eq_true,Nat.blt_eq]; omega
    simp [this]
   obtain ⟨x2,g1,g2⟩:=ih (x:=(s1,h1)) (Live.step hT hG H e1 (qp hs1)) (fun z hz=>hpre z (by simp [hz])) h;obtain ⟨s2,h2⟩:=x2;have n1:ordB ops ops.size i j=false:=by
    cases hh:ordB ops ops.size i j with
    | false=>rfl
    | true=>have:=tV hS _ _ _ hh; omega
   obtain ⟨s1',h1',f1,f2⟩:=swapH H e1 hi (by omega) (by simp [unordE,unord,n1,e3,e4,e5]; omega) (by simp [unordE,unord,n1,e3,e4,e5]; omega) (qu hS e1 hi e2 e3) hs1 g1;exact ⟨(s1',h1'),f1,by simp only [List.cons_append,runH,f2]; exact g2⟩
  ·simp at h
theorem zJ {ops:Array Oper} {o:Oper} {a:Act} {w:World} {K:Act->World->Prop} (ht:tmpOp o=true) (h:o.wp P a w K (fun _ _ _=>False)):∃ v,Yields P ops o v a/\K (a.put o.dst v) w:=by
 obtain ⟨dst,op,ty,pos,after,guard⟩:=o;simp only [tmpOp,Bool.and_eq_true,Option.isNone_iff_eq_none] at ht;obtain ⟨rfl,ht⟩:=ht;unfold Oper.wp at h;have key:∀ v,(∀ w,(execOp a.eval ⟨dst,op,ty,pos,after,none⟩).run P w=.ok (.value v) w)->∃ v,Yields P ops ⟨dst,op,ty,pos,after,none⟩ v a/\K (a.put dst v) w:=by
  intro v hv;rw [hv w] at h;exact ⟨v,.inl ⟨by simp [Region.wanted],hv⟩,h⟩
 split at ht
 ·rename_i x ix;cases hx:a.eval x with
  | tuple vs=>
   cases hv:vs[ix]? with
   | some v=>exact key v (fun w=>by simp [execOp,Instr.extract,hx,hv])
   | none=>
    exfalso;simp [execOp,Instr.extract,hx,hv,Oper.upon,stuck] at h
  | _=>exfalso; simp [execOp,Instr.extract,hx,Oper.upon,stuck] at h
 ·exact key _ (fun w=>by simp only [execOp]; rfl)
 ·exact key _ (fun w=>by simp only [execOp]; rfl)
 ·cases ht
theorem leastN (p:Nat->Prop) (h:∃ k,p k):∃ k,p k/\∀ j,p j->k<=j:=by
 classical
 obtain ⟨k,hk⟩:=h
 induction k using Nat.strongRecOn with
 | _ k ih=>
  by_cases hj:∃ j,j < k/\p j
  ·obtain ⟨j,h1,h2⟩:=hj;exact ih j h1 h2
  ·exact ⟨k,hk,fun j hp=>by
    rcases Nat.lt_or_ge j k with h|h
    ·exact (hj ⟨j,h,hp⟩).elim
    ·exact h⟩
theorem bringH {E:Env} (hT:TOk P E) (hG:GOk P E) {ops:Array Oper} (hS:drawS ops=true) {xf:St × Hist} {listed:Array Bool} {hist:Hist} {a:Act} {w:World} (H:Inv X st a w) (hsz:listed.size=ops.size)
  (hdown:∀ i o e,listed.getD i false=true->ops[i]?=some o->e∈o.after->Region.binds .any e=true->listed.getD e.on false=true) {i:Nat} {o:Oper} (hi2:ops[i]?=some o) (hi1:listed.getD i true=false)
  (hi3:∀ e∈o.after,Region.binds .any e=true->listed.getD e.on false=true) (hno:∀ k,k < i->(tmpOk ops k=true/\k∈Region.ready .any ops listed)->False) (h:runH E ops (restOf ops listed) (st,hist)=some xf) :
  ∃ x1,stepH E ops i o (st,hist)=some x1/\runH E ops (restOf ops (listed.setIfInBounds i true)) x1=some xf/\(restOf ops (listed.setIfInBounds i true)).length+1=(restOf ops listed).length ∧
   (∀ k o e,(listed.setIfInBounds i true).getD k false=true->ops[k]?=some o->e∈o.after->Region.binds .any e=true->(listed.setIfInBounds i true).getD e.on false=true):=by
 have hm:(i,o)∈restOf ops listed:=fT.2 ⟨hi2,hi1⟩;obtain ⟨pre,post,hpp⟩:=List.append_of_mem hm;have hs:=kK ops listed;rw [hpp] at hs h;have hilt:=(Array.getElem?_eq_some_iff.1 hi2).1;have hpre:∀ x∈pre,ops[x.1]?=some x.2/\x.1 < i/\ordB ops ops.size x.1 i=false/\early ops x.1 i=false:=by
  intro x hx;obtain ⟨h1,h2⟩:=fT.1 (show x∈restOf ops listed by rw [hpp]; simp [hx]);have hlt:x.1 < i:=(List.pairwise_append.1 hs).2.2 x hx (i,o) (by simp);refine ⟨h1,hlt,?_,?_⟩
  ·cases hor:ordB ops ops.size x.1 i with
   | false=>rfl
   | true=>
    have:=iP hdown ops.size x.1 i o hi2 hi3 hor;have:=fD this;rw [h2] at this;simp at this
  ·cases hea:early ops x.1 i with
   | false=>rfl
   | true=>
    exfalso;unfold early at hea;simp only [Bool.and_eq_true,h1] at hea;obtain ⟨⟨_,q1⟩,q2⟩:=hea;refine hno x.1 hlt ⟨q1,?_⟩;rw [mem_ready];refine ⟨h2,x.2,h1,fun e he hb=>?_⟩;have:=(Array.all_eq_true'.1 q2) e he;simp only [hb,Bool.not_true,Bool.false_or] at this;exact iP hdown ops.size e.on i o hi2 hi3 this
 obtain ⟨x1,f1,f2⟩:=frontH hT hG hS hi2 pre (x:=(st,hist)) (⟨X,a,w,H⟩:Live P st) hpre h;have hrest:restOf ops (listed.setIfInBounds i true)=pre++post:=by
  rw [tO (by omega),hpp,List.filter_append,List.filter_cons];simp only [bne_self_eq_false,Bool.false_eq_true,if_false]
  congr 1
  ·rw [List.filter_eq_self];intro x hx;have:=(hpre x hx).2.1;simp; omega
  ·rw [List.filter_eq_self];intro x hx;have:=List.rel_of_pairwise_cons (List.pairwise_append.1 hs).2.1 hx;simp at this;simp; omega
 refine ⟨x1,f1,by rw [hrest]; exact f2,by rw [hrest,hpp]; simp; omega,?_⟩;intro k o' e hk ho' he hb;by_cases e1:i=k
 ·subst e1;rw [hi2] at ho';cases ho';exact getD_set_true (hi3 e he hb)
 ·rw [getD_set_ne false e1] at hk;exact getD_set_true (hdown k o' e hk ho' he hb)
theorem zI {ops:Array Oper} {i:Nat} {o:Oper} (hi:ops[i]?=some o) (h:tmpOk ops i=true):tmpOp o=true/\Region.noSelect ops=true/\∀ j oj,ops[j]?=some oj->j≠i->ordB ops ops.size j i=false->(∀ e∈oj.after,Region.binds .any e=true->e.on≠i)->o.apart ops oj=true:=by
 unfold tmpOk at h;rw [hi] at h;simp only [Bool.and_eq_true,List.all_eq_true,List.mem_range] at h;refine ⟨h.1.1,h.1.2,?_⟩;intro j oj hj hne hor hno;have:=h.2 j (Array.getElem?_eq_some_iff.1 hj).1;simp only [hj,hor,Bool.or_false,Bool.or_eq_true,beq_iff_eq,hne,false_or] at this;rcases this with h1|h1
 ·obtain ⟨e,he,hb⟩:=Array.any_eq_true'.1 h1;simp only [Bool.and_eq_true,beq_iff_eq] at hb;exact absurd hb.2 (hno e he hb.1)
 ·exact h1
theorem CW {E:Env} (hT:TOk P E) (hG:GOk P E) {ops:Array Oper} (hS:drawS ops=true) {Q:Exit->Act->World->Prop} {xf:St × Hist} (hq:∀ a w,Inv X xf.1 a w->Q .normal a w) (hQ:∀ c a w,¬ Q (.panic c) a w):∀ (fuel:Nat) {listed:Array Bool} {st:St} {hist:Hist} {a:Act} {w:World},
  listed.size=ops.size->(restOf ops listed).length=fuel->(∀ i o e,listed.getD i false=true->ops[i]?=some o->e∈o.after->Region.binds .any e=true->listed.getD e.on false=true) ->
  Inv X st a w->runH E ops (restOf ops listed) (st,hist)=some xf->wpAny P .any ops Q fuel listed a w:=by
 have unl:∀ {listed:Array Bool} {j:Nat},listed.size=ops.size->j < ops.size->listed.getD j true=true->listed.getD j false=true:=by
  intro listed j hsz hj h;simp only [Array.getD_eq_getD_getElem?] at h ⊢;rw [Array.getElem?_eq_getElem (by omega)] at h ⊢;simpa using h
 intro fuel
 induction fuel with
 | zero=>
  intro listed st hist a w hsz hl hdown H h;have hnil:restOf ops listed=[]:=List.eq_nil_of_length_eq_zero hl;refine ⟨?_,?_⟩
  ·rw [List.eq_nil_iff_forall_not_mem];intro j hj;rw [mem_ready] at hj;obtain ⟨h1,o,h2,_⟩:=hj;have:(j,o)∈restOf ops listed:=fT.2 ⟨h2,h1⟩;rw [hnil] at this;simp at this
  ·rw [hnil] at h;simp only [runH,Option.some.injEq] at h;subst h;exact hq a w H
 | succ fuel ih=>
  intro listed st hist a w hsz hl hdown H h;by_cases hx:∃ k,tmpOk ops k=true/\k∈Region.ready .any ops listed
  ·obtain ⟨i,⟨htk,hrdy⟩,hmin⟩:=leastN _ hx;obtain ⟨hi1,o,hi2,hi3⟩:=mem_ready.1 hrdy;obtain ⟨x1,f1,f2,f3,f4⟩:=bringH hT hG hS H hsz hdown hi2 hi1 hi3 (fun k hk hp=>by have:=hmin k hp; omega) h;obtain ⟨st1,hist1⟩:=x1;obtain ⟨t1,t2,t3⟩:=zI hi2 htk;have hw:=ma hT hG H hi2 (qp f1) (K:=fun a' w'=>Inv X st1 a' w') (Q:=fun _ _ _=>False) (fun _ _ h=>h);unfold wpOp at hw;rw [hi2] at hw;simp only at hw;have hgd:Region.wanted o (yielded ops a.tmps)=true:=by
    have:o.guard=none:=by simp only [tmpOp,Bool.and_eq_true,Option.isNone_iff_eq_none] at t1; exact t1.1
    simp [Region.wanted,this]
   rw [if_pos hgd] at hw;rcases hw with hw|⟨_,_,_,hw⟩
   case inr=>exact hw.elim
   obtain ⟨v,hy,H1⟩:=zJ (ops:=ops) t1 hw;refine wpAny_first hi2 (Region.noSelect_spec t2) (fun c a w hp=>(hQ c _ _ hp).elim) fuel listed a w ?_ hrdy hy ?_
   ·intro j oj hj hne hun hno;refine t3 j oj hj hne ?_ hno;cases hor:ordB ops ops.size j i with
    | false=>rfl
    | true=>
     have:=iP hdown ops.size j i o hi2 hi3 hor;have:=fD this;rw [hun] at this;simp at this
   ·exact ih (by simp [hsz]) (by omega) f4 H1 f2
  refine ⟨?_,?_⟩
  ·intro hr;exfalso;cases hc:restOf ops listed with
   | nil=>rw [hc] at hl; simp at hl
   | cons x xs=>
    obtain ⟨h1,h2⟩:=fT.1 (show x∈restOf ops listed by rw [hc]; simp);have hx:x.1∈Region.ready .any ops listed:=by
     rw [mem_ready];refine ⟨h2,x.2,h1,?_⟩;intro e he hb;have hlt:=od hS h1 he hb;have hin:=(Array.getElem?_eq_some_iff.1 h1).1;refine unl hsz (by omega) ?_;cases hle:listed.getD e.on true with
     | true=>rfl
     | false=>
      have hm:(e.on,ops[e.on])∈restOf ops listed:=fT.2 ⟨Array.getElem?_eq_getElem (by omega),hle⟩;have hs:=kK ops listed;rw [hc] at hm hs;rcases List.mem_cons.1 hm with hm|hm
      ·have:=congrArg Prod.fst hm; simp at this; omega
      ·have:=List.rel_of_pairwise_cons hs hm; simp at this; omega
    rw [hr] at hx;simp at hx
  ·intro i hi;rw [mem_ready] at hi;obtain ⟨hi1,o,hi2,hi3⟩:=hi;obtain ⟨x1,f1,f2,f3,f4⟩:=bringH hT hG hS H hsz hdown hi2 hi1 hi3 (fun k _ hp=>hx ⟨k,hp⟩) h;refine ma hT hG H hi2 (qp f1) ?_;intro a' w' H';exact ih (by simp [hsz]) (by omega) f4 H' f2
def allOf (ops:Array Oper):List (Nat × Oper):=(List.range ops.size).filterMap fun k=>(ops[k]?).map fun o=>(k,o)
theorem BJ {E:Env} {a:Act} {w:World} (hT:TOk P E) (hG:GOk P E) (hmix:P.follows .mixedOrders=true) {ops:Array Oper} (hS:drawS ops=true) {Q:Exit->Act->World->Prop} {xf:St × Hist} {hist:Hist} (H:Inv X st a w) (h:runH E ops (allOf ops) (st,hist)=some xf)
  (hq:∀ a w,Inv X xf.1 a w->Q .normal a w) (hQ:∀ c a w,¬ Q (.panic c) a w):wpAny P .any ops Q ops.size (Array.replicate ops.size false) a { w with drawn:=w.drawn+1 }:=by
 obtain ⟨m,H⟩:=H;have hrep:∀ i,(Array.replicate ops.size false).getD i false=false:=by
  intro i;simp only [Array.getD_eq_getD_getElem?,Array.getElem?_replicate];split<;>rfl
 have hall:restOf ops (Array.replicate ops.size false)=allOf ops:=by
  unfold restOf allOf;apply jg;intro k hk;simp only [List.mem_range] at hk;have:(Array.replicate ops.size false).getD k true=false:=by simp [Array.getD_eq_getD_getElem?,hk]
  rw [this];simp
 refine CW hT hG hS hq hQ ops.size (st:=st) (hist:=hist) (by simp) ?_ ?_ ⟨m,H.world rfl rfl rfl rfl⟩ (by rw [hall]; exact h)
 ·rw [hall];have:∀ (l:List Nat),(∀ k∈l,k < ops.size)->(l.filterMap fun k=>(ops[k]?).map fun o=>(k,o)).length=l.length:=by
   intro l
   induction l with
   | nil=>intro _; rfl
   | cons k l ih=>
    intro hk;have h1:=hk k (by simp);rw [List.filterMap_cons];simp only [Array.getElem?_eq_getElem h1,Option.map_some,List.length_cons];rw [ih (fun x hx=>hk x (by simp [hx]))]
  unfold allOf;rw [this _ (by simp)];simp
 ·intro i o e hi;rw [hrep] at hi;simp at hi
end
end Go.Abs

namespace Go.Abs
def runDL (E:Env) (ops:Array Oper):Nat->List Oper->St->Option St
 | _,[],st=>some st
 | k,o::l,st=>match stepE E ops k o st with
  | some st'=>runDL E ops (k+1) l st'
  | none=>none
def pP (E:Env) (ops:Array Oper) (draw:Bool) (st:St):Option St:=
 match draw with
 | true=>match runDL E ops 0 ops.toList st with
  | some s=>if finChk ops s=true then some s else none
  | none=>none
 | false=>runL E ops ops.toList st
def Real (s:St):Prop:=∃ X a w,Inv X s a w
def Weak (s s':St):Prop:=∀ X a w,Inv X s a w->Inv X s' a w
def W (E:Env):Code->(Exit->St->Prop)->St->Prop
 | .skip,Q,st=>Q .normal st
 | .region _ ops draw,Q,st=>∃ st',pP E ops draw st=some st'/\Q .normal st'
 | .seq x y,Q,st=>W E x (fun e s=>match e with
  | .normal=>W E y Q s
  | e=>Q e s) st
 | .cond c x y,Q,st=>match st.ev c with
  | .val (.bool b)=>(b=true->W E x Q st)/\(b=false->W E y Q st)
  | _=>False
 | .block id c,Q,st=>W E c (fun e s=>match e with
  | .exit i=>if i=id then Q .normal s else Q (.exit i) s
  | e=>Q e s) st
 | .loop c,Q,st=>Real st->∃ (I:St->Prop) (μ:St->Nat),(∃ s0,Weak st s0/\I s0)/\∀ s,I s->Real s->W E c (fun e s'=>match e with
  | .normal=>∃ s'',Weak s' s''/\I s''/\μ s'' < μ s
  | e=>Q e s') s
 | .exit id,Q,st=>Q (.exit id) st
 | .label _,Q,st=>Q .normal st
 | .scope c,Q,st=>W E c (fun e s=>match e with
  | .goto _=>False
  | e=>Q e s) st
 | .ret,Q,st=>Q .ret st
 | _,_,_=>False
def codeOk:Code->Bool
 | .region _ ops true=>drawS ops
 | .seq x y=>codeOk x && codeOk y
 | .cond _ x y=>codeOk x && codeOk y
 | .block _ c=>codeOk c
 | .loop c=>codeOk c
 | .scope c=>codeOk c
 | _=>true
section
variable {X:Ctx} {m:Nat->Path->Value} {st:St} {a:Act} {w:World} {P:Program}
theorem zr {e:SE} {s1:St} {t:Nat} (h:e.apply st=some s1) (hd:∀ d,e.dst=some d->d≠t):s1.tmps[t]?=st.tmps[t]?:=by
 cases e with
 | q d c=>
  simp only [SE.apply,Option.some.injEq] at h;subst h;cases d with
  | none=>rfl
  | some d=>simp [St.put,List.getElem?_set,hd d rfl]
 | n d tmp root=>
  simp only [SE.apply] at h;split at h
  ·simp only [Option.some.injEq] at h;subst h;simp [List.getElem?_set,hd d rfl]
  ·simp at h
 | s n c=>
  obtain ⟨_,_,_,_,_,_,_,rfl⟩:=j3 h;rfl
theorem wY {E:Env} {ops:Array Oper} {i:Nat} {o:Oper} {s1:St} (hf:(freeS ops).isEmpty=false) (h:stepE E ops i o st=some s1):aC E ops o st=some s1:=by
 unfold stepE at h;split at h
 ·rename_i s hs; rw [hs]; exact h
 ·simp [barC,hf] at h
theorem yw {E:Env} {ops:Array Oper} {o:Oper} {s1:St} {t:Nat} (h:aC E ops o st=some s1) (hd:o.dst≠some t):s1.tmps[t]?=st.tmps[t]?:=by
 unfold aC at h;split at h
 case h_2=>simp at h
 rename_i e he;refine zr h ?_;rintro d hd' rfl;rw [j5 he] at hd';exact hd hd'
theorem zj {E:Env} {ops:Array Oper} (hf:(freeS ops).isEmpty=false):∀ (l:List Oper) (k:Nat) (st:St) {stf:St} {t:Nat},runDL E ops k l st=some stf->(∀ o∈l,o.dst≠some t)->stf.tmps[t]?=st.tmps[t]?:=by
 intro l
 induction l with
 | nil=>intro k st stf t h _; simp only [runDL,Option.some.injEq] at h; subst h; rfl
 | cons o l ih=>
  intro k st stf t h hd;simp only [runDL] at h;split at h
  ·rename_i s1 hs;rw [ih _ _ h (fun o' ho=>hd o' (by simp [ho])),yw (wY hf hs) (hd o (by simp))]
  ·simp at h
theorem Ch {ops:Array Oper} {i:Nat} {o:Oper} (hf:(freeS ops).isEmpty=true):chk ops i o st=true:=by
 unfold chk;rw [List.isEmpty_iff.1 hf];rfl
theorem zQ {E:Env} {ops:Array Oper} {stf:St} (hc:finChk ops stf=true):∀ (l:List Oper) (k:Nat) (st:St),(∀ j,l[j]?=ops[k+j]?)->runDL E ops k l st=some stf->runD E ops ((l.zipIdx k).map fun x=>(x.2,x.1)) st=some stf:=by
 intro l
 induction l with
 | nil=>intro k st _ h; exact h
 | cons o l ih=>
  intro k st hl h;have h':=h;simp only [runDL] at h;split at h
  case h_2=>simp at h
  rename_i s1 hs;have ho:ops[k]?=some o:=by have:=hl 0; simpa using this.symm
  have hkl:=(Array.getElem?_eq_some_iff.1 ho).1;have hD:stepD E ops k o st=some s1:=by
   have hck:∀ s,aC E ops o st=some s->chk ops k o st=true:=by
    intro s hss;cases hf:(freeS ops).isEmpty with
    | true=>exact Ch hf
    | false=>
     simp only [finChk,hf,Bool.false_or,Bool.and_eq_true,List.all_eq_true,List.mem_range] at hc;have h2:=hc.2 k hkl;rw [ho] at h2;simp only at h2;rw [rV (st:=stf) (st2:=st)] at *
     ·exact h2
     ·intro t ht;refine (zj hf (o::l) k st h' ?_).symm;intro o' ho' hdd;obtain ⟨j,hj⟩:=List.getElem?_of_mem ho';rw [hl j] at hj;have hjl:=(Array.getElem?_eq_some_iff.1 hj).1;have hs:=hc.1;simp only [ssa,List.all_eq_true,List.mem_range] at hs;have:=hs k hkl (k+j) hjl;rw [ho,hj] at this;simp only [hdd] at this;simp at this;rcases this with h|h
      ·omega
      ·exact h ht
   unfold stepE at hs;unfold stepD;split at hs
   ·rename_i s hss;simp only [Option.some.injEq] at hs;subst hs;simp only [hss,hck _ hss,if_true]
   ·rename_i hss;first|(rw [hss]; exact hs)|exact hs
  simp only [List.zipIdx_cons,List.map_cons,runD,hD];exact ih (k+1) s1 (fun j=>by have:=hl (j+1); rw [List.getElem?_cons_succ] at this; rw [this]; congr 1; omega) h
theorem tn (ops:Array Oper):restOf ops (Array.replicate ops.size false)=(ops.toList.zipIdx 0).map fun x=>(x.2,x.1):=by
 have h1:restOf ops (Array.replicate ops.size false)=(List.range ops.size).filterMap fun k=>(ops[k]?).map fun o=>(k,o):=by
  unfold restOf;apply jg;intro k hk;simp only [List.mem_range] at hk;have:(Array.replicate ops.size false).getD k true=false:=by simp [Array.getD_eq_getD_getElem?,hk]
  rw [this];simp
 rw [h1];have key:∀ (l:List Oper) (k:Nat),(∀ j,l[j]?=ops[k+j]?)->(List.range' k l.length).filterMap (fun k=>(ops[k]?).map fun o=>(k,o))=(l.zipIdx k).map fun x=>(x.2,x.1):=by
  intro l
  induction l with
  | nil=>intro k _; rfl
  | cons o l ih=>
   intro k hl;have h0:ops[k]?=some o:=by have:=hl 0; simpa using this.symm
   simp only [List.length_cons,List.range'_succ,List.filterMap_cons,h0,Option.map_some,List.zipIdx_cons,List.map_cons];rw [ih (k+1) (fun j=>by have:=hl (j+1); rw [List.getElem?_cons_succ] at this; rw [this]; congr 1; omega)]
 have:=key ops.toList 0 (fun j=>by simp);rw [<-this,List.range_eq_range'];simp
theorem jk (p:Nat->Prop) (h:∃ k,p k):∃ k,p k/\∀ j,p j->k<=j:=by
 classical
 obtain ⟨k,hk⟩:=h
 induction k using Nat.strongRecOn with
 | _ k ih=>
  by_cases hj:∃ j,j < k/\p j
  ·obtain ⟨j,h1,h2⟩:=hj;exact ih j h1 h2
  ·exact ⟨k,hk,fun j hp=>by by_cases hlt:j < k; exact absurd ⟨j,hlt,hp⟩ hj; omega⟩
def KQ (X:Ctx) (ts:List Tmp) (a:Act) (Q:Exit->St->Prop) (e:Exit) (a':Act) (w':World):Prop:=(∃ s,Q e s/\Inv X s a' w')/\(e=.outgrown∨Same ts a a')
theorem KQ.mk' {ts:List Tmp} {Q:Exit->St->Prop} {e:Exit} {s:St} {a0 a':Act} (h:Q e s) (H:Inv X s a' w) (hs:Same ts a0 a'):KQ X ts a0 Q e a' w:=⟨⟨s,h,H⟩,.inr hs⟩
theorem KQ.from {ts:List Tmp} {Q:Exit->St->Prop} {e:Exit} {a0 a1 a':Act} (h:KQ X ts a1 Q e a' w) (hs:Same ts a0 a1):KQ X ts a0 Q e a' w:=⟨h.1,h.2.imp id fun h=>hs.trans h⟩
theorem W_ok {E:Env} (hT:TOk P E) (hG:GOk P E) (hmix:P.follows .mixedOrders=true) {ts:List Tmp}:∀ (c:Code) {Q:Exit->St->Prop} {st:St} {a:Act} {w:World},codeOk c=true->keepC ts c=true->W E c Q st->Inv X st a w->c.wp P (KQ X ts a Q) a w:=by
 intro c
 induction c with
 | skip=>intro Q st a w _ _ h H; exact wp_skip (.mk' h H (.refl _ _))
 | region id ops draw=>
  intro Q st a w hc hk h H;obtain ⟨st',h1,h2⟩:=h;cases draw with
  | true=>
   unfold pP at h1;dsimp only at h1;split at h1
   case h_2=>simp at h1
   rename_i s hs;split at h1
   case isFalse=>simp at h1
   rename_i hfin;simp only [Option.some.injEq] at h1;subst h1;have h1:=zQ hfin ops.toList 0 st (fun j=>by simp) hs;rw [<-tn] at h1;exact wp_region_any hmix (lB hk _ _ _ _ (.refl _ _) (ym (Q:=fun e a' w'=>∃ s,Q e s/\Inv X s a' w') hT hG hmix hc H h1 (fun a w H'=>⟨s,h2,H'⟩)))
  | false=>
   simp only [pP] at h1;refine wp_region (tM hk _ _ _ (.refl _ _) ?_);have:=Cl hT hG (Q:=fun e a' w'=>∃ s,Q e s/\Inv X s a' w') ops.toList 0 H (fun j=>by simp) h1 (fun a w H'=>⟨st',h2,H'⟩);rw [List.range_eq_range'];simpa using this
 | seq x y ihx ihy=>
  intro Q st a w hc hk h H;simp only [codeOk,Bool.and_eq_true] at hc;simp only [keepC,Bool.and_eq_true] at hk;refine wp_seq (wp_mono (ihx hc.1 hk.1 h H) ?_);rintro e a' w' ⟨⟨s,hs,H'⟩,hsm⟩;cases e with
  | normal=>exact wp_mono (ihy hc.2 hk.2 hs H') fun e a2 w2 h2=>h2.from (hsm.resolve_left (by simp))
  | _=>exact ⟨⟨s,hs,H'⟩,hsm⟩
 | cond c x y ihx ihy=>
  intro Q st a w hc hk h H;simp only [codeOk,Bool.and_eq_true] at hc;simp only [keepC,Bool.and_eq_true] at hk;simp only [W] at h;split at h
  ·rename_i b hb;obtain ⟨m,HM⟩:=H;have hr:=ev_ok HM c;rw [hb] at hr;have hv:=hr.of_val;cases b with
   | true=>exact wp_cond_true hv (ihx hc.1 hk.1 (h.1 rfl) ⟨m,HM⟩)
   | false=>exact wp_cond_false hv (ihy hc.2 hk.2 (h.2 rfl) ⟨m,HM⟩)
  ·exact h.elim
 | block id c ih=>
  intro Q st a w hc hk h H;refine wp_block (wp_mono (ih hc hk h H) ?_);rintro e a' w' ⟨⟨s,hs,H'⟩,hsm⟩;cases e with
  | exit i=>
   simp only at hs;simp only [Exit.inBlock];have hsm':=hsm.resolve_left (by simp);split at hs
   ·rename_i hi; rw [if_pos hi]; exact .mk' hs H' hsm'
   ·rename_i hi; rw [if_neg hi]; exact .mk' hs H' hsm'
  | _=>exact ⟨⟨s,hs,H'⟩,hsm⟩
 | loop c ih=>
  intro Q st a w hc hk h H;obtain ⟨I,μ,⟨s0,hw,hI⟩,hround⟩:=h ⟨_,_,_,H⟩;have key:∀ (n:Nat) (s:St) (a:Act) (w:World),μ s=n->I s->Inv X s a w->(Code.loop c).wp P (KQ X ts a Q) a w:=by
   classical
   intro n s a0 w hn hIs Hs
   let J:Act->World->Prop:=fun a w=>(∃ s,I s/\Inv X s a w)/\Same ts a0 a
   let ν:Act->World->Nat:=fun a w=>if h:∃ k,∃ s,I s/\Inv X s a w/\μ s=k then Classical.choose (jk _ h) else 0
   refine wp_loop J ν ⟨⟨s,hIs,Hs⟩,.refl _ _⟩ ?_;rintro a w ⟨⟨s1,hI1,H1⟩,hs0⟩;have hex:∃ k,∃ s,I s/\Inv X s a w/\μ s=k:=⟨_,s1,hI1,H1,rfl⟩;obtain ⟨s2,hI2,H2,hm2⟩:=(Classical.choose_spec (jk _ hex)).1;have hν:ν a w=μ s2:=by simp only [ν]; rw [dif_pos hex,<-hm2]
   refine wp_mono (ih hc hk (hround s2 hI2 ⟨_,_,_,H2⟩) H2) ?_;rintro e a' w' ⟨⟨s',hs',H'⟩,hsm⟩;cases e with
   | normal=>
    obtain ⟨s'',hw',hI',hlt⟩:=hs';have H'':=hw' X a' w' H';refine ⟨⟨⟨s'',hI',H''⟩,hs0.trans (hsm.resolve_left (by simp))⟩,?_⟩;have hex':∃ k,∃ s,I s/\Inv X s a' w'/\μ s=k:=⟨_,s'',hI',H'',rfl⟩;have:ν a' w'<=μ s'':=by simp only [ν]; rw [dif_pos hex']; exact (Classical.choose_spec (jk _ hex')).2 _ ⟨s'',hI',H'',rfl⟩
    omega
   | _=>exact KQ.from (a1:=a) ⟨⟨s',hs',H'⟩,hsm⟩ hs0
  have hk':=key _ s0 a w rfl hI (hw X a w H);exact hk'
 | exit id=>intro Q st a w _ _ h H; exact wp_exit (.mk' h H (.refl _ _))
 | label l=>intro Q st a w _ _ h H; exact wp_label (.mk' h H (.refl _ _))
 | scope c ih=>
  intro Q st a w hc hk h H;refine wp_scope_straight (wp_mono (ih hc hk h H) ?_);rintro e a' w' ⟨⟨s,hs,H'⟩,hsm⟩;cases e with
  | goto l=>exact hs.elim
  | _=>exact ⟨⟨s,hs,H'⟩,hsm⟩
 | ret=>intro Q st a w _ _ h H; exact wp_ret (.mk' h H (.refl _ _))
 | _=>intros; simp_all [W]
def Wk (E:Env) (c:Code) (Q:Exit->St->Prop) (st:St):Prop:=∀ (P:Program),TOk P E->GOk P E->P.follows .mixedOrders=true->codeOk c=true ->
 ∀ (X:Ctx) (a:Act) (w:World),Inv X st a w->∀ ts:List Tmp,keepC ts c=true->c.wp P (KQ X ts a Q) a w
theorem pQ {E:Env} {c:Code} {Q:Exit->St->Prop} {st:St} (h:W E c Q st):Wk E c Q st:=fun P hT hG hm hc X a w H ts hk=>W_ok hT hG hm c hc hk h H
end
end Go.Abs

namespace Go.Abs
def jc (own:List Bool) (i:Nat) (c:C):C:=if own.getD i false then viewD 3 i [] c else c
def entry (own:List Bool) (cs:List C) (n:Nat):St:={ tmps:=mapI (jc own) 0 cs++List.replicate (n - cs.length) .dead,roots:=R0 own cs }
def resC (E:Env) (s:St):ResultVar->Option C
 | .tmp t=>some ((s.tmps[t]?).getD .dead)
 | .cell a t=>match E.T t with
  | some ti=>loadC s ti ((s.tmps[a]?).getD .dead)
  | none=>none
def resL (E:Env) (s:St):List ResultVar->Option (List C)
 | []=>some []
 | v::vs=>match resC E s v,resL E s vs with
  | some c,some cs=>some (c::cs)
  | _,_=>none
def plainR:C->Option C
 | .agg cs=>if cs.all C.cellOk then some (.agg (cs.map C.frz)) else none
 | c=>if c.cellOk then some c.frz else none
def plainL:List C->Option (List C)
 | []=>some []
 | c::cs=>match plainR c,plainL cs with
  | some c',some cs'=>some (c'::cs')
  | _,_=>none
def pack:List C->C
 | [c]=>c
 | cs=>.tup cs
def finish (E:Env) (vs:List ResultVar) (s:St):Option C:=
 match resL E s vs with
 | some cs=>match plainL cs with
  | some rs=>some (pack rs)
  | none=>match bR (cs.flatMap leaves).length H0 (cs.flatMap leaves) .dead s with
   | some (s1,_)=>some (pack (dM s1.roots H0 cs))
   | none=>none
 | none=>none
def PureC (r:C):Prop:=∀ (w:World) (S S':Nat->Prop) (m:Path->Value) (d:Nat) (p:Path) (u:Value),rel w S L0 m true d p r u->rel w S' L0 m true d p r u
section
variable {X:Ctx} {m:Nat->Path->Value} {st:St} {a:Act} {w:World} {P:Program}
def resSem (tm:Array Value) (v:ResultVar):Sem Value:=
 match v with
 | .tmp t=>pure (tm.getD t undef)
 | .cell a t=>do loadVar t (<-asAddr (tm.getD a undef))
theorem Dc {E:Env} (hT:TOk P E) (H:InvM X m st a w) {v:ResultVar} {c:C} (h:resC E st v=some c) :
  ∃ u,(resSem a.tmps v).run P w=.ok u w/\RelT X m st w c u:=by
 cases v with
 | tmp t=>
  simp only [resC,Option.some.injEq] at h;subst h;exact ⟨_,rfl,ev_ok H (.tmp t)⟩
 | cell x t=>
  simp only [resC] at h;split at h
  ·rename_i ti hti;have hx:=ev_ok H (.tmp x);obtain ⟨u,h1,h2⟩:=y6 H (hT t ti hti) hx h;refine ⟨u,?_,h2⟩;simp only [Act.eval] at h1;show ((do loadVar t (<-asAddr (a.tmps.getD x undef)):Sem Value)).run P w=_;generalize a.tmps.getD x undef=y at h1 hx ⊢;cases y with
   | pointer ao=>
    cases ao with
    | none=>simp [Instr.loadAt,Instr.sureAddr,stuck] at h1
    | some ad=>simpa [Instr.loadAt,Instr.sureAddr,asAddr] using h1
   | _=>simp [Instr.loadAt,Instr.sureAddr,stuck] at h1
  ·simp at h
theorem uj {E:Env} (hT:TOk P E) (H:InvM X m st a w):∀ {vs:List ResultVar} {cs:List C},resL E st vs=some cs ->
  ∃ us:List Value,(vs.mapM (resSem a.tmps)).run P w=.ok us w/\us.length=cs.length/\∀ (j:Nat) (c:C),cs[j]?=some c->∃ u,us[j]?=some u/\RelT X m st w c u:=by
 intro vs
 induction vs with
 | nil=>intro cs h; simp only [resL,Option.some.injEq] at h; subst h; exact ⟨[],by simp,rfl,by simp⟩
 | cons v vs ih=>
  intro cs h;simp only [resL] at h;split at h
  ·rename_i c cs' h1 h2;simp only [Option.some.injEq] at h;subst h;obtain ⟨u,e1,e2⟩:=Dc hT H h1;obtain ⟨us,f1,f2,f3⟩:=ih h2;refine ⟨u::us,?_,by simp [f2],?_⟩
   ·rw [List.mapM_cons,Sem.run_bind,e1,Result.andThen_ok,Sem.run_bind,f1,Result.andThen_ok]; rfl
   ·intro j c' hj;cases j with
    | zero=>simp only [List.getElem?_cons_zero,Option.some.injEq] at hj; subst hj; exact ⟨u,rfl,e2⟩
    | succ j=>simpa using f3 j c' (by simpa using hj)
  ·simp at h
def packV (us:List Value):Value:=if h:us.toArray.size=1 then us.toArray[0] else .tuple us.toArray
theorem pC {fn:Func} {us:List Value} (h:(fn.results.toList.mapM (resSem a.tmps)).run P w=.ok us w):(results fn a.tmps).run P w=.ok (packV us) w:=by
 have e:results fn a.tmps=(do let vs <-fn.results.mapM (resSem a.tmps); pure (if h:vs.size=1 then vs[0] else Value.tuple vs)):=by
  unfold results
  congr 2
 rw [e];rw [Array.mapM_eq_mapM_toList];simp only [Sem.run_bind,map_eq_pure_bind,h,Result.andThen_ok,Sem.run_pure];rfl
theorem wy {S:Nat->Prop} {mr:Path->Value} {cs:List C} {us:List Value} (hl:us.length=cs.length) {d:Nat}
  (h1:∀ c,cs=[c]->∃ u,us[0]?=some u/\rel w S L0 mr true d [] c u)
  (h2:(∀ c,cs≠[c])->∀ (j:Nat) (c:C),cs[j]?=some c->∃ u,us[j]?=some u/\rel w S L0 mr true d [(0,j)] c u):rel w S L0 mr true (d+1) [] (pack cs) (packV us):=by
 by_cases hc:∃ c,cs=[c]
 ·obtain ⟨c,rfl⟩:=hc;obtain ⟨u,e1,e2⟩:=h1 c rfl;cases us with
  | nil=>simp at hl
  | cons v us=>
   simp only [List.length_cons,List.length_nil,Nat.add_eq_right,List.length_eq_zero_iff] at hl;subst hl;simp only [List.getElem?_cons_zero,Option.some.injEq] at e1;subst e1;simpa [pack,packV] using aw _ _ (Nat.le_succ d) e2
 ·have hp:pack cs=.tup cs:=by
   match cs,hc with
   | [],_=>rfl
   | [c],hc=>exact absurd ⟨c,rfl⟩ hc
   | _::_::_,_=>rfl
  rw [hp];have hne:¬ us.toArray.size=1:=by
   intro h1;simp only [List.size_toArray] at h1;rw [hl] at h1;exact hc (List.length_eq_one_iff.1 h1)
  refine ⟨us.toArray,by simp only [packV]; rw [dif_neg hne],by simp [hl],fun j c hj=>?_⟩;obtain ⟨u,e1,e2⟩:=h2 (fun c hcc=>hc ⟨c,hcc⟩) j c hj;exact ⟨u,by simpa using e1,by simpa using e2⟩
theorem rO {c r:C} {u:Value} (h:RelT X m st w c u) (hp:plainR c=some r):(∃ d,∀ (mr:Path->Value) (p:Path),rel w (X.S st.roots m) L0 mr true d p r u)/\∀ q,¬ OwnAt r q:=by
 cases c with
 | agg cs=>
  simp only [plainR] at hp;split at hp
  ·rename_i hall;simp only [Option.some.injEq] at hp;subst hp;obtain ⟨d,h⟩:=h;cases d with
   | zero=>exact h.elim
   | succ d=>
    obtain ⟨arr,rfl,h2,h3⟩:=h;refine ⟨⟨d+1,fun mr p=>⟨arr,rfl,by simpa using h2,fun j c hj=>?_⟩⟩,?_⟩
    ·simp only [List.getElem?_map,Option.map_eq_some_iff] at hj;obtain ⟨c0,hj,rfl⟩:=hj;obtain ⟨u',e1,e2⟩:=h3 j c0 hj;exact ⟨u',e1,mf (List.all_eq_true.1 hall c0 (List.mem_of_getElem? hj)) e2⟩
    ·intro q ho;cases q with
     | nil=>simp [OwnAt,C.at,C.isOwn] at ho
     | cons s q=>
      unfold OwnAt at ho;simp only [C.at,C.kid] at ho;split at ho
      ·cases hc:(cs.map C.frz)[s.2]? with
       | none=>simp [hc] at ho
       | some c'=>
        simp only [hc,Option.bind_some] at ho;simp only [List.getElem?_map,Option.map_eq_some_iff] at hc;obtain ⟨c0,hc,rfl⟩:=hc;exact gL (List.all_eq_true.1 hall c0 (List.mem_of_getElem? hc)) ho
      ·simp at ho
  ·simp at hp
 | _=>
  simp only [plainR] at hp;split at hp
  ·rename_i hok;simp only [Option.some.injEq] at hp;subst hp;obtain ⟨d,h⟩:=h;exact ⟨⟨d,fun mr p=>mf hok h⟩,fun q=>gL hok⟩
  ·simp at hp
theorem zo:∀ {cs rs:List C},plainL cs=some rs->rs.length=cs.length/\∀ (j:Nat) (r:C),rs[j]?=some r->∃ c,cs[j]?=some c/\plainR c=some r:=by
 intro cs
 induction cs with
 | nil=>intro rs h; simp only [plainL,Option.some.injEq] at h; subst h; simp
 | cons c cs ih=>
  intro rs h;simp only [plainL] at h;split at h
  ·rename_i c' cs' h1 h2;simp only [Option.some.injEq] at h;subst h;obtain ⟨g1,g2⟩:=ih h2;refine ⟨by simp [g1],?_⟩;intro j r hj;cases j with
   | zero=>simp only [List.getElem?_cons_zero,Option.some.injEq] at hj; subst hj; exact ⟨c,rfl,h1⟩
   | succ j=>simpa using g2 j r (by simpa using hj)
  ·simp at h
structure Done (X:Ctx) (w:World) (r:C) (u:Value):Prop where
 ex:∃ mr d,rel w (fun b=>(X.S0 b∨X.w0.heap.size<=b)/\¬ Own1 r mr b) L0 mr true d [] r u ∧
   (∀ q q' b,OwnAt r q->OwnAt r q'->blk (mr q)=some b->blk (mr q')=some b->q=q')/\(∀ b,Own1 r mr b->X.w0.heap.size<=b∨X.K b)
 fr:Fr X w
theorem zf {E:Env} (hT:TOk P E) (H:InvM X m st a w) {cs rs:List C} {us:List Value} (hl:us.length=cs.length) (hr:∀ (j:Nat) (c:C),cs[j]?=some c->∃ u,us[j]?=some u/\RelT X m st w c u) (hp:plainL cs=some rs):(∃ d,rel w (X.S st.roots m) L0 dm true d [] (pack rs) (packV us))/\∀ q,¬ OwnAt (pack rs) q:=by
 obtain ⟨g1,g2⟩:=zo hp;have hno:∀ q,¬ OwnAt (pack rs) q:=by
  intro q ho;by_cases hc:∃ c,rs=[c]
  ·obtain ⟨c,rfl⟩:=hc;obtain ⟨c0,e1,e2⟩:=g2 0 c rfl;obtain ⟨u,e3,e4⟩:=hr 0 c0 e1;exact (rO e4 e2).2 q ho
  ·have hpk:pack rs=.tup rs:=by
    match rs,hc with
    | [],_=>rfl
    | [c],hc=>exact absurd ⟨c,rfl⟩ hc
    | _::_::_,_=>rfl
   rw [hpk] at ho;cases q with
   | nil=>simp [OwnAt,C.at,C.isOwn] at ho
   | cons s q=>
    unfold OwnAt at ho;simp only [C.at,C.kid] at ho;split at ho
    ·cases hc:rs[s.2]? with
     | none=>simp [hc] at ho
     | some c'=>
      simp only [hc,Option.bind_some] at ho;obtain ⟨c0,e1,e2⟩:=g2 _ c' hc;obtain ⟨u,e3,e4⟩:=hr _ c0 e1;exact (rO e4 e2).2 q ho
    ·simp at ho
 have hd:∃ D,∀ (j:Nat) (r:C),rs[j]?=some r->∃ u,us[j]?=some u/\∀ (mr:Path->Value) (p:Path),rel w (X.S st.roots m) L0 mr true D p r u:=by
  clear hno;have key:∀ (n:Nat),∃ D,∀ (j:Nat) (r:C),j < n->rs[j]?=some r->∃ u,us[j]?=some u/\∀ (mr:Path->Value) (p:Path),rel w (X.S st.roots m) L0 mr true D p r u:=by
   intro n
   induction n with
   | zero=>exact ⟨0,fun j r hj=>by omega⟩
   | succ n ih=>
    obtain ⟨D,hD⟩:=ih;cases hn:rs[n]? with
    | none=>exact ⟨D,fun j r hj hr=>by
      by_cases e:j=n
      ·subst e; rw [hn] at hr; simp at hr
      ·exact hD j r (by omega) hr⟩
    | some r0=>
     obtain ⟨c0,e1,e2⟩:=g2 n r0 hn;obtain ⟨u0,e3,e4⟩:=hr n c0 e1;obtain ⟨⟨d0,e5⟩,_⟩:=rO e4 e2;refine ⟨max D d0,fun j r hj hrj=>?_⟩;by_cases e:j=n
     ·subst e;rw [hn] at hrj;cases hrj;exact ⟨u0,e3,fun mr p=>aw _ _ (Nat.le_max_right _ _) (e5 mr p)⟩
     ·obtain ⟨u,f1,f2⟩:=hD j r (by omega) hrj;exact ⟨u,f1,fun mr p=>aw _ _ (Nat.le_max_left _ _) (f2 mr p)⟩
  obtain ⟨D,hD⟩:=key rs.length;exact ⟨D,fun j r hj=>hD j r (List.getElem?_eq_some_iff.1 hj).1 hj⟩
 obtain ⟨D,hD⟩:=hd;have hrel:=wy (w:=w) (S:=X.S st.roots m) (mr:=dm) (cs:=rs) (us:=us) (by omega) (d:=D) (by
  intro c hc;subst hc;obtain ⟨u,e1,e2⟩:=hD 0 c rfl;exact ⟨u,e1,e2 dm []⟩) (by
  intro _ j c hj;obtain ⟨u,e1,e2⟩:=hD j c hj;exact ⟨u,e1,e2 dm _⟩)
 exact ⟨⟨D+1,hrel⟩,hno⟩
theorem oJ {E:Env} (hT:TOk P E) (H:InvM X m st a w) {cs rs:List C} {us:List Value} (hl:us.length=cs.length) (hr:∀ (j:Nat) (c:C),cs[j]?=some c->∃ u,us[j]?=some u/\RelT X m st w c u) (hp:plainL cs=some rs):Done X w (pack rs) (packV us):=by
 obtain ⟨⟨D,hrel⟩,hno⟩:=zf hT H hl hr hp;refine ⟨⟨dm,D,?_,fun q q' b ho=>(hno q ho).elim,fun b ⟨q,ho,_⟩=>(hno q ho).elim⟩,H.fr⟩;exact ag (fun b _ hs=>⟨⟨hs.1,fun ⟨q,ho,_⟩=>hno q ho⟩,rfl⟩) D (fun _ _ _ h=>h) (fun _ q b ho=>(hno q ho).elim) (fun _ q ho=>(hno q ho).elim) hrel
def locR (cs:List C) (q:Path):Nat × Path:=
 match cs,q with
 | [c],q=>loc1 H0 c q
 | cs,(_,i)::q=>loc1 (hOf H0 cs i) ((cs[i]?).getD .dead) q
 | _,[]=>(H0,[])
theorem pN {E:Env} (hT:TOk P E) (H:InvM X m st a w) {cs:List C} {us:List Value} (hl:us.length=cs.length) (hr:∀ (j:Nat) (c:C),cs[j]?=some c->∃ u,us[j]?=some u/\RelT X m st w c u) {s1:St} {kp:C} (hp:bR (cs.flatMap leaves).length H0 (cs.flatMap leaves) .dead st=some (s1,kp)):Done X w (pack (dM s1.roots H0 cs)) (packV us):=by
 obtain ⟨vs,v1,v2,v3⟩:=pF hl hr;obtain ⟨m',H',_,g1,_⟩:=kh (cs.flatMap leaves).length rfl v1 (Nat.le_refl _) H v2 (keep:=.dead) (ku:=undef) ⟨1,trivial⟩ hp;have comps:∀ (i:Nat) (c:C),cs[i]?=some c->∃ u,us[i]?=some u/\∃ d,rel w (X.S s1.roots m') L0 (fun q=>m' (loc1 (hOf H0 cs i) c q).1 (loc1 (hOf H0 cs i) c q).2) true d [] (reb1 s1.roots (hOf H0 cs i) c) u:=by
  intro i c hc;obtain ⟨u,hu,_⟩:=hr i c hc;refine ⟨u,hu,?_⟩;have h3:=v3 i c u hc hu;have hh:hOf H0 cs i=H0+hOf 0 cs i:=by have:=lg H0 cs 0 i; simpa using this
  have:=s6 (w:=w) (R:=fun n=>s1.roots (H0+n)) (S:=X.S s1.roots m') (m:=fun n=>m' (H0+n)) (h:=hOf 0 cs i) (c:=c) (u:=u) h3 (fun n v hn=>g1 n v hn);obtain ⟨d,hd⟩:=this;refine ⟨d,?_⟩;have e1:reb1 (fun n=>s1.roots (H0+n)) (hOf 0 cs i) c=reb1 s1.roots (hOf H0 cs i) c:=by
   cases c<;>simp [reb1,hh,Nat.add_assoc]
  rw [e1] at hd;refine ag (fun b _ hb=>⟨hb,rfl⟩) d (fun _ _ _ h=>h) (fun _ _ _ _ _ _=>rfl) (fun _ q _=>?_) hd;simp only [List.nil_append];have e2:(loc1 (hOf H0 cs i) c q)=(H0+(loc1 (hOf 0 cs i) c q).1,(loc1 (hOf 0 cs i) c q).2):=by
   cases c<;>cases q<;>simp [loc1,hh,Nat.add_assoc]
  rw [e2]
 have hone:∀ c,cs=[c]->∀ q,locR cs q=loc1 H0 c q:=by rintro c rfl q; simp [locR]
 have hmany:(∀ c,cs≠[c])->∀ (s:Nat × Nat) q,locR cs (s::q)=loc1 (hOf H0 cs s.2) ((cs[s.2]?).getD .dead) q:=by
  intro hne s q
  match cs,hne with
  | [],_=>simp [locR]
  | [c],hne=>exact absurd rfl (hne c)
  | _::_::_,_=>simp [locR]
 have hpack1:∀ c,cs=[c]->pack (dM s1.roots H0 cs)=reb1 s1.roots H0 c:=by
  rintro c rfl;rw [jo];rfl
 have hpackn:(∀ c,cs≠[c])->pack (dM s1.roots H0 cs)=.tup (dM s1.roots H0 cs):=by
  intro hne
  match cs,hne with
  | [],_=>rfl
  | [c],hne=>exact absurd rfl (hne c)
  | _::_::_,_=>rw [jo,jo]; rfl
 have hh0:∀ c,cs=[c]->hOf H0 cs 0=H0:=by rintro c rfl; rfl
 have own_names:∀ q,OwnAt (pack (dM s1.roots H0 cs)) q->OwnAt (s1.roots (locR cs q).1) (locR cs q).2:=by
  intro q ho;by_cases hc:∃ c,cs=[c]
  ·obtain ⟨c,hc⟩:=hc;rw [hpack1 c hc] at ho;rw [hone c hc];exact (jb ho).1
  ·have hne:∀ c,cs≠[c]:=fun c h=>hc ⟨c,h⟩;rw [hpackn hne] at ho;cases q with
   | nil=>simp [OwnAt,C.at,C.isOwn] at ho
   | cons s q=>
    rw [hmany hne];unfold OwnAt at ho;simp only [C.at,C.kid] at ho;split at ho
    ·rw [jF] at ho;cases hci:cs[s.2]? with
     | none=>simp [hci] at ho
     | some c=>
      simp only [hci,Option.map_some,Option.bind_some] at ho;exact (jb ho).1
    ·simp at ho
 have inj_names:∀ q q',OwnAt (pack (dM s1.roots H0 cs)) q->OwnAt (pack (dM s1.roots H0 cs)) q'->locR cs q=locR cs q'->q=q':=by
  intro q q' ho ho' he;by_cases hc:∃ c,cs=[c]
  ·obtain ⟨c,hc⟩:=hc;rw [hpack1 c hc] at ho ho';rw [hone c hc,hone c hc] at he;exact qw ho ho' he
  ·have hne:∀ c,cs≠[c]:=fun c h=>hc ⟨c,h⟩;rw [hpackn hne] at ho ho';cases q with
   | nil=>simp [OwnAt,C.at,C.isOwn] at ho
   | cons s q=>
    cases q' with
    | nil=>simp [OwnAt,C.at,C.isOwn] at ho'
    | cons s' q'=>
     rw [hmany hne,hmany hne] at he;unfold OwnAt at ho ho';simp only [C.at,C.kid] at ho ho';split at ho
     case isFalse=>simp at ho
     rename_i hs;split at ho'
     case isFalse=>simp at ho'
     rename_i hs';rw [jF] at ho ho';cases hci:cs[s.2]? with
     | none=>simp [hci] at ho
     | some c=>
      cases hci':cs[s'.2]? with
      | none=>simp [hci'] at ho'
      | some c'=>
       simp only [hci,hci',Option.map_some,Option.bind_some,Option.getD_some] at ho ho' he;obtain ⟨_,r1,r2⟩:=jb ho;obtain ⟨_,r3,r4⟩:=jb ho';have l1:s.2 < cs.length:=(List.getElem?_eq_some_iff.1 hci).1;have l2:s'.2 < cs.length:=(List.getElem?_eq_some_iff.1 hci').1;have hsame:s.2=s'.2:=by
        rcases Nat.lt_trichotomy s.2 s'.2 with hlt|heq|hgt
        ·have:=hOf_lt (h:=H0) hci hlt l2;rw [he] at r2;omega
        ·exact heq
        ·have:=hOf_lt (h:=H0) hci' hgt l1;rw [<-he] at r4;omega
       obtain ⟨i,j⟩:=s;obtain ⟨i',j'⟩:=s';simp only at hs hs' hsame hci hci' ho ho' he;subst hs; subst hs'; subst hsame;rw [hci] at hci';cases hci';rw [qw ho ho' he]
 have sub:∀ b,Own1 (pack (dM s1.roots H0 cs)) (fun q=>m' (locR cs q).1 (locR cs q).2) b->Owned s1.roots m' b:=by
  rintro b ⟨q,ho,hb⟩;exact ⟨_,_,own_names q ho,hb⟩
 have hD:∃ D,∀ i,i < cs.length->∃ c u,cs[i]?=some c/\us[i]?=some u/\rel w (X.S s1.roots m') L0 (fun q=>m' (loc1 (hOf H0 cs i) c q).1 (loc1 (hOf H0 cs i) c q).2) true D [] (reb1 s1.roots (hOf H0 cs i) c) u:=by
  refine mL (Q:=fun i D=>∃ c u,cs[i]?=some c/\us[i]?=some u/\rel w (X.S s1.roots m') L0 (fun q=>m' (loc1 (hOf H0 cs i) c q).1 (loc1 (hOf H0 cs i) c q).2) true D [] (reb1 s1.roots (hOf H0 cs i) c) u) ?_ cs.length ?_
  ·rintro i d d' hd ⟨c,u,e1,e2,e3⟩; exact ⟨c,u,e1,e2,aw _ _ hd e3⟩
  ·intro i hi;have e1:cs[i]?=some cs[i]:=by simp [hi]
   obtain ⟨u,e2,d,e3⟩:=comps i _ e1;exact ⟨d,_,u,e1,e2,e3⟩
 obtain ⟨D,hD⟩:=hD;refine ⟨⟨fun q=>m' (locR cs q).1 (locR cs q).2,D+1,?_,?_,?_⟩,H'.fr⟩
 ·refine ag (S:=X.S s1.roots m') (m:=fun q=>m' (locR cs q).1 (locR cs q).2) (p:=[]) (w:=w) (fun b _ hs=>⟨⟨hs.1,fun hb=>hs.2 (sub b hb)⟩,rfl⟩) (D+1) (fun _ _ _ h=>h) (fun _ _ _ _ _ _=>rfl) (fun _ _ _=>rfl) ?_;refine wy (by rw [pV]; exact hl) ?_ ?_
  ·intro r hr1;have hlen:cs.length=1:=by rw [<-pV s1.roots (h:=H0),hr1]; rfl
   obtain ⟨c,hc⟩:=List.length_eq_one_iff.1 hlen;obtain ⟨c',u,e1,e2,e3⟩:=hD 0 (by omega);have:reb1 s1.roots (hOf H0 cs 0) c'=r:=by
    have:=jF s1.roots (cs:=cs) (h:=H0) (i:=0);rw [hr1,e1] at this;simpa using this.symm
   rw [<-this];refine ⟨u,e2,ag (fun b _ hb=>⟨hb,rfl⟩) D (fun _ _ _ h=>h) (fun _ _ _ _ _ _=>rfl) (fun _ q _=>?_) e3⟩;subst hc;simp only [List.getElem?_cons_zero,Option.some.injEq] at e1;subst e1;simp only [List.nil_append,hOf];rw [hone c rfl]
  ·intro hne j r hj;have hne':∀ c,cs≠[c]:=by
    rintro c rfl;exact hne (reb1 s1.roots H0 c) (by rw [jo]; rfl)
   rw [jF] at hj;simp only [Option.map_eq_some_iff] at hj;obtain ⟨c,hc,rfl⟩:=hj;obtain ⟨c',u,e1,e2,e3⟩:=hD j (List.getElem?_eq_some_iff.1 hc).1;rw [hc] at e1;cases e1;refine ⟨u,e2,ag (fun b _ hb=>⟨hb,rfl⟩) D (fun _ _ _ h=>h) (fun _ _ _ _ _ _=>rfl) (fun _ q _=>?_) e3⟩;simp only [List.nil_append,List.cons_append];rw [hmany hne'];simp only [hc,Option.getD_some]
 ·intro q q' b ho ho' hb hb';have:=H'.inj _ _ _ _ b (own_names q ho) (own_names q' ho') hb hb';exact inj_names q q' ho ho' (Prod.ext this.1 this.2)
 ·rintro b ⟨q,ho,hb⟩;exact H'.own _ _ b (own_names q ho) hb
theorem s7 {own:List Bool} {cs:List C} {us:List Value} {S:Nat->Prop} {n:Nat} (hl:us.length=cs.length) (hn:cs.length<=n)
  (hr:∀ (i:Nat) (c:C),cs[i]?=some c->∃ u d,us[i]?=some u/\rel w (fun b=>S b/\¬ Owned (R0 own cs) m b) L0 (m i) (own.getD i false) d [] c u) (hinj:Inj (R0 own cs) m) :
  InvM (ctxOf w S (Owned (R0 own cs) m)) m (entry own cs n) { tmps:=us.toArray++Array.replicate (n - us.toArray.size) undef,defers:=[] } w:=by
 have hS:∀ b,b < w.heap.size->(S b/\¬ Owned (R0 own cs) m b)->Ctx.S (ctxOf w S (Owned (R0 own cs) m)) (R0 own cs) m b/\w.heap[b]?=w.heap[b]?:=fun b _ hb=>⟨⟨.inl (.inl hb.1),hb.2⟩,rfl⟩;refine ⟨?_,?_,?_,hinj,?_,⟨rfl,rfl,rfl,Nat.le_refl _,Nat.le_refl _,fun _ _ _=>rfl⟩,rfl⟩
 ·simp only [entry,List.length_append,fU,List.length_replicate,Array.size_append,List.size_toArray,Array.size_replicate]; omega
 ·intro t c ht;simp only [entry] at ht;by_cases hlt:t < cs.length
  ·rw [List.getElem?_append_left (by rw [fU]; exact hlt),qM] at ht;simp only [Option.map_eq_some_iff,Nat.zero_add] at ht;obtain ⟨c0,h0,rfl⟩:=ht;obtain ⟨u,d,e1,e2⟩:=hr t c0 h0;refine ⟨u,?_⟩;have hu:(us.toArray++Array.replicate (n - us.toArray.size) undef)[t]?=some u:=by
    rw [Array.getElem?_append_left (by simp; omega)]; simpa using e1
   unfold jc;cases ho:own.getD t false with
   | false=>
    rw [ho] at e2;exact ⟨d,hu,by
     simp only [Bool.false_eq_true,if_false];exact ag hS d (fun _ _ _ h=>h.elim) (fun h=>by simp at h) (fun h=>by simp at h) e2⟩
   | true=>
    rw [ho] at e2;refine ⟨d+1,hu,?_⟩;simp only [if_true];have e3:=ag (m':=m t) (p':=[]) hS d (L':=L0) (fun _ _ _ h=>h) (fun _ _ _ _ _ _=>rfl) (fun _ _ _=>rfl) e2;refine vX 3 e3 ?_;intro q nl es cap rows u' dd hq hrel;obtain ⟨a1,k,dd',f1,f2,f3,f4,f5,fz,f6,f7⟩:=bU hrel;simp only [List.nil_append] at f1 f2 ⊢;refine ⟨nl,es,cap,rows,a1,k,a1,k,?_,f2,by omega,by rw [f1,f2],f3,by omega,by simp,by simp,?_⟩
    ·have ho':=ho;rw [List.getD_eq_getElem?_getD] at ho';simp [entry,R0,ho',h0,hq]
    ·rcases f7 with f7|⟨b,off,arr,elem,g1,_⟩
     ·exact .inl f7
     ·exact .inr ⟨b,off,g1,by simpa using g1⟩
  ·rw [List.getElem?_append_right (by rw [fU]; omega)] at ht;simp only [List.getElem?_replicate] at ht;split at ht
   ·rename_i h1;simp only [Option.some.injEq] at ht;subst ht;rw [fU] at h1;refine ⟨undef,1,?_,trivial⟩;rw [Array.getElem?_append_right (by simp; omega)];simp only [List.size_toArray,Array.getElem?_replicate];rw [if_pos (by omega)]
   ·simp at ht
 ·intro i;simp only [entry,R0];cases ho:own.getD i false with
  | false=>exact ⟨undef,1,by simp only [Bool.false_eq_true,if_false]; trivial⟩
  | true=>
   simp only [if_true];cases hc:cs[i]? with
   | none=>exact ⟨undef,1,trivial⟩
   | some c=>
    obtain ⟨u,d,e1,e2⟩:=hr i c hc;rw [ho] at e2;exact ⟨u,d,ag hS d (fun _ _ _ h=>h) (fun _ _ _ _ _ _=>rfl) (fun _ _ _=>rfl) e2⟩
 ·intro i p b ho hb;exact .inr ⟨i,p,ho,hb⟩
end
end Go.Abs

namespace Go.Abs
def ekOf:TypeDesc->Option EK
 | .int _=>some .int
 | .string=>some .str
 | .bool=>some .bool
 | _=>none
def eksL (one:TypeId->Option (List EK)):Nat->List Field->Option (List EK)
 | _,[]=>some []
 | k,f::fs=>match one f.type with
  | some e=>match eksL one (k+e.length) fs with
   | some es=>if f.name ≠ "_" ∧ f.offset = k then some (e ++ es) else none
   | none=>none
  | none=>none
def ekT (P:Program):Nat->TypeId->Option (List EK)
 | 0,t=>(P.underlying t).bind fun d=>(ekOf d).map ([·])
 | g+1,t=>match P.underlying t with
  | some (.struct fields)=>match eksL (ekT P g) 0 fields.toList with
   | some es=>if P.stoodInHeld t=false/\(P.info? t).map (·.size)=some es.length then some es else none
   | none=>none
  | d=>d.bind fun d=>(ekOf d).map ([·])
def eqsOf (P:Program) (t:Nat):List EK:=
 match P.underlying t with
 | some (.struct fields)=>if P.stoodInHeld t=false/\P.eqGuardType P.depth t=false then (eksL (ekT P 3) 0 fields.toList).getD [] else []
 | some (.array n e)=>if P.eqGuardType P.depth t=false/\(P.info? e).map (·.size)=some 1 then (((P.underlying e).bind ekOf).map fun k=>List.replicate n k).getD [] else []
 | _=>[]
def kindOf (P:Program):TypeDesc->TK
 | .slice e=>match P.info? e with
  | some i=>.slice e i.size
  | none=>.other
 | .struct fields=>if (fields.toList.mapM (fun f=>(P.info? f.type).map fun i=>(f.offset,i.size))).isSome then .struct (fields.toList.map fun f=>(f.offset,f.type)) else .other
 | .array n e=>match P.info? e with
  | some i=>.arr n e i.size
  | none=>.other
 | .string=>.str
 | .int k=>.int k
 | .bool=>.bool
 | _=>.other
def tiOf (P:Program) (t:Nat):Option TI:=
 match P.info? t,P.underlying t with
 | some i,some d=>match i.zero with
  | some z=>if z.cells.toList.length=i.size/\z.cells.toList.all Value.oneCell'=true then
    some { size:=i.size,agg:=isAggD d,bytes:=i.bytes,zero:=z.cells.toList,eqs:=eqsOf P t,kind:=kindOf P d }
   else none
  | none=>none
 | _,_=>none
theorem AP {P:Program} (d:TypeDesc):kindOk P d (kindOf P d):=by
 unfold kindOf;split
 ·split
  ·rename_i i hi; exact ⟨rfl,i,hi,rfl⟩
  ·trivial
 ·rename_i fields;split
  ·rename_i h;obtain ⟨pl,hpl⟩:=Option.isSome_iff_exists.1 h;refine ⟨fields,rfl,?_,pl,hpl⟩;intro k o t hk;simp only [List.getElem?_map,Option.map_eq_some_iff,Prod.mk.injEq] at hk;obtain ⟨f,h1,h2,h3⟩:=hk;exact ⟨f,by simpa using h1,h2,h3⟩
  ·trivial
 ·split
  ·rename_i i hi; exact ⟨rfl,i,hi,rfl⟩
  ·trivial
 all_goals first|rfl|trivial
theorem Bf {P:Program} {w:World} {t:Nat} {d:TypeDesc} (hd:P.underlying t=some d) (he:(ekOf d).isSome=true) {cs:Array Value} {k:Nat} {v:Value} (hv:cs[k]?=some v):(part t cs k).run P w=.ok v w:=by
 unfold part isAgg;cases d<;>simp [ekOf] at he<;>simp [run_underlying hd,hv]
def pv (P:Program) (t:TypeId) (xs:List C):Value:=
 match P.underlying t with
 | some (.struct _)=>.agg (xs.map C.toV).toArray
 | _=>(xs.head?.map C.toV).getD undef
def OneOk (P:Program) (D:Nat) (one:TypeId->Option (List EK)):Prop:=∀ t e,one t=some e ->
 (∀ (w:World) (cs:List C) (k:Nat),k+e.length<=cs.length->(part t (cs.map C.toV).toArray k).run P w=.ok (pv P t ((cs.drop k).take e.length)) w) ∧
 (∀ (w:World) (d:Nat) (as bs:List C) (b:Bool),D<=d->bD e as bs=some b->(Op.equalIn d t (pv P t as) (pv P t bs)).run P w=.ok b w)
theorem qh:∀ {e es:List EK} {as bs:List C} {b:Bool},bD (e++es) as bs=some b ->
  ∃ x y,bD e (as.take e.length) (bs.take e.length)=some x/\bD es (as.drop e.length) (bs.drop e.length)=some y/\b=(x && y)/\e.length<=as.length/\e.length<=bs.length:=by
 intro e
 induction e with
 | nil=>intro es as bs b h; exact ⟨true,b,rfl,by simpa using h,by simp,by simp,by simp⟩
 | cons k e ih=>
  intro es as bs b h;cases as with
  | nil=>simp [bD] at h
  | cons x as=>
   cases bs with
   | nil=>simp [bD] at h
   | cons y bs=>
    simp only [List.cons_append,bD] at h;split at h
    case h_2=>simp at h
    rename_i b1 b2 h1 h2;simp only [Option.some.injEq] at h;subst h;obtain ⟨u,v,g1,g2,rfl,g4,g5⟩:=ih h2;exact ⟨b1 && u,v,by simp [bD,h1,g1],by simpa using g2,by simp [Bool.and_assoc],by simpa using g4,by simpa using g5⟩
theorem yx:∀ {e:List EK} {as bs:List C} {b:Bool},bD e as bs=some b->as.length=e.length/\bs.length=e.length:=by
 intro e
 induction e with
 | nil=>intro as bs b h; cases as<;>cases bs<;>simp [bD] at h; simp
 | cons k e ih=>
  intro as bs b h;cases as with
  | nil=>simp [bD] at h
  | cons x as=>
   cases bs with
   | nil=>simp [bD] at h
   | cons y bs=>
    simp only [bD] at h;split at h
    case h_2=>simp at h
    rename_i b1 b2 h1 h2;have:=ih h2;simp [this]
theorem sP {P:Program} {one:TypeId->Option (List EK)} {D d:Nat} (ho:OneOk P D one) (hd:D<=d) {as0 bs0:List C}:∀ {fs:List Field} {k:Nat} {es:List EK} {b:Bool} (w:World),eksL one k fs=some es->k<=as0.length->k<=bs0.length->bD es (as0.drop k) (bs0.drop k)=some b ->
  (Op.eqFields d (as0.map C.toV).toArray (bs0.map C.toV).toArray fs).run P w=.ok b w:=by
 intro fs
 induction fs with
 | nil=>
  intro k es b w he ha hb hq;simp only [eksL,Option.some.injEq] at he;subst he;have:b=true:=by
   revert hq;generalize as0.drop k=u;generalize bs0.drop k=v;cases u<;>cases v<;>simp [bD]
  subst this;rfl
 | cons f fs ih=>
  intro k es b w he ha hb hq;simp only [eksL] at he;split at he
  case h_2=>simp at he
  rename_i e h1;split at he
  case h_2=>simp at he
  rename_i es' h2;split at he
  case isFalse=>simp at he
  rename_i hf;simp only [Option.some.injEq] at he;subst he;obtain ⟨x,y,g1,g2,rfl,g4,g5⟩:=qh hq;simp only [List.length_drop] at g4 g5;obtain ⟨o1,o2⟩:=ho _ _ h1;rw [List.drop_drop,List.drop_drop] at g2;have hr:=ih w h2 (by omega) (by omega) g2;have p1:=o1 w as0 k (by omega);have p2:=o1 w bs0 k (by omega);have p3:=o2 w d _ _ x hd g1;simp only [Op.eqFields,if_pos hf.1,hf.2,Sem.run_bind,p1,p2,Result.andThen_ok,p3];cases x<;>simp [hr]
theorem qs {P:Program} {t:TypeId} {dd:TypeDesc} {e:List EK} (hu:P.underlying t=some dd) (he:(ekOf dd).map ([·])=some e) :
  (∀ (w:World) (cs:List C) (k:Nat),k+e.length<=cs.length->(part t (cs.map C.toV).toArray k).run P w=.ok (pv P t ((cs.drop k).take e.length)) w) ∧
  (∀ (w:World) (d:Nat) (as bs:List C) (b:Bool),1<=d->bD e as bs=some b->(Op.equalIn d t (pv P t as) (pv P t bs)).run P w=.ok b w):=by
 cases ho:ekOf dd with
 | none=>simp [ho] at he
 | some k0=>
 simp only [ho,Option.map_some,Option.some.injEq] at he;subst he;have hpv:∀ x:C,pv P t [x]=x.toV:=by
  intro x;unfold pv;rw [hu];cases dd<;>simp [ekOf] at ho<;>simp
 refine ⟨?_,?_⟩
 ·intro w cs k hk;simp only [List.length_cons,List.length_nil,Nat.zero_add] at hk ⊢;have hlt:k < cs.length:=by omega
  have:(cs.drop k).take 1=[cs[k]]:=by
   rw [List.drop_eq_getElem_cons hlt]; rfl
  rw [this,hpv];exact Bf hu (by simp [ho]) (by simp [hlt])
 ·intro w d as bs b hd hq;obtain ⟨d,rfl⟩:∃ d',d=d'+1:=⟨d - 1,by omega⟩;obtain ⟨l1,l2⟩:=yx hq
  match as,bs,l1,l2 with
  | [x],[y],_,_=>
   rw [hpv,hpv];simp only [bD] at hq;split at hq
   case h_2=>simp at hq
   rename_i b1 b2 hq1 hq2;simp only [Option.some.injEq] at hq2 hq;subst hq2;rw [Bool.and_true] at hq;subst hq;have h1:=ho;unfold eqCell at hq1;split at hq1
   ·cases dd<;>simp [ekOf] at h1
    split at hq1
    ·rename_i hk;simp only [Option.some.injEq] at hq1;subst hq1; subst hk;simp only [C.toV,run_equalIn_int w _ _ _ _ _ _ hu];rfl
    ·simp at hq1
   ·cases dd<;>simp [ekOf] at h1
    simp only [Option.some.injEq] at hq1;subst hq1;simp only [C.toV,run_equalIn_string w _ _ _ _ hu,sEq]
   ·cases dd<;>simp [ekOf] at h1
    simp only [Option.some.injEq] at hq1;subst hq1;simp only [C.toV,run_equalIn_bool' w _ _ _ _ hu];rfl
   ·simp at hq1
theorem Bz {P:Program} {el:TypeId} {dd:TypeDesc} {k:EK} (hu:P.underlying el=some dd) (hk:ekOf dd=some k) {d:Nat} (hd:1<=d) {as0 bs0:List C}:∀ (n i:Nat) (b:Bool) (w:World),i<=as0.length->i<=bs0.length->bD (List.replicate n k) (as0.drop i) (bs0.drop i)=some b ->
  (forIn (List.range' i n) ((none,()):Option Bool × Unit) fun i r=>(do
    let x <-part el (as0.map C.toV).toArray i
    let y <-part el (bs0.map C.toV).toArray i
    let z <-Op.equalIn d el x y
    if z=false then pure (ForInStep.done (some false,())) else pure (ForInStep.yield (none,())):Sem (ForInStep (Option Bool × Unit)))).run P w=.ok (if b=true then (none,()) else (some false,())) w:=by
 intro n
 induction n with
 | zero=>
  intro i b w ha hb hq;have:b=true:=by
   revert hq;simp only [List.replicate];generalize as0.drop i=u;generalize bs0.drop i=v;cases u<;>cases v<;>simp [bD]
  subst this;simp
 | succ n ih=>
  intro i b w ha hb hq;have hq':bD ([k]++List.replicate n k) (as0.drop i) (bs0.drop i)=some b:=by simpa [List.replicate] using hq
  obtain ⟨x,y,g1,g2,rfl,g4,g5⟩:=qh hq';simp only [List.length_drop,List.length_cons,List.length_nil] at g4 g5;obtain ⟨o1,o2⟩:=qs (P:=P) (t:=el) hu (e:=[k]) (by simp [hk]);rw [List.drop_drop,List.drop_drop] at g2;have hr:=ih (i+1) y w (by omega) (by omega) (by simpa using g2);have p1:=o1 w as0 i (by simp; omega);have p2:=o1 w bs0 i (by simp; omega);have p3:=o2 w d _ _ x hd g1;simp only [List.range'_succ,List.forIn_cons,Nat.mul_one,Sem.run_bind,p1,p2,Result.andThen_ok,p3];cases x
  ·simp
  ·simpa using hr
theorem tJ {P:Program} {t el:TypeId} {n:Nat} {dd:TypeDesc} {k:EK} (ht:P.underlying t=some (.array n el)) (hu:P.underlying el=some dd) (hk:ekOf dd=some k) (hs:(P.info? el).map (·.size)=some 1) {d:Nat} (hd:1<=d) (w:World) {as bs:List C} {b:Bool} (hq:bD (List.replicate n k) as bs=some b) :
  (Op.equalIn (d+1) t (.agg (as.map C.toV).toArray) (.agg (bs.map C.toV).toArray)).run P w=.ok b w:=by
 cases hi:P.info? el with
 | none=>simp [hi] at hs
 | some i=>
 have hs':i.size=1:=by simpa [hi] using hs
 have:=Bz hu hk hd n 0 b w (Nat.zero_le _) (Nat.zero_le _) (by simpa using hq);simp only [Op.equalIn,Sem.run_bind,run_underlying ht,Result.andThen_ok,sizeOf,typeInfo,run_program,hi];simp [hs',this];cases b<;>simp
theorem ekT_ok (P:Program):∀ g,OneOk P (g+1) (ekT P g):=by
 intro g
 induction g with
 | zero=>
  intro t e h;simp only [ekT] at h;cases hu:P.underlying t with
  | none=>simp [hu] at h
  | some dd=>
   rw [hu] at h;exact qs hu (by simpa using h)
 | succ g ih=>
  intro t e h;simp only [ekT] at h;split at h
  ·rename_i fields hu;split at h
   case h_2=>simp at h
   rename_i es hes;split at h
   case isFalse=>simp at h
   rename_i hc;simp only [Option.some.injEq] at h;subst h;have hpv:∀ xs:List C,pv P t xs=.agg (xs.map C.toV).toArray:=by intro xs; unfold pv; rw [hu]
   have hfo:P.fieldsOf t=fields:=by simp [Program.fieldsOf,hu]
   cases hi:P.info? t with
   | none=>simp [hi] at hc
   | some i=>
   have hsz:i.size=es.length:=by simpa [hi] using hc.2
   refine ⟨?_,?_⟩
   ·intro w cs k hk;rw [hpv];simp [part,isAgg,run_underlying hu,sizeOf,typeInfo,hi,hsz,List.extract_toArray,List.extract_eq_take_drop,List.map_drop,List.map_take]
   ·intro w d as bs b hd hq;obtain ⟨d,rfl⟩:∃ d',d=d'+1:=⟨d - 1,by omega⟩;rw [hpv,hpv,run_equalIn_struct w _ t _ _ (by rw [hfo]; exact hu) hc.1,hfo];exact sP ih (by omega) w hes (by omega) (by omega) (by simpa using hq)
  ·cases hu:P.underlying t with
   | none=>simp [hu] at h
   | some dd=>
    rw [hu] at h;obtain ⟨a1,a2⟩:=qs hu (by simpa using h);exact ⟨a1,fun w d as bs b hd=>a2 w d as bs b (by omega)⟩
theorem Cf {P:Program} {t:Nat} (h:(eqsOf P t).isEmpty=false):eqOk P t (eqsOf P t):=by
 unfold eqsOf at h ⊢;split at h
 ·rename_i fields hu;split at h
  ·rename_i hc;simp only [hc,and_self,if_true] at h ⊢;cases he:eksL (ekT P 3) 0 fields.toList with
   | none=>simp [he] at h
   | some es=>
    simp only [he,Option.getD_some] at h ⊢;intro w as bs b hq;refine ⟨fun op x y=>run_eqGuard_agg w op t x y _ _ hc.2,?_⟩;have hfo:P.fieldsOf t=fields:=by simp [Program.fieldsOf,hu]
    rw [o7,run_equalIn_struct w _ t _ _ (by rw [hfo]; exact hu) hc.1,hfo];exact sP (ekT_ok P 3) (by omega) w he (by omega) (by omega) (by simpa using hq)
  ·simp at h
 ·rename_i n e hu;split at h
  ·rename_i hc;rw [if_pos hc];cases hd:P.underlying e with
   | none=>simp [hd] at h
   | some dd=>
    simp only [hd,Option.bind_some] at h ⊢;cases hk:ekOf dd with
    | none=>simp [hk] at h
    | some k=>
     simp only [hk,Option.map_some,Option.getD_some] at h ⊢;intro w as bs b hq;refine ⟨fun op x y=>run_eqGuard_agg w op t x y _ _ hc.1,?_⟩;rw [o7];exact tJ hu hd hk hc.2 (by omega) w hq
  ·simp at h
 ·simp at h
theorem qk (P:Program) (G:Nat->Nat->Option FnS):TOk P { T:=tiOf P,G:=G }:=by
 intro t ti h;simp only [tiOf] at h;split at h
 case h_2=>simp at h
 rename_i i d hi hd;split at h
 case h_2=>simp at h
 rename_i z hz;split at h
 case isFalse=>simp at h
 rename_i hc;simp only [Option.some.injEq] at h;subst h;exact ⟨⟨i,hi,rfl,rfl,z,hz,rfl⟩,⟨d,hd,rfl,AP d⟩,hc.1,fun v hv=>List.all_eq_true.1 hc.2 v hv,fun h=>Cf h⟩
end Go.Abs
