/- A library of readings of Go values with their ownership,and of walks on them. No statement of the program. -/
import Derived.Test.YtmacaidmhchpgaaGreatAbsB
import Derived.Orders
import Derived.Scope
import Derived.Laws.StructEq
set_option linter.defProp false
set_option linter.unusedSimpArgs false
set_option linter.unusedVariables false
namespace Go.Abs
inductive SE where
 | q (d:Option Tmp) (c:C)
 | n (d:Nat) (tmp root:C)
 | s (n:Nat) (cells:List C)
def AP(n:Nat)(cells:List C)(st:St):Option St:=
 match st.roots n with
 | .sl true nl es cap [row]=>if dN (st.roots H0)=true/\n<H0/\row.all Ei=true/\cells.length<=row.length then some {tmps:=st.tmps,roots:=upd st.roots n (.sl true nl es cap [cells.map C.frz++row.drop cells.length])}else none
 | _=>none
theorem ZV{α:Type}(f:α->α)(x:α)(post:List α):∀pre:List α,(pre++x::post).modify pre.length f=pre++f x::post:=by
 intro pre
 induction pre with
 | nil=>rfl
 | cons y pre ih=>simp_all
def ab7(f:Nat->C)(n:Nat)(a b:C):upd (upd f n a) n b=upd f n b:=by
 funext k
 grind[aI,aV]
def Vp{n:Nat}(hn:n<H0):∀(cs:List C) {st:St} {j:Nat} {pre row:List C} {nl:Option Bool} {es:Nat} {cap:Option Nat},st.roots n=.sl true nl es cap [pre++row]->pre.length=j->cs.length<=row.length->row.all Ei=true ->
  jA n [] 0 j cs st=some {tmps:=st.tmps,roots:=upd st.roots n (.sl true nl es cap [pre++(cs.map C.frz++row.drop cs.length)])}:=by
 intro cs
 induction cs with
 | nil=>
  intro st j pre row nl es cap hr hj hl hrow;simp only[jA,nA,cO,cw,nu,cc];rw[<-hr];cases st with
  | mk t r=>
   simp only[St.mk.injEq,true_and]
   funext k
   grind[aI,aV]
 | cons c cs ih=>
  intro st j pre row nl es cap hr hj hl hrow;cases row with
  | nil=>simp at hl
  | cons r0 row=>
   simp only[nR,cx]at hrow;have h1:(pre++r0::row)[j]?=some r0:=oZf;have h2:(pre++r0::row).modify j (fun _=>c.frz)=(pre++[c.frz])++row:=by
    grind[ZV]
   simp only[jA,St.node,C.at,hr,cG];rw[if_pos ⟨oZd,hn⟩];rw[ih (pre:=pre++[c.frz]) (row:=row) (nl:=nl) (es:=es) (cap:=cap) (by simp[aI,C.turn,h2]) (by simp[hj]) oZf hrow.2]
   simp_all[CF,ab7]
def SE.apply:SE->St->Option St
 | .q d c,st=>some (st.put d c)
 | .n d tmp root,st=>match dN (st.roots d)with
  | true=>some {tmps:=st.tmps.set d tmp,roots:=upd st.roots d root}
  | false=>none
 | .s k cells,st=>AP k cells st
def qSE(o:Oper):Option C->Option SE
 | some c=>some (.q o.dst c)
 | none=>none
def Env.Gs(E:Env)(d f:Nat):Option FnS:=match E.L d f with
 | some _=>none
 | none=>E.G d f
def aee{E:Env}{d f:Nat}{fs:FnS}(h:E.Gs d f=some fs):E.L d f=none/\E.G d f=some fs:=by
 grind[Env.Gs]
def IK(E:Env)(o:Oper)(c:Call)(st:St):Option SE:=
 match o.dst,gC st c with
 | some d,some (f,args)=>if d<H0 then match E.Gs d f with
   | some fs=>if fs.own=[]then match yD st args with
     | some cs=>if fs.pure=true∨args.all (fun c=>!ml c)=true then match fs.fn cs with
       | some r=>if G2 3 r then some (.n d (lM 3 d [] r) r)else some (.q (some d) (lM 3 d [] r))
       | none=>none
      else none
     | none=>none
    else none
   | none=>none
  else none
 | _,_=>none
def VO(d:Nat)(ti:TI)(c:C):Option SE:=
 match wy ti c with
 | some cells=>if cells.all C.cellOk then some (.n d (.pref d [] 0 0) (.sl true none ti.size (some 1) ([cells].map (·.map C.frz))))else none
 | none=>none
def CR(E:Env)(d:Nat)(ti:TI)(len:Nat)(parts:List (Nat×C)):Option SE:=
 match ti.kind with
 | .slice e es=>if(E.T e).isNone then none else match tF E {ti with kind:=.arr len e es} parts (List.replicate (len*es) .dead)with
  | some flat=>if len*es<=16777216/\es≠0 then
    if flat.all C.cellOk then some (.n d (.pal d [] 0 len none) (.sl true none es (some len) ((rF es len flat).map (·.map C.frz))))else none
   else none
  | none=>none
 | _=>none
def se(E:Env)(cp:Option Nat)(d:Nat)(ti:TI)(len:Nat)(parts:List (Nat×C)):Option SE:=
 match ti.kind with
 | .slice e es=>if(E.T e).isNone then none else match tF E {ti with kind:=.arr len e es} parts (List.replicate (len*es) .dead)with
  | some flat=>if len*es<=16777216/\es≠0 then
    if flat.all C.cellOk then some (.q (some d) (.sl false none es cp ((rF es len flat).map (·.map C.frz))))else none
   else none
  | none=>none
 | _=>none
def D4(E:Env)(d:Nat)(ti:TI)(len:Nat)(parts:List (Nat×C)):Option SE:=
 match E.F d with
 | some false=>se E none d ti len parts
 | some true=>se E (some len) d ti len parts
 | _=>CR E d ti len parts
def HP(E:Env)(o:Oper)(t:TypeId)(x v:Operand)(st:St):Option SE:=
 match o.dst,E.T t,x with
 | none,some ti,.tmp n=>match st.ev (.tmp n)with
  | .pref n' [] 0 0=>if n'=n then match wy ti (st.ev v)with
    | some cells=>if cells.all C.cellOk=true then some (.s n cells)else none
    | none=>none
   else none
  | _=>none
 | _,_,_=>none
def gA(E:Env)(o:Oper)(st:St):Option SE:=
 match o.op with
 | .alloc t=>match o.dst,E.T t with
  | some d,some ti=>some (.n d (.pref d [] 0 0) (.sl true none ti.size (some 1) [ti.zero.map .val]))
  | _,_=>none
 | .box t x=>match o.dst,E.T t with
  | some d,some ti=>VO d ti (st.ev x)
  | _,_=>none
 | .buildSlice t len parts=>match o.dst,E.T t with
  | some d,some ti=>D4 E d ti len (parts.toList.map fun x=>(x.1,st.ev x.2))
  | _,_=>none
 | .store t x v=>HP E o t x v st
 | .call c=>match c.callee with
  | .builtin .append=>none
  | .builtin _=>qSE o (qop E st (.call c))
  | _=>IK E o c st
 | op=>qSE o (qop E st op)
def rR(E:Env)(ops:Array Oper)(o:Oper)(st:St):Option SE:=
 match o.guard with
 | none=>gA E o st
 | some (j,want)=>match(ops[j]?).bind (·.dst)with
  | some t=>match st.tmps[t]? with
   | some (.val (.bool b))=>if b=want then gA E o st else some (.q o.dst (.val undef))
   | some (.val (.tuple _))=>some (.q o.dst (.val undef))
   | _=>none
  | none=>none
def bD(E:Env)(ops:Array Oper)(o:Oper)(st:St):Option St:=
 match rR E ops o st with
 | some e=>e.apply st
 | none=>none
section
variable {X:Ctx} {m:Nat->aq->Value} {st:St} {a:Act} {w:World} {P:Program}
theorem Hq{d:Nat}(h:dN (st.roots d)=true):st.fresh d=st:=by simp[St.fresh,h]
theorem F4{E:Env}{ops:Array Oper}{o:Oper}{st':St}(h:bD E ops o st=some st'):fF E ops o st=some st':=by
 have body:∀e,gA E o st=some e->e.apply st=some st'->exe E o st=some st':=by
  intro e he hap
  suffices h0:mL E o st=some st' by
   have hp:m9 E o st=none:=by
    cases hpx:m9 E o st with
    | none=>rfl
    | some s=>
     grind[m9,gA]
   simp[exe,hp,h0]
  have quiet:∀op,qSE o (qop E st op)=some e->eb o st (qop E st op)=some st':=by
   intro op hq;cases hc:qop E st op with
   | none=>simp_all[qSE]
   | some c=>
    grind[qSE,eb,SE.apply]
  unfold gA at he;unfold mL;split at he
  .grind[SE.apply,OS,Hq]
  .rename_i t x hop;simp only[hop];split at he
   .rename_i d ti hd hti;unfold VO at he;split at he
    .rename_i cells hun;split at he
     .rename_i hall;simp only[cc]at he;subst he;simp only[SE.apply]at hap;split at hap
      .rename_i hdd;simp only[hd,hti,Tq,Hq hdd,hun,hall,if_true];rw[<-hap];rfl
      simp_all
     .simp at he
    .simp at he
   .simp at he
  .rename_i t len parts hop;simp only[hop];split at he
   .rename_i d ti hd hti;unfold D4 at he;split at he
    .rename_i hF;unfold se at he;split at he
     .rename_i e' es hk;split at he
      .simp at he
      .rename_i hE;split at he
       .rename_i flat hflat;split at he
        .rename_i hc;split at he
         .rename_i hall;simp only[cc]at he;subst he
          simp_all[SE.apply,o7,uZ]
         .simp at he
        .simp at he
       .simp at he
     .simp at he
    .rename_i hF;unfold se at he;split at he
     .rename_i e' es hk;split at he
      .simp at he
      .rename_i hE;split at he
       .rename_i flat hflat;split at he
        .rename_i hc;split at he
         .rename_i hall;simp only[cc]at he;subst he
          simp_all[SE.apply,o7,uZ]
         .simp at he
        .simp at he
       .simp at he
     .simp at he
    .rename_i hF;have hX:o7 E d ti len parts.toList st=yh E d ti len parts.toList st:=by
      unfold o7;split
      .rename_i hF';exact absurd hF' ‹_›
      .rename_i hF';exact absurd hF' ‹_›
      .rfl
     unfold CR at he;split at he
     .rename_i e' es hk;split at he
      .simp at he
      .rename_i hE;split at he
       .rename_i flat hflat;split at he
        .rename_i hc;split at he
         .rename_i hall;simp only[cc]at he;subst he;simp only[SE.apply]at hap;split at hap
          .rename_i hdd;simp only[hd,hti,hX,yh,hk,Hq hdd,hflat,hall,if_true];rw[if_neg hE,if_pos hc,<-hap];rfl
          simp_all
         .simp at he
        .simp at he
       .simp at he
     .simp at he
   .simp at he
  .rename_i t x v hop;simp only[hop];unfold HP at he;split at he
   case h_2=>simp at he
   rename_i ti n hd ht;split at he
   case h_2=>simp at he
   rename_i n' hev;split at he
   case isFalse=>simp at he
   rename_i hn;subst hn;split at he
   case h_2=>simp at he
   rename_i cells hun;split at he
   case isFalse=>simp at he
   rename_i hall;simp only[cc]at he;subst he;simp only[SE.apply,AP]at hap;split at hap
   case h_2=>simp at hap
   rename_i nl es cap row hr;split at hap
   case isFalse=>simp at hap
   rename_i hc;simp only[hd,ht,lS,hun,hev,hall,if_true,hc.1];rw[Vp hc.2.1 cells (j:=0) (pre:=[]) (row:=row) (by simpa using hr) rfl hc.2.2.2 hc.2.2.1]
   simp_all
  .rename_i c hop;simp only[hop];split at he
   .simp at he
   .simp_all
   .rename_i hb1 hb2;have:Pv E o c st=some st':=by
     unfold IK at he;unfold Pv;split at he
     .rename_i d f args hd hct;simp only[hd,hct];split at he
      .rename_i hdH;rw[if_pos hdH];unfold PB;split at he
       .rename_i fs hfs;obtain⟨hL,hfs⟩:=aee hfs;simp only[hL,hfs];split at he
        .rename_i hown;rw[if_pos hown];split at he
         .rename_i cs hsn;simp only[hsn];split at he
          .rename_i hpv;rw[if_pos hpv]
           grind[SE.apply,LJ,Hq,St.put]
          .simp at he
         .simp at he
        .simp at he
       .simp at he
      .simp at he
     .simp at he
    simp_all
  simp_all
 unfold bD at h;split at h
 .rename_i e he;unfold rR at he;unfold fF;split at he
  .simp_all
  .rename_i j want hg;simp only[hg];split at he
   .rename_i t ht;simp only[ht];split at he
    .rename_i b hb;simp only[hb];split at he
     .simp_all
     .rename_i hbw;rw[if_neg hbw]
      grind[SE.apply]
    .grind[SE.apply]
    .simp at he
   .simp at he
 .simp at h
def Mc(P:Program)(st:St):Prop:=∃X a w,Inv X st a w
def ab1{o:Oper}{K:Act->World->Prop}(h:o.wp P a w K (fun _ _ _=>False)):∃a' w',K a' w':=by
 unfold Oper.wp at h;generalize (execOp a.eval o).run P w=r at h;cases r with
 | ok n w'=>
  cases n<;>simp only[Oper.upon]at h<;>first|exact⟨_,_,h⟩|exact h.elim|skip
  .obtain⟨e,w'',fr,h,_⟩:=h [];cases e with
   | returned v=>grind
   | panicked c=>exact h.elim
   | outgrown=>obtain⟨_,_,h⟩:=h;exact h.elim
  .obtain⟨v,w'',h,_⟩:=h (default:Frame) []
   grind
 | halt x w'=>cases x<;>simp only[Oper.upon]at h
def Mc.step{E:Env}(hT:TOk P E)(hG:GOk P E)(H:Mc P st){ops:Array Oper}{i:Nat}{o:Oper}(ho:ops[i]?=some o){st':St}(h:fF E ops o st=some st'):Mc P st':=by
 obtain⟨X,a,w,H⟩:=H;have:=KK hT hG H ho h (K:=fun a' w'=>Inv X st' a' w') (Q:=fun _ _ _=>False) (fun _ _ h=>h);unfold wpOp at this;rw[ho]at this;simp only at this;split at this
 .rcases this with h|⟨_,_,_,h⟩
  .obtain⟨a',w',h⟩:=ab1 h;exact⟨X,a',w',h⟩
  simp_all
 .exact⟨X,_,_,this⟩
def Js(ts:List Tmp)(st st2:St):Prop:=
 ∀t∈ts,st2.tmps[t]?=st.tmps[t]?/\∀c,st.tmps[t]?=some c->∀k v n p,occ k c v->v.place=some (n,p)->st2.roots n=st.roots n
def WU(xs:List Operand):List Tmp:=xs.filterMap fun|.tmp t=>some t|_=>none
def wx(st st2:St)(c:C):Prop:=∀k v n p,occ k c v->v.place=some (n,p)->st2.roots n=st.roots n
def Js.ev{ts:List Tmp}{st st2:St}(h:Js ts st st2){x:Operand}(hx:∀t,x=.tmp t->t∈ts):st2.ev x=st.ev x/\wx st st2 (st.ev x):=by
 cases x with
 | tmp t=>
  obtain⟨h1,h2⟩:=h t (hx t rfl);refine⟨by simp[St.ev,h1],?_⟩;simp only[St.ev];cases hc:st.tmps[t]? with
  | none=>intro k v n p ho _;cases k<;>exact ho.elim
  | some c=>exact h2 c hc
 | const v=>
  refine⟨rfl,?_⟩;intro k v' n p ho _;simp only[St.ev]at ho;cases v with
  | agg cs=>
   cases k with
   | zero=>exact ho.elim
   | succ k=>
    obtain⟨c',hm,ho⟩:=ho;simp only[cH]at hm;obtain⟨v,_,rfl⟩:=hm;cases k<;>exact ho.elim
  | _=>cases k<;>exact ho.elim
 | func f=>
  refine⟨rfl,?_⟩;intro k v' n p ho _;cases k with
  | zero=>exact ho.elim
  | succ k=>obtain⟨c',hm,ho⟩:=ho;simp at hm
 | global g=>exact⟨rfl,fun k v n p ho _=>by cases k<;>exact ho.elim⟩
def wx.node{st st2:St}{c:C}(h:wx st st2 c){n:Nat}{p:aq}(hp:c.place=some (n,p))(q:aq):st2.node n q=st.node n q:=by
 have ho:occ 1 c c:=by cases c<;>simp[C.place]at hp<;>rfl
 simp[St.node,h 1 c n p ho hp]
theorem aaw{st st2:St}{ti:TI}{x:C}(h:wx st st2 x):ue st2 ti x=ue st ti x:=by
 cases x with
 | pref n p i j=>simp only[ue,h.node (n:=n) (p:=p) rfl p]
 | _=>rfl
def YL{st st2:St}{x:C}(h:wx st st2 x):LS st2 x=LS st x:=by
 cases x with
 | pal n p lo len cap=>simp only[LS,h.node (n:=n) (p:=p) rfl p]
 | _=>unfold LS;first|rfl|grind
theorem Ss{st st2:St}{ti:TI}{x ix:C}(h:wx st st2 x):lU st2 ti x ix=lU st ti x ix:=by
 unfold lU;cases x with
 | pal n p lo len cap=>cases ti.kind<;>first|rfl|simp only[h.node (n:=n) (p:=p) rfl p]
 | _=>cases ti.kind<;>rfl
theorem YO{st st2:St}{ti:TI}{x:C}{lo hi mx:Option C}(h:wx st st2 x):Gr st2 ti x lo hi mx=Gr st ti x lo hi mx:=by
 unfold Gr;cases x with
 | pal n p lo0 len cap=>cases ti.kind<;>first|rfl|simp only[h.node (n:=n) (p:=p) rfl p]
 | val v=>cases ti.kind<;>cases v<;>first|rfl|grind
 | _=>cases ti.kind<;>rfl
theorem JM{st st2:St}{c:C}(h:wx st st2 c):mO st2 c=mO st c:=by
 cases c with
 | pal n p lo len cap=>simp only[mO,h.node (n:=n) (p:=p) rfl p]
 | pref n p i j=>simp only[mO,h.node (n:=n) (p:=p) rfl p]
 | _=>rfl
def Qq{st st2:St}:∀{cs:List C},(∀c∈cs,wx st st2 c)->F1 st2 cs=F1 st cs:=by
 intro cs
 induction cs with
 | nil=>intro _;rfl
 | cons c cs ih=>grind[F1,JM]
theorem aaj{st st2:St}{c:C}(h:wx st st2 c):Kb st2 c=Kb st c:=by
 cases c with
 | agg cs=>simp only[Kb,Qq (cs:=cs) (fun c hc k v n p ho hp=>h (k+1) v n p ⟨c,hc,ho⟩ hp)]
 | clo f cs=>simp only[Kb,Qq (cs:=cs) (fun c hc k v n p ho hp=>h (k+1) v n p ⟨c,hc,ho⟩ hp)]
 | pal n p lo len cap=>exact JM h
 | pref n p i j=>exact JM h
 | _=>rfl
theorem YJ{st st2:St}:∀{cs:List C},(∀c∈cs,wx st st2 c)->yD st2 cs=yD st cs:=by
 intro cs
 induction cs with
 | nil=>intro _;rfl
 | cons c cs ih=>grind[yD,aaj]
theorem Xd{st st2:St}{xs:List Operand}{ts:List Tmp}(h:Js ts st st2)(hx:∀x∈xs,∀t,x=.tmp t->t∈ts):xs.map st2.ev=xs.map st.ev:=by
 apply aiN;intro x hm;exact(h.ev (hx x hm)).1
theorem U0{E:Env}{op:Op}{ts:List Tmp}{st st2:St}(h:Js ts st st2)(hx:∀x∈op.operands,∀t,x=.tmp t->t∈ts):qop E st2 op=qop E st op:=by
 have e1:∀x∈op.operands,st2.ev x=st.ev x:=fun x hm=>(h.ev (hx x hm)).1;have e2:∀x∈op.operands,wx st st2 (st.ev x):=fun x hm=>(h.ev (hx x hm)).2;cases op with
 | move x=>simp_all[qop,Op.operands]
 | assign x=>simp_all[qop,Op.operands]
 | pick c x y=>simp_all[qop,Op.operands]
 | load t x=>grind[qop,Op.operands,aaw]
 | fieldAddr s x f=>simp_all[qop,Op.operands]
 | field s x f=>simp_all[qop,Op.operands]
 | indexAddr t x ix=>grind[qop,Op.operands,Ss]
 | index t x ix=>simp_all[qop,Op.operands]
 | binOp op t x y yt=>simp_all[qop,Op.operands]
 | unOp op t x=>simp_all[qop,Op.operands]
 | convert src dst x=>simp only[qop];rw[e1 x (by simp[Op.operands])];simp only[Rb,YL (e2 x (by simp[Op.operands]))]
 | extract x i=>simp_all[qop,Op.operands]
 | slice t x lo hi mx=>
  have o:∀(y:Option Operand),(∀z,y=some z->z∈(Op.slice t x lo hi mx).operands)->y.map st2.ev=y.map st.ev:=by
   intro y hy;cases y with
   | none=>rfl
   | some z=>simp_all
  simp only[qop];rw[e1 x (by simp[Op.operands]),o lo (by rintro z rfl;simp[Op.operands]),o hi (by rintro z rfl;simp[Op.operands]),o mx (by rintro z rfl;simp[Op.operands])]
  grind[YO,Op.operands]
 | makeFunc fn first caps=>
  cases fn with
  | func f=>grind[qop,Xd,Op.operands]
  | _=>rfl
 | nilCheck x=>simp_all[qop,Op.operands]
 | build t parts=>
  simp only[qop];have:(parts.toList.map fun x=>(x.1,st2.ev x.2))=parts.toList.map fun x=>(x.1,st.ev x.2):=by
   apply aiN;intro x hm;rw[e1 x.2 (by simp only[Op.operands,List.mem_toArray,cH];grind)]
  rw[this]
 | call c=>
  obtain⟨callee,args,argTypes⟩:=c;cases callee with
  | builtin b=>
   grind[qop,Xd,Op.operands,Call.operands]
  | _=>rfl
 | _=>rfl
def VY{c:Call}{ts:List Tmp}{st st2:St}(h:Js ts st st2)(hx:∀x∈c.operands,∀t,x=.tmp t->t∈ts):gC st2 c=gC st c/\∀f args,gC st c=some (f,args)->∀y∈args,wx st st2 y:=by
 obtain⟨callee,cargs,ctys⟩:=c;cases callee with
 | value x=>
  have hx0:=h.ev (hx x (by simp[Call.operands]));have hargs:=Xd h (xs:=cargs.toList) (fun x hm=>hx x (by simp_all[Call.operands]));refine⟨by grind[gC],?_⟩;intro f args hc y hy;simp only[gC]at hc;split at hc
  .rename_i f' caps hev;simp only[cc,cP]at hc;obtain⟨rfl,rfl⟩:=hc;have hy:y∈cargs.toList.map st.ev∨y∈caps:=by
    grind[Kd]
   rcases hy with hy|hy
   .simp only[cH]at hy;obtain⟨z,hz,rfl⟩:=hy;exact(h.ev (hx z (by simp_all[Call.operands]))).2
   .intro k v n p ho hp;refine hx0.2 (k+1) v n p ?_ hp;rw[hev];exact⟨y,hy,ho⟩
  .simp at hc
 | invoke _ _=>exact⟨rfl,by simp[gC]⟩
 | builtin _=>exact⟨rfl,by simp[gC]⟩
def WV{E:Env}{o:Oper}{ts:List Tmp}{st st2:St}(h:Js ts st st2)(hx:∀x∈o.op.operands,∀t,x=.tmp t->t∈ts):gA E o st2=gA E o st:=by
 unfold gA;split
 .rfl
 .rename_i t x hop;rw[(h.ev (hx x (by simp[hop,Op.operands]))).1]
 .rename_i t len parts hop;have:(parts.toList.map fun x=>(x.1,st2.ev x.2))=parts.toList.map fun x=>(x.1,st.ev x.2):=by
   apply aiN;intro x hm;rw[(h.ev (hx x.2 (by simp only[hop,Op.operands,List.mem_toArray,cH];grind))).1]
  rw[this]
 .rename_i t x v hop;unfold HP;cases x with
  | tmp n=>
   have a1:=(h.ev (hx (.tmp n) (by simp[hop,Op.operands]))).1;have a2:=(h.ev (hx v (by simp[hop,Op.operands]))).1
   grind
  | _=>cases o.dst<;>cases E.T t<;>rfl
 .rename_i c hop;have hq:=U0 (E:=E) (op:=.call c) h oZi;obtain⟨hc1,hc2⟩:=VY (c:=c) h (by grind[Op.operands]);have hcall:IK E o c st2=IK E o c st:=by
   unfold IK;rw[hc1];split
   .grind[YJ]
   .rfl
  simp_all
 grind[U0]
end
def yT(ts:List Tmp)(a a':Act):Prop:=∀t∈ts,a'.tmps[t]?=a.tmps[t]?
theorem yT.refl(ts:List Tmp)(a:Act):yT ts a a:=fun _ _=>rfl
def yT.trans{ts:List Tmp}{a b c:Act}(h:yT ts a b)(h':yT ts b c):yT ts a c:=fun t ht=>(h' t ht).trans (h t ht)
def Kp(ts:List Tmp)(a:Act)(Q:Exit->Act->World->Prop)(e:Exit)(a':Act)(w':World):Prop:=Q e a' w'/\(e=.outgrown∨yT ts a a')
def HB(ts:List Tmp)(o:Oper):Bool:=match o.dst with
 | some d=>!ts.contains d
 | none=>true
def mN(ts:List Tmp):Code->Bool
 | .region _ ops _=>ops.toList.all (HB ts)
 | .seq x y=>mN ts x&&mN ts y
 | .cond _ x y=>mN ts x&&mN ts y
 | .block _ c=>mN ts c
 | .loop c=>mN ts c
 | .scope c=>mN ts c
 | _=>true
theorem OI:∀c:Code,mN [] c=true:=by
 intro c
 induction c with
 | region id ops d=>simp only[mN,cE];intro o _;unfold HB;split<;>rfl
 | seq x y hx hy=>simp[mN,hx,hy]
 | cond c x y hx hy=>simp[mN,hx,hy]
 | block id c h=>simp_all[mN]
 | loop c h=>simp_all[mN]
 | scope c h=>simp_all[mN]
 | _=>rfl
def LH{ts:List Tmp}{o:Oper}(ho:HB ts o=true)(a:Act)(v:Value):yT ts a (a.put o.dst v):=by
 intro t ht;unfold HB at ho;unfold Act.put
 grind
theorem LetsOut.keep{ts:List Tmp}{a:Act}{Q:Exit->Act->World->Prop}(h:LetsOut Q):LetsOut (Kp ts a Q):=by
 obtain⟨a',w',h⟩:=h;exact⟨a',w',h,.inl rfl⟩
section
variable {P:Program} {ops:Array Oper} {Q:Exit->Act->World->Prop} {ts:List Tmp}
theorem Zy{o:Oper}(ho:HB ts o=true){a0 a:Act}{w:World}(h0:yT ts a0 a){K K':Act->World->Prop}(hK:∀a' w',K a' w'->yT ts a0 a'->K' a' w')(h:o.wp P a w K Q):o.wp P a w K' (Kp ts a0 Q):=by
 unfold Oper.wp at *;generalize (execOp a.eval o).run P w=r at *;have hp:∀v,yT ts a0 (a.put o.dst v):=fun v=>h0.trans (LH ho a v);cases r with
 | ok n w'=>
  cases n<;>simp only[Oper.upon]at h ⊢
  case value v=>simp_all
  case skip=>simp_all
  case defer d=>
   refine hK _ _ h (h0.trans ?_);have:=LH ho ({a with defers:=d::a.defers}) undef;exact this
  case enter f args=>
   refine Calls.mono h (fun e w'' he=>?_);cases e with
   | returned v=>simp_all
   | panicked c=>exact⟨he,.inr h0⟩
   | outgrown=>exact LetsOut.keep he
  grind[Rows.mono]
 | halt x w'=>
  cases x<;>simp only[Oper.upon]at h ⊢
  case panic v=>exact⟨h,.inr h0⟩
  all_goals exact h
theorem Px(hk:ops.toList.all (HB ts)=true){i:Nat}{o:Oper}(ho:ops[i]?=some o):HB ts o=true:=by
 grind
def aaa(hk:ops.toList.all (HB ts)=true){a0:Act}:∀(l:List Nat) (a:Act) (w:World),yT ts a0 a->wpOps P ops Q l a w->wpOps P ops (Kp ts a0 Q) l a w:=by
 intro l
 induction l with
 | nil=>intro a w h0 h;exact⟨h,.inr h0⟩
 | cons i l ih=>
  intro a w h0 h;rw[wpOps_cons]at h ⊢;unfold wpOp at h ⊢;split
  .simp_all
  .rename_i o ho;rw[ho]at h;simp only at h;split
   .rename_i hw;rw[if_pos hw]at h
    grind[Zy,Px,LetsOut.keep]
   .rename_i hw;rw[if_neg hw]at h;exact ih _ _ (h0.trans (LH (Px hk ho) a undef)) h
def RU{md:Region.Mode}(hk:ops.toList.all (HB ts)=true){a0:Act}:∀(fuel:Nat) (listed:Array Bool) (a:Act) (w:World),yT ts a0 a->wpAny P md ops Q fuel listed a w->wpAny P md ops (Kp ts a0 Q) fuel listed a w:=by
 intro fuel
 induction fuel with
 | zero=>intro listed a w h0 h;exact⟨h.1,h.2,.inr h0⟩
 | succ fuel ih=>
  intro listed a w h0 h;refine⟨fun hr=>⟨h.1 hr,.inr h0⟩,fun i hi=>?_⟩;have h2:=h.2 i hi;unfold wpOp at h2 ⊢;split
  .simp_all
  .rename_i o ho;rw[ho]at h2;simp only at h2;split
   .rename_i hw;rw[if_pos hw]at h2
    grind[Zy,Px,LetsOut.keep]
   .rename_i hw;rw[if_neg hw]at h2;exact ih _ _ _ (h0.trans (LH (Px hk ho) a undef)) h2
end
def kA(g:C->C):Prop:=(∀v,g (.val v)=.val v)/\(∀vs:List Value,g (.agg (vs.map .val))=.agg (vs.map .val))/\g .dead=.dead/\∀f,g (.clo f [])=.clo f []
theorem kA.id:kA id:=⟨fun _=>rfl,fun _=>rfl,rfl,fun _=>rfl⟩
def kA.poi(f:Nat->aq->Bool):kA (poi f):=by
 refine⟨fun _=>rfl,?_,rfl,fun _=>rfl⟩;intro vs;have:(C.agg (vs.map .val)).ment f 3=false:=by
  simp only[C.ment,xq,cH];rintro c ⟨v,_,rfl⟩;simp[C.ment]
 simp[Go.Abs.poi,this]
def kA.comp{g h:C->C}(hg:kA g)(hh:kA h):kA (g∘h):=
 ⟨fun v=>by simp[hh.1,hg.1],fun vs=>by simp[hh.2.1,hg.2.1],by simp[hh.2.2.1,hg.2.2.1],fun f=>by simp[hh.2.2.2,hg.2.2.2]⟩
def Dg{β:Type}(R:Nat->C)(f:St->Option (St×β)):Prop:=(∀ts,f ⟨ts,R⟩=none)∨∃g R' b,kA g/\∀ts,f ⟨ts,R⟩=some (⟨ts.map g,R'⟩,b)
def Dg.none{β:Type}{R:Nat->C}{f:St->Option (St×β)}(h:∀ts,f ⟨ts,R⟩=none):Dg R f:=.inl h
def Dg.same{β:Type}{R:Nat->C}{f:St->Option (St×β)}(b:β)(h:∀ts,f ⟨ts,R⟩=some (⟨ts,R⟩,b)):Dg R f:=.inr ⟨id,R,b,.id,fun ts=>by rw[h];simp⟩
def Dg.step{β γ:Type}{R:Nat->C}{f:St->Option (St×β)}{k:β->St->Option (St×γ)}{F:St->Option (St×γ)}(h:Dg R f)(hk:∀b R',Dg R' (k b))
  (hF:∀ts,F ⟨ts,R⟩=match f ⟨ts,R⟩with|some (s,b)=>k b s|Option.none=>Option.none):Dg R F:=by
 rcases h with h|⟨g,R',b,hg,h⟩
 .exact .inl fun ts=>by rw[hF,h]
 .rcases hk b R' with h2|⟨g2,R2,c,hg2,h2⟩
  .exact .inl fun ts=>oZf
  .exact .inr ⟨g2∘g,R2,c,hg2.comp hg,fun ts=>oZf⟩
def one(f:St->Option St)(s:St):Option (St×Unit):=(f s).map fun s=>(s,())
def UF(n:Nat)(q:aq)(i:Nat):∀(cs:List C) (j:Nat) (R:Nat->C),Dg R (one (jA n q i j cs))
 | [],j,R=>.same () fun ts=>rfl
 | c::cs,j,R=>by
  cases hn:(R n).at q with
  | none=>exact .none fun ts=>by simp[one,jA,St.node,hn]
  | some nd=>
   by_cases hc:∃nl es cap rows row,nd=.sl true nl es cap rows/\rows[i]?=some row/\(j<row.length/\n<H0)
   .obtain⟨nl,es,cap,rows,row,rfl,h1,h2⟩:=hc;have key:∃g,kA g/\∀ts,CF n q i j row ts=ts.map g:=by
     unfold CF;split
     .rename_i c0 _;by_cases hl:Ei c0=true
      .exact⟨id,.id,fun ts=>by simp[hl]⟩
      .exact⟨_,.poi _,fun ts=>by simp only[hl];rfl⟩
     simp_all
    obtain⟨g,hg,hgt⟩:=key;rcases UF n q i cs (j+1) (upd R n ((R n).turn (fun _=>c.frz) (q++[(i,j)])))with h|⟨g2,R2,b,hg2,h⟩
    .refine .none fun ts=>?_;have:=h (ts.map g);simpa[one,jA,St.node,hn,h1,h2,hgt]using this
    .refine .inr ⟨g2∘g,R2,b,hg2.comp hg,fun ts=>?_⟩;have:=h (ts.map g);simpa[one,jA,St.node,hn,h1,h2,hgt]using this
   .refine .none fun ts=>?_;simp only[one,jA,St.node,hn]
    grind
def Vc(n:Nat)(q:aq)(i:Nat):∀(k j h:Nat) (R:Nat->C),Dg R (one (pS n q i j k h))
 | 0,j,h,R=>.same () fun ts=>by cases h<;>rfl
 | k+1,j,h,R=>by
  cases hn:(R n).at q with
  | none=>exact .none fun ts=>by simp[one,pS,St.node,hn]
  | some nd=>
   by_cases hc:∃nl es cap rows row,nd=.sl true nl es cap rows/\rows[i]?=some row/\(j<row.length/\n<H0)
   .obtain⟨nl,es,cap,rows,row,rfl,h1,h2⟩:=hc;rcases Vc n q i k (j+1) (h+1) (upd (upd R n ((R n).turn (fun _=>R h) (q++[(i,j)]))) h .dead)with h'|⟨g2,R2,b,hg2,h'⟩
    .refine .none fun ts=>?_
     simp_all[one,pS,St.node,St.plug]
    .refine .inr ⟨g2∘poi (fun n' p'=>n' == h ||(n' == n&&ph (q++[(i,j)]) p')),R2,b,hg2.comp (.poi _),fun ts=>?_⟩
     simp_all[one,pS,St.node,St.plug]
   .refine .none fun ts=>?_;simp only[one,pS,St.node,hn]
    grind
def aac(h:Nat)(c:C)(R:Nat->C):Dg R (CI h c):=by
 by_cases hd:dN (R h)=true
 case neg=>exact .none fun ts=>by simp[CI,hd]
 by_cases hp:∃n p lo len cap,c=.pal n p lo len cap
 .obtain⟨n,p,lo,len,cap,rfl⟩:=hp;cases hn:(R n).at p with
  | none=>exact .none fun ts=>by simp[CI,hd,St.node,hn]
  | some nd=>
   by_cases hc:∃nl es cap' rows,nd=.sl true nl es cap' rows/\n<H0
   .obtain⟨nl,es,cap',rows,rfl,hlt⟩:=hc;refine .inr ⟨poi (fun n' p'=>n' == n&&ph p p'),(St.move ⟨[],R⟩ n p lo len cap h es rows).roots,fun n' p'=>n' == n&&ph p p',.poi _,fun ts=>?_⟩
    simp_all[CI,St.node,St.move]
   .refine .none fun ts=>?_;simp only[CI,hd,if_true,St.node,hn]
    grind
 .have e:∀ts,CI h c ⟨ts,R⟩=if c.cellOk then some (⟨ts,upd R h c.frz⟩,fun _ _=>false)else none:=by
   intro ts;cases c with
   | pal n p lo len cap=>exact(hp ⟨n,p,lo,len,cap,rfl⟩).elim
   | _=>simp[CI,hd]
  cases hok:c.cellOk with
  | true=>exact .inr ⟨id,upd R h c.frz,fun _ _=>false,.id,fun ts=>oZf⟩
  | false=>exact .none fun ts=>oZf
def O0:∀(k h:Nat) (cs:List C) (keep:C) (R:Nat->C),Dg R (kV k h cs keep)
 | 0,h,cs,keep,R=>.same keep fun ts=>by cases cs<;>rfl
 | k+1,h,[],keep,R=>.same keep fun ts=>rfl
 | k+1,h,c::cs,keep,R=>by
  refine Dg.step (aac h c R) (k:=fun f=>kV k (h+1) (cs.map (poi f)) (poi f keep)) (fun f R'=>O0 k (h+1) _ _ R') (fun ts=>?_);simp only[kV]
  grind
def aat(ti:TI)(x v:C)(R:Nat->C):Dg R (one (lS ti x v)):=by
 cases hu:wy ti v with
 | none=>exact .none fun ts=>by simp[one,lS,hu]
 | some cells=>
  by_cases hx:∃n q i j,x=.pref n q i j
  .obtain⟨n,q,i,j,rfl⟩:=hx;by_cases hok:(cells.all C.cellOk)=true
   .by_cases hd:dN (R H0)=true
    .rcases UF n q i cells j R with h|⟨g,R2,b,hg,h⟩
     .exact .none fun ts=>by simp_all[one,lS]
     .exact .inr ⟨g,R2,b,hg,fun ts=>by simp_all[one,lS]⟩
    .exact .none fun ts=>by simp_all[one,lS]
   .refine Dg.step (O0 cells.length H0 cells (.pref n q i j) R) (k:=fun c=>match c with|.pref n q i j=>one (pS n q i j cells.length H0)|_=>fun _=>none) ?_ (fun ts=>?_)
    .intro c R';cases c with
     | pref n q i j=>simp_all[Vc]
     | _=>exact .none fun _=>rfl
    .simp only[one,lS,hu,hok,if_false,cS];cases kV cells.length H0 cells (.pref n q i j) ⟨ts,R⟩with
     | none=>rfl
     | some y=>
      obtain⟨s,c⟩:=y;cases c<;>rfl
  .refine .none fun ts=>?_;cases x with
   | pref n q i j=>exact(hx ⟨n,q,i,j,rfl⟩).elim
   | _=>simp[one,lS,hu]
def Z9{ti:TI}{x v c:C}{d:Nat}{st s2:St}(y:Operand)(hc:∀g R',kA g->St.ev ⟨st.tmps.map g,R'⟩ y=g (st.ev y)):
  lS ti x v (st.put (some d) (st.ev y))=some s2↔∃s1,lS ti x v st=some s1/\s2=s1.put (some d) (s1.ev y):=by
 obtain⟨ts,R⟩:=st;rcases aat ti x v R with h|⟨g,R',b,hg,h⟩
 .have h1:∀ts,lS ti x v ⟨ts,R⟩=none:=fun ts=>by simp_all[one]
  simp[St.put,h1]
 .have h1:∀ts,lS ti x v ⟨ts,R⟩=some ⟨ts.map g,R'⟩:=fun ts=>by simp_all[one]
  have:=hc g R' hg;simp only[St.put,h1,cc,exists_eq_left',xS]
  grind
def afl(ts:List C)(R R':Nat->C)(y:Operand)(g:C->C)(hg:kA g):St.ev ⟨ts.map g,R'⟩ y=g (St.ev ⟨ts,R⟩ y):=by
 cases y with
 | tmp t=>
  simp only[St.ev,cz];cases ts[t]? with
  | none=>simp[hg.2.2.1]
  | some c=>rfl
 | const v=>
  simp only[St.ev];cases v with
  | agg cs=>exact(hg.2.1 cs.toList).symm
  | _=>exact(hg.1 _).symm
 | func f=>exact(hg.2.2.2 (Q9 f)).symm
 | global n=>exact hg.2.2.1.symm
def V9(ops:Array Oper)(o:Oper):List Tmp:=
 match o.guard with
 | some (j,_)=>((ops[j]?).bind (·.dst)).toList
 | none=>[]
def oR(ops:Array Oper)(o:Oper):List Tmp:=WU o.op.operands.toList++V9 ops o
def Wm(ops:Array Oper)(x y:Oper):Bool:=
 (match x.dst with|some d=>!(oR ops y).contains d|none=>true)&&(match y.dst with|some d=>!(oR ops x).contains d|none=>true)&&
 (match x.dst,y.dst with|some d,some e=>d != e|_,_=>true)
def jJ(ops:Array Oper):Nat->Nat->Nat->Bool
 | 0,_,_=>false
 | k+1,j,i=>((ops[i]?).map fun o=>(o.after.any fun e=>e.on == j&&Region.binds .any e) || o.after.any fun e=>Nat.blt j e.on &&(Region.binds .any e&&jJ ops k j e.on)).getD false
def JF(ops:Array Oper)(i:Nat):Bool:=(List.range ops.size).all fun j=>j == i || jJ ops ops.size j i || jJ ops ops.size i j
def EC(ops:Array Oper):Bool:=
 ((List.range ops.size).all fun i=>((ops[i]?).map fun o=>o.after.all fun e=>!Region.binds .any e || decide (e.on<i)).getD true)&&
 ((List.range ops.size).all fun i=>(List.range i).all fun j=>(match ops[j]?,ops[i]? with|some x,some y=>Wm ops x y|_,_=>true) || jJ ops ops.size j i)
def TF(o:Oper):Option Tmp:=
 match o.op with
 | .store _ (.tmp n) _=>some n
 | _=>none
def Pk(o:Oper):Bool:=
 match o.op with
 | .store ..=>true
 | _=>false
def abU(o:Oper):Bool:=o.guard.isNone &&(match o.op,o.dst with|.move _,some _=>true|.assign _,some _=>true|_,_=>false)
def R9(o:Oper):Bool:=o.guard.isNone &&(match o.op with|.extract ..=>true|.move _=>true|.assign _=>true|.slice ..=>true|.binOp .sub _ _ (.const (.int _ _)) _=>true|_=>false)
def Pw(ops:Array Oper)(x:Nat):Bool:=
 match ops[x]? with
 | some o=>R9 o&&Region.noSelect ops &&(List.range ops.size).all fun j=>j == x || jJ ops ops.size j x ||(match ops[j]? with|some oj=>oj.after.any (fun e=>Region.binds .any e&&e.on == x) || o.apart ops oj|none=>true)
 | none=>false
def Oi(ops:Array Oper):Nat->Nat->Nat->Bool
 | 0,_,_=>false
 | k+1,x,A=>Nat.blt x A &&(Pw ops x &&(match ops[x]? with|some o=>o.after.all fun e=>!(Region.binds .any e) || jJ ops ops.size e.on A || Oi ops k e.on A|none=>false))
def Mq(ops:Array Oper)(x A:Nat):Bool:=Oi ops ops.size x A
def N2(ops:Array Oper)(i:Nat):Bool:=((ops[i]?).map fun o=>Pk o&&o.dst.isNone&&o.guard.isNone).getD false &&
 (List.range ops.size).all fun j=>j == i || jJ ops ops.size j i || jJ ops ops.size i j ||((ops[j]?).map abU).getD false || Mq ops j i
def VU(ops:Array Oper):List Nat:=(List.range ops.size).filter fun j=>((ops[j]?).map Pk).getD false && !JF ops j
def D6(ops:Array Oper):List Nat:=if(VU ops).all (N2 ops)then[]else VU ops
def sg(ops:Array Oper)(i:Nat):Bool:=N2 ops i &&(VU ops).all (N2 ops)
def jc(ops:Array Oper)(i:Nat):Bool:=(JF ops i || sg ops i)&&(D6 ops).isEmpty
def Py(ops:Array Oper)(i j:Nat):Bool:=i != j && !jJ ops ops.size i j && !jJ ops ops.size j i
def Cm(n:Nat)(st:St)(t:Tmp):Bool:=
 match st.tmps[t]? with
 | some c=>!(c.ment (fun n' _=>n' == n) 3)
 | none=>true
def chk(ops:Array Oper)(i:Nat)(o:Oper)(st:St):Bool:=
 (D6 ops).all fun j=>!(Py ops i j) ||(match(ops[j]?).bind TF with
  | some n=>(match o.dst with|some d=>decide (d<H0)|none=>true)&&(oR ops o).all (Cm n st)
  | none=>true)
def CD(E:Env)(ops:Array Oper)(i:Nat)(o:Oper)(st:St):Option St:=
 match bD E ops o st with
 | some st'=>some st'
 | none=>if jc ops i=true then fF E ops o st else none
def BL(E:Env)(ops:Array Oper)(i:Nat)(o:Oper)(st:St):Option St:=
 match bD E ops o st with
 | some st'=>if chk ops i o st=true then some st' else none
 | none=>if jc ops i=true then fF E ops o st else none
def ssa(ops:Array Oper):Bool:=
 (List.range ops.size).all fun i=>(List.range ops.size).all fun k=>decide (k<i) ||(match ops[i]?,ops[k]? with
  | some x,some y=>(match y.dst with|some d=>!(oR ops x).contains d|none=>true)
  | _,_=>true)
def wH(ops:Array Oper)(st:St):Bool:=
 (D6 ops).isEmpty ||(ssa ops &&(List.range ops.size).all fun i=>match ops[i]? with|some o=>chk ops i o st|none=>true)
def C6(E:Env)(ops:Array Oper):List (Nat×Oper)->St->Option St
 | [],st=>some st
 |(i,o)::l,st=>match BL E ops i o st with
  | some st'=>C6 E ops l st'
  | none=>none
section
variable {X:Ctx} {m:Nat->aq->Value} {st:St} {a:Act} {w:World} {P:Program}
theorem tH{E:Env}{ops:Array Oper}{i:Nat}{o:Oper}{st':St}(h:BL E ops i o st=some st'):fF E ops o st=some st':=by
 grind[BL,F4]
def Ew{xs:List Operand}{t:Tmp}(h:Operand.tmp t∈xs):t∈WU xs:=by
 simp only[WU,ajx]
 grind
theorem SU{E:Env}{ops:Array Oper}{o:Oper}{st st2:St}(h:Js (oR ops o) st st2):rR E ops o st2=rR E ops o st:=by
 have hb:=WV (E:=E) (o:=o) h (by
  intro x hx t ht;exact cJ.2 (.inl (Ew oZf)))
 unfold rR;split
 .exact hb
 .rename_i j want hg;split
  .rename_i t ht;have:st2.tmps[t]?=st.tmps[t]?:=(h t (cJ.2 (.inr (by simp[V9,hg,ht])))).1;rw[this,hb]
  .rfl
theorem Wo{E:Env}{o:Oper}{e:SE}(h:gA E o st=some e):(∃c,e=.q o.dst c)∨(∃d t r,o.dst=some d/\e=.n d t r)∨∃t n v cells,o.dst=none/\o.op=.store t (.tmp n) v/\st.ev (.tmp n)=.pref n [] 0 0/\e=.s n cells:=by
 have quiet:∀{x:Option C},qSE o x=some e->(∃c,e=.q o.dst c)∨(∃d t r,o.dst=some d/\e=.n d t r)∨∃t n v cells,o.dst=none/\o.op=.store t (.tmp n) v/\st.ev (.tmp n)=.pref n [] 0 0/\e=.s n cells:=by
  intro x hq;cases x with
  | none=>grind[qSE]
  | some c=>grind[qSE]
 unfold gA at h;split at h
 .grind
 .grind[VO]
 .split at h
  .unfold D4 at h;split at h
   .grind[se]
   .grind[se]
   grind[CR]
  .simp at h
 .unfold HP at h
  grind
 .split at h
  .simp at h
  .exact quiet h
  .unfold IK at h;split at h
   .grind
   .simp at h
 grind
theorem IL{E:Env}{ops:Array Oper}{o:Oper}{e:SE}(h:rR E ops o st=some e):(∃c,e=.q o.dst c)∨(∃d t r,o.dst=some d/\e=.n d t r)∨∃t n v cells,o.dst=none/\o.op=.store t (.tmp n) v/\st.ev (.tmp n)=.pref n [] 0 0/\e=.s n cells:=by
 unfold rR at h;split at h
 .exact Wo h
 grind[Wo]
def Mc.alive(H:Mc P st){t:Nat}{c v:C}{k n:Nat}{p:aq}(hc:st.tmps[t]?=some c)(ho:occ k c v)(hp:v.place=some (n,p)):st.roots n≠.dead:=by
 obtain⟨X,a,w,m,H⟩:=H;obtain⟨u,d,_,hr⟩:=H.tmp t c hc;have key:∀(k d:Nat) (c:C) (q:aq) (u:Value),occ k c v->rel w (X.S st.roots m) (Lv st.roots m) dm false d q c u->∃u',Lv st.roots m v u':=by
  intro k
  induction k with
  | zero=>intro d c q u ho _;exact ho.elim
  | succ k ih=>
   intro d c q u ho hr;cases d with
   | zero=>exact hr.elim
   | succ d=>
    cases c with
    | pref n p i j=>simp only[occ]at ho;subst ho;exact⟨u,hr⟩
    | pal n p lo len cap=>simp only[occ]at ho;subst ho;exact⟨u,hr⟩
    | agg cs=>
     obtain⟨c',hm,ho⟩:=ho;obtain⟨j,hj⟩:=cC hm;obtain⟨arr,h1,h2,h3⟩:=hr
     grind
    | tup cs=>
     obtain⟨c',hm,ho⟩:=ho;obtain⟨j,hj⟩:=cC hm;obtain⟨arr,h1,h2,h3⟩:=hr
     grind
    | clo f cs=>
     obtain⟨c',hm,ho⟩:=ho;obtain⟨j,hj⟩:=cC hm;obtain⟨arr,h1,h2,h3⟩:=hr
     grind
    | _=>exact ho.elim
 grind[CX]
def SE.dst:SE->Option Nat
 | .q d _=>d
 | .n d _ _=>some d
 | .s _ _=>none
theorem Oe{E:Env}{ops:Array Oper}{o:Oper}{e:SE}(h:rR E ops o st=some e):e.dst=o.dst:=by
 rcases IL h with⟨c,rfl⟩|⟨d,t,r,hd,rfl⟩|⟨t,n,v,cells,hd,_,_,rfl⟩
 .rfl
 .rw[hd];rfl
 .rw[hd];rfl
def Sm{n:Nat}{t:Tmp}(h:Cm n st t=true){c:C}(hc:st.tmps[t]?=some c){k:Nat}{v:C}{n':Nat}{p:aq}(ho:occ k c v)(hp:v.place=some (n',p)):n'≠n:=by
 unfold Cm at h;rw[hc]at h;simp only[ny]at h;obtain⟨n2,p2,e1,e2⟩:=jB k 3 c v h ho
 simp_all
def AQ{n:Nat}{cells:List C}{s1:St}(h:AP n cells st=some s1):∃nl es cap row,st.roots n=.sl true nl es cap [row]/\dN (st.roots H0)=true/\n<H0/\s1={tmps:=st.tmps,roots:=upd st.roots n (.sl true nl es cap [cells.map C.frz++row.drop cells.length])}:=by
 grind[AP]
def vQ{n:Nat}{cells:List C}{st2:St}(h1:st2.roots n=st.roots n)(h2:dN (st2.roots H0)=dN (st.roots H0)){s1:St}(h:AP n cells st=some s1):
  AP n cells st2=some {tmps:=st2.tmps,roots:=upd st2.roots n (s1.roots n)}:=by
 unfold AP at h ⊢;rw[h1,h2];split at h
 case h_2=>simp at h
 split at h
 case isFalse=>simp at h
 rename_i hc;simp only[cc]at h;subst h;simp only[if_pos hc,aI]
def Qr(H:Mc P st){ts:List Tmp}{e:SE}{st':St}(h:e.apply st=some st')(hd:∀d,e.dst=some d->d∉ts)(hv:∀n cells,e=.s n cells->∀t∈ts,Cm n st t=true):Js ts st st':=by
 intro t ht;cases e with
 | q d c=>
  simp only[SE.apply,cc]at h;subst h;cases d with
  | none=>exact⟨rfl,fun _ _ _ _ _ _ _ _=>rfl⟩
  | some d=>
   have hne:d≠t:=by rintro rfl;exact hd d rfl ht
   exact⟨by simp[St.put,hne],fun _ _ _ _ _ _ _ _=>rfl⟩
 | n d tmp root=>
  simp only[SE.apply]at h;split at h
  .rename_i hdd;simp only[cc]at h;subst h;have hne:d≠t:=by rintro rfl;exact hd d rfl ht
   refine⟨oZf,?_⟩;intro c hc k v n p ho hp;have:n≠d:=by
    rintro rfl;exact H.alive hc ho hp (Du hdd)
   simp[aV this]
  .simp at h
 | s n cells=>
  obtain⟨nl,es,cap,row,e1,e2,e3,rfl⟩:=AQ h;refine⟨rfl,?_⟩;intro c hc k v n' p ho hp;have:=Sm (hv n cells rfl t ht) hc ho hp;simp[aV this]
theorem Ok(f:Nat->C){n k:Nat}(h:n≠k)(a b:C):upd (upd f n a) k b=upd (upd f k b) n a:=by
 grind[aI,aV]
def abp{n:Nat}{cells:List C}{e2:SE}{s1 s2:St}(h1:AP n cells st=some s1)(h2:e2.apply s1=some s2)(hn:∀n' c',e2=.s n' c'->n'≠n)(hH:∀d t r,e2=.n d t r->d≠H0):
  ∃s1',e2.apply st=some s1'/\AP n cells s1'=some s2:=by
 obtain⟨nl,es,cap,row,g1,g2,g3,rfl⟩:=AQ h1;cases e2 with
 | q d c=>
  simp only[SE.apply,cc]at h2;subst h2;refine⟨_,rfl,?_⟩;cases d with
  | none=>exact h1
  | some d=>
   rw[vQ (st:=st) (st2:=st.put (some d) c) rfl rfl h1];simp[St.put,aI]
 | n d tmp root=>
  have hdn:d≠n:=by
   grind[SE.apply,aI,dN]
  simp only[SE.apply,aV hdn]at h2;split at h2
  case h_2=>simp at h2
  refine⟨{tmps:=st.tmps.set d tmp,roots:=upd st.roots d root},by simp_all[SE.apply],?_⟩;rw[vQ (st:=st) (by grind[aV]) (by grind[aV]) h1];simp only[aI,cc,St.mk.injEq,true_and]
  grind[Ok]
 | s n2 cells2=>
  have hnn:=hn n2 cells2 rfl;obtain⟨nl2,es2,cap2,row2,k1,k2,k3,rfl⟩:=AQ h2;have hH0:n≠H0:=oZg;have hH2:n2≠H0:=oZg;refine⟨_,vQ (st2:=st) (by simp[aV hnn]) oZf h2,?_⟩;rw[vQ (st:=st) (by grind[aV]) (by grind[aV]) h1]
  simp_all[aI,Ok]
def aeR{n:Nat}{cells:List C}{e1:SE}{s1 s2:St}(h1:e1.apply st=some s1)(h2:AP n cells s1=some s2)(hn:∀n' c',e1=.s n' c'->n'≠n)(hH:∀d t r,e1=.n d t r->d≠H0/\d≠n):
  ∃s1',AP n cells st=some s1'/\e1.apply s1'=some s2:=by
 cases e1 with
 | q d c=>
  simp only[SE.apply,cc]at h1;subst h1;cases d with
  | none=>exact⟨s2,h2,rfl⟩
  | some d=>
   obtain⟨nl,es,cap,row,g1,g2,g3,rfl⟩:=AQ h2;exact⟨_,vQ (st:=st.put (some d) c) (st2:=st) rfl rfl h2,by simp[SE.apply,St.put,aI]⟩
 | n d tmp root=>
  obtain⟨hH,hdn⟩:=hH d tmp root rfl;simp only[SE.apply]at h1;split at h1
  case h_2=>simp at h1
  rename_i hdd;simp only[cc]at h1;subst h1;obtain⟨nl,es,cap,row,g1,g2,g3,rfl⟩:=AQ h2;refine⟨_,vQ (st2:=st) (by grind[aV]) (by grind[aV]) h2,?_⟩;simp only[SE.apply,aV hdn,hdd,aI,cc,St.mk.injEq,true_and]
  grind[Ok]
 | s n2 cells2=>
  have hnn:=hn n2 cells2 rfl;obtain⟨s1',g1,g2⟩:=abp (e2:=.s n cells) h1 h2 oZi oZf;exact⟨s1',g1,g2⟩
def Z3{e1 e2:SE}{s1 s2:St}(h1:e1.apply st=some s1)(h2:e2.apply s1=some s2)(hne:∀d1 d2,e1.dst=some d1->e2.dst=some d2->d1≠d2)
  (hs1:∀n c,e1=.s n c->(∀n' c',e2=.s n' c'->n'≠n)/\∀d t r,e2=.n d t r->d≠H0) (hs2:∀n c,e2=.s n c->(∀n' c',e1=.s n' c'->n'≠n)/\∀d t r,e1=.n d t r->d≠H0/\d≠n):
  ∃s1',e2.apply st=some s1'/\e1.apply s1'=some s2:=by
 by_cases c1:∃n c,e1=.s n c
 .obtain⟨n,c,rfl⟩:=c1;exact abp h1 h2 (hs1 n c rfl).1 (hs1 n c rfl).2
 by_cases c2:∃n c,e2=.s n c
 .obtain⟨n,c,rfl⟩:=c2;exact aeR h1 h2 (hs2 n c rfl).1 (hs2 n c rfl).2
 cases e1 with
 | q d c=>
  simp only[SE.apply,cc]at h1;subst h1;cases d with
  | none=>exact⟨s2,h2,rfl⟩
  | some d=>
   cases e2 with
   | s n c=>simp_all
   | q d' c'=>
    simp only[SE.apply,cc]at h2;subst h2;refine⟨_,rfl,?_⟩;cases d' with
    | none=>rfl
    | some d'=>
     have:=hne d d' rfl rfl
     grind[SE.apply,St.put,List.set_comm]
   | n d' tmp root=>
    have:=hne d d' rfl rfl;cases hdd:dN (st.roots d')with
    | true=>
     simp only[SE.apply,St.put,hdd,cc]at h2 ⊢;exact⟨_,rfl,by grind[List.set_comm]⟩
    | false=>simp_all[SE.apply,St.put]
 | n d tmp root=>
  simp only[SE.apply]at h1;split at h1
  .rename_i hdd;simp only[cc]at h1;subst h1;cases e2 with
   | s n c=>simp_all
   | q d' c'=>
    simp only[SE.apply,cc]at h2;subst h2;refine⟨_,rfl,?_⟩;cases d' with
    | none=>simp[SE.apply,St.put,hdd]
    | some d'=>
     have:=hne d d' rfl rfl
     grind[SE.apply,St.put,List.set_comm]
   | n d' tmp' root'=>
    have hn:=hne d d' rfl rfl;cases hdd':dN (st.roots d')with
    | true=>
     simp only[SE.apply,aV hn.symm,hdd',cc]at h2 ⊢;subst h2;refine⟨_,rfl,?_⟩;simp only[aV hn,hdd,cc];rw[List.set_comm _ _ hn.symm]
     congr 1
     grind[upd]
    | false=>grind[SE.apply,aV]
  .simp at h1
 | s n c=>simp_all
theorem Ox{ops:Array Oper}{i:Nat}{o:Oper}{st st2:St}(h:∀t∈oR ops o,st2.tmps[t]?=st.tmps[t]?):chk ops i o st2=chk ops i o st:=by
 unfold chk
 congr 1
 funext j
 cases (ops[j]?).bind TF with
 | none=>rfl
 | some n=>
  have:(oR ops o).all (Cm n st2)=(oR ops o).all (Cm n st):=by
   rw[xr,cE,cE]
   simp_all[Cm]
  simp_all
theorem Ru{ops:Array Oper}{i j:Nat}{x y:Oper}{n t:Nat}{v:Operand}(hy:ops[j]?=some y)(hop:y.op=.store t (.tmp n) v)(hlt:j<ops.size)(hb:JF ops j=false)(hrl:sg ops j=false)(hu:Py ops i j=true)(h:chk ops i x st=true):
  (∀d,x.dst=some d->d<H0)/\∀t∈oR ops x,Cm n st t=true:=by
 unfold chk at h;rw[cE]at h;have:=h j (by
  grind[VU,Pk,D6,sg])
 simp only[hu,nv,nD,hy,cb,TF,hop,cx,cE]at this
 grind
def ag5{E:Env}(H:Mc P st){ops:Array Oper}{i j:Nat}{x y:Oper}(hx:ops[i]?=some x)(hy:ops[j]?=some y)(hbx:JF ops i=false)(hby:JF ops j=false)(hrx:sg ops i=false)(hry:sg ops j=false)(hu:Py ops i j=true)(hu':Py ops j i=true)(hd:Wm ops x y=true){s1 s2:St}
  (h1:bD E ops x st=some s1) (k1:chk ops i x st=true) (h2:bD E ops y s1=some s2) (k2:chk ops j y s1=true):
  ∃s1',bD E ops y st=some s1'/\chk ops j y st=true/\bD E ops x s1'=some s2/\chk ops i x s1'=true:=by
 have hil:=(ng.1 hx).1;have hjl:=(ng.1 hy).1;unfold bD at h1 h2;split at h1
 case h_2=>simp at h1
 rename_i e1 he1;split at h2
 case h_2=>simp at h2
 rename_i e2 he2;have D1:=Oe he1;have D2:=Oe he2;simp only[Wm,cx]at hd;obtain⟨⟨c1,c2⟩,c3⟩:=hd;have n1:∀d,e1.dst=some d->d∉oR ops y:=by
  grind
 have n2:∀d,e2.dst=some d->d∉oR ops x:=by
  grind
 have T1:∀t∈oR ops y,s1.tmps[t]?=st.tmps[t]?:=by
  intro t ht;cases e1 with
  | q d c=>
   simp only[SE.apply,cc]at h1;subst h1;cases d with
   | none=>rfl
   | some d=>
    have hne:d≠t:=by rintro rfl;exact n1 d rfl ht
    simp[St.put,hne]
  | n d tmp root=>
   simp only[SE.apply]at h1;split at h1
   .simp only[cc]at h1;subst h1;have hne:d≠t:=by rintro rfl;exact n1 d rfl ht
    simp_all
   .simp at h1
  | s n c=>
   obtain⟨_,_,_,_,_,_,_,rfl⟩:=AQ h1;rfl
 have k2':chk ops j y st=true:=by grind[Ox]
 have A1:=Qr (ts:=oR ops y) H h1 n1 (by
  grind[IL,Ru])
 rw[SU A1]at he2;have S1:∀n c,e1=.s n c->(∀d,y.dst=some d->d<H0)/\(∀t∈oR ops y,Cm n st t=true)/\n∈oR ops x:=by
  rintro n c rfl;rcases IL he1 with⟨_,h⟩|⟨_,_,_,_,h⟩|⟨t,n',v,_,_,hop,_,h⟩
  .cases h
  .cases h
  .cases h;obtain⟨q1,q2⟩:=Ru hx hop hil hbx hrx hu' k2';exact⟨q1,q2,cJ.2 (.inl (Ew (by simp[hop,Op.operands])))⟩
 have S2:∀n c,e2=.s n c->(∀d,x.dst=some d->d<H0)/\(∀t∈oR ops x,Cm n st t=true)/\n∈oR ops y:=by
  rintro n c rfl;rcases IL he2 with⟨_,h⟩|⟨_,_,_,_,h⟩|⟨t,n',v,_,_,hop,_,h⟩
  .cases h
  .cases h
  .cases h;obtain⟨q1,q2⟩:=Ru hy hop hjl hby hry hu k1;exact⟨q1,q2,cJ.2 (.inl (Ew (by simp[hop,Op.operands])))⟩
 have V:∀n c,e1=.s n c->∃q,st.tmps[n]?=some (.pref n [] 0 0)/\q=():=by
  rintro n c rfl;rcases IL he1 with⟨_,h⟩|⟨_,_,_,_,h⟩|⟨t,n',v,_,_,hop,hev,h⟩
  .cases h
  .cases h
  .cases h;simp only[St.ev]at hev;cases hc:st.tmps[n]? with
   | none=>simp_all
   | some u=>simp_all
 have SS:∀n c n' c',e1=.s n c->e2=.s n' c'->n'≠n:=by
  intro n c n' c' g1 g2;obtain⟨_,hv,_⟩:=V n c g1;obtain⟨_,q2,_⟩:=S2 n' c' g2;obtain⟨_,_,q3⟩:=S1 n c g1;have:=Sm (q2 n q3) hv (k:=1) (v:=.pref n [] 0 0) (n':=n) (p:=[]) rfl rfl;omega
 obtain⟨s1',g1,g2⟩:=Z3 h1 h2 (by
  grind) (by
  intro n c h;refine⟨fun n' c' h'=>SS n c n' c' h h',?_⟩;rintro d t r rfl;exact Nat.ne_of_lt ((S1 n c h).1 d (by rw[<-D2];rfl))) (by
  intro n c h;refine⟨fun n' c' h'=>(SS n' c' n c h' h).symm,?_⟩;rintro d t r rfl;refine⟨Nat.ne_of_lt ((S2 n c h).1 d (by rw[<-D1];rfl)),?_⟩;rintro rfl;exact n1 d rfl (S2 d c h).2.2)
 have A2:=Qr (ts:=oR ops x) H g1 n2 (fun n c h=>(S2 n c h).2.1);refine⟨s1',by simp_all[bD],k2',?_,?_⟩
 .grind[bD,SU]
 .rw[Ox (fun t ht=>(A2 t ht).1)];exact k1
def N8{E:Env}{ops:Array Oper}{i:Nat}{o:Oper}{st':St}(hb:JF ops i=false)(hrl:sg ops i=false)(h:BL E ops i o st=some st'):bD E ops o st=some st'/\chk ops i o st=true:=by
 grind[BL,jc]
theorem FW{ops:Array Oper}{i:Nat}(h:sg ops i=true):(D6 ops).isEmpty=true:=by
 simp_all[sg,D6]
theorem Of{ops:Array Oper}{i:Nat}{o:Oper}(hf:(D6 ops).isEmpty=true):chk ops i o st=true:=by
 unfold chk;rw[aiO.1 hf];rfl
def M8{E:Env}{ops:Array Oper}{i:Nat}{o:Oper}{st':St}(hr:sg ops i=true)(h:fF E ops o st=some st'):BL E ops i o st=some st':=by
 unfold BL;cases hs:bD E ops o st with
 | some s=>
  simp only[Of (FW hr),if_true]
  simp_all[F4]
 | none=>simp only[jc,hr,n8,FW hr,Bool.and_self,if_true];exact h
def O7{ops:Array Oper}{i:Nat}{o:Oper}(ho:ops[i]?=some o)(h:sg ops i=true):∃t x v,o.op=.store t x v/\o.dst=none/\o.guard=none:=by
 simp only[sg,N2,cx,ho,cI,nB]at h;obtain⟨⟨⟨⟨h1,h2⟩,h3⟩,_⟩,_⟩:=h;unfold Pk at h1;split at h1
 .simp_all
 .simp at h1
def Qm{ops:Array Oper}{i j:Nat}{x:Oper}(hx:ops[j]?=some x)(h:sg ops i=true)(hne:j≠i)(h1:jJ ops ops.size j i=false)(h2:jJ ops ops.size i j=false)(h3:Mq ops j i=false):∃d y,x.dst=some d/\x.guard=none/\(x.op=.move y∨x.op=.assign y):=by
 simp only[sg,N2,cx,cE,xT]at h;have:=h.1.2 j (ng.1 hx).1;simp only[h1,h2,h3,hx,cI,nB,xm,nf,beq_iff_eq]at this;have hm:=this.resolve_left hne;simp only[abU,cx]at hm;split at hm
 .simp_all
 .simp_all
 .simp at hm
def adv{ops:Array Oper}{i j:Nat}(h:i<=j):Mq ops j i=false:=by
 have:Nat.blt j i=false:=by simp_all[aiP]
 unfold Mq;cases ops.size with
 | zero=>rfl
 | succ n=>grind[Oi]
theorem Jt{E:Env}{ops:Array Oper}{x:Oper}{d:Nat}{y:Operand}(hd:x.dst=some d)(hg:x.guard=none)(hop:x.op=.move y∨x.op=.assign y)(st:St):bD E ops x st=some (st.put (some d) (st.ev y))/\fF E ops x st=some (st.put (some d) (st.ev y)):=by
 have h1:bD E ops x st=some (st.put (some d) (st.ev y)):=by
  rcases hop with hop|hop<;>simp[bD,rR,hg,gA,hop,qSE,qop,SE.apply,hd]
 simp_all[F4]
def RG{E:Env}{ops:Array Oper}{o:Oper}{t:TypeId}{x v:Operand}(hop:o.op=.store t x v)(hd:o.dst=none)(hg:o.guard=none)(st:St):fF E ops o st=match E.T t with|some ti=>lS ti (st.ev x) (st.ev v) st|none=>none:=by
 obtain⟨dst,op,ty,pos,after,guard⟩:=o;simp only at hop hd hg;subst hop;subst hd;subst hg;simp only[fF,exe,m9,mL,iN]
 grind
theorem Up{y:Operand}{d:Nat}{c:C}(h:y≠.tmp d):(st.put (some d) c).ev y=st.ev y:=by
 cases y with
 | tmp t=>
  grind[St.ev,St.put]
 | _=>rfl
def UC{E:Env}{ops:Array Oper}{o x:Oper}{d:Nat}{y:Operand}{t:TypeId}{p v:Operand}(hd:x.dst=some d)(hg:x.guard=none)(hop:x.op=.move y∨x.op=.assign y)
  (hso:o.op=.store t p v) (hsd:o.dst=none) (hsg:o.guard=none) (hdis:d∉oR ops o) {s2:St}:
  fF E ops o (st.put (some d) (st.ev y))=some s2↔∃s1,fF E ops o st=some s1/\s2=s1.put (some d) (s1.ev y):=by
 have hp:p≠.tmp d:=by rintro rfl;exact hdis (cJ.2 (.inl (Ew (by simp[hso,Op.operands]))))
 have hv:v≠.tmp d:=by rintro rfl;exact hdis (cJ.2 (.inl (Ew (by simp[hso,Op.operands]))))
 rw[RG hso hsd hsg,RG hso hsd hsg,Up hp,Up hv];cases E.T t with
 | none=>simp
 | some ti=>exact Z9 (c:=.dead) y (fun g R' hgc=>afl st.tmps st.roots R' y g hgc)
theorem Ey{E:Env}{ops:Array Oper}{i:Nat}{o:Oper}{st':St}(h:bD E ops o st=some st')(hc:chk ops i o st=true):BL E ops i o st=some st':=by
 simp_all[BL]
def Mx{ops:Array Oper}(h:EC ops=true){i:Nat}{o:Oper}(ho:ops[i]?=some o){e:Edge}(he:e∈o.after)(hb:Region.binds .any e=true):e.on<i:=by
 simp only[EC,cx,cE,xT]at h
 grind[Array.all_eq_true']
def Sk{ops:Array Oper}(h:EC ops=true){i j:Nat}{x y:Oper}(hj:ops[j]?=some x)(hi:ops[i]?=some y)(hlt:j<i)(ho:jJ ops ops.size j i=false):Wm ops x y=true:=by
 simp only[EC,cx,cE,xT]at h
 grind
def Zu{ops:Array Oper}(h:EC ops=true):∀(k j i:Nat),jJ ops k j i=true->j<i:=by
 intro k
 induction k with
 | zero=>simp_all[jJ]
 | succ k ih=>
  intro j i ho;simp only[jJ]at ho;cases hi:ops[i]? with
  | none=>simp_all
  | some o=>
   simp only[hi,cI,nB,ajy,cx,nf,beq_iff_eq]at ho;rcases ho with⟨e,he,rfl,hb⟩|⟨e,he,_,hb,hor⟩
   .exact Mx h hi he hb
   .have h1:=Mx h hi he hb
    grind
def aaQ{ops:Array Oper}(h:EC ops=true){i j:Nat}(hi:i<ops.size)(hj:j<ops.size)(hlt:j<i)(ho:jJ ops ops.size j i=false):JF ops i=false/\JF ops j=false:=by
 have n1:jJ ops ops.size i j=false:=by
  cases hh:jJ ops ops.size i j with
  | false=>rfl
  | true=>have:=Zu h _ _ _ hh;omega
 constructor
 .grind[JF]
 .grind[JF]
def afS{E:Env}(hT:TOk P E)(hG:GOk P E){ops:Array Oper}(hS:EC ops=true){i:Nat}{o:Oper}(hi:ops[i]?=some o){post:List (Nat×Oper)}{stf:St}:∀(pre:List (Nat×Oper)) {st:St},Mc P st ->
  (∀x∈pre,ops[x.1]?=some x.2/\x.1<i/\jJ ops ops.size x.1 i=false/\Mq ops x.1 i=false)->C6 E ops (pre++(i,o)::post) st=some stf ->
  ∃st1,BL E ops i o st=some st1/\C6 E ops (pre++post) st1=some stf:=by
 intro pre
 induction pre with
 | nil=>
  grind[C6]
 | cons x pre ih=>
  intro st H hpre h;obtain⟨j,x⟩:=x;simp only[nF,C6]at h;split at h
  .rename_i s1 hs1;obtain⟨e1,e2,e3,e4⟩:=hpre (j,x) oZk;simp only at e1 e2 e3 e4;obtain⟨s2,g1,g2⟩:=ih (H.step hT hG e1 (tH hs1)) (fun y hy=>hpre y (by simp[hy])) h;obtain⟨b1,b2⟩:=aaQ hS (ng.1 hi).1 (ng.1 e1).1 e2 e3;have n1:jJ ops ops.size i j=false:=by
    cases hh:jJ ops ops.size i j with
    | false=>rfl
    | true=>have:=Zu hS _ _ _ hh;omega
   have hne:j≠i:=oZg;have hdj:=Sk hS e1 hi e2 e3;simp only[Wm,cx]at hdj;by_cases ri:sg ops i=true
   .obtain⟨d,y,k1,k2,k3⟩:=Qm e1 ri hne e3 n1 e4;obtain⟨t,p,v,k4,k5,k6⟩:=O7 hi ri;have hm:=(Jt (E:=E) (ops:=ops) k1 k2 k3 st).2;rw[tH hs1]at hm;cases hm;have hdis:d∉oR ops o:=oZf;obtain⟨s1',f1,rfl⟩:=(UC k1 k2 k3 k4 k5 k6 hdis).1 (tH g1);refine⟨s1',M8 ri f1,?_⟩
    grind[Ey,Jt,Of,FW,C6]
   by_cases rj:sg ops j=true
   .obtain⟨d,y,k1,k2,k3⟩:=Qm hi rj hne.symm n1 e3 (adv oZg);obtain⟨t,p,v,k4,k5,k6⟩:=O7 e1 rj;have hm:=(Jt (E:=E) (ops:=ops) k1 k2 k3 s1).2;rw[tH g1]at hm;cases hm;have hdis:d∉oR ops x:=oZf;have hx2:=(UC (st:=st) k1 k2 k3 k4 k5 k6 hdis (s2:=s1.put (some d) (s1.ev y)) (E:=E)).2 ⟨s1,tH hs1,rfl⟩;refine⟨_,Ey (Jt (E:=E) (ops:=ops) k1 k2 k3 st).1 (Of (FW rj)),?_⟩
    simp_all[nF,C6,M8]
   rw[xj]at ri rj;obtain⟨a1,a2⟩:=N8 b2 rj hs1;obtain⟨a3,a4⟩:=N8 b1 ri g1;obtain⟨s1',f1,f2,f3,f4⟩:=ag5 H e1 hi b2 b1 rj ri (by simp_all[Py]) (by grind[Py]) (Sk hS e1 hi e2 e3) a1 a2 a3 a4
   simp_all[Ey,nF,C6]
  .simp at h
def gH(ops:Array Oper)(listed:Array Bool):List (Nat×Oper):=(List.range ops.size).filterMap fun k=>if listed.getD k true then none else(ops[k]?).map fun o=>(k,o)
theorem BF{ops:Array Oper}{listed:Array Bool}(hdown:∀i o e,listed.getD i false=true->ops[i]?=some o->e∈o.after->Region.binds .any e=true->listed.getD e.on false=true):
  ∀(k j i:Nat) (o:Oper),ops[i]?=some o->(∀e∈o.after,Region.binds .any e=true->listed.getD e.on false=true)->jJ ops k j i=true->listed.getD j false=true:=by
 intro k
 induction k with
 | zero=>simp_all[jJ]
 | succ k ih=>
  intro j i o hi he h;simp only[jJ,hi,cI,nB,ajy,cx,nf,beq_iff_eq]at h;rcases h with⟨e,hm,rfl,hb⟩|⟨e,hm,_,hb,hor⟩
  .simp_all
  .cases ho':ops[e.on]? with
   | none=>cases k<;>simp[jJ,ho']at hor
   | some o'=>grind
def Kz{α β:Type}{f g:α->Option β}:∀{l:List α},(∀x∈l,f x=g x)->l.filterMap f=l.filterMap g:=by
 intro l
 induction l with
 | nil=>intro _;rfl
 | cons x l ih=>grind
def ED{ops:Array Oper}{listed:Array Bool}{x:Nat×Oper}:x∈gH ops listed↔ops[x.1]?=some x.2/\listed.getD x.1 true=false:=by
 unfold gH
 grind
def Nn(ops:Array Oper)(listed:Array Bool):(gH ops listed).Pairwise (fun x y=>x.1<y.1):=by
 unfold gH;rw[List.pairwise_filterMap];refine List.Pairwise.imp ?_ List.pairwise_lt_range
 grind
def aal{ops:Array Oper}{listed:Array Bool}{i:Nat}(hi:i<listed.size):gH ops (listed.setIfInBounds i true)=(gH ops listed).filter fun x=>x.1 != i:=by
 unfold gH;rw[List.filter_filterMap];apply Kz;intro k hk;by_cases e:i=k
 .have:(listed.setIfInBounds i true).getD i true=true:=oZf
  grind
 .have:(listed.setIfInBounds i true).getD k true=listed.getD k true:=getD_set_ne true e
  grind
theorem zx{listed:Array Bool}{i:Nat}(h:listed.getD i false=true):listed.getD i true=true:=by
 grind
def py{α:Type}(P:Program)(s:Sem α):Prop:=∀w v w1,s.run P w=.ok v w1->w1=w/\∀w',s.run P w'=.ok v w'
def py.bind{α β:Type}{s:Sem α}{f:α->Sem β}(h:py P s)(k:∀a,py P (f a)):py P (s >>= f):=by
 intro w v w1 e;rw[Sem.run_bind]at e;cases hs:s.run P w with
 | ok a w2=>
  rw[hs]at e;obtain⟨rfl,h1⟩:=h _ _ _ hs;obtain⟨rfl,h2⟩:=k a _ _ _ e
  simp_all
 | _=>simp_all
def py.pure{α:Type}(a:α):py P (Pure.pure a:Sem α):=fun w v w1 e=>oZf
def py.stuck{α:Type}(s:String):py P (Go.stuck s:Sem α):=fun w v w1 e=>by cases e
def py.uns{α:Type}(s:Unsupported):py P (unsupported s:Sem α):=fun w v w1 e=>by cases e
def py.prog:py P program:=fun w v w1 e=>oZf
def py.und(t:TypeId):py P (underlying t):=.bind .prog fun p=>by cases p.underlying t<;>first|exact .pure _|exact .stuck _
def py.size(t:TypeId):py P (sizeOf t):=.bind (.bind .prog fun p=>by cases p.info? t<;>first|exact .pure _|exact .stuck _) fun _=>.pure _
def py.bound(x:Value)(y:Nat)(c:BoundsCode):py P (Instr.sliceBound x y c):=by
 refine .bind ?_ fun a=>?_
 .unfold asIntOf;split<;>first|exact .pure _|exact .stuck _|exact .uns _
 .dsimp only;split
  .exact .pure _
  .intro w v w1 e;simp[boundsPanic,runtimePanic]at e;(grind)<;>cases e
def py.bounds(b:Bool)(l c:Nat)(lo hi mx:Option Value):py P (Instr.sliceBounds b l c lo hi mx):=by
 unfold Instr.sliceBounds;repeat' first|exact .bound _ _ _|exact .pure _|exact .stuck _|refine .bind ?_ fun _=>?_|split
def py.slice(t:TypeId)(u:Value)(lo hi mx:Option Value):py P (Instr.sliceAt t u lo hi mx):=by
 refine .bind (.und t) fun d=>?_;split
 .refine .bind (by unfold Instr.sureAddr;split<;>first|exact .pure _|exact .stuck _) fun _=>.bind (.bounds _ _ _ _ _ _) fun _=>.bind (.size _) fun _=>.pure _
 .refine .bind (.und t) fun d=>?_;split
  .split
   .exact .bind (.stuck _) fun _=>.bind (.bounds _ _ _ _ _ _) fun _=>.pure _
   .exact .bind (.bounds _ _ _ _ _ _) fun _=>.pure _
  .exact .bind (.bounds _ _ _ _ _ _) fun _=>.bind (.size _) fun _=>.pure _
  .refine .bind ?_ fun _=>.bind (.und _) fun _=>?_
   .unfold asAddr;split
    .exact .pure _
    .exact fun w v w1 e=>by simp[runtimePanic]at e
    .exact .stuck _
   .split
    .exact .bind (.bounds _ _ _ _ _ _) fun _=>.bind (.size _) fun _=>.pure _
    .exact .stuck _
  .exact .stuck _
def py.sub(t:TypeId)(n:Int)(k k':IntKind)(b:Int)(x y:Operand):py P (do eqGuard .sub t x y (.int k' n) (.int k b);binOp .sub t (.int k' n) (.int k b)):=by
 simp only[binOp];split<;>first|exact .stuck _|exact .pure _
def FX{ops:Array Oper}{o:Oper}{a:Act}{w:World}{K:Act->World->Prop}{s:Sem Value}(hg:o.guard=none)(he:execOp a.eval o=do pure (.value (<-s)))(hf:py P s)(h:o.wp P a w K (fun _ _ _=>False)):∃v,Yields P ops o v a/\K (a.put o.dst v) w:=by
 unfold Oper.wp at h;rw[he,Sem.run_bind]at h;cases hs:s.run P w with
 | ok v w1=>
  obtain⟨rfl,h1⟩:=hf _ _ _ hs;rw[hs]at h;exact⟨v,.inl ⟨by simp[Region.wanted,hg],fun w'=>oZf⟩,h⟩
 | halt x w1=>rw[hs]at h;cases x<;>exact h.elim
def aas{E:Env}{s1:St}{ops:Array Oper}{o:Oper}{a:Act}{w:World}{K:Act->World->Prop}(H:Inv X st a w)(hs:fF E ops o st=some s1)(ht:R9 o=true)(h:o.wp P a w K (fun _ _ _=>False)):∃v,Yields P ops o v a/\K (a.put o.dst v) w:=by
 obtain⟨dst,op,ty,pos,after,guard⟩:=o;simp only[R9,cx,ajz]at ht;obtain⟨rfl,ht⟩:=ht;have key:∀v,(execOp a.eval ⟨dst,op,ty,pos,after,none⟩)=Pure.pure (.value v)->∃v,Yields P ops ⟨dst,op,ty,pos,after,none⟩ v a/\K (a.put dst v) w:=fun v e=>FX (s:=Pure.pure v) rfl e (.pure v) h;split at ht
 .refine FX rfl rfl ?_ h;unfold Instr.extract;split
  .split<;>first|exact .pure _|exact .stuck _
  .exact .stuck _
 .exact key _ rfl
 .exact key _ rfl
 .exact FX rfl rfl (.slice _ _ _ _ _) h
 .rename_i t x k b t';obtain⟨m,H⟩:=H;have hx:=bo H x;simp only[fF,exe,m9,mL,qop,iN]at hs;cases hc:Pa (E.T t) .sub (st.ev x) (st.ev (.const (.int k b)))with
  | none=>rw[hc]at hs;cases hs
  | some c=>
   rw[show st.ev (.const (.int k b))=.val (.int k b)from rfl]at hc;generalize hp:(C.val (.int k b))=p at hc;unfold Pa at hc;split at hc
   .rename_i e1;rw[e1]at hx;refine FX rfl (s:=do eqGuard .sub t x (.const (.int k b)) (a.eval x) (.int k b);binOp .sub t (a.eval x) (.int k b)) rfl ?_ h;rw[hx.of_val];exact .sub _ _ _ _ _ _ _
   all_goals simp_all
 .cases ht
def aft(p:Nat->Prop)(h:∃k,p k):∃k,p k/\∀j,p j->k<=j:=by
 classical
 obtain⟨k,hk⟩:=h
 induction k using Nat.strongRecOn with
 | _ k ih=>
  grind
def ZR{ops:Array Oper}{i:Nat}{o:Oper}(hi:ops[i]?=some o)(h:Pw ops i=true):R9 o=true/\Region.noSelect ops=true/\∀j oj,ops[j]?=some oj->j≠i->jJ ops ops.size j i=false->(∀e∈oj.after,Region.binds .any e=true->e.on≠i)->o.apart ops oj=true:=by
 unfold Pw at h
 grind
def Ww{ops:Array Oper}{listed:Array Bool}(hsz:listed.size=ops.size)
  (hdown:∀i o e,listed.getD i false=true->ops[i]?=some o->e∈o.after->Region.binds .any e=true->listed.getD e.on false=true) {i:Nat} {o:Oper} (hi2:ops[i]?=some o)
  (hi3:∀e∈o.after,Region.binds .any e=true->listed.getD e.on false=true) (hno:∀k,k<i->(Pw ops k=true/\k∈Region.ready .any ops listed)->False):
  ∀f x,Oi ops f x i=true->listed.getD x false=true:=by
 intro f
 induction f with
 | zero=>intro x h;cases h
 | succ f ih=>
  intro x h;simp only[Oi,cx,Nat.blt_eq]at h;obtain⟨hlt,q1,q2⟩:=h;cases hx:ops[x]? with
  | none=>simp_all
  | some ox=>
   rw[hx]at q2;have hd:∀e∈ox.after,Region.binds .any e=true->listed.getD e.on false=true:=by
    intro e he hb;have:=(Array.all_eq_true'.1 q2) e he
    grind[BF]
   cases hl:listed.getD x false with
   | true=>rfl
   | false=>
    refine(hno x hlt ⟨q1,mem_ready.2 ⟨?_,ox,hx,hd⟩⟩).elim
    grind
theorem adI{E:Env}(hT:TOk P E)(hG:GOk P E){ops:Array Oper}(hS:EC ops=true){stf:St}{listed:Array Bool}{a:Act}{w:World}(H:Inv X st a w)(hsz:listed.size=ops.size)
  (hdown:∀i o e,listed.getD i false=true->ops[i]?=some o->e∈o.after->Region.binds .any e=true->listed.getD e.on false=true) {i:Nat} {o:Oper} (hi2:ops[i]?=some o) (hi1:listed.getD i true=false)
  (hi3:∀e∈o.after,Region.binds .any e=true->listed.getD e.on false=true) (hno:∀k,k<i->(Pw ops k=true/\k∈Region.ready .any ops listed)->False) (h:C6 E ops (gH ops listed) st=some stf):
  ∃s1,BL E ops i o st=some s1/\C6 E ops (gH ops (listed.setIfInBounds i true)) s1=some stf/\(gH ops (listed.setIfInBounds i true)).length+1=(gH ops listed).length ∧
   (∀k o e,(listed.setIfInBounds i true).getD k false=true->ops[k]?=some o->e∈o.after->Region.binds .any e=true->(listed.setIfInBounds i true).getD e.on false=true):=by
 have hm:(i,o)∈gH ops listed:=ED.2 ⟨hi2,hi1⟩;obtain⟨pre,post,hpp⟩:=List.append_of_mem hm;have hs:=Nn ops listed;rw[hpp]at hs h;have hilt:=(ng.1 hi2).1;have hpre:∀x∈pre,ops[x.1]?=some x.2/\x.1<i/\jJ ops ops.size x.1 i=false/\Mq ops x.1 i=false:=by
  intro x hx;obtain⟨h1,h2⟩:=ED.1 (show x∈gH ops listed by simp_all);have hlt:x.1<i:=(n5.1 hs).2.2 x hx (i,o) oZk;refine⟨h1,hlt,?_,?_⟩
  .cases hor:jJ ops ops.size x.1 i with
   | false=>rfl
   | true=>
    grind[BF,zx]
  .cases hea:Mq ops x.1 i with
   | false=>rfl
   | true=>
    have:=zx (Ww hsz hdown hi2 hi3 hno _ _ hea)
    simp_all
 obtain⟨x1,f1,f2⟩:=afS hT hG hS hi2 pre (⟨X,a,w,H⟩:Mc P st) hpre h;have hrest:gH ops (listed.setIfInBounds i true)=pre++post:=by
  rw[aal oZg,hpp,xo,n9];simp only[bne_self_eq_false,cS,if_false]
  congr 1
  .grind[List.filter_eq_self]
  grind[List.filter_eq_self,List.rel_of_pairwise_cons]
 refine⟨x1,f1,oZf,oZi,?_⟩;intro k o' e hk ho' he hb;by_cases e1:i=k
 .grind[getD_set_true]
 .rw[getD_set_ne false e1]at hk
  grind[getD_set_true]
def Z2{E:Env}(hT:TOk P E)(hG:GOk P E){ops:Array Oper}(hS:EC ops=true){Q:Exit->Act->World->Prop}{stf:St}(hq:∀a w,Inv X stf a w->Q .normal a w)(hQ:∀c a w,¬Q (.panic c) a w):∀(fuel:Nat) {listed:Array Bool} {st:St} {a:Act} {w:World},
  listed.size=ops.size->(gH ops listed).length=fuel->(∀i o e,listed.getD i false=true->ops[i]?=some o->e∈o.after->Region.binds .any e=true->listed.getD e.on false=true) ->
  Inv X st a w->C6 E ops (gH ops listed) st=some stf->wpAny P .any ops Q fuel listed a w:=by
 have unl:∀{listed:Array Bool} {j:Nat},listed.size=ops.size->j<ops.size->listed.getD j true=true->listed.getD j false=true:=by
  simp_all
 intro fuel
 induction fuel with
 | zero=>
  intro listed st a w hsz hl hdown H h;refine⟨?_,?_⟩
  .rw[List.eq_nil_iff_forall_not_mem];intro j hj;rw[mem_ready]at hj;obtain⟨h1,o,h2,_⟩:=hj;have:(j,o)∈gH ops listed:=ED.2 ⟨h2,h1⟩
   simp_all
  simp_all[C6]
 | succ fuel ih=>
  intro listed st a w hsz hl hdown H h;by_cases hx:∃k,Pw ops k=true/\k∈Region.ready .any ops listed
  .obtain⟨i,⟨htk,hrdy⟩,hmin⟩:=aft _ hx;obtain⟨hi1,o,hi2,hi3⟩:=mem_ready.1 hrdy;obtain⟨x1,f1,f2,f3,f4⟩:=adI hT hG hS H hsz hdown hi2 hi1 hi3 (fun k hk hp=>by grind) h;obtain⟨t1,t2,t3⟩:=ZR hi2 htk;have hw:=KK hT hG H hi2 (tH f1) (K:=fun a' w'=>Inv X x1 a' w') (Q:=fun _ _ _=>False) (fun _ _ h=>h);unfold wpOp at hw;rw[hi2]at hw;simp only at hw;have hgd:Region.wanted o (yielded ops a.tmps)=true:=by
    simp_all[R9,Region.wanted]
   rw[if_pos hgd]at hw;rcases hw with hw|⟨_,_,_,hw⟩
   case inr=>exact hw.elim
   obtain⟨v,hy,H1⟩:=aas (ops:=ops) H (tH f1) t1 hw;refine wpAny_first hi2 (Region.noSelect_spec t2) (fun c a w hp=>(hQ c _ _ hp).elim) fuel listed a w ?_ hrdy hy ?_
   .intro j oj hj hne hun hno;refine t3 j oj hj hne ?_ hno;cases hor:jJ ops ops.size j i with
    | false=>rfl
    | true=>
     grind[BF]
   grind
  refine⟨?_,?_⟩
  .intro hr;cases hc:gH ops listed with
   | nil=>simp_all
   | cons x xs=>
    obtain⟨h1,h2⟩:=ED.1 (show x∈gH ops listed by rw[hc];simp);have hx:x.1∈Region.ready .any ops listed:=by
     rw[mem_ready];refine⟨h2,x.2,h1,?_⟩;intro e he hb;have hlt:=Mx hS h1 he hb;have hin:=(ng.1 h1).1;refine unl hsz oZg ?_;cases hle:listed.getD e.on true with
     | true=>rfl
     | false=>
      have hm:(e.on,ops[e.on])∈gH ops listed:=ED.2 ⟨ai5 oZg,hle⟩;have hs:=Nn ops listed;rw[hc]at hm hs;rcases cF.1 hm with hm|hm
      .grind
      grind[List.rel_of_pairwise_cons]
    simp_all
  grind[mem_ready,adI,KK,tH]
def YF{E:Env}(hT:TOk P E)(hG:GOk P E)(hmix:P.follows .mixedOrders=true){ops:Array Oper}(hS:EC ops=true){Q:Exit->Act->World->Prop}{stf:St}(H:Inv X st a w)(h:C6 E ops (gH ops (Array.replicate ops.size false)) st=some stf)
  (hq:∀a w,Inv X stf a w->Q .normal a w) (hQ:∀c a w,¬Q (.panic c) a w):wpAny P .any ops Q ops.size (Array.replicate ops.size false) a {w with drawn:=w.drawn+1}:=by
 obtain⟨m,H⟩:=H;have hrep:∀i,(Array.replicate ops.size false).getD i false=false:=by
  intro i;simp only[ajA,ajB];split<;>rfl
 refine Z2 hT hG hS hq hQ ops.size (st:=st) oZk ?_ ?_ ⟨m,H.world rfl rfl rfl rfl⟩ h
 .have:gH ops (Array.replicate ops.size false)=(List.range ops.size).filterMap fun k=>(ops[k]?).map fun o=>(k,o):=by
   grind[gH]
  have:∀(l:List Nat),(∀k∈l,k<ops.size)->(l.filterMap fun k=>(ops[k]?).map fun o=>(k,o)).length=l.length:=by
   simp_all
  grind
 simp_all
end
section
variable {X:Ctx} {st:St} {P:Program}
end
def Bl(E:Env)(ops:Array Oper):Nat->List Oper->St->Option St
 | _,[],st=>some st
 | k,o::l,st=>match CD E ops k o st with
  | some st'=>Bl E ops (k+1) l st'
  | none=>none
def Lk(E:Env)(ops:Array Oper)(draw:Bool)(st:St):Option St:=
 match draw with
 | true=>match Bl E ops 0 ops.toList st with
  | some s=>if wH ops s=true then some s else none
  | none=>none
 | false=>uU E ops ops.toList st
def wv(s:St):Prop:=∃X a w,Inv X s a w
def aM(s s':St):Prop:=∀X a w,Inv X s a w->Inv X s' a w
def W(E:Env):Code->(Exit->St->Prop)->St->Prop
 | .skip,Q,st=>Q .normal st
 | .region _ ops draw,Q,st=>∃st',Lk E ops draw st=some st'/\Q .normal st'
 | .seq x y,Q,st=>W E x (fun e s=>match e with
  | .normal=>W E y Q s
  | e=>Q e s) st
 | .cond c x y,Q,st=>match st.ev c with
  | .val (.bool b)=>(b=true->W E x Q st)/\(b=false->W E y Q st)
  | _=>False
 | .block id c,Q,st=>W E c (fun e s=>match e with
  | .exit i=>if i=id then Q .normal s else Q (.exit i) s
  | e=>Q e s) st
 | .loop c,Q,st=>wv st->∃(I:St->Prop) (μ:St->Nat),(∃s0,aM st s0/\I s0)/\∀s,I s->wv s->W E c (fun e s'=>match e with
  | .normal=>∃s'',aM s' s''/\I s''/\μ s''<μ s
  | e=>Q e s') s
 | .exit id,Q,st=>Q (.exit id) st
 | .label _,Q,st=>Q .normal st
 | .scope c,Q,st=>W E c (fun e s=>match e with
  | .goto _=>False
  | e=>Q e s) st
 | .ret,Q,st=>Q .ret st
 | _,_,_=>False
def ly:Code->Bool
 | .region _ ops true=>EC ops
 | .seq x y=>ly x&&ly y
 | .cond _ x y=>ly x&&ly y
 | .block _ c=>ly c
 | .loop c=>ly c
 | .scope c=>ly c
 | _=>true
section
variable {X:Ctx} {m:Nat->aq->Value} {st:St} {a:Act} {w:World} {P:Program}
theorem Z0{e:SE}{s1:St}{t:Nat}(h:e.apply st=some s1)(hd:∀d,e.dst=some d->d≠t):s1.tmps[t]?=st.tmps[t]?:=by
 cases e with
 | q d c=>
  simp only[SE.apply,cc]at h;subst h;cases d with
  | none=>rfl
  | some d=>simp[St.put,hd d rfl]
 | n d tmp root=>
  simp only[SE.apply]at h;split at h
  .simp only[cc]at h;subst h;simp[hd d rfl]
  .simp at h
 | s n c=>
  obtain⟨_,_,_,_,_,_,_,rfl⟩:=AQ h;rfl
def XN{E:Env}{ops:Array Oper}{i:Nat}{o:Oper}{s1:St}(hf:(D6 ops).isEmpty=false)(h:CD E ops i o st=some s1):bD E ops o st=some s1:=by
 grind[CD,jc]
def YM{E:Env}{ops:Array Oper}{o:Oper}{s1:St}{t:Nat}(h:bD E ops o st=some s1)(hd:o.dst≠some t):s1.tmps[t]?=st.tmps[t]?:=by
 unfold bD at h;split at h
 case h_2=>simp at h
 rename_i e he;refine Z0 h ?_;rintro d hd' rfl
 grind[Oe]
def ZI{E:Env}{ops:Array Oper}(hf:(D6 ops).isEmpty=false):∀(l:List Oper) (k:Nat) (st:St) {stf:St} {t:Nat},Bl E ops k l st=some stf->(∀o∈l,o.dst≠some t)->stf.tmps[t]?=st.tmps[t]?:=by
 intro l
 induction l with
 | nil=>intro k st stf t h _;simp only[Bl,cc]at h;subst h;rfl
 | cons o l ih=>
  intro k st stf t h hd;simp only[Bl]at h;split at h
  .rename_i s1 hs;rw[ih _ _ h (fun o' ho=>hd o' (by simp[ho])),YM (XN hf hs) (hd o oZk)]
  .simp at h
theorem ac5{ops:Array Oper}{i:Nat}{o:Oper}(hf:(D6 ops).isEmpty=true):chk ops i o st=true:=by
 unfold chk;rw[aiO.1 hf];rfl
def aay{E:Env}{ops:Array Oper}{stf:St}(hc:wH ops stf=true):∀(l:List Oper) (k:Nat) (st:St),(∀j,l[j]?=ops[k+j]?)->Bl E ops k l st=some stf->C6 E ops ((l.zipIdx k).map fun x=>(x.2,x.1)) st=some stf:=by
 intro l
 induction l with
 | nil=>intro k st _ h;exact h
 | cons o l ih=>
  intro k st hl h;have h':=h;simp only[Bl]at h;split at h
  case h_2=>simp at h
  rename_i s1 hs;have ho:ops[k]?=some o:=by have:=hl 0;simp_all
  have hkl:=(ng.1 ho).1;have hD:BL E ops k o st=some s1:=by
   have hck:∀s,bD E ops o st=some s->chk ops k o st=true:=by
    intro s hss;cases hf:(D6 ops).isEmpty with
    | true=>exact ac5 hf
    | false=>
     simp only[wH,hf,nD,cx,cE,xT]at hc;have h2:=hc.2 k hkl;rw[ho]at h2;simp only at h2;rw[Ox (st:=stf) (st2:=st)]at *
     .exact h2
     .intro t ht;refine(ZI hf (o::l) k st h' ?_).symm;intro o' ho' hdd;obtain⟨j,hj⟩:=cC ho';rw[hl j]at hj;have hjl:=(ng.1 hj).1;have hs:=hc.1;simp only[ssa,cE,xT]at hs
      grind
   unfold CD at hs;unfold BL
   grind
  simp only[aiY,hC,C6,hD];exact ih (k+1) s1 (fun j=>by have:=hl (j+1);grind) h
def aaz(ops:Array Oper):gH ops (Array.replicate ops.size false)=(ops.toList.zipIdx 0).map fun x=>(x.2,x.1):=by
 have h1:gH ops (Array.replicate ops.size false)=(List.range ops.size).filterMap fun k=>(ops[k]?).map fun o=>(k,o):=by
  unfold gH;apply Kz
  simp_all
 rw[h1];have key:∀(l:List Oper) (k:Nat),(∀j,l[j]?=ops[k+j]?)->(List.range' k l.length).filterMap (fun k=>(ops[k]?).map fun o=>(k,o))=(l.zipIdx k).map fun x=>(x.2,x.1):=by
  intro l
  induction l with
  | nil=>simp_all
  | cons o l ih=>
   intro k hl;have h0:ops[k]?=some o:=by have:=hl 0;simp_all
   simp only[cn,xM,List.filterMap_cons,h0,cI,aiY,hC];rw[ih (k+1) (fun j=>by have:=hl (j+1);grind)]
 grind[List.range_eq_range']
def vY(p:Nat->Prop)(h:∃k,p k):∃k,p k/\∀j,p j->k<=j:=by
 classical
 obtain⟨k,hk⟩:=h
 induction k using Nat.strongRecOn with
 | _ k ih=>
  grind
def KQ(X:Ctx)(ts:List Tmp)(a:Act)(Q:Exit->St->Prop)(e:Exit)(a':Act)(w':World):Prop:=(∃s,Q e s/\Inv X s a' w')/\(e=.outgrown∨yT ts a a')
def KQ.mk'{ts:List Tmp}{Q:Exit->St->Prop}{e:Exit}{s:St}{a0 a':Act}(h:Q e s)(H:Inv X s a' w)(hs:yT ts a0 a'):KQ X ts a0 Q e a' w:=⟨⟨s,h,H⟩,.inr hs⟩
def KQ.from{ts:List Tmp}{Q:Exit->St->Prop}{e:Exit}{a0 a1 a':Act}(h:KQ X ts a1 Q e a' w)(hs:yT ts a0 a1):KQ X ts a0 Q e a' w:=⟨h.1,h.2.imp id fun h=>hs.trans h⟩
def afp{E:Env}(hT:TOk P E)(hG:GOk P E)(hmix:P.follows .mixedOrders=true){ts:List Tmp}:∀(c:Code) {Q:Exit->St->Prop} {st:St} {a:Act} {w:World},ly c=true->mN ts c=true->W E c Q st->Inv X st a w->c.wp P (KQ X ts a Q) a w:=by
 intro c
 induction c with
 | skip=>intro Q st a w _ _ h H;exact wp_skip (.mk' h H (.refl _ _))
 | region id ops draw=>
  intro Q st a w hc hk h H;obtain⟨st',h1,h2⟩:=h;cases draw with
  | true=>
   unfold Lk at h1;dsimp only at h1;split at h1
   case h_2=>simp at h1
   rename_i s hs;split at h1
   case isFalse=>simp at h1
   rename_i hfin;simp only[cc]at h1;subst h1;have h1:=aay hfin ops.toList 0 st (fun j=>by simp) hs;rw[<-aaz]at h1;refine wp_mono (wp_region_any hmix (RU hk _ _ _ _ (.refl _ _) (YF (Q:=fun e a' w'=>e=.normal/\Inv X s a' w') hT hG hmix hc H h1 (fun a w H'=>⟨rfl,H'⟩) (fun c a w h=>by cases h.1)))) ?_;rintro e a' w' ⟨⟨rfl,Hf⟩,hsm⟩;exact⟨⟨s,h2,Hf⟩,hsm⟩
  | false=>
   simp only[Lk]at h1;refine wp_region (aaa hk _ _ _ (.refl _ _) ?_);have:=aed hT hG (Q:=fun e a' w'=>∃s,Q e s/\Inv X s a' w') ops.toList 0 H (fun j=>by simp) h1 (fun a w H'=>⟨st',h2,H'⟩)
   simp_all[List.range_eq_range']
 | seq x y ihx ihy=>
  intro Q st a w hc hk h H;simp only[ly,cx]at hc;simp only[mN,cx]at hk;refine wp_seq (wp_mono (ihx hc.1 hk.1 h H) ?_);rintro e a' w' ⟨⟨s,hs,H'⟩,hsm⟩;cases e with
  | normal=>exact wp_mono (ihy hc.2 hk.2 hs H') fun e a2 w2 h2=>h2.from (hsm.resolve_left oZk)
  | _=>exact⟨⟨s,hs,H'⟩,hsm⟩
 | cond c x y ihx ihy=>
  intro Q st a w hc hk h H;simp only[ly,cx]at hc;simp only[mN,cx]at hk;simp only[W]at h;split at h
  .rename_i b hb;obtain⟨m,HM⟩:=H;have hr:=bo HM c;rw[hb]at hr;have hv:=hr.of_val;cases b with
   | true=>exact wp_cond_true hv (ihx hc.1 hk.1 (h.1 rfl) ⟨m,HM⟩)
   | false=>exact wp_cond_false hv (ihy hc.2 hk.2 (h.2 rfl) ⟨m,HM⟩)
  simp_all
 | block id c ih=>
  intro Q st a w hc hk h H;refine wp_block (wp_mono (ih hc hk h H) ?_);rintro e a' w' ⟨⟨s,hs,H'⟩,hsm⟩;cases e with
  | exit i=>
   simp only at hs;simp only[Exit.inBlock];have hsm':=hsm.resolve_left oZk;split at hs
   .rename_i hi;rw[if_pos hi];exact .mk' hs H' hsm'
   .rename_i hi;rw[if_neg hi];exact .mk' hs H' hsm'
  | _=>exact⟨⟨s,hs,H'⟩,hsm⟩
 | loop c ih=>
  intro Q st a w hc hk h H;obtain⟨I,μ,⟨s0,hw,hI⟩,hround⟩:=h ⟨_,_,_,H⟩;have key:∀(n:Nat) (s:St) (a:Act) (w:World),μ s=n->I s->Inv X s a w->(Code.loop c).wp P (KQ X ts a Q) a w:=by
   classical
   intro n s a0 w hn hIs Hs
   let J:Act->World->Prop:=fun a w=>(∃s,I s/\Inv X s a w)/\yT ts a0 a
   let ν:Act->World->Nat:=fun a w=>if h:∃k,∃s,I s/\Inv X s a w/\μ s=k then Classical.choose (vY _ h)else 0
   refine wp_loop J ν ⟨⟨s,hIs,Hs⟩,.refl _ _⟩ ?_;rintro a w ⟨⟨s1,hI1,H1⟩,hs0⟩;have hex:∃k,∃s,I s/\Inv X s a w/\μ s=k:=⟨_,s1,hI1,H1,rfl⟩;obtain⟨s2,hI2,H2,hm2⟩:=(xx (vY _ hex)).1;have hν:ν a w=μ s2:=oZi;refine wp_mono (ih hc hk (hround s2 hI2 ⟨_,_,_,H2⟩) H2) ?_;rintro e a' w' ⟨⟨s',hs',H'⟩,hsm⟩;cases e with
   | normal=>
    obtain⟨s'',hw',hI',hlt⟩:=hs';have H'':=hw' X a' w' H';refine⟨⟨⟨s'',hI',H''⟩,hs0.trans (hsm.resolve_left oZk)⟩,?_⟩;have hex':∃k,∃s,I s/\Inv X s a' w'/\μ s=k:=⟨_,s'',hI',H'',rfl⟩;have:ν a' w'<=μ s'':=by simp only[ν];rw[dif_pos hex'];exact(xx (vY _ hex')).2 _ ⟨s'',hI',H'',rfl⟩
    omega
   | _=>exact KQ.from (a1:=a) ⟨⟨s',hs',H'⟩,hsm⟩ hs0
  have hk':=key _ s0 a w rfl hI (hw X a w H);exact hk'
 | exit id=>intro Q st a w _ _ h H;exact wp_exit (.mk' h H (.refl _ _))
 | label l=>intro Q st a w _ _ h H;exact wp_label (.mk' h H (.refl _ _))
 | scope c ih=>
  intro Q st a w hc hk h H;refine wp_scope_straight (wp_mono (ih hc hk h H) ?_);rintro e a' w' ⟨⟨s,hs,H'⟩,hsm⟩;cases e with
  | goto l=>exact hs.elim
  | _=>exact⟨⟨s,hs,H'⟩,hsm⟩
 | ret=>intro Q st a w _ _ h H;exact wp_ret (.mk' h H (.refl _ _))
 | _=>simp_all[W]
def Wk(E:Env)(c:Code)(Q:Exit->St->Prop)(st:St):Prop:=∀(P:Program),TOk P E->GOk P E->P.follows .mixedOrders=true->ly c=true ->
 ∀(X:Ctx) (a:Act) (w:World),Inv X st a w->∀ts:List Tmp,mN ts c=true->c.wp P (KQ X ts a Q) a w
def K9{E:Env}{c:Code}{Q:Exit->St->Prop}{st:St}(h:W E c Q st):Wk E c Q st:=fun P hT hG hm hc X a w H ts hk=>afp hT hG hm c hc hk h H
end
def jX(own:List Bool)(i:Nat)(c:C):C:=if own.getD i false then lM 3 i [] c else c
def Ep(own:List Bool)(cs:List C)(n:Nat):St:={tmps:=Ip (jX own) 0 cs++List.replicate (n-cs.length) .dead,roots:=R0 own cs}
def Uc(E:Env)(s:St):ResultVar->Option C
 | .tmp t=>some ((s.tmps[t]?).getD .dead)
 | .cell a t=>match E.T t with
  | some ti=>ue s ti ((s.tmps[a]?).getD .dead)
  | none=>none
def B6(E:Env)(s:St):List ResultVar->Option (List C)
 | []=>some []
 | v::vs=>match Uc E s v,B6 E s vs with
  | some c,some cs=>some (c::cs)
  | _,_=>none
def AV:C->Option C
 | .agg cs=>if cs.all C.cellOk then some (.agg (cs.map C.frz))else none
 | c=>if c.cellOk then some c.frz else none
def fo:List C->Option (List C)
 | []=>some []
 | c::cs=>match AV c,fo cs with
  | some c',some cs'=>some (c'::cs')
  | _,_=>none
def qB:List C->C
 | [c]=>c
 | cs=>.tup cs
def Ec(E:Env)(vs:List ResultVar)(s:St):Option C:=
 match B6 E s vs with
 | some cs=>match fo cs with
  | some rs=>some (qB rs)
  | none=>match kV (cs.flatMap bN).length H0 (cs.flatMap bN) .dead s with
   | some (s1,_)=>some (qB (jf s1.roots H0 cs))
   | none=>none
 | none=>none
def bF(r:C):Prop:=∀(w:World) (S S':Nat->Prop) (m:aq->Value) (d:Nat) (p:aq) (u:Value),rel w S L0 m true d p r u->rel w S' L0 m true d p r u
section
variable {X:Ctx} {m:Nat->aq->Value} {st:St} {a:Act} {w:World} {P:Program}
def Sa(tm:Array Value)(v:ResultVar):Sem Value:=
 match v with
 | .tmp t=>pure (tm.getD t undef)
 | .cell a t=>do loadVar t (<-asAddr (tm.getD a undef))
def aei{E:Env}(hT:TOk P E)(H:av X m st a w){v:ResultVar}{c:C}(h:Uc E st v=some c):
  ∃u,(Sa a.tmps v).run P w=.ok u w/\aF X m st w c u:=by
 cases v with
 | tmp t=>
  simp only[Uc,cc]at h;subst h;exact⟨_,rfl,bo H (.tmp t)⟩
 | cell x t=>
  simp only[Uc]at h;split at h
  .rename_i ti hti;have hx:=bo H (.tmp x);obtain⟨u,h1,h2⟩:=Zg H (hT t ti hti) hx h;refine⟨u,?_,h2⟩;simp only[Act.eval]at h1;show((do loadVar t (<-asAddr (a.tmps.getD x undef)):Sem Value)).run P w=_;generalize a.tmps.getD x undef=y at h1 hx ⊢;cases y with
   | pointer ao=>
    cases ao with
    | none=>simp[Instr.loadAt,Instr.sureAddr,stuck]at h1
    | some ad=>simp_all[Instr.loadAt,Instr.sureAddr,asAddr]
   | _=>simp[Instr.loadAt,Instr.sureAddr,stuck]at h1
  .simp at h
def Pr{E:Env}(hT:TOk P E)(H:av X m st a w):∀{vs:List ResultVar} {cs:List C},B6 E st vs=some cs ->
  ∃us:List Value,(vs.mapM (Sa a.tmps)).run P w=.ok us w/\us.length=cs.length/\∀(j:Nat) (c:C),cs[j]?=some c->∃u,us[j]?=some u/\aF X m st w c u:=by
 intro vs
 induction vs with
 | nil=>intro cs h;simp only[B6,cc]at h;subst h;exact⟨[],oZk,rfl,oZk⟩
 | cons v vs ih=>
  intro cs h;simp only[B6]at h;split at h
  .rename_i c cs' h1 h2;simp only[cc]at h;subst h;obtain⟨u,e1,e2⟩:=aei hT H h1;obtain⟨us,f1,f2,f3⟩:=ih h2;refine⟨u::us,?_,by simp[f2],?_⟩
   .simp_all
   grind
  .simp at h
def MQ(us:List Value):Value:=if h:us.toArray.size=1 then us.toArray[0]else .tuple us.toArray
theorem F3{fn:Func}{us:List Value}(h:(fn.results.toList.mapM (Sa a.tmps)).run P w=.ok us w):(results fn a.tmps).run P w=.ok (MQ us) w:=by
 have e:results fn a.tmps=(do let vs <-fn.results.mapM (Sa a.tmps);pure (if h:vs.size=1 then vs[0]else Value.tuple vs)):=by
  unfold results
  congr 2
 rw[e];rw[Array.mapM_eq_mapM_toList];simp only[Sem.run_bind,map_eq_pure_bind,h,Result.andThen_ok,Sem.run_pure];rfl
def Xw{S:Nat->Prop}{mr:aq->Value}{cs:List C}{us:List Value}(hl:us.length=cs.length){d:Nat}
  (h1:∀c,cs=[c]->∃u,us[0]?=some u/\rel w S L0 mr true d [] c u)
  (h2:(∀c,cs≠[c])->∀(j:Nat) (c:C),cs[j]?=some c->∃u,us[j]?=some u/\rel w S L0 mr true d [(0,j)] c u):rel w S L0 mr true (d+1) [] (qB cs) (MQ us):=by
 by_cases hc:∃c,cs=[c]
 .obtain⟨c,rfl⟩:=hc;obtain⟨u,e1,e2⟩:=h1 c rfl;cases us with
  | nil=>simp at hl
  | cons v us=>
   simp only[cn,cw,Nat.add_eq_right,ai6]at hl;subst hl;simp only[cG,cc]at e1;subst e1;simpa[qB,MQ]using aW _ _ (n7 d) e2
 .have hp:qB cs=.tup cs:=by
   match cs,hc with
   | [],_=>rfl
   | [c],hc=>simp_all
   | _::_::_,_=>rfl
  rw[hp];have hne:¬us.toArray.size=1:=by
   intro h1;simp only[xg]at h1;rw[hl]at h1;exact hc (ai7.1 h1)
  refine⟨us.toArray,by simp_all[MQ],by simp[hl],fun j c hj=>?_⟩
  simp_all
def OQ{c r:C}{u:Value}(h:aF X m st w c u)(hp:AV c=some r):(∃d,∀(mr:aq->Value) (p:aq),rel w (X.S st.roots m) L0 mr true d p r u)/\∀q,¬ak r q:=by
 cases c with
 | agg cs=>
  simp only[AV]at hp;split at hp
  .rename_i hall;simp only[cc]at hp;subst hp;obtain⟨d,h⟩:=h;cases d with
   | zero=>exact h.elim
   | succ d=>
    obtain⟨arr,rfl,h2,h3⟩:=h;refine⟨⟨d+1,fun mr p=>⟨arr,rfl,oZf,fun j c hj=>?_⟩⟩,?_⟩
    .simp only[cz,cq]at hj;obtain⟨c0,hj,rfl⟩:=hj
     grind[FC]
    .intro q ho;cases q with
     | nil=>grind[ak,C.at,C.isOwn]
     | cons s q=>
      unfold ak at ho;simp only[C.at,C.kid]at ho;split at ho
      .cases hc:(cs.map C.frz)[s.2]? with
       | none=>simp_all
       | some c'=>
        simp only[hc,cb]at ho;simp only[cz,cq]at hc;obtain⟨c0,hc,rfl⟩:=hc;exact qM (cE.1 hall c0 (cd hc)) ho
      .simp at ho
  .simp at hp
 | _=>
  simp only[AV]at hp;split at hp
  .rename_i hok;simp only[cc]at hp;subst hp;obtain⟨d,h⟩:=h;exact⟨⟨d,fun mr p=>FC hok h⟩,fun q=>qM hok⟩
  .simp at hp
def ZG:∀{cs rs:List C},fo cs=some rs->rs.length=cs.length/\∀(j:Nat) (r:C),rs[j]?=some r->∃c,cs[j]?=some c/\AV c=some r:=by
 intro cs
 induction cs with
 | nil=>simp_all[fo]
 | cons c cs ih=>
  intro rs h;simp only[fo]at h
  grind
structure Done (X:Ctx) (w:World) (r:C) (u:Value):Prop where
 ex:∃mr d,rel w (fun b=>(X.S0 b∨X.w0.heap.size<=b)/\¬jM r mr b) L0 mr true d [] r u ∧
   (∀q q' b,ak r q->ak r q'->blk (mr q)=some b->blk (mr q')=some b->q=q')/\(∀b,jM r mr b->X.w0.heap.size<=b∨X.K b)
 fr:Fr X w
def Sf{E:Env}(hT:TOk P E)(H:av X m st a w){cs rs:List C}{us:List Value}(hl:us.length=cs.length)(hr:∀(j:Nat) (c:C),cs[j]?=some c->∃u,us[j]?=some u/\aF X m st w c u)(hp:fo cs=some rs):(∃d,rel w (X.S st.roots m) L0 dm true d [] (qB rs) (MQ us))/\∀q,¬ak (qB rs) q:=by
 obtain⟨g1,g2⟩:=ZG hp;have hno:∀q,¬ak (qB rs) q:=by
  intro q ho;by_cases hc:∃c,rs=[c]
  .obtain⟨c,rfl⟩:=hc;obtain⟨c0,e1,e2⟩:=g2 0 c rfl;obtain⟨u,e3,e4⟩:=hr 0 c0 e1;exact(OQ e4 e2).2 q ho
  .have hpk:qB rs=.tup rs:=by
    match rs,hc with
    | [],_=>rfl
    | [c],hc=>simp_all
    | _::_::_,_=>rfl
   rw[hpk]at ho;cases q with
   | nil=>grind[ak,C.at,C.isOwn]
   | cons s q=>
    unfold ak at ho;simp only[C.at,C.kid]at ho;split at ho
    .cases hc:rs[s.2]? with
     | none=>simp_all
     | some c'=>
      simp only[hc,cb]at ho;obtain⟨c0,e1,e2⟩:=g2 _ c' hc;obtain⟨u,e3,e4⟩:=hr _ c0 e1;exact(OQ e4 e2).2 q ho
    .simp at ho
 have hd:∃D,∀(j:Nat) (r:C),rs[j]?=some r->∃u,us[j]?=some u/\∀(mr:aq->Value) (p:aq),rel w (X.S st.roots m) L0 mr true D p r u:=by
  clear hno;have key:∀(n:Nat),∃D,∀(j:Nat) (r:C),j<n->rs[j]?=some r->∃u,us[j]?=some u/\∀(mr:aq->Value) (p:aq),rel w (X.S st.roots m) L0 mr true D p r u:=by
   intro n
   induction n with
   | zero=>simp_all
   | succ n ih=>
    obtain⟨D,hD⟩:=ih;cases hn:rs[n]? with
    | none=>exact⟨D,fun j r hj hr=>by
      grind⟩
    | some r0=>
     obtain⟨c0,e1,e2⟩:=g2 n r0 hn;obtain⟨u0,e3,e4⟩:=hr n c0 e1;obtain⟨⟨d0,e5⟩,_⟩:=OQ e4 e2;refine⟨max D d0,fun j r hj hrj=>?_⟩
     grind[aW,Nat.le_max_right]
  obtain⟨D,hD⟩:=key rs.length;exact⟨D,fun j r hj=>hD j r (cg.1 hj).1 hj⟩
 obtain⟨D,hD⟩:=hd;have hrel:=Xw (w:=w) (S:=X.S st.roots m) (mr:=dm) (cs:=rs) (us:=us) oZg (d:=D) (by
  intro c hc;subst hc;obtain⟨u,e1,e2⟩:=hD 0 c rfl
  simp_all) (by
  grind)
 grind
theorem Iq{E:Env}(hT:TOk P E)(H:av X m st a w){cs rs:List C}{us:List Value}(hl:us.length=cs.length)(hr:∀(j:Nat) (c:C),cs[j]?=some c->∃u,us[j]?=some u/\aF X m st w c u)(hp:fo cs=some rs):Done X w (qB rs) (MQ us):=by
 obtain⟨⟨D,hrel⟩,hno⟩:=Sf hT H hl hr hp;refine⟨⟨dm,D,?_,fun q q' b ho=>(hno q ho).elim,fun b ⟨q,ho,_⟩=>(hno q ho).elim⟩,H.fr⟩;exact az (fun b _ hs=>⟨⟨hs.1,fun⟨q,ho,_⟩=>hno q ho⟩,rfl⟩) D (fun _ _ _ h=>h) (fun _ q b ho=>(hno q ho).elim) (fun _ q ho=>(hno q ho).elim) hrel
def Di(cs:List C)(q:aq):Nat×aq:=
 match cs,q with
 | [c],q=>iT H0 c q
 | cs,(_,i)::q=>iT (hOf H0 cs i) ((cs[i]?).getD .dead) q
 | _,[]=>(H0,[])
theorem JP{E:Env}(hT:TOk P E)(H:av X m st a w){cs:List C}{us:List Value}(hl:us.length=cs.length)(hr:∀(j:Nat) (c:C),cs[j]?=some c->∃u,us[j]?=some u/\aF X m st w c u){s1:St}{kp:C}(hp:kV (cs.flatMap bN).length H0 (cs.flatMap bN) .dead st=some (s1,kp)):Done X w (qB (jf s1.roots H0 cs)) (MQ us):=by
 obtain⟨vs,v1,v2,v3⟩:=Qg hl hr;obtain⟨m',H',_,g1,_⟩:=D9 (cs.flatMap bN).length rfl v1 (ck _) H v2 (keep:=.dead) (ku:=undef) ⟨1,trivial⟩ hp;have comps:∀(i:Nat) (c:C),cs[i]?=some c->∃u,us[i]?=some u/\∃d,rel w (X.S s1.roots m') L0 (fun q=>m' (iT (hOf H0 cs i) c q).1 (iT (hOf H0 cs i) c q).2) true d [] (mM s1.roots (hOf H0 cs i) c) u:=by
  intro i c hc;obtain⟨u,hu,_⟩:=hr i c hc;refine⟨u,hu,?_⟩;have h3:=v3 i c u hc hu;have hh:hOf H0 cs i=H0+hOf 0 cs i:=by have:=HO H0 cs 0 i;omega
  have:=W9 (w:=w) (R:=fun n=>s1.roots (H0+n)) (S:=X.S s1.roots m') (m:=fun n=>m' (H0+n)) (h:=hOf 0 cs i) (c:=c) (u:=u) h3 (fun n v hn=>g1 n v hn);obtain⟨d,hd⟩:=this;refine⟨d,?_⟩;have e1:mM (fun n=>s1.roots (H0+n)) (hOf 0 cs i) c=mM s1.roots (hOf H0 cs i) c:=by
   cases c<;>simp[mM,hh,nw]
  rw[e1]at hd;refine az (fun b _ hb=>⟨hb,rfl⟩) d (fun _ _ _ h=>h) (fun _ _ _ _ _ _=>rfl) (fun _ q _=>?_) hd;simp only[cO];have e2:(iT (hOf H0 cs i) c q)=(H0+(iT (hOf 0 cs i) c q).1,(iT (hOf 0 cs i) c q).2):=by
   cases c<;>cases q<;>simp[iT,hh,nw]
  rw[e2]
 have hone:∀c,cs=[c]->∀q,Di cs q=iT H0 c q:=by rintro c rfl q;simp[Di]
 have hmany:(∀c,cs≠[c])->∀(s:Nat×Nat) q,Di cs (s::q)=iT (hOf H0 cs s.2) ((cs[s.2]?).getD .dead) q:=by
  intro hne s q
  match cs,hne with
  | [],_=>simp[Di]
  | [c],hne=>exact absurd rfl (hne c)
  | _::_::_,_=>simp[Di]
 have hpack1:∀c,cs=[c]->qB (jf s1.roots H0 cs)=mM s1.roots H0 c:=by
  rintro c rfl;rw[wc];rfl
 have hpackn:(∀c,cs≠[c])->qB (jf s1.roots H0 cs)=.tup (jf s1.roots H0 cs):=by
  intro hne
  match cs,hne with
  | [],_=>rfl
  | [c],hne=>simp_all
  | _::_::_,_=>rw[wc,wc];rfl
 have hh0:∀c,cs=[c]->hOf H0 cs 0=H0:=by rintro c rfl;rfl
 have own_names:∀q,ak (qB (jf s1.roots H0 cs)) q->ak (s1.roots (Di cs q).1) (Di cs q).2:=by
  intro q ho;by_cases hc:∃c,cs=[c]
  .grind[C0]
  .have hne:∀c,cs≠[c]:=fun c h=>hc ⟨c,h⟩;rw[hpackn hne]at ho;cases q with
   | nil=>grind[ak,C.at,C.isOwn]
   | cons s q=>
    rw[hmany hne];unfold ak at ho;simp only[C.at,C.kid]at ho;split at ho
    .rw[Cv]at ho;cases hci:cs[s.2]? with
     | none=>simp_all
     | some c=>
      simp only[hci,cI,cb]at ho;exact(C0 ho).1
    .simp at ho
 have inj_names:∀q q',ak (qB (jf s1.roots H0 cs)) q->ak (qB (jf s1.roots H0 cs)) q'->Di cs q=Di cs q'->q=q':=by
  intro q q' ho ho' he;by_cases hc:∃c,cs=[c]
  .grind[QH]
  .have hne:∀c,cs≠[c]:=fun c h=>hc ⟨c,h⟩;rw[hpackn hne]at ho ho';cases q with
   | nil=>grind[ak,C.at,C.isOwn]
   | cons s q=>
    cases q' with
    | nil=>grind[ak,C.at,C.isOwn]
    | cons s' q'=>
     rw[hmany hne,hmany hne]at he;unfold ak at ho ho';simp only[C.at,C.kid]at ho ho';split at ho
     case isFalse=>simp at ho
     rename_i hs;split at ho'
     case isFalse=>simp at ho'
     rename_i hs';rw[Cv]at ho ho';cases hci:cs[s.2]? with
     | none=>simp_all
     | some c=>
      cases hci':cs[s'.2]? with
      | none=>simp_all
      | some c'=>
       simp only[hci,hci',cI,cb,nB]at ho ho' he;obtain⟨_,r1,r2⟩:=C0 ho;obtain⟨_,r3,r4⟩:=C0 ho';have l1:s.2<cs.length:=(cg.1 hci).1;have l2:s'.2<cs.length:=(cg.1 hci').1;have hsame:s.2=s'.2:=by
        rcases nZ s.2 s'.2 with hlt|heq|hgt
        .have:=RI (h:=H0) hci hlt l2
         grind
        .exact heq
        .have:=RI (h:=H0) hci' hgt l1
         grind
       obtain⟨i,j⟩:=s;obtain⟨i',j'⟩:=s';simp only at hs hs' hsame hci hci' ho ho' he;subst hs;subst hs';subst hsame;rw[hci]at hci';cases hci';rw[QH ho ho' he]
 have sub:∀b,jM (qB (jf s1.roots H0 cs)) (fun q=>m' (Di cs q).1 (Di cs q).2) b->aJ s1.roots m' b:=by
  rintro b ⟨q,ho,hb⟩;exact⟨_,_,own_names q ho,hb⟩
 have hD:∃D,∀i,i<cs.length->∃c u,cs[i]?=some c/\us[i]?=some u/\rel w (X.S s1.roots m') L0 (fun q=>m' (iT (hOf H0 cs i) c q).1 (iT (hOf H0 cs i) c q).2) true D [] (mM s1.roots (hOf H0 cs i) c) u:=by
  refine I9 (Q:=fun i D=>∃c u,cs[i]?=some c/\us[i]?=some u/\rel w (X.S s1.roots m') L0 (fun q=>m' (iT (hOf H0 cs i) c q).1 (iT (hOf H0 cs i) c q).2) true D [] (mM s1.roots (hOf H0 cs i) c) u) ?_ cs.length ?_
  .grind[aW]
  .intro i hi;have e1:cs[i]?=some cs[i]:=by simp[hi]
   grind
 obtain⟨D,hD⟩:=hD;refine⟨⟨fun q=>m' (Di cs q).1 (Di cs q).2,D+1,?_,?_,?_⟩,H'.fr⟩
 .refine az (S:=X.S s1.roots m') (m:=fun q=>m' (Di cs q).1 (Di cs q).2) (p:=[]) (w:=w) (fun b _ hs=>⟨⟨hs.1,fun hb=>hs.2 (sub b hb)⟩,rfl⟩) (D+1) (fun _ _ _ h=>h) (fun _ _ _ _ _ _=>rfl) (fun _ _ _=>rfl) ?_;refine Xw (by rw[Lh];exact hl) ?_ ?_
  .intro r hr1;have hlen:cs.length=1:=by rw[<-Lh s1.roots (h:=H0),hr1];rfl
   obtain⟨c,hc⟩:=ai7.1 hlen;obtain⟨c',u,e1,e2,e3⟩:=hD 0 oZg;have:mM s1.roots (hOf H0 cs 0) c'=r:=by
    have:=Cv s1.roots (cs:=cs) (h:=H0) (i:=0)
    simp_all
   simp_all
  .intro hne j r hj;have hne':∀c,cs≠[c]:=by
    rintro c rfl;exact hne (mM s1.roots H0 c) (by rw[wc];rfl)
   rw[Cv]at hj;simp only[cq]at hj;obtain⟨c,hc,rfl⟩:=hj;obtain⟨c',u,e1,e2,e3⟩:=hD j (cg.1 hc).1;rw[hc]at e1;cases e1;refine⟨u,e2,az (fun b _ hb=>⟨hb,rfl⟩) D (fun _ _ _ h=>h) (fun _ _ _ _ _ _=>rfl) (fun _ q _=>?_) e3⟩
   simp_all
 .intro q q' b ho ho' hb hb';have:=H'.inj _ _ _ _ b (own_names q ho) (own_names q' ho') hb hb'
  grind
 .rintro b ⟨q,ho,hb⟩;exact H'.own _ _ b (own_names q ho) hb
def Rr{own:List Bool}{cs:List C}{us:List Value}{S:Nat->Prop}{n:Nat}(hl:us.length=cs.length)(hn:cs.length<=n)
  (hr:∀(i:Nat) (c:C),cs[i]?=some c->∃u d,us[i]?=some u/\rel w (fun b=>S b/\¬aJ (R0 own cs) m b) L0 (m i) (own.getD i false) d [] c u) (hinj:Inj (R0 own cs) m):
  av (F2 w S (aJ (R0 own cs) m)) m (Ep own cs n) {tmps:=us.toArray++Array.replicate (n-us.toArray.size) undef,defers:=[]} w:=by
 have hS:∀b,b<w.heap.size->(S b/\¬aJ (R0 own cs) m b)->Ctx.S (F2 w S (aJ (R0 own cs) m)) (R0 own cs) m b/\w.heap[b]?=w.heap[b]?:=fun b _ hb=>⟨⟨.inl (.inl hb.1),hb.2⟩,rfl⟩;refine⟨?_,?_,?_,hinj,?_,⟨rfl,rfl,rfl,ck _,ck _,fun _ _ _=>rfl⟩,rfl⟩
 .simp only[Ep,nc,oJ,xk,xQ,xg,ajC];omega
 .intro t c ht;simp only[Ep]at ht;by_cases hlt:t<cs.length
  .rw[na (by simp_all[oJ]),Mv]at ht;simp only[cq,cy]at ht;obtain⟨c0,h0,rfl⟩:=ht;obtain⟨u,d,e1,e2⟩:=hr t c0 h0;refine⟨u,?_⟩;have hu:(us.toArray++Array.replicate (n-us.toArray.size) undef)[t]?=some u:=by
    grind
   unfold jX;cases ho:own.getD t false with
   | false=>
    rw[ho]at e2;exact⟨d,hu,by
     simp only[cS,if_false];exact az hS d (fun _ _ _ h=>h.elim) (fun h=>by simp at h) (fun h=>by simp at h) e2⟩
   | true=>
    rw[ho]at e2;refine⟨d+1,hu,?_⟩;simp only[if_true];have e3:=az (m':=m t) (p':=[]) hS d (L':=L0) (fun _ _ _ h=>h) (fun _ _ _ _ _ _=>rfl) (fun _ _ _=>rfl) e2;refine Xo 3 e3 ?_;intro q nl es cap rows u' dd hq hrel;obtain⟨a1,k,dd',f1,f2,f3,f4,f5,fz,f6,f7⟩:=ei hrel;simp only[cO]at f1 f2 ⊢;refine⟨nl,es,cap,rows,a1,k,a1,k,?_,f2,oZg,by rw[f1,f2],f3,oZg,oZk,oZk,?_⟩
    .simp_all[Ep,R0]
    grind
  .rw[ni (by rw[oJ];omega)]at ht;simp only[ai1]at ht;split at ht
   .rename_i h1;simp only[cc]at ht;subst ht;rw[oJ]at h1;refine⟨undef,1,?_,trivial⟩
    grind
   .simp at ht
 .intro i;simp only[Ep,R0];cases ho:own.getD i false with
  | false=>exact⟨undef,1,by simp only[cS,if_false];trivial⟩
  | true=>
   simp only[if_true];cases hc:cs[i]? with
   | none=>exact⟨undef,1,trivial⟩
   | some c=>
    obtain⟨u,d,e1,e2⟩:=hr i c hc;rw[ho]at e2;exact⟨u,d,az hS d (fun _ _ _ h=>h) (fun _ _ _ _ _ _=>rfl) (fun _ _ _=>rfl) e2⟩
 .intro i p b ho hb;exact .inr ⟨i,p,ho,hb⟩
end
def DY:TypeDesc->Option EK
 | .int _=>some .int
 | .string=>some .str
 | .bool=>some .bool
 | _=>none
def Q3(one:TypeId->Option (List EK)):Nat->List Field->Option (List EK)
 | _,[]=>some []
 | k,f::fs=>match one f.type with
  | some e=>match Q3 one (k+e.length) fs with
   | some es=>if f.name ≠ "_" ∧ f.offset = k then some (e ++ es)else none
   | none=>none
  | none=>none
def ekT(P:Program):Nat->TypeId->Option (List EK)
 | 0,t=>(P.underlying t).bind fun d=>(DY d).map ([·])
 | g+1,t=>match P.underlying t with
  | some (.struct fields)=>match Q3 (ekT P g) 0 fields.toList with
   | some es=>if P.stoodInHeld t=false/\(P.info? t).map (·.size)=some es.length then some es else none
   | none=>none
  | d=>d.bind fun d=>(DY d).map ([·])
def VV(P:Program)(t:Nat):List EK:=
 match P.underlying t with
 | some (.struct fields)=>if P.stoodInHeld t=false/\P.eqGuardType P.depth t=false then(Q3 (ekT P 3) 0 fields.toList).getD []else[]
 | some (.array n e)=>if P.eqGuardType P.depth t=false/\(P.info? e).map (·.size)=some 1 then(((P.underlying e).bind DY).map fun k=>List.replicate n k).getD []else[]
 | _=>[]
def Wg(P:Program):TypeDesc->TK
 | .slice e=>match P.info? e with
  | some i=>.slice e i.size
  | none=>.other
 | .struct fields=>if(fields.toList.mapM (fun f=>(P.info? f.type).map fun i=>(f.offset,i.size))).isSome then .struct (fields.toList.map fun f=>(f.offset,f.type))else .other
 | .array n e=>match P.info? e with
  | some i=>.arr n e i.size
  | none=>.other
 | .string=>.str
 | .int k=>.int k
 | .bool=>.bool
 | _=>.other
def eG(P:Program)(t:Nat):Option TI:=
 match P.info? t,P.underlying t with
 | some i,some d=>match i.zero with
  | some z=>if z.cells.toList.length=i.size/\z.cells.toList.all Value.oneCell'=true then
    some {size:=i.size,agg:=Wu d,bytes:=i.bytes,zero:=z.cells.toList,eqs:=VV P t,kind:=Wg P d}
   else none
  | none=>none
 | _,_=>none
def abq{P:Program}(d:TypeDesc):aaO P d (Wg P d):=by
 unfold Wg;split
 .split
  .rename_i i hi;exact⟨rfl,i,hi,rfl⟩
  .trivial
 .rename_i fields;split
  .rename_i h;obtain⟨pl,hpl⟩:=xO.1 h;refine⟨fields,rfl,?_,pl,hpl⟩
   simp_all
  .trivial
 .split
  .rename_i i hi;exact⟨rfl,i,hi,rfl⟩
  .trivial
 all_goals first|rfl|trivial
def adm{P:Program}{w:World}{t:Nat}{d:TypeDesc}(hd:P.underlying t=some d)(he:(DY d).isSome=true){cs:Array Value}{k:Nat}{v:Value}(hv:cs[k]?=some v):(part t cs k).run P w=.ok v w:=by
 unfold part isAgg;cases d<;>simp[DY]at he<;>simp[run_underlying hd,hv]
def pv(P:Program)(t:TypeId)(xs:List C):Value:=
 match P.underlying t with
 | some (.struct _)=>.agg (xs.map C.toV).toArray
 | _=>(xs.head?.map C.toV).getD undef
def adE(P:Program)(D:Nat)(one:TypeId->Option (List EK)):Prop:=∀t e,one t=some e ->
 (∀(w:World) (cs:List C) (k:Nat),k+e.length<=cs.length->(part t (cs.map C.toV).toArray k).run P w=.ok (pv P t ((cs.drop k).take e.length)) w)∧
 (∀(w:World) (d:Nat) (as bs:List C) (b:Bool),D<=d->dz e as bs=some b->(Op.equalIn d t (pv P t as) (pv P t bs)).run P w=.ok b w)
def K2:∀{e es:List EK} {as bs:List C} {b:Bool},dz (e++es) as bs=some b ->
  ∃x y,dz e (as.take e.length) (bs.take e.length)=some x/\dz es (as.drop e.length) (bs.drop e.length)=some y/\b=(x&&y)/\e.length<=as.length/\e.length<=bs.length:=by
 intro e
 induction e with
 | nil=>intro es as bs b h;exact⟨true,b,rfl,by simpa using h,oZk,oZk,oZk⟩
 | cons k e ih=>
  intro es as bs b h;cases as with
  | nil=>simp[dz]at h
  | cons x as=>
   cases bs with
   | nil=>simp[dz]at h
   | cons y bs=>
    simp only[nF,dz]at h;split at h
    case h_2=>simp at h
    rename_i b1 b2 h1 h2;simp only[cc]at h;subst h;obtain⟨u,v,g1,g2,rfl,g4,g5⟩:=ih h2
    simp_all[dz,Bool.and_assoc]
def YQ:∀{e:List EK} {as bs:List C} {b:Bool},dz e as bs=some b->as.length=e.length/\bs.length=e.length:=by
 intro e
 induction e with
 | nil=>grind[dz]
 | cons k e ih=>
  intro as bs b h;cases as with
  | nil=>simp[dz]at h
  | cons x as=>
   cases bs with
   | nil=>simp[dz]at h
   | cons y bs=>
    grind[dz]
theorem Qw{P:Program}{one:TypeId->Option (List EK)}{D d:Nat}(ho:adE P D one)(hd:D<=d){as0 bs0:List C}:∀{fs:List Field} {k:Nat} {es:List EK} {b:Bool} (w:World),Q3 one k fs=some es->k<=as0.length->k<=bs0.length->dz es (as0.drop k) (bs0.drop k)=some b ->
  (Op.eqFields d (as0.map C.toV).toArray (bs0.map C.toV).toArray fs).run P w=.ok b w:=by
 intro fs
 induction fs with
 | nil=>
  intro k es b w he ha hb hq;simp only[Q3,cc]at he;subst he;have:b=true:=by
   grind[dz]
  subst this;rfl
 | cons f fs ih=>
  intro k es b w he ha hb hq;simp only[Q3]at he;split at he
  case h_2=>simp at he
  rename_i e h1;split at he
  case h_2=>simp at he
  rename_i es' h2;split at he
  case isFalse=>simp at he
  rename_i hf;simp only[cc]at he;subst he;obtain⟨x,y,g1,g2,rfl,g4,g5⟩:=K2 hq;simp only[xC]at g4 g5;obtain⟨o1,o2⟩:=ho _ _ h1;rw[xU,xU]at g2;have hr:=ih w h2 oZg oZg g2;have p1:=o1 w as0 k oZg;have p2:=o1 w bs0 k oZg;have p3:=o2 w d _ _ x hd g1;simp only[Op.eqFields,if_pos hf.1,hf.2,Sem.run_bind,p1,p2,Result.andThen_ok,p3];cases x<;>simp[hr]
theorem MY{P:Program}{t:TypeId}{dd:TypeDesc}{e:List EK}(hu:P.underlying t=some dd)(he:(DY dd).map ([·])=some e):
  (∀(w:World) (cs:List C) (k:Nat),k+e.length<=cs.length->(part t (cs.map C.toV).toArray k).run P w=.ok (pv P t ((cs.drop k).take e.length)) w)∧
  (∀(w:World) (d:Nat) (as bs:List C) (b:Bool),1<=d->dz e as bs=some b->(Op.equalIn d t (pv P t as) (pv P t bs)).run P w=.ok b w):=by
 cases ho:DY dd with
 | none=>simp_all
 | some k0=>
 simp only[ho,cI,cc]at he;subst he;have hpv:∀x:C,pv P t [x]=x.toV:=by
  grind[pv,DY]
 refine⟨?_,?_⟩
 .intro w cs k hk;simp only[cn,cw,cy]at hk ⊢;have hlt:k<cs.length:=oZg;have:(cs.drop k).take 1=[cs[k]]:=by
   rw[nI hlt];rfl
  simp_all[adm]
 .intro w d as bs b hd hq;obtain⟨d,rfl⟩:∃d',d=d'+1:=⟨d-1,oZg⟩;obtain⟨l1,l2⟩:=YQ hq
  match as,bs,l1,l2 with
  | [x],[y],_,_=>
   rw[hpv,hpv];simp only[dz]at hq;split at hq
   case h_2=>simp at hq
   rename_i b1 b2 hq1 hq2;simp only[cc]at hq2 hq;subst hq2;rw[nK]at hq;subst hq;have h1:=ho;unfold Om at hq1;split at hq1
   .cases dd<;>simp[DY]at h1
    split at hq1
    .rename_i hk;simp only[cc]at hq1;subst hq1;subst hk;simp only[C.toV,run_equalIn_int w _ _ _ _ _ _ hu];rfl
    simp_all
   .cases dd<;>simp[DY]at h1
    simp_all[C.toV,run_equalIn_string,sEq]
   .cases dd<;>simp[DY]at h1
    simp only[cc]at hq1;subst hq1;simp only[C.toV,run_equalIn_bool' w _ _ _ _ hu];rfl
   simp_all
def acn{P:Program}{el:TypeId}{dd:TypeDesc}{k:EK}(hu:P.underlying el=some dd)(hk:DY dd=some k){d:Nat}(hd:1<=d){as0 bs0:List C}:∀(n i:Nat) (b:Bool) (w:World),i<=as0.length->i<=bs0.length->dz (List.replicate n k) (as0.drop i) (bs0.drop i)=some b ->
  (forIn (List.range' i n) ((none,()):Option Bool×Unit) fun i r=>(do
    let x <-part el (as0.map C.toV).toArray i
    let y <-part el (bs0.map C.toV).toArray i
    let z <-Op.equalIn d el x y
    if z=false then pure (ForInStep.done (some false,()))else pure (ForInStep.yield (none,())):Sem (ForInStep (Option Bool×Unit)))).run P w=.ok (if b=true then(none,())else(some false,())) w:=by
 intro n
 induction n with
 | zero=>
  intro i b w ha hb hq;have:b=true:=by
   grind[dz]
  simp_all
 | succ n ih=>
  intro i b w ha hb hq;have hq':dz ([k]++List.replicate n k) (as0.drop i) (bs0.drop i)=some b:=oZi;obtain⟨x,y,g1,g2,rfl,g4,g5⟩:=K2 hq';simp only[xC,cn,cw]at g4 g5;obtain⟨o1,o2⟩:=MY (P:=P) (t:=el) hu (e:=[k]) (by simp[hk]);rw[xU,xU]at g2;have hr:=ih (i+1) y w oZg oZg oZg;have p1:=o1 w as0 i oZd;have p2:=o1 w bs0 i oZd;have p3:=o2 w d _ _ x hd g1;simp only[xM,List.forIn_cons,Sem.run_bind,p1,p2,Result.andThen_ok,p3];cases x
  .simp
  simp_all
theorem RH{P:Program}{t el:TypeId}{n:Nat}{dd:TypeDesc}{k:EK}(ht:P.underlying t=some (.array n el))(hu:P.underlying el=some dd)(hk:DY dd=some k)(hs:(P.info? el).map (·.size)=some 1){d:Nat}(hd:1<=d)(w:World){as bs:List C}{b:Bool}(hq:dz (List.replicate n k) as bs=some b):
  (Op.equalIn (d+1) t (.agg (as.map C.toV).toArray) (.agg (bs.map C.toV).toArray)).run P w=.ok b w:=by
 cases hi:P.info? el with
 | none=>simp_all
 | some i=>
 have hs':i.size=1:=oZf;have:=acn hu hk hd n 0 b w (cQ _) (cQ _) (by simpa using hq);simp only[Op.equalIn,Sem.run_bind,run_underlying ht,Result.andThen_ok,sizeOf,typeInfo,run_program,hi];simp[hs',this];cases b<;>simp
theorem afG(P:Program):∀g,adE P (g+1) (ekT P g):=by
 intro g
 induction g with
 | zero=>
  intro t e h;simp only[ekT]at h;cases hu:P.underlying t with
  | none=>simp_all
  | some dd=>
   grind[MY]
 | succ g ih=>
  intro t e h;simp only[ekT]at h;split at h
  .rename_i fields hu;split at h
   case h_2=>simp at h
   rename_i es hes;split at h
   case isFalse=>simp at h
   rename_i hc;simp only[cc]at h;subst h;have hpv:∀xs:List C,pv P t xs=.agg (xs.map C.toV).toArray:=by simp_all[pv]
   have hfo:P.fieldsOf t=fields:=by simp[Program.fieldsOf,hu]
   cases hi:P.info? t with
   | none=>simp_all
   | some i=>
   have hsz:i.size=es.length:=oZf;refine⟨?_,?_⟩
   .intro w cs k hk;rw[hpv];simp[part,isAgg,run_underlying hu,sizeOf,typeInfo,hi,hsz,List.extract_toArray,List.extract_eq_take_drop,nL,xa]
   .intro w d as bs b hd hq;obtain⟨d,rfl⟩:∃d',d=d'+1:=⟨d-1,oZg⟩
    grind[run_equalIn_struct,Qw]
  .cases hu:P.underlying t with
   | none=>simp_all
   | some dd=>
    grind[MY]
def ac1{P:Program}{t:Nat}(h:(VV P t).isEmpty=false):afa P t (VV P t):=by
 unfold VV at h ⊢;split at h
 .rename_i fields hu;split at h
  .rename_i hc;simp only[hc,and_self,if_true]at h ⊢;cases he:Q3 (ekT P 3) 0 fields.toList with
   | none=>simp_all
   | some es=>
    simp only[he,nB]at h ⊢;intro w as bs b hq
    grind[run_eqGuard_agg,Program.fieldsOf,JC,run_equalIn_struct,Qw,afG]
  .simp at h
 .rename_i n e hu;split at h
  .rename_i hc;rw[if_pos hc];cases hd:P.underlying e with
   | none=>simp_all
   | some dd=>
    simp only[hd,cb]at h ⊢;cases hk:DY dd with
    | none=>simp_all
    | some k=>
     simp only[hk,cI,nB]at h ⊢;intro w as bs b hq
     grind[run_eqGuard_agg,JC,RH]
  .simp at h
 .simp at h
def DA(P:Program)(G:Nat->Nat->Option FnS):TOk P {T:=eG P,G:=G}:=by
 intro t ti h;simp only[eG]at h;split at h
 case h_2=>simp at h
 rename_i i d hi hd;split at h
 case h_2=>simp at h
 rename_i z hz;split at h
 case isFalse=>simp at h
 rename_i hc;simp only[cc]at h;subst h;exact⟨⟨i,hi,rfl,rfl,z,hz,rfl⟩,⟨d,hd,rfl,abq d⟩,hc.1,fun v hv=>cE.1 hc.2 v hv,fun h=>ac1 h⟩
end Go.Abs
