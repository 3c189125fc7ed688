/- A library of readings of Go values with their ownership,and of walks on them. No statement of the program. -/
import Derived.Test.YtmacaidmhchpgaaGreatAbsC
import Derived.Lib.Overlaps
import Derived.WalkKit
import Derived.ProofKit
import Derived.OpenShut
import Derived.ReadAgain
import Derived.ChangeArms
import Derived.SizedLaws
import Derived.Carry
import Derived.LoopN
set_option linter.defProp false
set_option linter.unusedSimpArgs false
set_option linter.unusedVariables false
namespace Go.Abs
def uI(E:Env)(draw:Bool)(bar:Nat->Bool)(i:Nat)(o:Oper)(st:St):Option St:=
 match draw with
 | false=>exe E o st
 | true=>match gA E o st with
  | some e=>match e.apply st with
   | some s=>some s
   | none=>if bar i=true then exe E o st else none
  | none=>if bar i=true then exe E o st else none
def RX(E:Env)(draw:Bool)(gd:Nat->Option Tmp)(bar:Nat->Bool):Nat->List Oper->St->(St->Prop)->Prop
 | _,[],st,Z=>Z st
 | i,o::l,st,Z=>match o.guard with
  | none=>match uI E draw bar i o st with
   | some st'=>RX E draw gd bar (i+1) l st' Z
   | none=>False
  | some (j,want)=>match gd j with
   | some t=>match st.tmps[t]? with
    | some (.val (.bool b))=>if b=want then match uI E draw bar i o st with
      | some st'=>RX E draw gd bar (i+1) l st' Z
      | none=>False
     else RX E draw gd bar (i+1) l (st.put o.dst (.val undef)) Z
    | some (.val (.tuple _))=>RX E draw gd bar (i+1) l (st.put o.dst (.val undef)) Z
    | _=>False
   | none=>False
def jH(ops:Array Oper)(j:Nat):Option Tmp:=(ops[j]?).bind (·.dst)
def R7{E:Env}{ops:Array Oper}:∀(l:List Oper) (i:Nat) (st:St) (Z:St->Prop),RX E false (jH ops) (jc ops) i l st Z->∃st',uU E ops l st=some st'/\Z st':=by
 intro l
 induction l with
 | nil=>intro i st Z h;exact⟨st,rfl,h⟩
 | cons o l ih=>
  intro i st Z h;have go:∀s,fF E ops o st=some s->RX E false (jH ops) (jc ops) (i+1) l s Z->∃st',uU E ops (o::l) st=some st'/\Z st':=by
   grind[uU]
  unfold RX at h;split at h
  .grind[fF,uI]
  .rename_i j want hg;split at h
   case h_2=>exact h.elim
   grind[jH,fF,uI]
def aem{E:Env}{ops:Array Oper}:∀(l:List Oper) (i:Nat) (st:St) (Z:St->Prop),RX E true (jH ops) (jc ops) i l st Z->∃st',Bl E ops i l st=some st'/\Z st':=by
 intro l
 induction l with
 | nil=>intro i st Z h;exact⟨st,rfl,h⟩
 | cons o l ih=>
  intro i st Z h;have go:∀s,CD E ops i o st=some s->RX E true (jH ops) (jc ops) (i+1) l s Z->∃st',Bl E ops i (o::l) st=some st'/\Z st':=by
   simp_all[Bl]
  have run:∀s,(∀x,gA E o st=x->rR E ops o st=x)->(∀x,exe E o st=x->fF E ops o st=x)->uI E true (jc ops) i o st=some s->CD E ops i o st=some s:=by
   intro s h1 h2 hs;unfold CD bD;rw[h1 _ rfl];simp only[uI]at hs
   grind
  unfold RX at h;split at h
  .grind[rR,fF]
  .rename_i j want hg;split at h
   case h_2=>exact h.elim
   rename_i t ht;simp only[jH]at ht;have skip:rR E ops o st=some (.q o.dst (.val undef))->CD E ops i o st=some (st.put o.dst (.val undef)):=by
    simp_all[CD,bD,SE.apply]
   grind[rR,fF]
def afD{E:Env}{ops:Array Oper}:∀(l:List Oper) (i:Nat) (st st':St) (Z:St->Prop),uU E ops l st=some st'->Z st'->RX E false (jH ops) (jc ops) i l st Z:=by
 intro l
 induction l with
 | nil=>intro i st st' Z h hz;simp only[uU,cc]at h;subst h;exact hz
 | cons o l ih=>
  intro i st st' Z h hz;simp only[uU]at h;split at h
  case h_2=>simp at h
  rename_i s hs;have hr:=ih (i+1) s st' Z h hz;unfold fF at hs;rw[RX];split at hs
  .simp_all[uI]
  .rename_i j want hg;simp only[hg,jH];split at hs
   case h_2=>simp at hs
   rename_i t ht;simp only[ht];split at hs
   .rename_i b hb;simp only[hb];split at hs
    .simp_all[uI]
    simp_all
   .simp_all
   .simp at hs
theorem adS{E:Env}{ops:Array Oper}:∀(l:List Oper) (i:Nat) (st st':St) (Z:St->Prop),Bl E ops i l st=some st'->Z st'->RX E true (jH ops) (jc ops) i l st Z:=by
 intro l
 induction l with
 | nil=>intro i st st' Z h hz;simp only[Bl,cc]at h;subst h;exact hz
 | cons o l ih=>
  intro i st st' Z h hz;simp only[Bl]at h;split at h
  case h_2=>simp at h
  rename_i s hs;have hr:=ih (i+1) s st' Z h hz;have body:(∀x,gA E o st=x->rR E ops o st=x)->(∀x,exe E o st=x->fF E ops o st=x)->uI E true (jc ops) i o st=some s:=by
   intro h1 h2;unfold CD bD at hs;rw[h1 _ rfl]at hs;rw[h2 _ rfl]at hs
   grind[uI]
  rw[RX];split
  .simp_all[rR,fF]
  .rename_i j want hg;have skip:∀s':St,rR E ops o st=some (.q o.dst (.val undef))->s=st.put o.dst (.val undef):=by
    grind[CD,bD,SE.apply]
   have dead:rR E ops o st=none->fF E ops o st=none->False:=by
    grind[CD,bD]
   simp only[jH];cases ht:(ops[j]?).bind (·.dst)with
   | none=>simp_all[rR,fF]
   | some t=>
    simp only;split
    .rename_i b hb;split
     .simp_all[rR,fF]
     .rename_i hbw;have:=skip st (by simp_all[rR])
      simp_all
    .rename_i vs hb;have:=skip st (by simp_all[rR])
     simp_all
    simp_all[rR,fF]
inductive Fm where
 | sq (y:Code)
 | bl (id:Nat)
 | lp (J:St->Prop)
 | sc
 | sk (y:Code)
def ap(E:Env)(Q:Exit->St->Prop):List Fm->Exit->St->Prop
 | [],e,s=>Q e s
 | .sq y::K,e,s=>match e with
  | .normal=>W E y (ap E Q K) s
  | e=>ap E Q K e s
 | .bl id::K,e,s=>match e with
  | .exit i=>if i=id then ap E Q K .normal s else ap E Q K (.exit i) s
  | e=>ap E Q K e s
 | .lp J::K,e,s=>match e with
  | .normal=>J s
  | e=>ap E Q K e s
 | .sc::K,e,s=>match e with
  | .goto _=>False
  | e=>ap E Q K e s
 | .sk y::K,e,s=>match e with
  | .normal=>Wk E y (ap E Q K) s
  | e=>ap E Q K e s
section
variable {E:Env} {Q:Exit->St->Prop} {K:List Fm} {st:St}
def Pq{c:Code}(h:W E c (ap E Q []) st):W E c Q st:=h
@[go_sem] theorem ail:W E .skip (ap E Q K) st=ap E Q K .normal st:=rfl
@[go_sem] theorem aiy{x y:Code}:W E (.seq x y) (ap E Q K) st=W E x (ap E Q (.sq y::K)) st:=by
 simp only[W]
 congr 1
@[go_sem] theorem aiu{id:Nat}:W E (.exit id) (ap E Q K) st=ap E Q K (.exit id) st:=rfl
@[go_sem] theorem ah9{id:Nat}:W E (.label id) (ap E Q K) st=ap E Q K .normal st:=rfl
@[go_sem] theorem aix:W E .ret (ap E Q K) st=ap E Q K .ret st:=rfl
@[go_sem] theorem aij{e:Exit}:ap E Q [] e st=Q e st:=rfl
@[go_sem] theorem aiv{y:Code}:ap E Q (.sq y::K) .normal st=W E y (ap E Q K) st:=rfl
@[go_sem] theorem agy{y:Code}:ap E Q (.sq y::K) .ret st=ap E Q K .ret st:=rfl
@[go_sem] theorem agb{y:Code}{i:Nat}:ap E Q (.sq y::K) (.exit i) st=ap E Q K (.exit i) st:=rfl
@[go_sem] theorem aiA{id:Nat}:ap E Q (.bl id::K) .normal st=ap E Q K .normal st:=rfl
@[go_sem] theorem agE{id:Nat}:ap E Q (.bl id::K) .ret st=ap E Q K .ret st:=rfl
@[go_sem] theorem aae{id i:Nat}:ap E Q (.bl id::K) (.exit i) st=if i=id then ap E Q K .normal st else ap E Q K (.exit i) st:=rfl
@[go_sem] theorem aiC{J:St->Prop}:ap E Q (.lp J::K) .normal st=J st:=rfl
@[go_sem] theorem agD{J:St->Prop}:ap E Q (.lp J::K) .ret st=ap E Q K .ret st:=rfl
@[go_sem] theorem agn{J:St->Prop}{i:Nat}:ap E Q (.lp J::K) (.exit i) st=ap E Q K (.exit i) st:=rfl
@[go_sem] theorem aiB{y:Code}:ap E Q (.sk y::K) .normal st=Wk E y (ap E Q K) st:=rfl
@[go_sem] theorem agB{y:Code}:ap E Q (.sk y::K) .ret st=ap E Q K .ret st:=rfl
@[go_sem] theorem afR{y:Code}{i:Nat}:ap E Q (.sk y::K) (.exit i) st=ap E Q K (.exit i) st:=rfl
@[go_sem] theorem aiw:ap E Q (.sc::K) .normal st=ap E Q K .normal st:=rfl
@[go_sem] theorem agF:ap E Q (.sc::K) .ret st=ap E Q K .ret st:=rfl
@[go_sem] theorem afY{i:Nat}:ap E Q (.sc::K) (.exit i) st=ap E Q K (.exit i) st:=rfl
@[go_sem] theorem acm{id:Nat}{ops:Array Oper}{draw:Bool}:W E (.region id ops draw) (ap E Q K) st=RX E draw (jH ops) (jc ops) 0 ops.toList st (fun s=>(draw=true->wH ops s=true)/\ap E Q K .normal s):=by
 refine propext ⟨?_,fun h=>?_⟩
 .rintro⟨st',h1,h2⟩;cases draw with
  | true=>
   grind[Lk,adS]
  | false=>exact afD _ _ _ _ _ h1 ⟨fun h=>oZj,h2⟩
 .cases draw with
  | true=>
   obtain⟨s,h1,h2,h3⟩:=aem ops.toList 0 st _ h;exact⟨s,by simp only[Lk,h1,h2 rfl,if_true],h3⟩
  | false=>
   obtain⟨s,h1,_,h3⟩:=R7 ops.toList 0 st _ h;exact⟨s,h1,h3⟩
def ae4{c:Operand}{x y:Code}{b:Bool}(hc:st.ev c=.val (.bool b))(h1:b=true->W E x (ap E Q K) st)(h2:b=false->W E y (ap E Q K) st):W E (.cond c x y) (ap E Q K) st:=by
 simp_all[W]
section
variable {draw:Bool} {gd:Nat->Option Tmp} {bar:Nat->Bool} {i:Nat} {l:List Oper} {Z:St->Prop} {d:Option Tmp} {ty:TypeId} {pos:String} {after:Array Edge}
theorem qk{o:Oper}{c:C}(hg:o.guard=none)(hp:m9 E o st=none)(h1:mL E o st=eb o st (some c))(h2:gA E o st=qSE o (some c)):RX E draw gd bar i (o::l) st Z=RX E draw gd bar (i+1) l (st.put o.dst c) Z:=by
 rw[RX,hg];simp only[uI,exe,hp,h1,h2];cases draw<;>simp[eb,qSE,SE.apply]
def qN{o:Oper}(hg:o.guard=none)(hp:m9 E o st=none)(ha:iN E o st=none)(h1:mL E o st=eb o st none)(h2:gA E o st=qSE o none):RX E draw gd bar i (o::l) st Z=False:=by
 rw[RX,hg];simp only[uI,exe,hp,ha,h1,h2];cases draw<;>simp[eb,qSE]
def N4{o:Oper}{q:Option C}(hg:o.guard=none)(hp:m9 E o st=none)(h1:mL E o st=eb o st q)(h2:gA E o st=qSE o q):RX E draw gd bar i (o::l) st Z=match(generalizing:=false) q with
  | some c=>RX E draw gd bar (i+1) l (st.put o.dst c) Z
  | none=>match iN E o st with
   | some s=>(draw=true->bar i=true)/\RX E draw gd bar (i+1) l s Z
   | none=>False:=by
 cases q with
 | some c=>grind[qk]
 | none=>
  rw[RX,hg];simp only[uI,exe,hp,h1,h2,qSE,eb]
  grind
@[go_sem] theorem aio:RX E draw gd bar i [] st Z=Z st:=rfl
theorem QN{j:Nat}{want:Bool}{op:Op}:RX E draw gd bar i ({dst:=d,op:=op,type:=ty,pos:=pos,after:=after,guard:=some (j,want)}::l) st Z =
  match gd j with
   | some t=>match st.ev (.tmp t)with
    | .val (.bool b)=>if b=want then RX E draw gd bar i ({dst:=d,op:=op,type:=ty,pos:=pos,after:=after,guard:=none}::l) st Z else RX E draw gd bar (i+1) l (st.put d (.val undef)) Z
    | .val (.tuple _)=>RX E draw gd bar (i+1) l (st.put d (.val undef)) Z
    | _=>False
   | none=>False:=by
 rw[RX];simp only;cases hg:gd j with
 | none=>rfl
 | some t=>
  simp only[St.ev];have same:∀o o':Oper,o.op=o'.op->o.dst=o'.dst->uI E draw bar i o st=uI E draw bar i o' st:=by
   rintro⟨d1,o1,t1,p1,a1,g1⟩ ⟨d2,o2,t2,p2,a2,g2⟩ h1 h2;simp only at h1 h2;subst h1;subst h2;rfl
  cases ht:st.tmps[t]? with
  | none=>simp
  | some c=>
   cases c with
   | val v=>
    cases v<;>simp only[nB]
    rename_i b;split
    .rw[RX]
     grind
    .rfl
   | _=>simp
def Cp(gd:Nat->Option Tmp)(st:St)(j:Nat):Option (Option Bool):=
 match gd j with
 | some t=>match st.ev (.tmp t)with
  | .val (.bool b)=>some (some b)
  | .val (.tuple _)=>some none
  | _=>none
 | none=>none
@[go_sem] theorem afF{j:Nat}{want:Bool}{op:Op}(h:Cp gd st j=some (some want)):RX E draw gd bar i ({dst:=d,op:=op,type:=ty,pos:=pos,after:=after,guard:=some (j,want)}::l) st Z =
  RX E draw gd bar i ({dst:=d,op:=op,type:=ty,pos:=pos,after:=after,guard:=none}::l) st Z:=by
 grind[QN,Cp]
@[go_sem] theorem ae0{j:Nat}{want:Bool}{op:Op}(h:Cp gd st j=some (some (!want))):RX E draw gd bar i ({dst:=d,op:=op,type:=ty,pos:=pos,after:=after,guard:=some (j,want)}::l) st Z =
  RX E draw gd bar (i+1) l (st.put d (.val undef)) Z:=by
 grind[QN,Cp]
@[go_sem] theorem afd{j:Nat}{want:Bool}{op:Op}(h:Cp gd st j=some none):RX E draw gd bar i ({dst:=d,op:=op,type:=ty,pos:=pos,after:=after,guard:=some (j,want)}::l) st Z =
  RX E draw gd bar (i+1) l (st.put d (.val undef)) Z:=by
 grind[QN,Cp]
def Z7(c a b:C):Option C:=
 match c with
 | .val (.bool t)=>some (if t then a else b)
 | _=>none
def QP(c:C)(k:Nat):Option C:=
 match c with
 | .tup cs=>cs[k]?
 | _=>none
def OY(c:C):Option C:=
 match c with
 | .pref n p i j=>some (.pref n p i j)
 | .iref es rows i j=>some (.iref es rows i j)
 | _=>none
@[go_sem] theorem aid{x:Operand}:RX E draw gd bar i ({dst:=d,op:=.move x,type:=ty,pos:=pos,after:=after,guard:=none}::l) st Z=RX E draw gd bar (i+1) l (st.put d (st.ev x)) Z:=
 qk rfl rfl rfl rfl
@[go_sem] theorem agA{x:Operand}:RX E draw gd bar i ({dst:=d,op:=.assign x,type:=ty,pos:=pos,after:=after,guard:=none}::l) st Z=RX E draw gd bar (i+1) l (st.put d (st.ev x)) Z:=
 qk rfl rfl rfl rfl
@[go_sem] theorem aie{c a b:Operand}:RX E draw gd bar i ({dst:=d,op:=.pick c a b,type:=ty,pos:=pos,after:=after,guard:=none}::l) st Z=match(Z7 (st.ev c) (st.ev a) (st.ev b))with
   | some c=>RX E draw gd bar (i+1) l (st.put d c) Z
   | none=>False:=by
 cases h:(Z7 (st.ev c) (st.ev a) (st.ev b))with
 | none=>exact qN rfl rfl rfl (congrArg (eb _ st) h) (congrArg (qSE _) h)
 | some c=>exact qk rfl rfl (congrArg (eb _ st) h) (congrArg (qSE _) h)
@[go_sem] theorem aib{t:TypeId}{x:Operand}:RX E draw gd bar i ({dst:=d,op:=.load t x,type:=ty,pos:=pos,after:=after,guard:=none}::l) st Z=match((E.T t).bind fun ti=>ue st ti (st.ev x))with
   | some c=>RX E draw gd bar (i+1) l (st.put d c) Z
   | none=>False:=by
 cases h:((E.T t).bind fun ti=>ue st ti (st.ev x))with
 | none=>exact qN rfl rfl rfl (congrArg (eb _ st) h) (congrArg (qSE _) h)
 | some c=>exact qk rfl rfl (congrArg (eb _ st) h) (congrArg (qSE _) h)
@[go_sem] theorem afx{t:TypeId}{x:Operand}{f:Nat}:RX E draw gd bar i ({dst:=d,op:=.fieldAddr t x f,type:=ty,pos:=pos,after:=after,guard:=none}::l) st Z=match((E.T t).bind fun ti=>uq E ti f (st.ev x))with
   | some c=>RX E draw gd bar (i+1) l (st.put d c) Z
   | none=>False:=by
 cases h:((E.T t).bind fun ti=>uq E ti f (st.ev x))with
 | none=>exact qN rfl rfl rfl (congrArg (eb _ st) h) (congrArg (qSE _) h)
 | some c=>exact qk rfl rfl (congrArg (eb _ st) h) (congrArg (qSE _) h)
@[go_sem] theorem afH{t:TypeId}{x ix:Operand}:RX E draw gd bar i ({dst:=d,op:=.indexAddr t x ix,type:=ty,pos:=pos,after:=after,guard:=none}::l) st Z=match((E.T t).bind fun ti=>lU st ti (st.ev x) (st.ev ix))with
   | some c=>RX E draw gd bar (i+1) l (st.put d c) Z
   | none=>False:=by
 cases h:((E.T t).bind fun ti=>lU st ti (st.ev x) (st.ev ix))with
 | none=>exact qN rfl rfl rfl (congrArg (eb _ st) h) (congrArg (qSE _) h)
 | some c=>exact qk rfl rfl (congrArg (eb _ st) h) (congrArg (qSE _) h)
@[go_sem] theorem ahm{t:TypeId}{x ix:Operand}:RX E draw gd bar i ({dst:=d,op:=.index t x ix,type:=ty,pos:=pos,after:=after,guard:=none}::l) st Z=match((E.T t).bind fun ti=>KW E ti (st.ev x) (st.ev ix))with
   | some c=>RX E draw gd bar (i+1) l (st.put d c) Z
   | none=>False:=by
 cases h:((E.T t).bind fun ti=>KW E ti (st.ev x) (st.ev ix))with
 | none=>exact qN rfl rfl rfl (congrArg (eb _ st) h) (congrArg (qSE _) h)
 | some c=>exact qk rfl rfl (congrArg (eb _ st) h) (congrArg (qSE _) h)
@[go_sem] theorem ahW{bop:BinOp}{t t':TypeId}{x y:Operand}:RX E draw gd bar i ({dst:=d,op:=.binOp bop t x y t',type:=ty,pos:=pos,after:=after,guard:=none}::l) st Z=match(Pa (E.T t) bop (st.ev x) (st.ev y))with
   | some c=>RX E draw gd bar (i+1) l (st.put d c) Z
   | none=>False:=by
 cases h:(Pa (E.T t) bop (st.ev x) (st.ev y))with
 | none=>exact qN rfl rfl rfl (congrArg (eb _ st) h) (congrArg (qSE _) h)
 | some c=>exact qk rfl rfl (congrArg (eb _ st) h) (congrArg (qSE _) h)
@[go_sem] theorem ah4{uop:UnOp}{t:TypeId}{x:Operand}:RX E draw gd bar i ({dst:=d,op:=.unOp uop t x,type:=ty,pos:=pos,after:=after,guard:=none}::l) st Z=match(unC uop (st.ev x))with
   | some c=>RX E draw gd bar (i+1) l (st.put d c) Z
   | none=>False:=by
 cases h:(unC uop (st.ev x))with
 | none=>exact qN rfl rfl rfl (congrArg (eb _ st) h) (congrArg (qSE _) h)
 | some c=>exact qk rfl rfl (congrArg (eb _ st) h) (congrArg (qSE _) h)
@[go_sem] theorem af7{t t':TypeId}{x:Operand}:RX E draw gd bar i ({dst:=d,op:=.convert t t' x,type:=ty,pos:=pos,after:=after,guard:=none}::l) st Z=match(match(if(E.T t).isSome then(E.T t').bind fun ti=>Ps ti (st.ev x)else none)with
   | some c=>some c
   | none=>Rb E st t t' (st.ev x))with
   | some c=>RX E draw gd bar (i+1) l (st.put d c) Z
   | none=>False:=by
 cases h:(match(if(E.T t).isSome then(E.T t').bind fun ti=>Ps ti (st.ev x)else none)with
   | some c=>some c
   | none=>Rb E st t t' (st.ev x))with
 | none=>exact qN rfl rfl rfl (congrArg (eb _ st) h) (congrArg (qSE _) h)
 | some c=>exact qk rfl rfl (congrArg (eb _ st) h) (congrArg (qSE _) h)
@[go_sem] theorem agj{x:Operand}{k:Nat}:RX E draw gd bar i ({dst:=d,op:=.extract x k,type:=ty,pos:=pos,after:=after,guard:=none}::l) st Z=match(QP (st.ev x) k)with
   | some c=>RX E draw gd bar (i+1) l (st.put d c) Z
   | none=>False:=by
 cases h:(QP (st.ev x) k)with
 | none=>exact qN rfl rfl rfl (congrArg (eb _ st) h) (congrArg (qSE _) h)
 | some c=>exact qk rfl rfl (congrArg (eb _ st) h) (congrArg (qSE _) h)
@[go_sem] theorem agL{t:TypeId}{x:Operand}{lo hi mx:Option Operand}:RX E draw gd bar i ({dst:=d,op:=.slice t x lo hi mx,type:=ty,pos:=pos,after:=after,guard:=none}::l) st Z=match((E.T t).bind fun ti=>Gr st ti (st.ev x) (lo.map st.ev) (hi.map st.ev) (mx.map st.ev))with
   | some c=>RX E draw gd bar (i+1) l (st.put d c) Z
   | none=>match iN E {dst:=d,op:=.slice t x lo hi mx,type:=ty,pos:=pos,after:=after,guard:=none} st with
    | some s=>(draw=true->bar i=true)/\RX E draw gd bar (i+1) l s Z
    | none=>False:=
 N4 (o:={dst:=d,op:=.slice t x lo hi mx,type:=ty,pos:=pos,after:=after,guard:=none}) rfl rfl rfl rfl
@[go_sem] theorem afK{f:FuncId}{first caps:Array Operand}:RX E draw gd bar i ({dst:=d,op:=.makeFunc (.func f) first caps,type:=ty,pos:=pos,after:=after,guard:=none}::l) st Z=match(if first.size=0/\f<B0 then some (C.clo f (caps.toList.map st.ev))else if caps.size=0 then some (C.clo (f+B0) (first.toList.map st.ev))else none)with
   | some c=>RX E draw gd bar (i+1) l (st.put d c) Z
   | none=>False:=by
 cases h:(if first.size=0/\f<B0 then some (C.clo f (caps.toList.map st.ev))else if caps.size=0 then some (C.clo (f+B0) (first.toList.map st.ev))else none)with
 | none=>exact qN rfl rfl rfl (congrArg (eb _ st) h) (congrArg (qSE _) h)
 | some c=>exact qk rfl rfl (congrArg (eb _ st) h) (congrArg (qSE _) h)
@[go_sem] theorem afN{x:Operand}:RX E draw gd bar i ({dst:=d,op:=.nilCheck x,type:=ty,pos:=pos,after:=after,guard:=none}::l) st Z=match(OY (st.ev x))with
   | some c=>RX E draw gd bar (i+1) l (st.put d c) Z
   | none=>False:=by
 cases h:(OY (st.ev x))with
 | none=>exact qN rfl rfl rfl (congrArg (eb _ st) h) (congrArg (qSE _) h)
 | some c=>exact qk rfl rfl (congrArg (eb _ st) h) (congrArg (qSE _) h)
@[go_sem] theorem ahP{t:TypeId}{parts:Array (Nat×Operand)}:RX E draw gd bar i ({dst:=d,op:=.build t parts,type:=ty,pos:=pos,after:=after,guard:=none}::l) st Z=match((E.T t).bind fun ti=>O6 E ti (parts.toList.map fun x=>(x.1,st.ev x.2)))with
   | some c=>RX E draw gd bar (i+1) l (st.put d c) Z
   | none=>False:=by
 cases h:((E.T t).bind fun ti=>O6 E ti (parts.toList.map fun x=>(x.1,st.ev x.2)))with
 | none=>exact qN rfl rfl rfl (congrArg (eb _ st) h) (congrArg (qSE _) h)
 | some c=>exact qk rfl rfl (congrArg (eb _ st) h) (congrArg (qSE _) h)
end
end
end Go.Abs
namespace Go.Abs
section
variable {E:Env} {st:St} {draw:Bool} {gd:Nat->Option Tmp} {bar:Nat->Bool} {i:Nat} {l:List Oper} {Z:St->Prop} {d:Tmp} {ty:TypeId} {pos:String} {after:Array Edge}
def okD(E:Env)(draw:Bool)(bar:Nat->Bool)(i:Nat)(o:Oper)(st:St):Prop:=
 draw=true->(∃e s,gA E o st=some e/\e.apply st=some s)∨bar i=true
theorem adq{o:Oper}{e:SE}{s:St}(h1:gA E o st=some e)(h2:e.apply st=some s):exe E o st=some s:=by
 obtain⟨d1,o1,t1,p1,a1,g1⟩:=o;have:=F4 (E:=E) (ops:=#[]) (o:=⟨d1,o1,t1,p1,a1,none⟩) (st:=st) (st':=s);have h3:gA E ⟨d1,o1,t1,p1,a1,none⟩ st=some e:=h1;exact this (by simp[bD,rR,h3,h2])
def KI{o:Oper}(hg:o.guard=none):RX E draw gd bar i (o::l) st Z=match exe E o st with
  | some s=>okD E draw bar i o st/\RX E draw gd bar (i+1) l s Z
  | none=>False:=by
 rw[RX,hg];simp only;cases draw with
 | false=>
  grind[uI,okD]
 | true=>
  grind[uI,okD,adq]
@[go_sem] theorem aho{t:TypeId}:RX E draw gd bar i ({dst:=some d,op:=.alloc t,type:=ty,pos:=pos,after:=after,guard:=none}::l) st Z=match E.T t with
  | some ti=>(draw=true->dN (st.roots d)=true∨bar i=true)/\RX E draw gd bar (i+1) l (OS d ti st) Z
  | none=>False:=by
 rw[KI rfl];simp only[exe,m9,mL,iN];cases ht:E.T t with
 | none=>rfl
 | some ti=>
  simp only
  congr 1
  simp only[okD,gA,ht];refine propext (imp_congr_right fun _=>or_congr ⟨?_,?_⟩ xL)
  .grind[SE.apply]
  .intro h;exact⟨_,_,rfl,by simp only[SE.apply];rw[h]⟩
@[go_sem] theorem aiq{t:TypeId}{x:Operand}:RX E draw gd bar i ({dst:=some d,op:=.box t x,type:=ty,pos:=pos,after:=after,guard:=none}::l) st Z=match E.T t with
  | some ti=>match Tq d ti x st with
   | some s=>okD E draw bar i {dst:=some d,op:=.box t x,type:=ty,pos:=pos,after:=after,guard:=none} st/\RX E draw gd bar (i+1) l s Z
   | none=>False
  | none=>False:=by
 rw[KI rfl];simp only[exe,m9,mL,iN]
 grind
@[go_sem] theorem ae1{t:TypeId}{len:Nat}{parts:Array (Nat×Operand)}:RX E draw gd bar i ({dst:=some d,op:=.buildSlice t len parts,type:=ty,pos:=pos,after:=after,guard:=none}::l) st Z=match E.T t with
  | some ti=>match o7 E d ti len parts.toList st with
   | some s=>okD E draw bar i {dst:=some d,op:=.buildSlice t len parts,type:=ty,pos:=pos,after:=after,guard:=none} st/\RX E draw gd bar (i+1) l s Z
   | none=>False
  | none=>False:=by
 rw[KI rfl];simp only[exe,m9,mL,iN]
 grind
def Tl(E:Env)(t:TypeId)(x v:Operand)(st:St):Bool:=
 match HP E {dst:=none,op:=.store t x v,type:=0,pos := "", after := #[], guard := none} t x v st with
 | some e=>(e.apply st).isSome
 | none=>false
@[go_sem] theorem ag8{t:TypeId}{x v:Operand}:RX E draw gd bar i ({dst:=none,op:=.store t x v,type:=ty,pos:=pos,after:=after,guard:=none}::l) st Z=match E.T t with
  | some ti=>match lS ti (st.ev x) (st.ev v) st with
   | some s=>(draw=true->(bar i || Tl E t x v st)=true)/\RX E draw gd bar (i+1) l s Z
   | none=>False
  | none=>False:=by
 rw[KI rfl];simp only[exe,m9,mL,iN];cases ht:E.T t with
 | none=>rfl
 | some ti=>
  simp only;cases hs:lS ti (st.ev x) (st.ev v) st with
  | none=>rfl
  | some s=>
   simp only[okD,gA]
   congr 1
   refine propext ⟨fun h hd=>?_,fun h hd=>?_⟩
   .rcases h hd with⟨e,s',h1,h2⟩|h
    .simp_all[Tl,HP]
    .simp[h]
   .have:=h hd;rw[nf]at this;rcases this with h|h
    .exact .inr h
    .unfold Tl at h;split at h
     .rename_i e he;obtain⟨s',hs'⟩:=xO.1 h;exact .inl ⟨e,s',he,hs'⟩
     .simp at h
def Wc(E:Env)(d:Nat)(t tx:TypeId)(s x:Operand)(st:St):Option St:=
 match E.T t,E.T tx with
 | some ti,some tix=>match ti.kind with
  | .slice e es=>match(match tix.kind with
    | .slice e' es'=>if e=e'/\es=es' then(match(match E.F d with
      | some false=>(match E.T e with
       | some te=>D5 d es te (st.ev s) (st.ev x) st
       | none=>none)
      | some true=>(match E.T e with
       | some te=>ja d es te tix (st.ev s) (st.ev x) st
       | none=>none)
      | none=>zM d es (st.ev s) (st.ev x) st)with
     | some s'=>some s'
     | none=>BE E d ti s x st)else none
    | _=>none)with
   | some s'=>some s'
   | none=>match E.T e with
    | some te=>ja d es te tix (st.ev s) (st.ev x) st
    | none=>none
  | _=>none
 | _,_=>none
@[go_sem] theorem agC{s x:Operand}{t tx:TypeId}:RX E draw gd bar i ({dst:=some d,op:=.call {callee:=.builtin .append,args:=#[s,x],argTypes:=#[t,tx]},type:=ty,pos:=pos,after:=after,guard:=none}::l) st Z=match Wc E d t tx s x st with
  | some s=>(draw=true->bar i=true)/\RX E draw gd bar (i+1) l s Z
  | none=>False:=by
 rw[KI rfl];have e:exe E {dst:=some d,op:=.call {callee:=.builtin .append,args:=#[s,x],argTypes:=#[t,tx]},type:=ty,pos:=pos,after:=after,guard:=none} st=Wc E d t tx s x st:=by
  simp only[exe,m9,mL,iN,Wc];cases ht:E.T t with
  | none=>rfl
  | some ti=>
   cases htx:E.T tx with
   | none=>rfl
   | some tix=>
    grind
 rw[e];cases Wc E d t tx s x st with
 | none=>rfl
 | some s=>
  simp only[okD,gA]
  congr 1
  simp
def OR:Builtin->Bool
 | .append=>false
 | .copy=>false
 | .cap=>false
 | _=>true
def LA{b:Builtin}{args:Array Operand}{tys:Array TypeId}(hb:OR b=true):RX E draw gd bar i ({dst:=some d,op:=.call {callee:=.builtin b,args:=args,argTypes:=tys},type:=ty,pos:=pos,after:=after,guard:=none}::l) st Z =
  match ov ((tys[0]?).bind E.T) b (args.toList.map st.ev)with
   | some c=>RX E draw gd bar (i+1) l (st.put (some d) c) Z
   | none=>False:=by
 have h0:m9 E {dst:=some d,op:=.call {callee:=.builtin b,args:=args,argTypes:=tys},type:=ty,pos:=pos,after:=after,guard:=none} st=none:=by
  cases b<;>first|rfl|grind[OR]
 have h3:iN E {dst:=some d,op:=.call {callee:=.builtin b,args:=args,argTypes:=tys},type:=ty,pos:=pos,after:=after,guard:=none} st=none:=by
  cases b<;>first|rfl|grind[OR]
 have h1:mL E {dst:=some d,op:=.call {callee:=.builtin b,args:=args,argTypes:=tys},type:=ty,pos:=pos,after:=after,guard:=none} st=eb {dst:=some d,op:=.call {callee:=.builtin b,args:=args,argTypes:=tys},type:=ty,pos:=pos,after:=after,guard:=none} st (ov ((tys[0]?).bind E.T) b (args.toList.map st.ev)):=by
  cases b<;>first|rfl|grind[OR]
 have h2:gA E {dst:=some d,op:=.call {callee:=.builtin b,args:=args,argTypes:=tys},type:=ty,pos:=pos,after:=after,guard:=none} st=qSE {dst:=some d,op:=.call {callee:=.builtin b,args:=args,argTypes:=tys},type:=ty,pos:=pos,after:=after,guard:=none} (ov ((tys[0]?).bind E.T) b (args.toList.map st.ev)):=by
  cases b<;>first|rfl|simp[OR]at hb
 cases h:ov ((tys[0]?).bind E.T) b (args.toList.map st.ev)with
 | none=>exact qN rfl h0 h3 (by rw[h1,h]) (by rw[h2,h])
 | some c=>exact qk rfl h0 (by rw[h1,h]) (by rw[h2,h])
@[go_sem] theorem air{args:Array Operand}{tys:Array TypeId}:RX E draw gd bar i ({dst:=some d,op:=.call {callee:=.builtin .len,args:=args,argTypes:=tys},type:=ty,pos:=pos,after:=after,guard:=none}::l) st Z =
  match ov ((tys[0]?).bind E.T) .len (args.toList.map st.ev)with
   | some c=>RX E draw gd bar (i+1) l (st.put (some d) c) Z
   | none=>False:=LA rfl
@[go_sem] theorem aim{args:Array Operand}{tys:Array TypeId}:RX E draw gd bar i ({dst:=some d,op:=.call {callee:=.builtin .min,args:=args,argTypes:=tys},type:=ty,pos:=pos,after:=after,guard:=none}::l) st Z =
  match ov ((tys[0]?).bind E.T) .min (args.toList.map st.ev)with
   | some c=>RX E draw gd bar (i+1) l (st.put (some d) c) Z
   | none=>False:=LA rfl
@[go_sem] theorem aih{args:Array Operand}{tys:Array TypeId}:RX E draw gd bar i ({dst:=some d,op:=.call {callee:=.builtin .max,args:=args,argTypes:=tys},type:=ty,pos:=pos,after:=after,guard:=none}::l) st Z =
  match ov ((tys[0]?).bind E.T) .max (args.toList.map st.ev)with
   | some c=>RX E draw gd bar (i+1) l (st.put (some d) c) Z
   | none=>False:=LA rfl
@[go_sem] theorem XY{x:Operand}{t:TypeId}:RX E draw gd bar i ({dst:=some d,op:=.call {callee:=.builtin .cap,args:=#[x],argTypes:=#[t]},type:=ty,pos:=pos,after:=after,guard:=none}::l) st Z =
  match ov (E.T t) .cap [st.ev x]with
   | some c=>RX E draw gd bar (i+1) l (st.put (some d) c) Z
   | none=>match iN E {dst:=some d,op:=.call {callee:=.builtin .cap,args:=#[x],argTypes:=#[t]},type:=ty,pos:=pos,after:=after,guard:=none} st with
    | some s=>(draw=true->bar i=true)/\RX E draw gd bar (i+1) l s Z
    | none=>False:=
 N4 (o:={dst:=some d,op:=.call {callee:=.builtin .cap,args:=#[x],argTypes:=#[t]},type:=ty,pos:=pos,after:=after,guard:=none}) rfl rfl rfl rfl
@[go_sem] theorem HK{x s:Operand}{t tx:TypeId}{d:Option Tmp}:RX E draw gd bar i ({dst:=d,op:=.call {callee:=.builtin .copy,args:=#[s,x],argTypes:=#[t,tx]},type:=ty,pos:=pos,after:=after,guard:=none}::l) st Z =
  match iN E {dst:=d,op:=.call {callee:=.builtin .copy,args:=#[s,x],argTypes:=#[t,tx]},type:=ty,pos:=pos,after:=after,guard:=none} st with
   | some s=>(draw=true->bar i=true)/\RX E draw gd bar (i+1) l s Z
   | none=>False:=
 N4 (q:=none) (o:={dst:=d,op:=.call {callee:=.builtin .copy,args:=#[s,x],argTypes:=#[t,tx]},type:=ty,pos:=pos,after:=after,guard:=none}) rfl rfl rfl rfl
@[go_sem] theorem XU{x:Operand}{t:TypeId}{d:Option Tmp}:RX E draw gd bar i ({dst:=d,op:=.call {callee:=.builtin .clear,args:=#[x],argTypes:=#[t]},type:=ty,pos:=pos,after:=after,guard:=none}::l) st Z =
  match iN E {dst:=d,op:=.call {callee:=.builtin .clear,args:=#[x],argTypes:=#[t]},type:=ty,pos:=pos,after:=after,guard:=none} st with
   | some s=>(draw=true->bar i=true)/\RX E draw gd bar (i+1) l s Z
   | none=>False:=
 N4 (q:=none) (o:={dst:=d,op:=.call {callee:=.builtin .clear,args:=#[x],argTypes:=#[t]},type:=ty,pos:=pos,after:=after,guard:=none}) rfl rfl rfl rfl
@[go_sem] theorem afq{t:TypeId}{x c:Operand}:RX E draw gd bar i ({dst:=some d,op:=.makeSlice t x c,type:=ty,pos:=pos,after:=after,guard:=none}::l) st Z =
  match mkX E d t (st.ev x) (st.ev c) st with
   | some s=>(draw=true->bar i=true)/\RX E draw gd bar (i+1) l s Z
   | none=>False:=
 N4 (q:=none) (o:={dst:=some d,op:=.makeSlice t x c,type:=ty,pos:=pos,after:=after,guard:=none}) rfl rfl rfl rfl
@[go_sem] theorem aif{x:Operand}{args:Array Operand}{tys:Array TypeId}:RX E draw gd bar i ({dst:=some d,op:=.call {callee:=.value x,args:=args,argTypes:=tys},type:=ty,pos:=pos,after:=after,guard:=none}::l) st Z =
  match st.ev x with
   | .clo f caps=>if d<H0 then match PB E d (N6 f) (Kd f (args.toList.map st.ev) caps) st with
     | some s=>okD E draw bar i {dst:=some d,op:=.call {callee:=.value x,args:=args,argTypes:=tys},type:=ty,pos:=pos,after:=after,guard:=none} st/\RX E draw gd bar (i+1) l s Z
     | none=>False
    else False
   | _=>False:=by
 rw[KI rfl];simp only[exe,m9,mL,iN,Pv,gC];cases hx:st.ev x<;>simp only
 grind
def adp{o:Oper}:okD E false bar i o st:=fun h=>oZe
theorem aaR{o:Oper}:okD E false bar i o st=True:=eq_true adp
end
end Go.Abs
namespace Go.Abs
@[go_sem] theorem ahY(ts:List C)(R:Nat->C)(d:Nat)(c:C):St.put ⟨ts,R⟩ (some d) c=⟨ts.set d c,R⟩:=rfl
@[go_sem] theorem ahI(st:St)(c:C):st.put none c=st:=rfl
@[go_sem] theorem aip(ts:List C)(R:Nat->C)(t:Nat):St.ev ⟨ts,R⟩ (.tmp t)=(ts[t]?).getD .dead:=rfl
@[go_sem] theorem ait(st:St)(k:IntKind)(n:Int):st.ev (.const (.int k n))=.val (.int k n):=rfl
@[go_sem] theorem ah7(st:St)(b:Bool):st.ev (.const (.bool b))=.val (.bool b):=rfl
@[go_sem] theorem agz(st:St)(b:ByteArray):st.ev (.const (.string b))=.val (.string b):=rfl
@[go_sem] theorem aii(st:St)(n k:Nat):st.ev (.const (.slice none n k))=.val (.slice none n k):=rfl
@[go_sem] theorem ain(st:St)(cs:Array Value):st.ev (.const (.agg cs))=.agg (cs.toList.map .val):=rfl
@[go_sem] theorem aia(st:St)(f:FuncId):st.ev (.func f)=.clo (Q9 f) []:=rfl
@[go_sem] theorem ah6(ops:Array Oper)(j:Nat):jH ops j=(ops[j]?).bind (·.dst):=rfl
@[go_sem] theorem agw(gd:Nat->Option Tmp)(st:St)(j:Nat):Cp gd st j=match gd j with
 | some t=>match st.ev (.tmp t)with
  | .val (.bool b)=>some (some b)
  | .val (.tuple _)=>some none
  | _=>none
 | none=>none:=rfl
def RZ:Nat->C:=fun _=>.dead
@[go_sem] theorem adF(cs:List C):R0 [] cs=RZ:=by funext n;simp[R0,RZ]
@[go_sem] theorem aiz(n:Nat):RZ n=.dead:=rfl
@[go_sem] theorem aic(R:Nat->C)(d:Nat)(a b:C):upd (upd R d a) d b=upd R d b:=by funext n;simp only[upd];split<;>rfl
@[go_sem] theorem ais(d:Nat):upd RZ d .dead=RZ:=by funext n;simp[upd,RZ]
@[go_sem] theorem aik(R:Nat->C)(d:Nat)(a:C)(n:Nat):upd R d a n=if n=d then a else R n:=rfl
def aM.refl(s:St):aM s s:=fun _ _ _ h=>h
def aM.trans{s s' s'':St}(h1:aM s s')(h2:aM s' s''):aM s s'':=fun X a w h=>h2 X a w (h1 X a w h)
end Go.Abs
namespace Go.Abs
section
variable {E:Env} {st:St} {draw:Bool} {gd:Nat->Option Tmp} {bar:Nat->Bool} {i:Nat} {l:List Oper} {Z:St->Prop} {d:Option Tmp} {ty:TypeId} {pos:String} {after:Array Edge}
def jx{j:Nat}{want:Bool}{p:Prop}[inst:Decidable p]{op:Op}(h:Cp gd st j=some (some (decide p)))
  (h1:p->RX E draw gd bar i ({dst:=d,op:=op,type:=ty,pos:=pos,after:=after,guard:=some (j,want)}::l) st Z)
  (h2:¬p->RX E draw gd bar i ({dst:=d,op:=op,type:=ty,pos:=pos,after:=after,guard:=some (j,want)}::l) st Z):
  RX E draw gd bar i ({dst:=d,op:=op,type:=ty,pos:=pos,after:=after,guard:=some (j,want)}::l) st Z:=by
 grind
variable {Q:Exit->St->Prop} {K:List Fm}
def QY{c:Operand}{x y:Code}(hc:st.ev c=.val (.bool true))(h:W E x (ap E Q K) st):W E (.cond c x y) (ap E Q K) st:=by
 grind[W]
def Q0{c:Operand}{x y:Code}(hc:st.ev c=.val (.bool false))(h:W E y (ap E Q K) st):W E (.cond c x y) (ap E Q K) st:=by
 grind[W]
def yV{c:Operand}{x y:Code}{p:Prop}[inst:Decidable p](hc:st.ev c=.val (.bool (decide p)))(h1:p->W E x (ap E Q K) st)(h2:¬p->W E y (ap E Q K) st):W E (.cond c x y) (ap E Q K) st:=
 ae4 hc (fun h=>h1 (of_decide_eq_true h)) (fun h=>h2 (of_decide_eq_false h))
@[go_sem] theorem af5(E:Env)(vs:List ResultVar)(ts:List C)(R:Nat->C):Ec E vs ⟨ts,R⟩=match B6 E ⟨ts,R⟩ vs with
 | some cs=>match fo cs with
  | some rs=>some (qB rs)
  | none=>match kV (cs.flatMap bN).length H0 (cs.flatMap bN) .dead ⟨ts,R⟩with
   | some (s1,_)=>some (qB (jf s1.roots H0 cs))
   | none=>none
 | none=>none:=rfl
@[go_sem] theorem ag4(E:Env)(s:St):B6 E s []=some []:=rfl
@[go_sem] theorem agT(E:Env)(ts:List C)(R:Nat->C)(t:Nat)(vs:List ResultVar):B6 E ⟨ts,R⟩ (.tmp t::vs)=match B6 E ⟨ts,R⟩ vs with
 | some cs=>some ((ts[t]?).getD .dead::cs)
 | none=>none:=by
 simp only[B6,Uc];cases B6 E ⟨ts,R⟩ vs<;>rfl
@[go_sem] theorem afU:fo []=some []:=rfl
@[go_sem] theorem af6(k:IntKind)(n:Int)(cs:List C):fo (.val (.int k n)::cs)=match fo cs with
 | some rs=>some (.val (.int k n)::rs)
 | none=>none:=by
 simp only[fo,AV,C.cellOk,Value.oneCell',if_true,C.frz];cases fo cs<;>rfl
@[go_sem] theorem afL(b:Bool)(cs:List C):fo (.val (.bool b)::cs)=match fo cs with
 | some rs=>some (.val (.bool b)::rs)
 | none=>none:=by
 simp only[fo,AV,C.cellOk,Value.oneCell',if_true,C.frz];cases fo cs<;>rfl
@[go_sem] theorem aeZ(b:ByteArray)(cs:List C):fo (.val (.string b)::cs)=match fo cs with
 | some rs=>some (.val (.string b)::rs)
 | none=>none:=by
 simp only[fo,AV,C.cellOk,Value.oneCell',if_true,C.frz];cases fo cs<;>rfl
@[go_sem] theorem afM(cs:List C):fo (.val (.slice none 0 0)::cs)=match fo cs with
 | some rs=>some (.val (.slice none 0 0)::rs)
 | none=>none:=by
 simp only[fo,AV,C.cellOk,Value.oneCell',if_true,C.frz];cases fo cs<;>rfl
@[go_sem] theorem ahL(c:C):qB [c]=c:=rfl
@[go_sem] theorem ahA(c c':C)(cs:List C):qB (c::c'::cs)=.tup (c::c'::cs):=rfl
end
end Go.Abs
namespace Go.Abs
def tab(n:Nat)(f:Nat->C):List C:=(List.range n).map f
def af(f:Nat->C)(d:Nat)(c:C):Nat->C:=fun t=>if t=d then c else f t
def au:Nat->C:=fun _=>.dead
def oU(n:Nat)(f:Nat->C):(tab n f).length=n:=by simp[tab]
theorem fe(n:Nat)(f:Nat->C)(t:Nat):(tab n f)[t]?=if t<n then some (f t)else none:=by
 grind[tab,List.getElem?_range']
theorem ad1(f:Nat->C)(d:Nat)(c:C)(t:Nat):af f d c t=if t=d then c else f t:=rfl
theorem acS(t:Nat):au t=.dead:=rfl
theorem ael(n:Nat)(f:Nat->C)(d:Nat)(c:C):(tab n f).set d c=tab n (af f d c):=by
 apply nP;intro t;rw[nO,fe,fe,oU];by_cases h:d=t
 .simp_all[af]
 .have h':¬t=d:=fun e=>h e.symm
  simp_all[af]
def ad6(n:Nat)(f:Nat->C)(g:C->C):(tab n f).map g=tab n (fun t=>g (f t)):=by
 simp[tab,Function.comp_def]
def zb(g:Nat->aq->Bool)(f:Nat->C):Nat->C:=fun t=>poi g (f t)
theorem aeC(g:Nat->aq->Bool)(f:Nat->C)(t:Nat):zb g f t=poi g (f t):=rfl
theorem Fa(n:Nat)(f:Nat->C)(g:Nat->aq->Bool):(tab n f).map (poi g)=tab n (zb g f):=ad6 n f (poi g)
theorem aeW(g:Nat->aq->Bool)(v:Value):poi g (.val v)=.val v:=rfl
theorem adn(g:Nat->aq->Bool):poi g .dead=.dead:=rfl
theorem afI(g:Nat->aq->Bool)(o:Bool)(nl:Option Bool)(es:Nat)(cap:Option Nat)(rows:List (List C)):poi g (.sl o nl es cap rows)=.sl o nl es cap rows:=rfl
theorem acw(g:Nat->aq->Bool)(es:Nat)(rows:List (List C))(i j:Nat):poi g (.iref es rows i j)=.iref es rows i j:=rfl
theorem ac6(g:Nat->aq->Bool)(n:Nat)(p:aq)(i j:Nat):poi g (.pref n p i j)=if g n p=true then .dead else .pref n p i j:=rfl
theorem adV(g:Nat->aq->Bool)(n:Nat)(p:aq)(lo len:Nat)(cap:Option Nat):poi g (.pal n p lo len cap)=if g n p=true then .dead else .pal n p lo len cap:=rfl
def gI(own:List Bool)(cs:List C):Nat->C:=fun t=>match cs[t]? with
 | some c=>jX own t c
 | none=>.dead
def AY{own:List Bool}{cs:List C}{n:Nat}(h:cs.length<=n):Ep own cs n=⟨tab n (gI own cs),R0 own cs⟩:=by
 unfold Ep
 congr 1
 apply nP;intro t;rw[fe];by_cases h1:t<cs.length
 .rw[na (by rw[oJ];exact h1),Mv];rw[if_pos oZg];simp[gI,h1]
 .rw[ni (by rw[oJ];omega),oJ];by_cases h2:t<n
  .rw[if_pos h2]
   grind[gI]
  simp_all
end Go.Abs
namespace Go.Abs
def Le(c c':C):Prop:=∀(w:World) (S:Nat->Prop) (m m':aq->Value) (p p':aq) (d:Nat) (u:Value),rel w S L0 m false d p c u->rel w S L0 m' false d p' c' u
def fq(c:C):Prop:=∀q,¬ak c q
structure LeL (cs cs':List C):Prop where
 len:cs'.length=cs.length
 get:∀(i:Nat) (c c':C),cs[i]?=some c->cs'[i]?=some c'->Le c c'
structure gy (rs rs':List (List C)):Prop where
 len:rs'.length=rs.length
 get:∀(i:Nat) (r r':List C),rs[i]?=some r->rs'[i]?=some r'->LeL r r'
theorem Le.refl(c:C):Le c c:=fun w S m m' p p' d u h=>bY h
def LeL.refl(cs:List C):LeL cs cs:=⟨rfl,fun i c c' h h'=>by rw[h]at h';simp only[cc]at h';exact h'▸Le.refl c⟩
def gy.refl(rs:List (List C)):gy rs rs:=⟨rfl,fun i c c' h h'=>by rw[h]at h';simp only[cc]at h';exact h'▸LeL.refl c⟩
theorem LeL.nil:LeL [] []:=LeL.refl []
theorem LeL.cons{a b:C}{as bs:List C}(h:Le a b)(t:LeL as bs):LeL (a::as) (b::bs):=by
 refine⟨by simp[t.len],?_⟩;intro i c c' h1 h2;cases i with
 | zero=>simp only[cG,cc]at h1 h2;subst h1;subst h2;exact h
 | succ i=>exact t.get i c c' (by simpa using h1) (by simpa using h2)
def gy.map{α:Type}{f g:α->List C}(h:∀x,LeL (f x) (g x))(l:List α):gy (l.map f) (l.map g):=by
 refine⟨oZk,?_⟩;intro i r r' h1 h2;simp only[cz,cq]at h1 h2;obtain⟨x,e1,rfl⟩:=h1;obtain⟨y,e2,rfl⟩:=h2;rw[e1]at e2;simp only[cc]at e2;subst e2;exact h x
theorem Le.nils{o:Bool}{es:Nat}:Le (.val (.slice none 0 0)) (.sl o none es none []):=by
 intro w S m m' p p' d u h;cases d with
 | zero=>exact h.elim
 | succ d=>
  have hu:u=.slice none 0 0:=h;subst hu;exact⟨none,0,rfl,ck _,oZh,oZk,oZk,oZk,oZk,.inl rfl⟩
theorem Le.sl{o o':Bool}{nl:Option Bool}{es:Nat}{cap:Option Nat}{rows rows':List (List C)}(h:gy rows rows'):Le (.sl o nl es cap rows) (.sl o' none es none rows'):=by
 intro w S m m' p p' d u hr;cases d with
 | zero=>exact hr.elim
 | succ d=>
  obtain⟨a,k,h1,h2,h3,h4,hz,h5,h6,h7⟩:=hr;refine⟨a,k,by rw[h.len];exact h1,by rw[h.len];exact h2,h3,oZk,⟨oZk,hz.2⟩,?_,oZk,?_⟩
  .intro row hrow;obtain⟨i,hi⟩:=nS.1 hrow;have hlt:i<rows.length:=by rw[<-h.len];exact(cg.1 hi).1
   have hle:=h.get i rows[i] row (by simp[hlt]) hi;rw[hle.len];exact h5 _ (nx hlt)
  .rcases h7 with h7|h7|⟨b,off,arr,elem,frz,g1,g2,g3,g4,g5⟩
   .exact .inl h7
   .refine .inr (.inl ⟨oZk,?_⟩);have:=h.len;rw[h7.2]at this;exact ai6.1 this
   .refine .inr (.inr ⟨b,off,arr,elem,frz,g1,g2,fun _=>g3 oZk,oZk,?_⟩);intro i j row' c' e1 e2;have hlt:i<rows.length:=by rw[<-h.len];exact(cg.1 e1).1
    have hle:=h.get i rows[i] row' (by simp[hlt]) e1;have hlt2:j<rows[i].length:=by rw[<-hle.len];exact(cg.1 e2).1
    have hle2:=hle.get j rows[i][j] c' (by simp[hlt2]) e2;obtain⟨u',f1,f2⟩:=g5 i j rows[i] rows[i][j] (by simp[hlt]) (by simp[hlt2]);refine⟨u',f1,?_⟩;simp only[nX]at f2 ⊢;exact hle2 _ _ _ _ _ _ _ _ f2
def Le.agg{cs cs':List C}(h:LeL cs cs'):Le (.agg cs) (.agg cs'):=by
 intro w S m m' p p' d u hr;cases d with
 | zero=>exact hr.elim
 | succ d=>
  obtain⟨arr,h1,h2,h3⟩:=hr;refine⟨arr,h1,by rw[h.len];exact h2,fun j c' e=>?_⟩;have hlt:j<cs.length:=by rw[<-h.len];exact(cg.1 e).1
  obtain⟨u',f1,f2⟩:=h3 j cs[j] (by simp[hlt]);exact⟨u',f1,h.get j cs[j] c' (by simp[hlt]) e _ _ _ _ _ _ _ _ f2⟩
def Le.clo{f:Nat}{cs cs':List C}(h:LeL cs cs'):Le (.clo f cs) (.clo f cs'):=by
 intro w S m m' p p' d u hr;cases d with
 | zero=>exact hr.elim
 | succ d=>
  obtain⟨arr,h1,h2,h3⟩:=hr;refine⟨arr,h1,by rw[h.len];exact h2,fun j c' e=>?_⟩;have hlt:j<cs.length:=by rw[<-h.len];exact(cg.1 e).1
  obtain⟨u',f1,f2⟩:=h3 j cs[j] (by simp[hlt]);exact⟨u',f1,h.get j cs[j] c' (by simp[hlt]) e _ _ _ _ _ _ _ _ f2⟩
def fq.val(v:Value):fq (.val v):=by
 intro q h;cases q<;>simp[ak,C.at,C.kid,C.isOwn]at h
def fq.sl(nl:Option Bool)(es:Nat)(cap:Option Nat)(rows:List (List C)):fq (.sl false nl es cap rows):=by
 intro q h;cases q<;>simp[ak,C.at,C.kid,C.isOwn]at h
def Ju{w:World}{S:Nat->Prop}:∀(d:Nat) {m m':aq->Value} {p p':aq} {c:C} {u:Value},fq c->rel w S L0 m false d p c u->rel w S L0 m' true d p' c u:=by
 intro d
 induction d with
 | zero=>intro m m' p p' c u _ h;exact h.elim
 | succ d ih=>
  intro m m' p p' c u hn h;cases c with
  | dead=>trivial
  | val v=>exact h
  | sl own nl es cap rows=>
   have ho:own=false:=by
    cases own with
    | false=>rfl
    | true=>exact(hn [] (by simp[ak,C.at,C.isOwn])).elim
   subst ho;obtain⟨a,k,h1,h2,h3,h4,hz,h5,h6,h7⟩:=h;refine⟨a,k,h1,h2,h3,h4,hz,h5,oZk,?_⟩
   grind[bY]
  | agg cs=>
   obtain⟨arr,h1,h2,h3⟩:=h;refine⟨arr,h1,h2,fun j c' e=>?_⟩;obtain⟨u',e1,e2⟩:=h3 j c' e;refine⟨u',e1,ih ?_ e2⟩;intro q hq;exact hn ((0,j)::q) (by simp only[ak,C.at,C.kid,if_true,e,cb];exact hq)
  | tup cs=>
   obtain⟨arr,h1,h2,h3⟩:=h;refine⟨arr,h1,h2,fun j c' e=>?_⟩;obtain⟨u',e1,e2⟩:=h3 j c' e;refine⟨u',e1,ih ?_ e2⟩;intro q hq;exact hn ((0,j)::q) (by simp only[ak,C.at,C.kid,if_true,e,cb];exact hq)
  | clo f cs=>
   obtain⟨arr,h1,h2,h3⟩:=h;exact⟨arr,h1,h2,fun j c' e=>let⟨u',e1,e2⟩:=h3 j c' e;⟨u',e1,bY e2⟩⟩
  | iref es rows i j=>
   obtain⟨b,off,arr,elem,frz,g1,g2,g3,g4,g5⟩:=h;exact⟨b,off,arr,elem,frz,g1,g2,g3,g4,fun i j row c' e1 e2=>let⟨u',e3,e4⟩:=g5 i j row c' e1 e2;⟨u',e3,bY e4⟩⟩
  | pref n p i j=>exact h
  | pal n p lo len cap=>exact h
def Zl(cs:List C):R0 [] cs=fun _=>.dead:=by funext n;simp[R0]
def od{cs:List C}{m:Nat->aq->Value}{b:Nat}:¬aJ (R0 [] cs) m b:=by
 rintro⟨n,p,h1,h2⟩;exact aY h1
def Con.args{P:Program}{f:FuncId}{pure:Bool}{cs cs':List C}{r:C}(h:Con P f [] pure cs' r)(hle:LeL cs cs'):Con P f [] pure cs r:=by
 intro w S m us hl hr hinj;have key:∀(i:Nat) (c:C),cs'[i]?=some c->∃u d,us[i]?=some u/\rel w (fun b=>S b/\¬aJ (R0 [] cs') m b) L0 (m i) (([]:List Bool).getD i false) d [] c u:=by
  intro i c' hc;have hlt:i<cs.length:=by rw[<-hle.len];exact(cg.1 hc).1
  obtain⟨u,d,h1,h2⟩:=hr i cs[i] (by simp[hlt]);refine⟨u,d,h1,?_⟩;have h3:=hle.get i cs[i] c' (by simp[hlt]) hc w _ (m i) (m i) [] [] d u h2;exact az (fun b _ hb=>⟨⟨hb.1,od⟩,rfl⟩) d (fun _ _ _ h=>h) (fun h=>by simp at h) (fun h=>by simp at h) h3
 have hinj':Inj (R0 [] cs') m:=by
  intro n p n' p' b h1;exact(aY h1).elim
 have:=h w S m us (by rw[hl,hle.len]) key hinj';have e:∀b,aJ (R0 [] cs') m b↔aJ (R0 [] cs) m b:=fun b=>⟨fun h=>(od h).elim,fun h=>(od h).elim⟩;have e2:aJ (R0 [] cs') m=aJ (R0 [] cs) m:=funext fun b=>propext (e b)
 simp_all
inductive ROk:C->C->Prop
 | refl (r:C):ROk r r
 | of (r:C) {r0:C} (h:Le r0 r) (hn:fq r):ROk r0 r
 | nil (es:Nat):ROk (.val (.slice none 0 0)) (.sl true none es none [])
 | own {nl:Option Bool} {es:Nat} {cap:Option Nat} {rows rows':List (List C)} (h:gy rows rows') (hn:∀row∈rows',∀c∈row,fq c):ROk (.sl true nl es cap rows) (.sl true none es none rows')
 | agg {as bs:List C} (hl:bs.length=as.length) (h:∀(i:Nat) (a b:C),as[i]?=some a->bs[i]?=some b->ROk a b):ROk (.agg as) (.agg bs)
 | tup {as bs:List C} (hl:bs.length=as.length) (h:∀(i:Nat) (a b:C),as[i]?=some a->bs[i]?=some b->ROk a b):ROk (.tup as) (.tup bs)
def aeF:∀(i:Nat) (a b:C),([]:List C)[i]?=some a->([]:List C)[i]?=some b->ROk a b:=fun i a b h=>oZe
def acH{a b:C}{as bs:List C}(h:ROk a b)(t:∀(i:Nat) (a b:C),as[i]?=some a->bs[i]?=some b->ROk a b):∀(i:Nat) (c d:C),(a::as)[i]?=some c->(b::bs)[i]?=some d->ROk c d:=by
 intro i c d h1 h2;cases i with
 | zero=>simp only[cG,cc]at h1 h2;subst h1;subst h2;exact h
 | succ i=>exact t i c d (by simpa using h1) (by simpa using h2)
def ROk.ownAt{c c':C}(h:ROk c c'):∀{q:aq},ak c' q->ak c q∨c.at q=some (.val (.slice none 0 0)):=by
 induction h with
 | refl r=>intro q hq;exact .inl hq
 | of r hle hn=>intro q hq;exact(hn q hq).elim
 | nil es=>
  intro q hq;cases q with
  | nil=>exact .inr rfl
  | cons s q=>simp[ak,C.at,C.kid]at hq
 | own h hn=>
  rename_i nl es cap rows rows';intro q hq;cases q with
  | nil=>exact .inl rfl
  | cons s q=>
   simp only[ak,C.at,C.kid]at hq;cases hr:rows'[s.1]? with
   | none=>simp[hr]at hq
   | some row=>
    simp only[hr,cb]at hq;cases hc:row[s.2]? with
    | none=>simp[hc]at hq
    | some c1=>
     simp only[hc,cb]at hq;exact(hn row (cd hr) c1 (cd hc) q hq).elim
 | agg hl h ih=>
  rename_i cs ds;intro q hq;cases q with
  | nil=>simp[ak,C.at,C.isOwn]at hq
  | cons s q=>
   simp only[ak,C.at,C.kid]at hq;by_cases hs:s.1=0
   .simp only[hs,if_true]at hq;cases hd:ds[s.2]? with
    | none=>simp[hd]at hq
    | some b=>
     simp only[hd,cb]at hq;have hlt:=(cg.1 hd).1;rw[hl]at hlt;have ha:cs[s.2]?=some cs[s.2]:=by simp[hlt]
     rcases ih s.2 _ _ ha hd hq with h1|h1
     .left;simp only[ak,C.at,C.kid,hs,if_true,ha,cb];exact h1
     simp_all[C.at,C.kid,cb]
   simp_all
 | tup hl h ih=>
  rename_i cs ds;intro q hq;cases q with
  | nil=>simp[ak,C.at,C.isOwn]at hq
  | cons s q=>
   simp only[ak,C.at,C.kid]at hq;by_cases hs:s.1=0
   .simp only[hs,if_true]at hq;cases hd:ds[s.2]? with
    | none=>simp[hd]at hq
    | some b=>
     simp only[hd,cb]at hq;have hlt:=(cg.1 hd).1;rw[hl]at hlt;have ha:cs[s.2]?=some cs[s.2]:=by simp[hlt]
     rcases ih s.2 _ _ ha hd hq with h1|h1
     .left;simp only[ak,C.at,C.kid,hs,if_true,ha,cb];exact h1
     simp_all[C.at,C.kid,cb]
   simp_all
open Classical in
noncomputable def EB(c:C)(m:aq->Value)(p:aq)(q:aq):Value:=if c.at q=some (.val (.slice none 0 0))then .slice none 0 0 else m (p++q)
open Classical in
theorem Fz{c:C}{m:aq->Value}{p q:aq}(h:ak c q):EB c m p q=m (p++q):=by
 unfold EB;split
 .rename_i e;rw[ak,e]at h;simp[C.isOwn]at h
 .rfl
def Uk{w:World}{S S':Nat->Prop}{m m':aq->Value}(hS:∀b,S b->S' b){c c':C}(h:ROk c c'):∀(d:Nat) {p p':aq} {u:Value},
  (∀q,ak c' q->m' (p'++q)=EB c m p q)->(∀q b,ak c q->¬ak c' q->blk (m (p++q))=some b->S' b) ->
  rel w S L0 m true d p c u->rel w S' L0 m' true (d+1) p' c' u:=by
 induction h with
 | refl r=>
  intro d p p' u hm _ hr;exact aW d (d+1) (n7 _) (az (fun b _ hb=>⟨hS b hb,rfl⟩) d (fun _ _ _ h=>h) (fun _ _ _ _ _ _=>rfl) (fun _ q hq=>by rw[hm q hq,Fz hq]) hr)
 | of r hle hn=>
  intro d p p' u hm hO hr;have a1:=tU (S:=S) (S':=S') (m:=m) (m':=m) (p:=p) (p':=p) hS d (fun _ q b hq hb=>hO q b hq (hn q) hb) hr;exact aW d (d+1) (n7 _) (Ju d hn (hle _ _ _ m _ p d u a1))
 | nil es=>
  intro d p p' u hm hO hr;cases d with
  | zero=>exact hr.elim
  | succ d=>
   have hu:u=.slice none 0 0:=hr;refine⟨none,0,hu,ck _,cQ _,oZk,⟨oZk,oZk⟩,oZk,?_,.inl rfl⟩;intro _;have:=hm [] rfl;rw[nn]at this;rw[hu,this];simp[EB,C.at]
 | own h hn=>
  rename_i nl es cap rows rows';intro d p p' u hm hO hr;cases d with
  | zero=>exact hr.elim
  | succ d=>
   obtain⟨a,k,h1,h2,h3,h4,hz,h5,h6,h7⟩:=hr;have hm0:m' p'=m p:=by
    have:=hm [] rfl;rw[Fz (c:=.sl true nl es cap rows) (q:=[]) rfl]at this;simpa using this
   refine⟨a,k,by rw[h.len];exact h1,by rw[h.len];exact h2,h3,oZk,⟨oZk,hz.2⟩,?_,fun _=>by rw[hm0];exact h6 rfl,?_⟩
   .intro row' hrow;obtain⟨i,hi,e⟩:=ai8 hrow;have hlt:i<rows.length:=by rw[<-h.len];exact hi
    have:=h.get i rows[i] row' (by simp[hlt]) (by simp[hi,e]);rw[this.len];exact h5 _ (nx hlt)
   .rcases h7 with h7|h7|⟨b,off,arr,elem,frz,g1,g2,g3,g4,g5⟩
    .exact .inl h7
    .simp at h7
    .refine .inr (.inr ⟨b,off,arr,elem,frz,g1,g2,fun h=>oZe,g4,?_⟩);intro i j row' c' e1 e2;have hlt:i<rows.length:=by rw[<-h.len];exact(cg.1 e1).1
     have hrow:rows[i]?=some rows[i]:=by simp[hlt]
     have hle:=h.get i rows[i] row' hrow e1;have hltj:j<rows[i].length:=by rw[<-hle.len];exact(cg.1 e2).1
     have hc:rows[i][j]?=some rows[i][j]:=by simp[hltj]
     obtain⟨u',e3,e4⟩:=g5 i j _ _ hrow hc;have hnc:=hn row' (cd e1) c' (cd e2);refine⟨u',e3,aW d (d+1) (n7 _) (Ju d hnc (hle.get j _ c' hc e2 _ _ _ m _ p d u' (tU (S:=S) (S':=S') (m:=m) (m':=m) (p:=p++[(i,j)]) (p':=p) hS d ?_ e4)))⟩;intro _ q b' hq hb;refine hO ((i,j)::q) b' ?_ ?_ (by simpa using hb)
     .simp only[ak,C.at,C.kid,hrow,cb,hc];exact hq
     .simp only[ak,C.at,C.kid,e1,cb,e2];exact hnc q
 | agg hl h ih=>
  rename_i cs ds;intro d p p' u hm hO hr;cases d with
  | zero=>exact hr.elim
  | succ d=>
   obtain⟨arr,h1,h2,h3⟩:=hr;refine⟨arr,h1,by rw[hl];exact h2,fun j c' e=>?_⟩;have hlt:=(cg.1 e).1;rw[hl]at hlt;have ha:cs[j]?=some cs[j]:=by simp[hlt]
   obtain⟨u',e1,e2⟩:=h3 j _ ha;refine⟨u',e1,ih j _ _ ha e d ?_ ?_ e2⟩
   .intro q hq;have:=hm ((0,j)::q) (by simp only[ak,C.at,C.kid,if_true,e,cb];exact hq);have e3:(C.agg cs).at ((0,j)::q)=cs[j].at q:=by simp only[C.at,C.kid,if_true,ha,cb]
    unfold EB at this ⊢;rw[e3]at this;simpa using this
   .intro q b hq hnq hb;refine hO ((0,j)::q) b (by simp only[ak,C.at,C.kid,if_true,ha,cb];exact hq) ?_ (by simpa using hb);simp only[ak,C.at,C.kid,if_true,e,cb];exact hnq
 | tup hl h ih=>
  rename_i cs ds;intro d p p' u hm hO hr;cases d with
  | zero=>exact hr.elim
  | succ d=>
   obtain⟨arr,h1,h2,h3⟩:=hr;refine⟨arr,h1,by rw[hl];exact h2,fun j c' e=>?_⟩;have hlt:=(cg.1 e).1;rw[hl]at hlt;have ha:cs[j]?=some cs[j]:=by simp[hlt]
   obtain⟨u',e1,e2⟩:=h3 j _ ha;refine⟨u',e1,ih j _ _ ha e d ?_ ?_ e2⟩
   .intro q hq;have:=hm ((0,j)::q) (by simp only[ak,C.at,C.kid,if_true,e,cb];exact hq);have e3:(C.tup cs).at ((0,j)::q)=cs[j].at q:=by simp only[C.at,C.kid,if_true,ha,cb]
    unfold EB at this ⊢;rw[e3]at this;simpa using this
   .intro q b hq hnq hb;refine hO ((0,j)::q) b (by simp only[ak,C.at,C.kid,if_true,ha,cb];exact hq) ?_ (by simpa using hb);simp only[ak,C.at,C.kid,if_true,e,cb];exact hnq
def Wn{w w':World}{S:Nat->Prop}{pure:Bool}{O:Nat->Prop}{F:Prop}{r0 r:C}{u:Value}(hok:ROk r0 r)
  (h:∃mr d,rel w' (fun b=>((pure=false/\S b)∨w.heap.size<=b)/\¬jM r0 mr b) L0 mr true d [] r0 u ∧
   (∀q q' b,ak r0 q->ak r0 q'->blk (mr q)=some b->blk (mr q')=some b->q=q')∧
   (∀b,jM r0 mr b->w.heap.size<=b∨O b)/\F) (hO:∀b,O b->(pure=false/\S b)∨w.heap.size<=b):
  ∃mr d,rel w' (fun b=>((pure=false/\S b)∨w.heap.size<=b)/\¬jM r mr b) L0 mr true d [] r u ∧
   (∀q q' b,ak r q->ak r q'->blk (mr q)=some b->blk (mr q')=some b->q=q')∧
   (∀b,jM r mr b->w.heap.size<=b∨O b)/\F:=by
 obtain⟨mr,d,h1,h2,h3,h4⟩:=h;have key:∀q b,ak r q->blk (EB r0 mr [] q)=some b->ak r0 q/\blk (mr q)=some b:=by
  intro q b hq hb;rcases hok.ownAt hq with h|h
  .rw[Fz h]at hb;exact⟨h,hb⟩
  .simp[EB,h,blk]at hb
 refine⟨EB r0 mr [],d+1,?_,?_,?_,h4⟩
 .refine Uk (p:=[]) (p':=[]) ?_ hok d (fun q hq=>by simp) ?_ h1
  .rintro b ⟨hb,hn⟩;exact⟨hb,fun⟨q,hq,e⟩=>hn ⟨q,key q b hq e⟩⟩
  .intro q b hq hnq hb;refine⟨?_,?_⟩
   .rcases h3 b ⟨q,hq,hb⟩with h|h
    .exact .inr h
    .exact hO b h
   .rintro⟨q',hq',e⟩;obtain⟨e1,e2⟩:=key q' b hq' e;obtain rfl:=h2 q q' b hq e1 hb e2;exact hnq hq'
 .intro q q' b hq hq' e e';obtain⟨a1,a2⟩:=key q b hq e;obtain⟨a3,a4⟩:=key q' b hq' e';exact h2 q q' b a1 a3 a2 a4
 .rintro b ⟨q,hq,e⟩;exact h3 b ⟨q,key q b hq e⟩
def LD.mono{P:Program}{f:FuncId}{us:List Value}{w:World}{Q Q':Value->World->Prop}(h:LD P f us w Q)(hq:∀u w',Q u w'->Q' u w'):LD P f us w Q':=by
 rcases h with⟨h1,h2⟩|⟨u,w',h1,h2⟩
 .exact .inl ⟨h1,h2.mono fun e w' ⟨u,e1,e2⟩=>⟨u,e1,hq u w' e2⟩⟩
 .exact .inr ⟨u,w',h1,hq u w' h2⟩
def Con.res{P:Program}{f:FuncId}{pure:Bool}{cs:List C}{r0 r:C}(h:Con P f [] pure cs r0)(hok:ROk r0 r):Con P f [] pure cs r:=by
 intro w S m us hl hr hinj;exact(h w S m us hl hr hinj).mono fun u w' hq=>Wn hok hq (fun b h=>(od h).elim)
def Tw(E:Env)(vs:List ResultVar)(pure:Bool)(r:C):Exit->St->Prop:=fun e s=>(e=.ret∨e=.normal)/\∃r0,Ec E vs s=some r0/\ROk r0 r/\(pure=true->bF r0)
theorem acs{E:Env}{vs:List ResultVar}{pure:Bool}{r:C}{s:St}:Tw E vs pure r .ret s=∃r0,Ec E vs s=some r0/\ROk r0 r/\(pure=true->bF r0):=by simp[Tw]
structure Jy (P:Program) (f:FuncId) (fn:Func) (body:Code):Prop where
 get:P.funcs[f]?=some fn
 bd:fn.body=some body
 name:(fn.name == "runtime.NumGoroutine")= false
 ok:ly body=true
def bF.val(v:Value):bF (.val v):=by
 intro w S S' m d p u h;cases d with
 | zero=>exact h.elim
 | succ d=>exact h
def bF.agg{cs:List C}(h:∀c∈cs,bF c):bF (.agg cs):=by
 intro w S S' m d p u hr;cases d with
 | zero=>exact hr.elim
 | succ d=>
  obtain⟨arr,h1,h2,h3⟩:=hr;exact⟨arr,h1,h2,fun j c' e=>let⟨u',e1,e2⟩:=h3 j c' e;⟨u',e1,h c' (cd e) _ _ _ _ _ _ _ e2⟩⟩
def bF.tup{cs:List C}(h:∀c∈cs,bF c):bF (.tup cs):=by
 intro w S S' m d p u hr;cases d with
 | zero=>exact hr.elim
 | succ d=>
  obtain⟨arr,h1,h2,h3⟩:=hr;exact⟨arr,h1,h2,fun j c' e=>let⟨u',e1,e2⟩:=h3 j c' e;⟨u',e1,h c' (cd e) _ _ _ _ _ _ _ e2⟩⟩
def bF.sl{nl:Option Bool}{es:Nat}{cap:Option Nat}{rows:List (List C)}(h:∀row∈rows,∀c∈row,bF c):bF (.sl true nl es cap rows):=by
 intro w S S' m d p u hr;cases d with
 | zero=>exact hr.elim
 | succ d=>
  obtain⟨a,k,h1,h2,h3,h4,hz,h5,h6,h7⟩:=hr;refine⟨a,k,h1,h2,h3,h4,hz,h5,h6,?_⟩;rcases h7 with h7|h7|⟨b,off,arr,elem,frz,g1,g2,g3,g4,g5⟩
  .exact .inl h7
  .exact .inr (.inl h7)
  .refine .inr (.inr ⟨b,off,arr,elem,frz,g1,g2,fun e=>by simp at e,g4,fun i j row c' e1 e2=>?_⟩);obtain⟨u',e3,e4⟩:=g5 i j row c' e1 e2;exact⟨u',e3,h row (cd e1) c' (cd e2) _ _ _ _ _ _ _ e4⟩
def wv.len{s:St}(h:wv s){t:Nat}{o:Bool}{nl:Option Bool}{es:Nat}{cap:Option Nat}{rows:List (List C)}(ht:s.tmps[t]?=some (.sl o nl es cap rows)):rows.length<=maxLen:=by
 obtain⟨X,a,w,m,H⟩:=h;obtain⟨u,d,h1,h2⟩:=H.tmp t _ ht;cases d with
 | zero=>exact h2.elim
 | succ d=>obtain⟨a,k,h1,h2,h3,_⟩:=h2;omega
def wv.lenR{s:St}(h:wv s){n:Nat}{o:Bool}{nl:Option Bool}{es:Nat}{cap:Option Nat}{rows:List (List C)}(ht:s.roots n=.sl o nl es cap rows):rows.length<=maxLen:=by
 obtain⟨X,a,w,m,H⟩:=h;obtain⟨u,d,h2⟩:=H.root n;rw[ht]at h2;cases d with
 | zero=>exact h2.elim
 | succ d=>obtain⟨a,k,h1,h2,h3,_⟩:=h2;omega
end Go.Abs
namespace Go.Abs
def SX{n:Nat}{f g:Nat->C}{R R':Nat->C}(hr:∀k,R' k=R k∨R' k=.dead)
  (ht:∀t,t<n->g t=.dead∨(g t=f t/\(g t).ment (fun k _=>dN (R' k)) 3=false)):aM ⟨tab n f,R⟩ ⟨tab n g,R'⟩:=by
 rintro X a w ⟨m,H⟩;have hown:∀k p,ak (R' k) p->ak (R k) p/\R' k=R k:=by
  grind[aY]
 have hS:∀b,b<w.heap.size->X.S R m b->X.S R' m b/\w.heap[b]?=w.heap[b]?:=by
  intro b _ hs;exact⟨⟨hs.1,fun⟨k,p,h1,h2⟩=>hs.2 ⟨k,p,(hown k p h1).1,h2⟩⟩,rfl⟩
 refine⟨m,⟨by rw[H.len];simp[oU],?_,?_,?_,?_,H.fr,H.df⟩⟩
 .intro t c hc;rw[fe]at hc;split at hc
  case isFalse=>simp at hc
  rename_i hlt;simp only[cc]at hc;subst hc;have hsz:t<a.tmps.size:=by rw[H.len];simp[oU,hlt]
  rcases ht t hlt with h|⟨h,hm⟩
  .exact⟨a.tmps[t],1,by simp[hsz],by rw[h];trivial⟩
  .obtain⟨u,d,h1,h2⟩:=H.tmp t (f t) (by simp_all[fe]);refine⟨u,d,h1,?_⟩;rw[h];rw[h]at hm;refine az hS d ?_ (fun h=>by simp at h) (fun h=>by simp at h) h2;intro v uv ho hl;obtain⟨k,p,e1,e2⟩:=jB d 3 (f t) v hm ho;refine mn e1 rfl ?_ hl;intro nl es cap rows he;rcases hr k with h'|h'
   .grind
   simp_all[dN]
 .intro k;rcases hr k with h|h
  .obtain⟨u,d,h1⟩:=H.root k;refine⟨u,d,?_⟩;simp only[h];refine az hS d (fun _ _ _ h=>h) (fun _ q b ho hb hlt=>rfl) (fun _ q ho=>rfl) h1
  .exact⟨undef,1,by simp only[h];trivial⟩
 .intro k p k' p' b h1 h2 h3 h4;exact H.inj k p k' p' b (hown k p h1).1 (hown k' p' h2).1 h3 h4
 .intro k p b h1 h2;exact H.own k p b (hown k p h1).1 h2
theorem aa6{n:Nat}{f R':Nat->C}:∀t,t<n->au t=.dead∨(au t=f t/\(au t).ment (fun k _=>dN (R' k)) 3=false):=fun _ _=>.inl rfl
def Z1{n:Nat}{f g R':Nat->C}{d:Nat}{c:C}(h0:f d=c)(hm:c.ment (fun k _=>dN (R' k)) 3=false)
  (h:∀t,t<n->g t=.dead∨(g t=f t/\(g t).ment (fun k _=>dN (R' k)) 3=false)):∀t,t<n->af g d c t=.dead∨(af g d c t=f t/\(af g d c t).ment (fun k _=>dN (R' k)) 3=false):=by
 grind[af]
theorem abO{R:Nat->C}:∀k,RZ k=R k∨RZ k=.dead:=fun _=>.inr rfl
def ZX{R R':Nat->C}{d:Nat}{c:C}(h0:R d=c)(h:∀k,R' k=R k∨R' k=.dead):∀k,upd R' d c k=R k∨upd R' d c k=.dead:=by
 grind[upd]
def fm{n:Nat}{f:Nat->C}{R:Nat->C}(t d es:Nat)(hd:R d=.dead)(ht:f t=.val (.slice none 0 0)):
  aM ⟨tab n f,R⟩ ⟨tab n (af f t (.pal d [] 0 0 none)),upd R d (.sl true none es none [])⟩:=by
 rintro X a w ⟨m,H⟩;obtain⟨H1,_⟩:=H.adopt (d:=d) hd es none;refine⟨_,⟨by rw[H.len];simp[oU],?_,H1.root,H1.inj,H1.own,H1.fr,H1.df⟩⟩;intro t' c hc;rw[fe]at hc;split at hc
 case isFalse=>simp at hc
 rename_i hlt;simp only[cc]at hc;by_cases e:t'=t
 .subst e;simp only[af,if_true]at hc;subst hc;obtain⟨u,dd,h1,h2⟩:=H.tmp t' (f t') (by simp_all[fe]);rw[ht]at h2;have hu:u=.slice none 0 0:=by
   cases dd with
   | zero=>exact h2.elim
   | succ dd=>exact h2
  subst hu;refine⟨_,1,h1,?_⟩;simp only[rel,Lv];refine⟨none,es,none,[],none,0,none,0,by simp[aI,C.at],by simp[bz],oZk,rfl,oZg,oZg,oZk,oZk,.inl rfl⟩
 .simp only[af,e,if_false]at hc;exact H1.tmp t' c (by simp_all[adopt,fe])
end Go.Abs
namespace Go.Abs
def pG{n:Int}(h1:-9223372036854775808<=n)(h2:n<=9223372036854775807):IntKind.i64.wrap n=n:=
 Zp ⟨h1,h2⟩
theorem bn{i n:Nat}(h:i<n)(hn:n<=maxLen):IntKind.i64.wrap ((i:Int)+1)=((i+1:Nat):Int):=by
 unfold maxLen at hn;rw[pG oZg oZg];rfl
@[irreducible] def gx{α β:Type}(l:List α)(i:Int)(k:α->Option β):Option β:=if 0<=i/\i<l.length then l[i.toNat]?.bind k else none
def aQ{α β:Type}{l:List α}{i:Int}{k:α->Option β}{r:β}(h:gx l i k=some r):∃x,(0<=i/\i<l.length)/\l[i.toNat]?=some x/\k x=some r:=by
 grind[gx]
theorem aw{α β:Type}{l:List α}{i:Nat}{k:α->Option β}{x:α}(h:l[i]?=some x):gx l (i:Int) k=k x:=by
 have hlt:=(cg.1 h).1;unfold gx;rw[if_pos ⟨oZg,oZg⟩,cu,h];rfl
def dj{α:Type}(l:List α)(i:Nat)(h:i<=l.length):(∃x,i<l.length/\l[i]?=some x/\l.drop i=x::l.drop (i+1))∨(¬i<l.length/\i=l.length/\l.drop i=[]):=by
 grind[List.drop_eq_getElem_cons]
def kf(n i:Nat):(i<n/\n-i=n -(i+1)+1)∨(¬i<n/\n-i=0):=by
 omega
def fE{α:Type}{l:List α}{i:Nat}{x y:α}(h:l[i]?=some x):(l.set i y)[i]?=some y:=by
 grind
section
variable {E:Env} {Q:Exit->St->Prop} {K:List Fm} {st:St}
def Ml{J J':St->Prop}(h:∀s,J s->J' s)(e:Exit)(s:St):ap E Q (.lp J::K) e s->ap E Q (.lp J'::K) e s:=by
 cases e with
 | normal=>exact h s
 | _=>exact id
variable {draw:Bool} {gd:Nat->Option Tmp} {bar:Nat->Bool} {i:Nat} {l:List Oper} {Z:St->Prop} {o:List Oper}
def VB{j:Nat}{want:Bool}{p:Prop}[inst:Decidable p]{d:Option Tmp}{ty:TypeId}{pos:String}{after:Array Edge}{op:Op}(_:Cp gd st j=some (some (!decide p)))
  (h1:¬p->RX E draw gd bar i ({dst:=d,op:=op,type:=ty,pos:=pos,after:=after,guard:=some (j,want)}::l) st Z)
  (h2:p->RX E draw gd bar i ({dst:=d,op:=op,type:=ty,pos:=pos,after:=after,guard:=some (j,want)}::l) st Z):
  RX E draw gd bar i ({dst:=d,op:=op,type:=ty,pos:=pos,after:=after,guard:=some (j,want)}::l) st Z:=by
 grind
def Fe{j:Nat}{want:Bool}{b:Bool}{d:Option Tmp}{ty:TypeId}{pos:String}{after:Array Edge}{op:Op}(_:Cp gd st j=some (some (!b)))
  (h1:b=false->RX E draw gd bar i ({dst:=d,op:=op,type:=ty,pos:=pos,after:=after,guard:=some (j,want)}::l) st Z)
  (h2:b=true->RX E draw gd bar i ({dst:=d,op:=op,type:=ty,pos:=pos,after:=after,guard:=some (j,want)}::l) st Z):
  RX E draw gd bar i ({dst:=d,op:=op,type:=ty,pos:=pos,after:=after,guard:=some (j,want)}::l) st Z:=by
 grind
def wv.lenT{n:Nat}{f:Nat->C}{R:Nat->C}(h:wv ⟨tab n f,R⟩)(t:Nat){o:Bool}{nl:Option Bool}{es:Nat}{cap:Option Nat}{rows:List (List C)}(hlt:t<n)(ht:f t=.sl o nl es cap rows):rows.length<=maxLen:=
 h.len (t:=t) (o:=o) (nl:=nl) (es:=es) (cap:=cap) (by simp_all[fe])
def wv.lenX{n:Nat}{f:Nat->C}{R:Nat->C}(h:wv ⟨tab n f,R⟩)(k:Nat){o:Bool}{nl:Option Bool}{es:Nat}{cap:Option Nat}{rows:List (List C)}(ht:R k=.sl o nl es cap rows):rows.length<=maxLen:=
 h.lenR (n:=k) ht
def wv.cell{n:Nat}{f:Nat->C}{R:Nat->C}(h:wv ⟨tab n f,R⟩)(k j:Nat){o o':Bool}{nl nl':Option Bool}{es es':Nat}{cap cap':Option Nat}{row:List C}{rows:List (List C)}(ht:R k=.sl o nl es cap [row])(hj:row[j]?=some (.sl o' nl' es' cap' rows)):rows.length<=maxLen:=by
 obtain⟨X,a,w,m,H⟩:=h;obtain⟨u,d,h2⟩:=H.root k;rw[show(St.mk (tab n f) R).roots k=R k from rfl,ht]at h2;cases d with
 | zero=>exact h2.elim
 | succ d=>
  obtain⟨a1,k1,h1,h2,h3,h4,hz,h5,h6,h7⟩:=h2;have hk:k1≠0:=oZi;rcases h7 with h7|h7|⟨b,off,arr,elem,frz,g1,g2,g3,g4,g5⟩
  .omega
  .simp at h7
  .obtain⟨u',_,e2⟩:=g5 0 j row _ rfl hj;cases d with
   | zero=>exact e2.elim
   | succ d=>obtain⟨a2,k2,e1,e2,e3,_⟩:=e2;omega
end
end Go.Abs
namespace Go.Abs
section
variable {E:Env} {Q:Exit->St->Prop} {K:List Fm} {st:St}
def WB{c:Code}(h:Wk E c (ap E Q []) st):Wk E c Q st:=h
def eU{c:Code}{Q:Exit->St->Prop}{st':St}(hw:aM st st')(h:Wk E c Q st'):Wk E c Q st:=fun P hT hG hm hc X a w H ts hk=>h P hT hG hm hc X a w (hw X a w H) ts hk
def aN{x y:Code}(h:Wk E x (ap E Q (.sk y::K)) st):Wk E (.seq x y) (ap E Q K) st:=by
 intro P hT hG hm hc X a w H ts hk;simp only[ly,cx]at hc;simp only[mN,cx]at hk;refine wp_seq (wp_mono (h P hT hG hm hc.1 X a w H ts hk.1) ?_);rintro e a' w' ⟨⟨s,hs,H'⟩,hsm⟩;cases e with
 | normal=>exact wp_mono (hs P hT hG hm hc.2 X a' w' H' ts hk.2) fun e a2 w2 h2=>h2.from (hsm.resolve_left oZk)
 | _=>exact⟨⟨s,hs,H'⟩,hsm⟩
def aK{id:Nat}{c:Code}(h:Wk E c (ap E Q (.bl id::K)) st):Wk E (.block id c) (ap E Q K) st:=by
 intro P hT hG hm hc X a w H ts hk;refine wp_block (wp_mono (h P hT hG hm hc X a w H ts hk) ?_);rintro e a' w' ⟨⟨s,hs,H'⟩,hsm⟩;cases e with
 | exit i=>
  simp only[ap]at hs;simp only[Exit.inBlock];have hsm':=hsm.resolve_left oZk;split at hs
  .rename_i hi;rw[if_pos hi];exact .mk' hs H' hsm'
  .rename_i hi;rw[if_neg hi];exact .mk' hs H' hsm'
 | _=>exact⟨⟨s,hs,H'⟩,hsm⟩
def acu{c:Code}(h:Wk E c (ap E Q (.sc::K)) st):Wk E (.scope c) (ap E Q K) st:=by
 intro P hT hG hm hc X a w H ts hk;refine wp_scope_straight (wp_mono (h P hT hG hm hc X a w H ts hk) ?_);rintro e a' w' ⟨⟨s,hs,H'⟩,hsm⟩;cases e with
 | goto l=>exact hs.elim
 | _=>exact⟨⟨s,hs,H'⟩,hsm⟩
def UI{id:Nat}{ops:Array Oper}{draw:Bool}(h:RX E draw (jH ops) (jc ops) 0 ops.toList st (fun s=>(draw=true->wH ops s=true)/\ap E Q K .normal s)):Wk E (.region id ops draw) (ap E Q K) st:=
 K9 (by grind[acm])
def eB{id:Nat}{ops:Array Oper}(h:∀Z:St->Prop,(∀s,ap E Q K .normal s->Z s)->RX E false (jH ops) (jc ops) 0 ops.toList st Z):Wk E (.region id ops false) (ap E Q K) st:=
 UI (h _ fun s hs=>⟨fun h=>oZj,hs⟩)
def o5{id:Nat}{ops:Array Oper}(h:∀Z:St->Prop,(∀s,wH ops s=true->ap E Q K .normal s->Z s)->RX E true (jH ops) (jc ops) 0 ops.toList st Z):Wk E (.region id ops true) (ap E Q K) st:=
 UI (h _ fun s hf hs=>⟨fun _=>hf,hs⟩)
def aeN{y:Code}(h:Wk E y (ap E Q K) st):ap E Q (.sk y::K) .normal st:=h
def Ys{y:Code}(h:ap E Q K .ret st):ap E Q (.sk y::K) .ret st:=h
def Wp{y:Code}{i:Nat}(h:ap E Q K (.exit i) st):ap E Q (.sk y::K) (.exit i) st:=h
def aek{id:Nat}(h:ap E Q K .normal st):ap E Q (.bl id::K) .normal st:=h
def Y1{id:Nat}(h:ap E Q K .ret st):ap E Q (.bl id::K) .ret st:=h
def ZH{id:Nat}(h:ap E Q K .normal st):ap E Q (.bl id::K) (.exit id) st:=by rw[aae,if_pos rfl];exact h
def adT{J:St->Prop}(h:J st):ap E Q (.lp J::K) .normal st:=h
def Yy{J:St->Prop}(h:ap E Q K .ret st):ap E Q (.lp J::K) .ret st:=h
def Wi{J:St->Prop}{i:Nat}(h:ap E Q K (.exit i) st):ap E Q (.lp J::K) (.exit i) st:=h
def YD(h:ap E Q K .ret st):ap E Q (.sc::K) .ret st:=h
def adx{e:Exit}(h:Q e st):ap E Q [] e st:=h
class Pop (A:Prop) (B:outParam Prop):Prop where
 pop:B->A
instance {y:Code}:Pop (ap E Q (.sk y::K) .normal st) (Wk E y (ap E Q K) st):=⟨aeN⟩
instance {y:Code}:Pop (ap E Q (.sk y::K) .ret st) (ap E Q K .ret st):=⟨Ys⟩
instance {y:Code} {i:Nat}:Pop (ap E Q (.sk y::K) (.exit i) st) (ap E Q K (.exit i) st):=⟨Wp⟩
instance {id:Nat}:Pop (ap E Q (.bl id::K) .normal st) (ap E Q K .normal st):=⟨aek⟩
instance {id:Nat}:Pop (ap E Q (.bl id::K) .ret st) (ap E Q K .ret st):=⟨Y1⟩
instance {id:Nat}:Pop (ap E Q (.bl id::K) (.exit id) st) (ap E Q K .normal st):=⟨ZH⟩
instance {J:St->Prop}:Pop (ap E Q (.lp J::K) .ret st) (ap E Q K .ret st):=⟨Yy⟩
instance {J:St->Prop} {i:Nat}:Pop (ap E Q (.lp J::K) (.exit i) st) (ap E Q K (.exit i) st):=⟨Wi⟩
instance:Pop (ap E Q (.sc::K) .ret st) (ap E Q K .ret st):=⟨YD⟩
def bm(h:ap E Q K .normal st):Wk E .skip (ap E Q K) st:=K9 h
def acp{id:Nat}(h:ap E Q K .normal st):Wk E (.label id) (ap E Q K) st:=K9 h
def eV{id:Nat}(h:ap E Q K (.exit id) st):Wk E (.exit id) (ap E Q K) st:=K9 h
def o9(h:ap E Q K .ret st):Wk E .ret (ap E Q K) st:=K9 h
def HS{Q:Exit->St->Prop}{c:Operand}{x y:Code}{b:Bool}(hc:st.ev c=.val (.bool b))(h1:b=true->Wk E x Q st)(h2:b=false->Wk E y Q st):Wk E (.cond c x y) Q st:=by
 intro P hT hG hm hco X a w H ts hk;simp only[ly,cx]at hco;simp only[mN,cx]at hk;have H0:=H;obtain⟨m,HM⟩:=H;have hr:=bo HM c;rw[hc]at hr;have hv:=hr.of_val;cases b with
 | true=>exact wp_cond_true hv (h1 rfl P hT hG hm hco.1 X a w H0 ts hk.1)
 | false=>exact wp_cond_false hv (h2 rfl P hT hG hm hco.2 X a w H0 ts hk.2)
def abI{c:Operand}{x y:Code}(hc:st.ev c=.val (.bool true))(h:Wk E x (ap E Q K) st):Wk E (.cond c x y) (ap E Q K) st:=HS hc (fun _=>h) (fun h=>by cases h)
def abP{c:Operand}{x y:Code}(hc:st.ev c=.val (.bool false))(h:Wk E y (ap E Q K) st):Wk E (.cond c x y) (ap E Q K) st:=HS hc (fun h=>by cases h) (fun _=>h)
def oZ{c:Operand}{x y:Code}{p:Prop}[inst:Decidable p](hc:st.ev c=.val (.bool (decide p)))(h1:p->Wk E x (ap E Q K) st)(h2:¬p->Wk E y (ap E Q K) st):Wk E (.cond c x y) (ap E Q K) st:=
 HS hc (fun h=>h1 (of_decide_eq_true h)) (fun h=>h2 (of_decide_eq_false h))
def Ig{c:Operand}{x y:Code}{p:Prop}[inst:Decidable p](hc:st.ev c=.val (.bool (!decide p)))(h1:¬p->Wk E x (ap E Q K) st)(h2:p->Wk E y (ap E Q K) st):Wk E (.cond c x y) (ap E Q K) st:=
 HS hc (fun h=>h1 (by simpa using h)) (fun h=>h2 (by simpa using h))
def pe{c:Operand}{x y:Code}{b:Bool}(hc:st.ev c=.val (.bool b))(h1:b=true->Wk E x (ap E Q K) st)(h2:b=false->Wk E y (ap E Q K) st):Wk E (.cond c x y) (ap E Q K) st:=HS hc h1 h2
def p7{c:Operand}{x y:Code}{b:Bool}(hc:st.ev c=.val (.bool (!b)))(h1:b=false->Wk E x (ap E Q K) st)(h2:b=true->Wk E y (ap E Q K) st):Wk E (.cond c x y) (ap E Q K) st:=
 HS hc (fun h=>h1 (by simpa using h)) (fun h=>h2 (by simpa using h))
def dc{c:Code}{Q:Exit->St->Prop}(h:wv st->Wk E c Q st):Wk E c Q st:=fun P hT hG hm hc X a w H ts hk=>h ⟨X,a,w,H⟩ P hT hG hm hc X a w H ts hk
def Ta{c:Code}{Q Q':Exit->St->Prop}(hq:∀e s,Q e s->Q' e s)(h:Wk E c Q st):Wk E c Q' st:=
 fun P hT hG hm hc X a w H ts hk=>wp_mono (h P hT hG hm hc X a w H ts hk) fun e a' w' ⟨⟨s,hs,H'⟩,hsm⟩=>⟨⟨s,hq e s hs,H'⟩,hsm⟩
def Tr{α:Type}(mk:α->St)(inv:α->Prop)(μ:α->Nat)(x0:α){c:Code}(h0:aM st (mk x0))(hi:inv x0)
  (hr:∀x,inv x->wv (mk x)->Wk E c (ap E Q (.lp (fun s=>∃x',aM s (mk x')/\inv x'/\μ x'<μ x)::K)) (mk x)):Wk E (.loop c) (ap E Q K) st:=by
 classical
 intro P hT hG hm hc X a0 w H ts hk
 let J:Act->World->Prop:=fun a w=>(∃x,inv x/\Inv X (mk x) a w)/\yT ts a0 a
 let ν:Act->World->Nat:=fun a w=>if h:∃k,∃x,inv x/\Inv X (mk x) a w/\μ x=k then Classical.choose (vY _ h)else 0
 refine wp_loop J ν ⟨⟨x0,hi,h0 X a0 w H⟩,.refl _ _⟩ ?_;rintro a w ⟨⟨x1,hI1,H1⟩,hs0⟩;have hex:∃k,∃x,inv x/\Inv X (mk x) a w/\μ x=k:=⟨_,x1,hI1,H1,rfl⟩;obtain⟨x2,hI2,H2,hm2⟩:=(xx (vY _ hex)).1;have hν:ν a w=μ x2:=oZi;refine wp_mono (hr x2 hI2 ⟨_,_,_,H2⟩ P hT hG hm hc X a w H2 ts hk) ?_;rintro e a' w' ⟨⟨s',hs',H'⟩,hsm⟩;cases e with
 | normal=>
  obtain⟨x',hw',hI',hlt⟩:=hs';have H'':=hw' X a' w' H';refine⟨⟨⟨x',hI',H''⟩,hs0.trans (hsm.resolve_left oZk)⟩,?_⟩;have hex':∃k,∃x,inv x/\Inv X (mk x) a' w'/\μ x=k:=⟨_,x',hI',H'',rfl⟩;have:ν a' w'<=μ x':=by simp only[ν];rw[dif_pos hex'];exact(xx (vY _ hex')).2 _ ⟨x',hI',H'',rfl⟩
  omega
 | _=>exact KQ.from (a1:=a) ⟨⟨s',hs',H'⟩,hsm⟩ hs0
def fb{α β ρ:Type}{l:List α}{L:List α->Nat->β->Option ρ}{r:ρ}(mk:Nat->β->St)(b0:β){c:Code}(h:L l 0 b0=some r)(h0:aM st (mk 0 b0))
  (hr:∀i b,i<=l.length->L (l.drop i) i b=some r->wv (mk i b)->Wk E c (ap E Q (.lp (fun s=>i<l.length/\∃b',aM s (mk (i+1) b')/\L (l.drop (i+1)) (i+1) b'=some r)::K)) (mk i b)):Wk E (.loop c) (ap E Q K) st:=by
 refine Tr (fun x:Nat×β=>mk x.1 x.2) (fun x=>x.1<=l.length/\L (l.drop x.1) x.1 x.2=some r) (fun x=>l.length-x.1) (0,b0) h0 ⟨cQ _,by simpa using h⟩ ?_;rintro⟨i,b⟩ ⟨h1,h2⟩ hreal;refine Ta (Ml ?_) (hr i b h1 h2 hreal);rintro s ⟨g1,b',g2,g3⟩;exact⟨(i+1,b'),g2,⟨g1,g3⟩,oZg⟩
def rI{β ρ:Type}{L:Nat->Nat->β->Option ρ}{r:ρ}{n s:Nat}(mk:Nat->β->St)(b0:β){c:Code}(h:L (n-s) s b0=some r)(h0:aM st (mk s b0))
  (hr:∀i b,(i<=n∨i=s)->L (n-i) i b=some r->wv (mk i b)->Wk E c (ap E Q (.lp (fun s=>i<n/\∃b',aM s (mk (i+1) b')/\L (n -(i+1)) (i+1) b'=some r)::K)) (mk i b)):Wk E (.loop c) (ap E Q K) st:=by
 refine Tr (fun x:Nat×β=>mk x.1 x.2) (fun x=>(x.1<=n∨x.1=s)/\L (n-x.1) x.1 x.2=some r) (fun x=>n-x.1) (s,b0) h0 ⟨.inr rfl,h⟩ ?_;rintro⟨i,b⟩ ⟨h1,h2⟩ hreal;refine Ta (Ml ?_) (hr i b h1 h2 hreal);rintro s ⟨g1,b',g2,g3⟩;exact⟨(i+1,b'),g2,⟨.inl g1,g3⟩,oZg⟩
def dw{β ρ:Type}{L:Nat->β->Option ρ}{r:ρ}{n:Nat}(mk:β->St)(b0:β){c:Code}(h:L n b0=some r)(h0:aM st (mk b0))
  (hr:∀n b,L n b=some r->wv (mk b)->Wk E c (ap E Q (.lp (fun s=>∃n',n'<n/\∃b',aM s (mk b')/\L n' b'=some r)::K)) (mk b)):Wk E (.loop c) (ap E Q K) st:=by
 refine Tr (fun x:Nat×β=>mk x.2) (fun x=>L x.1 x.2=some r) (fun x=>x.1) (n,b0) h0 h ?_;rintro⟨n,b⟩ h1 hreal;refine Ta (Ml ?_) (hr n b h1 hreal);rintro s ⟨n',g1,b',g2,g3⟩;exact⟨(n',b'),g2,g3,g1⟩
def acV{x y:Code}{ρ:Type}{r:ρ}(mk:St){g:Option ρ}
  (hx:(∀s,aM s mk->g=some r->Wk E y (ap E Q K) s)->Wk E x (ap E Q (.sk y::K)) st)
  (hJ:g=some r->Wk E y (ap E Q K) mk):Wk E (.seq x y) (ap E Q K) st:=
 aN (hx fun s  hw h=>eU hw (hJ  h))
def aS{x y:Code}{ρ:Type}{r:ρ}{T0:Type}(mk:T0->St){g:T0->Option ρ}
  (hx:(∀s,∀p0,aM s (mk p0)->g p0=some r->Wk E y (ap E Q K) s)->Wk E x (ap E Q (.sk y::K)) st)
  (hJ:∀p0,g p0=some r->Wk E y (ap E Q K) (mk p0)):Wk E (.seq x y) (ap E Q K) st:=
 aN (hx fun s p0 hw h=>eU hw (hJ p0 h))
def IE{x y:Code}{ρ:Type}{r:ρ}{T0 T1:Type}(mk:T0->T1->St){g:T0->T1->Option ρ}
  (hx:(∀s,∀p0 p1,aM s (mk p0 p1)->g p0 p1=some r->Wk E y (ap E Q K) s)->Wk E x (ap E Q (.sk y::K)) st)
  (hJ:∀p0 p1,g p0 p1=some r->Wk E y (ap E Q K) (mk p0 p1)):Wk E (.seq x y) (ap E Q K) st:=
 aN (hx fun s p0 p1 hw h=>eU hw (hJ p0 p1 h))
def ac4{x y:Code}{ρ:Type}{r:ρ}{T0 T1 T2:Type}(mk:T0->T1->T2->St){g:T0->T1->T2->Option ρ}
  (hx:(∀s,∀p0 p1 p2,aM s (mk p0 p1 p2)->g p0 p1 p2=some r->Wk E y (ap E Q K) s)->Wk E x (ap E Q (.sk y::K)) st)
  (hJ:∀p0 p1 p2,g p0 p1 p2=some r->Wk E y (ap E Q K) (mk p0 p1 p2)):Wk E (.seq x y) (ap E Q K) st:=
 aN (hx fun s p0 p1 p2 hw h=>eU hw (hJ p0 p1 p2 h))
def adt{x y:Code}{ρ:Type}{r:ρ}{T0 T1 T2 T3:Type}(mk:T0->T1->T2->T3->St){g:T0->T1->T2->T3->Option ρ}
  (hx:(∀s,∀p0 p1 p2 p3,aM s (mk p0 p1 p2 p3)->g p0 p1 p2 p3=some r->Wk E y (ap E Q K) s)->Wk E x (ap E Q (.sk y::K)) st)
  (hJ:∀p0 p1 p2 p3,g p0 p1 p2 p3=some r->Wk E y (ap E Q K) (mk p0 p1 p2 p3)):Wk E (.seq x y) (ap E Q K) st:=
 aN (hx fun s p0 p1 p2 p3 hw h=>eU hw (hJ p0 p1 p2 p3 h))
end
def Y8{P:Program}{E:Env}(hT:TOk P E)(hG:GOk P E)(hmix:P.follows .mixedOrders=true){f:FuncId}{fn:Func}{body:Code}(hf:Jy P f fn body)
  {pure:Bool} {cs:List C} {r:C} (hn:cs.length<=fn.ntmps)
  (hW:wv (Ep [] cs fn.ntmps)->Wk E body (Tw E fn.results.toList pure r) (Ep [] cs fn.ntmps)):Con P f [] pure cs r:=by
 intro w S m us hl hr hinj;left;have hname':¬fn.name = "runtime.NumGoroutine" := by simpa using hf.name
 refine⟨by simp[callFunc,hf.get,hname',hf.bd],?_⟩;have H:=Rr (n:=fn.ntmps) hl hn hr hinj;refine calls_of_wp hf.get hf.bd (wp_mono (hW ⟨_,_,_,m,H⟩ P hT hG hmix hf.ok _ _ _ ⟨m,H⟩ [] (OI _)) ?_);rintro e a' w' ⟨⟨s,⟨he,r0,hfin,hrok,hpure⟩,m',H'⟩,-⟩;have main:∃u,(results fn a'.tmps).run P w'=.ok u w'/\Done (F2 w S (aJ (R0 [] cs) m)) w' r0 u:=by
  unfold Ec at hfin;split at hfin
  case h_2=>simp at hfin
  rename_i cs' hres;obtain⟨us',f1,f2,f3⟩:=Pr hT H' hres;refine⟨_,F3 f1,?_⟩
  grind[Iq,JP]
 obtain⟨u,hrun,hd⟩:=main;obtain⟨mr,d,g1,g2,g3⟩:=hd.ex;have post:a'.defers=[]/\∃v,(results fn a'.tmps).run P w'=.ok v w'/\∃u,Ending.returned v=.returned u/\∃mr d,rel w' (fun b=>((pure=false/\(S b∨aJ (R0 [] cs) m b))∨w.heap.size<=b)/\¬jM r mr b) L0 mr true d [] r u ∧
   (∀q q' b,ak r q->ak r q'->blk (mr q)=some b->blk (mr q')=some b->q=q')/\(∀b,jM r mr b->w.heap.size<=b∨aJ (R0 [] cs) m b)/\FrK w (aJ (R0 [] cs) m) w':=by
  refine⟨H'.df,u,hrun,u,rfl,Wn hrok ⟨mr,d,?_,g2,g3,⟨hd.fr.os,hd.fr.tape,hd.fr.output,hd.fr.drawn,hd.fr.size,hd.fr.block⟩⟩ (fun b h=>(od h).elim)⟩;cases hp:pure with
  | true=>exact hpure hp w' _ _ mr d [] u g1
  | false=>exact az (fun b _ hs=>⟨⟨hs.1.imp (fun h=>⟨rfl,h⟩) id,hs.2⟩,rfl⟩) d (fun _ _ _ h=>h) (fun _ _ _ _ _ _=>rfl) (fun _ _ _=>rfl) g1
 rcases he with rfl|rfl
 .exact post
 .exact post
end Go.Abs
namespace Go.Abs
section
variable {E:Env} {ops:Array Oper} {st:St} {Z:St->Prop}
variable {Q:Exit->St->Prop} {K:List Fm}
def af1:Option St->(St->Prop)->Prop
 | some s,K=>K s
 | none,_=>False
@[go_sem] theorem af0{s:St}{K:St->Prop}:af1 (some s) K=K s:=rfl
variable {d:Option Tmp} {ty:TypeId} {pos:String} {after:Array Edge} {op:Op} {l:List Oper} {tr:List St} {j:Nat} {want:Bool}
end
end Go.Abs
namespace Go.Abs
def aA(k:IntKind)(n:Int):List C:=[.val (.int k n)]
def ahe(b:Bool):List C:=[.val (.bool b)]
def dA(s:ByteArray):List C:=[.val (.string s)]
def afe{α:Type}(es:Nat)(row:α->List C)(l:List α):List C:=[.sl false none es none (l.map row)]
def aC(k:IntKind):C->Option Int
 | .val (.int k' n)=>if k'=k then some n else none
 | _=>none
def IU:C->Option Bool
 | .val (.bool b)=>some b
 | _=>none
def bG:C->Option ByteArray
 | .val (.string s)=>some s
 | _=>none
def bQ{α:Type}(d:List C->Option α):List (List C)->Option (List α)
 | []=>some []
 | r::rs=>match d r,bQ d rs with
  | some x,some xs=>some (x::xs)
  | _,_=>none
def aD{α:Type}(es:Nat)(d:List C->Option α):C->Option (List α)
 | .sl _ _ es' _ rows=>if es'=es then bQ d rows else none
 | .val (.slice none 0 0)=>some []
 | _=>none
def bO{α:Type}(d:C->Option α):List C->Option α
 | [c]=>d c
 | _=>none
theorem jn(k:IntKind)(n:Int):aC k (.val (.int k n))=some n:=by simp[aC]
theorem jw(b:Bool):IU (.val (.bool b))=some b:=rfl
theorem jk(s:ByteArray):bG (.val (.string s))=some s:=rfl
def aU{α:Type}{d:List C->Option α}{row:α->List C}(h:∀x,d (row x)=some x)(l:List α):bQ d (l.map row)=some l:=by
 induction l with
 | nil=>rfl
 | cons x xs ih=>simp_all[bQ]
theorem pQ{α:Type}(es:Nat)(d:List C->Option α)(o:Bool)(nl:Option Bool)(cap:Option Nat)(rows:List (List C)):aD es d (.sl o nl es cap rows)=bQ d rows:=by
 simp only[aD,if_true]
theorem acR{α:Type}(es:Nat)(d:List C->Option α):aD es d (.val (.slice none 0 0))=some []:=rfl
theorem Yq{α:Type}(d:List C->Option α):bQ d []=some []:=rfl
def Ds(k:IntKind)(n:Int):bO (aC k) (aA k n)=some n:=by simp[bO,aA,aC]
theorem Gv(s:ByteArray):bO bG (dA s)=some s:=rfl
def bE{k:IntKind}{c:C}{n:Int}(h:aC k c=some n):Le c (.val (.int k n)):=by
 unfold aC at h
 grind[Le.refl]
def Zk{c:C}{b:Bool}(h:IU c=some b):Le c (.val (.bool b)):=by
 unfold IU at h
 grind[Le.refl]
def gK{c:C}{s:ByteArray}(h:bG c=some s):Le c (.val (.string s)):=by
 unfold bG at h
 grind[Le.refl]
theorem LN{α:Type}{d:List C->Option α}{row:α->List C}(hd:∀r x,d r=some x->LeL r (row x)):∀{rs:List (List C)} {l:List α},bQ d rs=some l->gy rs (l.map row):=by
 intro rs
 induction rs with
 | nil=>simp_all[bQ,gy.refl]
 | cons r rs ih=>
  intro l h;simp only[bQ]at h;split at h
  .rename_i x xs h1 h2;simp only[cc]at h;subst h;have t:=ih h2;refine⟨by simp[t.len],?_⟩;intro i a b ha hb;cases i with
   | zero=>grind
   | succ i=>exact t.get i a b oZf oZf
  .simp at h
def fX{α:Type}{es:Nat}{d:List C->Option α}{row:α->List C}(hd:∀r x,d r=some x->LeL r (row x)){c:C}{l:List α}(h:aD es d c=some l):Le c (.sl false none es none (l.map row)):=by
 unfold aD at h
 grind[Le.sl,LN,Le.nils]
def Zz{α:Type}{d:C->Option α}{row:α->C}(hd:∀c x,d c=some x->Le c (row x)){r:List C}{x:α}(h:bO d r=some x):LeL r [row x]:=by
 unfold bO at h
 grind[LeL.cons,LeL.nil]
@[irreducible] def apx{α β:Type}(bytes:Nat)(a b:List α)(k:List α->Option β):Option β:=if(a.length+b.length)*(bytes+1)<=140737488355328 then k (a++b)else none
def bq{α β:Type}{bytes:Nat}{a b:List α}{k:List α->Option β}{r:β}(h:apx bytes a b k=some r):(a.length+b.length)*(bytes+1)<=140737488355328/\k (a++b)=some r:=by
 simp_all[apx]
def Gk{α β:Type}{bytes:Nat}{a b:List α}{k:List α->Option β}(h:(a.length+b.length)*(bytes+1)<=140737488355328):apx bytes a b k=k (a++b):=by unfold apx;exact if_pos h
@[irreducible] def dvx{β:Type}(b:Int)(k:Option β):Option β:=if b=0 then none else k
def ado{β:Type}{b:Int}{k:Option β}{r:β}(h:dvx b k=some r):¬b=0/\k=some r:=by
 simp_all[dvx]
@[irreducible] def shx{β:Type}(b:Int)(k:Option β):Option β:=if b<0 then none else k
def XG{β:Type}{b:Int}{k:Option β}{r:β}(h:shx b k=some r):¬b<0/\k=some r:=by
 simp_all[shx]
@[irreducible] def slx{α β:Type}(l:List α)(lo hi:Int)(k:List α->Option β):Option β:=if 0<=lo/\0<=hi/\lo.toNat<=hi.toNat/\hi.toNat<=l.length then k ((l.drop lo.toNat).take (hi.toNat-lo.toNat))else none
def fC{α β:Type}{l:List α}{lo hi:Int}{k:List α->Option β}{r:β}(h:slx l lo hi k=some r):(0<=lo/\0<=hi/\lo.toNat<=hi.toNat/\hi.toNat<=l.length)/\k ((l.drop lo.toNat).take (hi.toNat-lo.toNat))=some r:=by
 grind[slx]
@[irreducible] def slt{α β:Type}(l:List α)(hi:Int)(k:List α->Option β):Option β:=if 0<=hi/\hi.toNat<=l.length then k (l.take hi.toNat)else none
def Ii{α β:Type}{l:List α}{hi:Int}{k:List α->Option β}{r:β}(h:slt l hi k=some r):(0<=hi/\hi.toNat<=l.length)/\((hi.toNat=(l.take hi.toNat).length)=True)/\k (l.take hi.toNat)=some r:=by
 simp_all[slt]
def afh{a b:Nat}(h:(a=b)=True):(a<b+1)=True:=by
 simp_all
@[irreducible] def gxs{β:Type}(s:ByteArray)(i:Int)(k:UInt8->Option β):Option β:=if 0<=i then s[i.toNat]?.bind k else none
def adz{β:Type}{s:ByteArray}{i:Int}{k:UInt8->Option β}{r:β}(h:gxs s i k=some r):∃x,0<=i/\s[i.toNat]?=some x/\k x=some r:=by
 simp_all[gxs,cv]
@[irreducible] def sls{β:Type}(s:ByteArray)(lo hi:Int)(k:ByteArray->Option β):Option β:=if 0<=lo/\0<=hi/\lo.toNat<=hi.toNat/\hi.toNat<=s.size then k (s.extract lo.toNat hi.toNat)else none
def WW{β:Type}{s:ByteArray}{lo hi:Int}{k:ByteArray->Option β}{r:β}(h:sls s lo hi k=some r):(0<=lo/\0<=hi/\lo.toNat<=hi.toNat/\hi.toNat<=s.size)/\k (s.extract lo.toNat hi.toNat)=some r:=by
 grind[sls]
theorem ab0{α:Type}(row:α->List C)(l:List α)(n:Nat):(l.map row).drop n=(l.drop n).map row:=List.map_drop.symm
theorem aaY{α:Type}(row:α->List C)(l:List α)(n:Nat):(l.map row).take n=(l.take n).map row:=List.map_take.symm
def aav{α:Type}{row:α->List C}{l:List α}{i:Nat}{x y:α}{g:List C->List C}(hx:l[i]?=some x)(h:g (row x)=row y):(l.map row).modify i g=(l.set i y).map row:=by
 apply nP
 grind
end Go.Abs
namespace Go.Abs
structure aO {α:Type} (row:α->List C):Prop where
 frz:∀x,(row x).map C.frz=row x
 ok:∀x,(row x).all C.cellOk=true
 plain:∀x,(row x).all plainCell=true
def aO.frzRows{α:Type}{row:α->List C}(h:aO row)(l:List α):Abs.frzRows (l.map row)=l.map row:=by
 simp only[Abs.frzRows,ai9]
 congr 1
 funext x
 exact h.frz x
def aO.all{α:Type}{row:α->List C}(h:aO row)(l:List α):(l.map row).all (fun r=>r.all C.cellOk)=true:=by
 simp only[aiQ,cE];intro x _;exact h.ok x
def aO.allPlain{α:Type}{row:α->List C}(h:aO row)(l:List α):(l.map row).all (fun r=>r.all plainCell)=true:=by
 simp only[aiQ,cE];intro x _;exact h.plain x
theorem Y2:frzRows []=[]:=rfl
theorem WG(r:List C)(rs:List (List C)):frzRows (r::rs)=r.map C.frz::frzRows rs:=rfl
theorem s7(k:IntKind):aO (aA k):=⟨fun _=>rfl,fun _=>rfl,fun _=>rfl⟩
theorem Tv:aO dA:=⟨fun _=>rfl,fun _=>rfl,fun _=>rfl⟩
theorem aeA(k:IntKind)(n:Int):aA k n=[.val (.int k n)]:=rfl
theorem aea(b:Bool):ahe b=[.val (.bool b)]:=rfl
theorem aeH(s:ByteArray):dA s=[.val (.string s)]:=rfl
theorem aej{α:Type}(es:Nat)(row:α->List C)(l:List α):afe es row l=[.sl false none es none (l.map row)]:=rfl
def jR(k:IntKind):∀(r:List C) (x:Int),bO (aC k) r=some x->LeL r (aA k x):=fun _ _ h=>Zz (row:=fun n=>.val (.int k n)) (fun _ _ h=>bE h) h
def LG:∀(r:List C) (x:ByteArray),bO bG r=some x->LeL r (dA x):=fun _ _ h=>Zz (row:=fun n=>.val (.string n)) (fun _ _ h=>gK h) h
theorem Oa{α:Type}(d:List C->Option α)(r:List C)(rs:List (List C)):bQ d (r::rs)=match d r,bQ d rs with
 | some x,some xs=>some (x::xs)
 | _,_=>none:=rfl
theorem abt{α:Type}(l:List α)(i n:Nat)(y:α):(l.set i y).take n=(l.take n).set i y:=by
 apply nP
 grind
@[irreducible] def apn{α β:Type}(bytes:Nat)(b:List α)(k:Option β):Option β:=if b.length *(bytes+1)<=140737488355328 then k else none
def AK{α β:Type}{bytes:Nat}{b:List α}{k:Option β}{r:β}(h:apn bytes b k=some r):b.length *(bytes+1)<=140737488355328/\k=some r:=by
 simp_all[apn]
def Lm{α β:Type}{bytes:Nat}{b:List α}{k:Option β}(h:b.length *(bytes+1)<=140737488355328):apn bytes b k=k:=by unfold apn;exact if_pos h
def gy.nil:gy [] []:=gy.refl []
def gy.cons{a b:List C}{as bs:List (List C)}(h:LeL a b)(t:gy as bs):gy (a::as) (b::bs):=by
 refine⟨by simp[t.len],?_⟩;intro i c c' h1 h2;cases i with
 | zero=>simp_all
 | succ i=>exact t.get i c c' oZf oZf
def gy.append{as bs as' bs':List (List C)}(h:gy as bs)(t:gy as' bs'):gy (as++as') (bs++bs'):=by
 refine⟨by simp[h.len,t.len],?_⟩;intro i c c' h1 h2;by_cases hi:i<as.length
 .rw[na hi]at h1;rw[na (by rw[h.len];exact hi)]at h2;exact h.get i c c' h1 h2
 .rw[ni oZg]at h1;rw[ni (by rw[h.len];omega),h.len]at h2;exact t.get _ c c' h1 h2
def Ut:∀c∈([]:List C),fq c:=oZk
def SM{c:C}{cs:List C}(h:fq c)(t:∀c∈cs,fq c):∀c'∈c::cs,fq c':=by
 simp_all
def Fw:∀c∈([]:List C),bF c:=oZk
def mG{c:C}{cs:List C}(h:bF c)(t:∀c∈cs,bF c):∀c'∈c::cs,bF c':=by
 simp_all
def abQ{α:Type}{row:α->List C}(h:∀x,∀c∈row x,bF c)(l:List α):∀r∈l.map row,∀c∈r,bF c:=by
 grind
def QZ{as bs:List (List C)}(h:∀r∈as,∀c∈r,bF c)(t:∀r∈bs,∀c∈r,bF c):∀r∈as++bs,∀c∈r,bF c:=by
 grind
def Vk:∀r∈([]:List (List C)),∀c∈r,bF c:=oZk
def TD{a:List C}{as:List (List C)}(h:∀c∈a,bF c)(t:∀r∈as,∀c∈r,bF c):∀r∈a::as,∀c∈r,bF c:=by
 grind
def ab3(k:IntKind):∀x,∀c∈aA k x,bF c:=fun x=>mG (bF.val _) Fw
def abj:∀x,∀c∈dA x,bF c:=fun x=>mG (bF.val _) Fw
@[go_sem] theorem agx(E:Env)(ts:List C)(R:Nat->C)(t k:Nat)(vs:List ResultVar):B6 E ⟨ts,R⟩ (.cell t k::vs)=match E.T k with
 | some ti=>match ue ⟨ts,R⟩ ti ((ts[t]?).getD .dead),B6 E ⟨ts,R⟩ vs with
  | some c,some cs=>some (c::cs)
  | _,_=>none
 | none=>none:=by
 simp only[B6,Uc];cases E.T k<;>rfl
theorem adj(c:C)(cs:List C):fo (c::cs)=match AV c,fo cs with
 | some c',some cs'=>some (c'::cs')
 | _,_=>none:=rfl
def Le.iref1{es j:Nat}{cs cs':List C}(h:LeL cs cs'):Le (.iref es [cs] 0 j) (.iref es [cs'] 0 j):=by
 intro w S m m' p p' d u hr;cases d with
 | zero=>exact hr.elim
 | succ d=>
  obtain⟨b,off,arr,elem,frz,g1,g2,g3,g4,g5⟩:=hr;refine⟨b,off,arr,elem,frz,g1,g2,g3,?_,?_⟩
  .intro row hrow;simp only[cK]at hrow;subst hrow;rw[h.len]
   simp_all
  .intro i' j' row c' e1 e2;cases i' with
   | succ i'=>simp at e1
   | zero=>
    simp only[cG,cc]at e1;subst e1;have hlt:j'<cs.length:=by rw[<-h.len];grind
    obtain⟨u',f1,f2⟩:=g5 0 j' cs cs[j'] rfl (by simp[hlt]);exact⟨u',f1,h.get j' cs[j'] c' (by simp[hlt]) e2 _ _ _ _ _ _ _ _ f2⟩
end Go.Abs
namespace Go.Abs
def ady(E:Env)(o:Oper)(st:St):Bool:=
 match gA E o st with
 | some e=>(e.apply st).isSome
 | none=>false
theorem acj{E:Env}{bar:Nat->Bool}{i:Nat}{o:Oper}{st:St}:okD E true bar i o st=(ady E o st=true∨bar i=true):=by
 simp only[okD,ady,true_implies]
 congr 1
 refine propext ⟨?_,?_⟩
 .simp_all
 .intro h;split at h
  .rename_i e he;obtain⟨s,hs⟩:=xO.1 h
   simp_all
  .simp at h
def mj{b:Bool}{p:Prop}(h:b=true)(k:p):b=true/\p:=⟨h,k⟩
theorem Yf{α:Type}(x:α):(some x).isSome=true:=rfl
theorem WQ{α:Type}:(none:Option α).isSome=false:=rfl
end Go.Abs
namespace Go.Abs
def Qo{α:Type}{row:α->List C}{l:List α}{i:Nat}{x y:α}{rx ry:List C}{g:List C->List C}(hx:l[i]?=some x)(e1:row x=rx)(e2:row y=ry)(h:g rx=ry):(l.map row).modify i g=(l.set i y).map row:=aav hx oZf
def Yz{α:Type}{row:α->List C}{l:List α}{i:Nat}{x y0 y:α}{rx ry:List C}{g:List C->List C}(hx:l[i]?=some x)(e1:row y0=rx)(e2:row y=ry)(h:g rx=ry):((l.set i y0).map row).modify i g=(l.set i y).map row:=by
 rw[Qo (fE (y:=y0) hx) e1 e2 h]
 simp_all
theorem Wb{α:Type}(l:List α)(i:Nat)(f g:α->α):(l.modify i f).modify i g=l.modify i (fun x=>g (f x)):=by
 apply nP
 grind
def W3{α:Type}{l:List α}{i:Nat}{a b:α}(h1:l[i]?=some a)(h2:l[i]?=some b):a=b:=oZf
theorem Eh{c:C}(h:plainCell c=true):fq c:=by
 intro q hq;cases c with
 | sl own nl es cap rows=>
  cases own with
  | false=>cases q<;>simp[ak,C.at,C.kid,C.isOwn]at hq
  | true=>simp[plainCell,C.cellOk,C.isOwn]at h
 | _=>first|(simp[plainCell,C.cellOk]at h;done)|(cases q<;>simp[ak,C.at,C.kid,C.isOwn]at hq)
def aO.noOwn{α:Type}{row:α->List C}(h:aO row)(l:List α):∀r∈l.map row,∀c∈r,fq c:=by
 intro r hr c hc;obtain⟨x,_,rfl⟩:=cH.1 hr;exact Eh (cE.1 (h.plain x) c hc)
def Gu{P:Program}{f:FuncId}{pure:Bool}{es:Nat}{rows:List (List C)}{r:C}(hnil:rows=[]->Con P f [] pure [.val (.slice none 0 0)] r)
  (hnn:Con P f [] pure [.sl false (some false) es none rows] r):Con P f [] pure [.sl false none es none rows] r:=by
 intro w S m us hl hr hinj;obtain⟨u,d,hu,hrel⟩:=hr 0 _ rfl;have e1:∀(cs:List C),aJ (R0 [] cs) m=fun _=>False:=fun cs=>funext fun b=>propext ⟨fun h=>od h,fun h=>h.elim⟩;have hinj':∀(cs:List C),Inj (R0 [] cs) m:=by
  simp_all[Zl]
 cases d with
 | zero=>exact hrel.elim
 | succ d=>
  obtain⟨a,k,h1,h2,h3,h4,hz,h5,h6,h7⟩:=hrel;by_cases ha:a=none
  .subst ha;obtain rfl:=hz.2 rfl;have hrows:rows=[]:=by
    simp_all
   have:=hnil hrows w S m us oZg (by
    intro i c hc;cases i with
    | zero=>
     simp only[cG,cc]at hc;subst hc;refine⟨u,1,hu,?_⟩;rw[h1,hrows];rfl
    | succ i=>simp at hc) (hinj' _)
   simp_all
  .have:=hnn w S m us oZg (by
    intro i c hc;cases i with
    | zero=>
     simp only[cG,cc]at hc;subst hc;refine⟨u,d+1,hu,?_⟩;refine⟨a,k,h1,h2,h3,h4,⟨fun b hb=>?_,hz.2⟩,h5,h6,?_⟩
     .simp_all
     simp_all
    | succ i=>simp at hc) (hinj' _)
   simp_all
end Go.Abs
namespace Go.Abs
def S9{P:Program}{f:FuncId}{fn:Func}{tS tR e:TypeId}{size:Nat}(hf:P.funcs[f]?=some fn)(hname:(fn.name == "runtime.NumGoroutine")= false)
  (hb:fn.body.isNone=true) (hn:Extern.findNext fn=none) (he:Extern.find fn=some (Extern.SlicesOverlaps.overlaps #[tS,tS] #[tR]))
  (ht:P.underlying tS=some (.slice e)) (hz0:(P.info? e).map (·.size)=some size):Ow P f:=by
 have hz:∀w,(Go.sizeOf e).run P w=.ok size w:=by
  intro w;obtain⟨i,hi,rfl⟩:=cq.1 hz0;simp[Go.sizeOf,typeInfo,hi]
 intro w x y la ka lb kb h;rw[run_callFunc_extern hf hname hb hn he];obtain⟨b1,o1,arr1,e1,b2,o2,arr2,e2,rfl,rfl,h3,h4,h5,h6⟩:=h;have key:(Extern.SlicesOverlaps.overlaps #[tS,tS] #[tR] #[.slice (some ⟨b1,o1,none⟩) la ka,.slice (some ⟨b2,o2,none⟩) lb kb]).run P w=.ok (.bool false) w:=
  Go.Lib.run_overlaps_apart w tS tR e ht size hz ⟨b1,o1,none⟩ ⟨b2,o2,none⟩ la ka lb kb h3 e1 e2 arr1.size arr2.size (by simp[World.shape?,h4]) (by simp[World.shape?,h5]) h6 (by simp[World.frozen?,h4]) (by simp[World.frozen?,h4])
 simp_all
def aO.allD{α:Type}{row:α->List C}(h:aO row)(l:List α):(l.map row).all (fun r=>r.all uk)=true:=by
 have:=h.allPlain l;rw[cE]at this ⊢;intro r hr;have:=this r hr;rw[cE]at this ⊢;intro c hc;simp[uk,this c hc]
def TP(E:Env)(vs:List ResultVar)(pure:Bool)(r:C):Exit->St->Prop:=fun e s=>(e=.ret∨e=.normal)/\∃r0,Ec E vs s=some r0/\ROk r0 r/\(∀q,ak r0 q->ak r q)/\(pure=true->bF r0)
def dV{E:Env}{vs:List ResultVar}{pure:Bool}{r:C}{s:St}:TP E vs pure r .ret s=∃r0,Ec E vs s=some r0/\ROk r0 r/\(∀q,ak r0 q->ak r q)/\(pure=true->bF r0):=by simp[TP]
def YN{E:Env}{vs:List ResultVar}{pure:Bool}{r:C}{s:St}:TP E vs pure r .normal s=∃r0,Ec E vs s=some r0/\ROk r0 r/\(∀q,ak r0 q->ak r q)/\(pure=true->bF r0):=by simp[TP]
def X7{nl nl':Option Bool}{es es':Nat}{cap cap':Option Nat}{rows rows':List (List C)}(h:∀row∈rows,∀c∈row,fq c):∀q,ak (.sl true nl es cap rows) q->ak (.sl true nl' es' cap' rows') q:=by
 intro q hq;cases q with
 | nil=>rfl
 | cons s q=>
  exfalso;simp only[ak,C.at,C.kid]at hq;cases hr:rows[s.1]? with
  | none=>simp[hr]at hq
  | some row=>
   simp only[hr,cb]at hq;cases hc:row[s.2]? with
   | none=>simp[hc]at hq
   | some c1=>
    simp only[hc,cb]at hq;exact h row (cd hr) c1 (cd hc) q hq
def V4{w w':World}{S:Nat->Prop}{pure:Bool}{O:Nat->Prop}{F:Prop}{r0 r:C}{u:Value}(hok:ROk r0 r)(hkeep:∀q,ak r0 q->ak r q)
  (h:∃mr d,rel w' (fun b=>((pure=false/\S b)∨w.heap.size<=b)/\¬jM r0 mr b) L0 mr true d [] r0 u ∧
   (∀q q' b,ak r0 q->ak r0 q'->blk (mr q)=some b->blk (mr q')=some b->q=q')∧
   (∀b,jM r0 mr b->w.heap.size<=b∨O b)/\F):
  ∃mr d,rel w' (fun b=>((pure=false/\S b)∨w.heap.size<=b)/\¬jM r mr b) L0 mr true d [] r u ∧
   (∀q q' b,ak r q->ak r q'->blk (mr q)=some b->blk (mr q')=some b->q=q')∧
   (∀b,jM r mr b->w.heap.size<=b∨O b)/\F:=by
 obtain⟨mr,d,h1,h2,h3,h4⟩:=h;have key:∀q b,ak r q->blk (EB r0 mr [] q)=some b->ak r0 q/\blk (mr q)=some b:=by
  intro q b hq hb;rcases hok.ownAt hq with h|h
  .rw[Fz h]at hb;exact⟨h,hb⟩
  .simp[EB,h,blk]at hb
 refine⟨EB r0 mr [],d+1,?_,?_,?_,h4⟩
 .refine Uk (p:=[]) (p':=[]) ?_ hok d (fun q hq=>by simp) (fun q b hq hnq _=>(hnq (hkeep q hq)).elim) h1;rintro b ⟨hb,hn⟩;exact⟨hb,fun⟨q,hq,e⟩=>hn ⟨q,key q b hq e⟩⟩
 .intro q q' b hq hq' e e';obtain⟨a1,a2⟩:=key q b hq e;obtain⟨a3,a4⟩:=key q' b hq' e';exact h2 q q' b a1 a3 a2 a4
 .rintro b ⟨q,hq,e⟩;exact h3 b ⟨q,key q b hq e⟩
def PC{P:Program}{E:Env}(hT:TOk P E)(hG:GOk P E)(hmix:P.follows .mixedOrders=true){f:FuncId}{fn:Func}{body:Code}(hf:Jy P f fn body)
  {own:List Bool} {pure:Bool} {cs:List C} {r:C} (hn:cs.length<=fn.ntmps)
  (hW:wv (Ep own cs fn.ntmps)->W E body (TP E fn.results.toList pure r) (Ep own cs fn.ntmps)):Con P f own pure cs r:=by
 intro w S m us hl hr hinj;left;have hname':¬fn.name = "runtime.NumGoroutine" := by simpa using hf.name
 refine⟨by simp[callFunc,hf.get,hname',hf.bd],?_⟩;have H:=Rr (n:=fn.ntmps) hl hn hr hinj;refine calls_of_wp hf.get hf.bd (wp_mono (afp (ts:=[]) hT hG hmix body hf.ok (OI _) (hW ⟨_,_,_,m,H⟩) ⟨m,H⟩) ?_);rintro e a' w' ⟨⟨s,⟨he,r0,hfin,hrok,hkeep,hpure⟩,m',H'⟩,-⟩;have main:∃u,(results fn a'.tmps).run P w'=.ok u w'/\Done (F2 w S (aJ (R0 own cs) m)) w' r0 u:=by
  unfold Ec at hfin;split at hfin
  case h_2=>simp at hfin
  rename_i cs' hres;obtain⟨us',f1,f2,f3⟩:=Pr hT H' hres;refine⟨_,F3 f1,?_⟩
  grind[Iq,JP]
 obtain⟨u,hrun,hd⟩:=main;obtain⟨mr,d,g1,g2,g3⟩:=hd.ex;have post:a'.defers=[]/\∃v,(results fn a'.tmps).run P w'=.ok v w'/\∃u,Ending.returned v=.returned u/\∃mr d,rel w' (fun b=>((pure=false/\(S b∨aJ (R0 own cs) m b))∨w.heap.size<=b)/\¬jM r mr b) L0 mr true d [] r u ∧
   (∀q q' b,ak r q->ak r q'->blk (mr q)=some b->blk (mr q')=some b->q=q')/\(∀b,jM r mr b->w.heap.size<=b∨aJ (R0 own cs) m b)/\FrK w (aJ (R0 own cs) m) w':=by
  refine⟨H'.df,u,hrun,u,rfl,V4 hrok hkeep ⟨mr,d,?_,g2,g3,⟨hd.fr.os,hd.fr.tape,hd.fr.output,hd.fr.drawn,hd.fr.size,hd.fr.block⟩⟩⟩;cases hp:pure with
  | true=>exact hpure hp w' _ _ mr d [] u g1
  | false=>exact az (fun b _ hs=>⟨⟨hs.1.imp (fun h=>⟨rfl,h⟩) id,hs.2⟩,rfl⟩) d (fun _ _ _ h=>h) (fun _ _ _ _ _ _=>rfl) (fun _ _ _=>rfl) g1
 rcases he with rfl|rfl
 .exact post
 .exact post
theorem adQ{nl:Option Bool}{es:Nat}{cap cap':Option Nat}{rows:List (List C)}(q:aq):ak (.sl true nl es cap rows) q↔ak (.sl true nl es cap' rows) q:=by
 cases q<;>rfl
def Pl{P:Program}{f:FuncId}{own:List Bool}{pure:Bool}{nl:Option Bool}{es:Nat}{rows:List (List C)}{cs:List C}{r:C}
  (h:∀k,rows.length<=k->k<=maxLen->Con P f (true::own) pure (.sl true nl es (some k) rows::cs) r):Con P f (true::own) pure (.sl true nl es none rows::cs) r:=by
 intro w S m us hl hr hinj;obtain⟨u,d,hu,hrel⟩:=hr 0 _ rfl;cases d with
 | zero=>exact hrel.elim
 | succ d=>
  obtain⟨a,k,h1,h2,h3,h4,hz,h5,h6,h7⟩:=hrel;have hR:∀n q,ak (R0 (true::own) (.sl true nl es (some k) rows::cs) n) q↔ak (R0 (true::own) (.sl true nl es none rows::cs) n) q:=by
   intro n q;cases n with
   | zero=>exact adQ q
   | succ n=>exact xL
  have e1:aJ (R0 (true::own) (.sl true nl es (some k) rows::cs)) m=aJ (R0 (true::own) (.sl true nl es none rows::cs)) m:=by
   funext b
   apply propext;constructor
   .rintro⟨n,p,g1,g2⟩;exact⟨n,p,(hR n p).1 g1,g2⟩
   .rintro⟨n,p,g1,g2⟩;exact⟨n,p,(hR n p).2 g1,g2⟩
  have:=h k h2 h3 w S m us (by simpa using hl) (by
   intro i c hc;rw[e1];cases i with
   | zero=>
    simp only[cG,cc]at hc;subst hc;exact⟨u,d+1,hu,a,k,h1,h2,h3,fun c hc=>by simpa using hc,hz,h5,h6,h7⟩
   | succ i=>exact hr (i+1) c (by simpa using hc)) (fun n p n' p' b g1 g2 g3 g4=>hinj n p n' p' b ((hR n p).1 g1) ((hR n' p').1 g2) g3 g4)
  simp_all
def Ue(A B:List (List C)):frzRows (A++B)=frzRows A++frzRows B:=by simp[frzRows]
def Kf(n es:Nat):frzRows (List.replicate n (List.replicate es C.dead))=List.replicate n (List.replicate es C.dead):=by simp[frzRows,C.frz]
def bM(A:List (List C)):Prop:=frzRows A=A/\(A.all fun r=>r.all uk)=true
def gi{α:Type}{row:α->List C}(h:aO row)(l:List α):bM (l.map row):=⟨h.frzRows l,h.allD l⟩
theorem lx{A B:List (List C)}(h1:bM A)(h2:bM B):bM (A++B):=⟨by rw[Ue,h1.1,h2.1],by rw[List.all_append,h1.2,h2.2];rfl⟩
def W1{A:List (List C)}(h:bM A)(n:Nat):bM (A.take n):=by
 refine⟨by have:=h.1;unfold frzRows at this ⊢;rw[xa,this],?_⟩;have:=h.2;rw[cE]at this ⊢;exact fun r hr=>this r (nJ hr)
def Wq{A:List (List C)}(h:bM A)(n:Nat):bM (A.drop n):=by
 refine⟨by have:=h.1;unfold frzRows at this ⊢;rw[nL,this],?_⟩;have:=h.2;rw[cE]at this ⊢;exact fun r hr=>this r (xK hr)
theorem HU(n es:Nat):bM (List.replicate n (List.replicate es C.dead)):=by
 refine⟨Kf n es,?_⟩;rw[cE];intro r hr;rw[xB hr,cE];intro c hc;rw[xB hc];rfl
def gj{A B:List (List C)}{n:Nat}(h1:bM A)(h2:bM B):bM (aR A n B):=
 lx (lx (W1 h1 n) h2) (Wq h1 _)
def EA(n:Nat)(vs:List Value)(h:∀v∈vs,v.oneCell'=true):bM (List.replicate n (vs.map C.val)):=by
 refine⟨by simp[frzRows,C.frz],?_⟩;rw[cE];intro r hr;rw[xB hr,cE];intro c hc;obtain⟨v,hv,rfl⟩:=cH.1 hc;simp[uk,dN,Abs.plainCell,C.cellOk,C.isOwn,h v hv]
def Q1{A:List (List C)}{D r:List C}{i n:Nat}(hn:A.length=n)(hi:i<=n):
  aR (aR (A++[D]) (i+1) (((A++[D]).drop i).take (n-i))) i [r]=A.take i++[r]++A.drop i:=by
 have e1:((A++[D]).drop i).take (n-i)=A.drop i:=by
  rw[xV,show i-A.length=0 by omega,nu,xt,cT oZd,show n-i -(A.drop i).length=0 by simp;omega];simp
 rw[e1];unfold aR;have hd:(A.drop i).length=n-i:=by simp[hn]
 have e2:(A++[D]).take (i+1)=A.take i++((A++[D]).drop i).take 1:=by
  rw[List.take_add]
  congr 1
  rw[xt,show i-A.length=0 by omega];simp
 have l1:(((A++[D]).drop i).take 1).length=1:=by simp[hn];omega
 have l0:(A.take i).length=i:=by simp[hn];omega
 have e3:(A++[D]).drop (i+1+(A.drop i).length)=[]:=by
  apply xh;simp[hn];omega
 grind
def TH{A Z:List (List C)}{r:List C}{i n:Nat}(hn:A.length=n)(hi:i<=n)(hz:Z.length=n+1-i):
  aR (aR (A.take i++Z) i [r]) (i+1) (A.drop i)=A.take i++[r]++A.drop i:=by
 have l0:(A.take i).length=i:=by simp[hn];omega
 have e1:aR (A.take i++Z) i [r]=A.take i++[r]++Z.drop 1:=by
  unfold aR;rw[xt,l0,xD,List.take_zero,nn,cT oZg]
  congr 1
  rw[xV,l0,xh (by simp[l0]),cO]
  congr 1
  simp
 rw[e1];unfold aR;have l2:(A.take i++[r]).length=i+1:=by simp[l0]
 rw[xt,l2,xD,List.take_zero,nn,cT oZg]
 grind[List.drop_eq_nil_of_le]
def vW{α:Type}{row:α->List C}(hrow:aO row){nl:Option Bool}{es:Nat}{cap:Option Nat}{rows:List (List C)}{l:List α}(e:rows=l.map row):
  ∃r0,some (C.sl true nl es cap rows)=some r0/\ROk r0 (.sl true none es none (l.map row))/\(∀q,ak r0 q->ak (.sl true none es none (l.map row)) q):=by
 subst e;exact⟨_,rfl,ROk.own (gy.refl _) (hrow.noOwn l),X7 (hrow.noOwn l)⟩
end Go.Abs
namespace Go.Abs
theorem adG(own:List Bool)(cs:List C)(n:Nat):R0 own cs n=if own.getD n false then(cs[n]?).getD .dead else .dead:=rfl
def Con.argsO{P:Program}{f:FuncId}{own:List Bool}{pure:Bool}{cs cs':List C}{r:C}(h:Con P f own pure cs' r)(hlen:cs'.length=cs.length)
  (hle:∀(i:Nat) (c c':C),cs[i]?=some c->cs'[i]?=some c'->if own.getD i false=true then ROk c c'/\(∀q,ak c q->ak c' q)else Le c c'):Con P f own pure cs r:=by
 intro w S m us hl hr hinj;have both:∀i,i<cs.length->cs[i]?=some (cs[i]?.getD .dead)/\cs'[i]?=some (cs'[i]?.getD .dead):=by
  simp_all
 obtain⟨m',hm'⟩:∃m':Nat->aq->Value,m'=fun i=>if own.getD i false then EB (cs[i]?.getD .dead) (m i) []else m i:=⟨_,rfl⟩
 have key1:∀n q b,ak (R0 own cs' n) q->blk (m' n q)=some b->ak (R0 own cs n) q/\blk (m n q)=some b:=by
  intro n q b hq hb;rw[adG]at hq ⊢;rw[hm']at hb;by_cases ho:own.getD n false=true
  .simp only[ho,if_true]at hq hb ⊢;by_cases hn:n<cs.length
   .obtain⟨e1,e2⟩:=both n hn;have hh:=hle n _ _ e1 e2;rw[if_pos ho]at hh;rcases hh.1.ownAt hq with h1|h1
    .simp_all[Fz]
    simp_all[EB,blk]
   simp_all[aY]
  simp_all
 have key2:∀n q b,ak (R0 own cs n) q->blk (m n q)=some b->ak (R0 own cs' n) q/\blk (m' n q)=some b:=by
  intro n q b hq hb;rw[adG]at hq ⊢;rw[hm'];by_cases ho:own.getD n false=true
  .simp only[ho,if_true]at hq ⊢;by_cases hn:n<cs.length
   .obtain⟨e1,e2⟩:=both n hn;have hh:=hle n _ _ e1 e2
    simp_all[Fz]
   simp_all[aY]
  simp_all
 have eO:aJ (R0 own cs') m'=aJ (R0 own cs) m:=by
  funext b
  apply propext;constructor
  .rintro⟨n,p,g1,g2⟩;obtain⟨f1,f2⟩:=key1 n p b g1 g2;exact⟨n,p,f1,f2⟩
  .rintro⟨n,p,g1,g2⟩;obtain⟨f1,f2⟩:=key2 n p b g1 g2;exact⟨n,p,f1,f2⟩
 have:=h w S m' us (by rw[hl,hlen]) (by
  intro i c' hc;have hlt:i<cs.length:=oZi;obtain⟨e1,e2⟩:=both i hlt;obtain⟨u,d,h1,h2⟩:=hr i _ e1;have hh:=hle i _ c' e1 hc;rw[eO];by_cases ho:own.getD i false=true
  .rw[if_pos ho]at hh;rw[ho]at h2 ⊢;refine⟨u,d+1,h1,Uk (m:=m i) (m':=m' i) (p:=[]) (p':=[]) (fun b hb=>hb) hh.1 d (fun q hq=>?_) (fun q b hq hnq _=>(hnq (hh.2 q hq)).elim) h2⟩
   simp_all
  .rw[if_neg ho]at hh;have ho':own.getD i false=false:=oZf;rw[ho']at h2 ⊢;exact⟨u,d,h1,hh w _ (m i) (m' i) [] [] d u h2⟩) (fun n p n' p' b g1 g2 g3 g4=>hinj n p n' p' b (key1 n p b g1 g3).1 (key1 n' p' b g2 g4).1 (key1 n p b g1 g3).2 (key1 n' p' b g2 g4).2)
 simp_all
def AU{α:Type}(es:Nat)(d:List C->Option α):C->Option (List α)
 | .sl true _ es' _ rows=>if es'=es/\(rows.all fun r=>r.all Abs.plainCell)=true then bQ d rows else none
 | .val (.slice none 0 0)=>some []
 | _=>none
theorem aeB{α:Type}(es:Nat)(d:List C->Option α)(nl:Option Bool)(cap:Option Nat)(rows:List (List C)):AU es d (.sl true nl es cap rows)=if(rows.all fun r=>r.all Abs.plainCell)=true then bQ d rows else none:=by
 simp only[AU,true_and]
theorem ac3{α:Type}(es:Nat)(d:List C->Option α):AU es d (.val (.slice none 0 0))=some []:=rfl
def s3{α:Type}{es:Nat}{d:List C->Option α}{row:α->List C}(hrow:aO row)(hd:∀r x,d r=some x->LeL r (row x)){c:C}{l:List α}(h:AU es d c=some l):
  ROk c (.sl true none es none (l.map row))/\(∀q,ak c q->ak (.sl true none es none (l.map row)) q):=by
 unfold AU at h;split at h
 .rename_i nl es' cap rows;split at h
  .rename_i hc;obtain⟨rfl,hc⟩:=hc;refine⟨ROk.own (LN hd h) (hrow.noOwn l),X7 ?_⟩
   grind[Eh]
  .simp at h
 .simp only[cc]at h;subst h;refine⟨ROk.nil es,?_⟩;intro q hq;cases q<;>simp[ak,C.at,C.kid,C.isOwn]at hq
 .simp at h
def qK{own:List Bool}:∀(i:Nat) (c c':C),([]:List C)[i]?=some c->([]:List C)[i]?=some c'->if own.getD i false=true then ROk c c'/\(∀q,ak c q->ak c' q)else Le c c':=oZk
def kZ{own:List Bool}{c0 c0':C}{cs cs':List C}(h:ROk c0 c0'/\(∀q,ak c0 q->ak c0' q))
  (t:∀(i:Nat) (c c':C),cs[i]?=some c->cs'[i]?=some c'->if own.getD i false=true then ROk c c'/\(∀q,ak c q->ak c' q)else Le c c'):
  ∀(i:Nat) (c c':C),(c0::cs)[i]?=some c->(c0'::cs')[i]?=some c'->if(true::own).getD i false=true then ROk c c'/\(∀q,ak c q->ak c' q)else Le c c':=by
 grind
def uS{own:List Bool}{c0 c0':C}{cs cs':List C}(h:Le c0 c0')
  (t:∀(i:Nat) (c c':C),cs[i]?=some c->cs'[i]?=some c'->if own.getD i false=true then ROk c c'/\(∀q,ak c q->ak c' q)else Le c c'):
  ∀(i:Nat) (c c':C),(c0::cs)[i]?=some c->(c0'::cs')[i]?=some c'->if(false::own).getD i false=true then ROk c c'/\(∀q,ak c q->ak c' q)else Le c c':=by
 grind
theorem aep(k:Nat)(R:Nat->C)(n:Nat)(c:C):clr k (upd R n c)=if H0<=n/\n<H0+k then clr k R else upd (clr k R) n c:=by
 funext x
 split
 .rename_i h;simp only[clr,upd]
  grind
 grind[clr,upd]
theorem afB(k:Nat):clr k RZ=RZ:=by funext x;simp[clr,RZ]
@[irreducible] def OD{α β:Type}(bytes:Nat)(l:List α)(i:Int)(v:List α)(k:List α->Option β):Option β:=
 if 0<=i/\i<=l.length/\v.length=1/\(l.length+1)*(bytes+1)<=140737488355328 then k (l.take i.toNat++v++l.drop i.toNat)else none
def GF{α β:Type}{bytes:Nat}{l:List α}{i:Int}{v:List α}{k:List α->Option β}{r:β}(h:OD bytes l i v k=some r):
  ∃(n:Nat) (x:α),i=(n:Int)/\v=[x]/\n<=l.length/\(l.length+1)*(bytes+1)<=140737488355328/\k (l.take n++[x]++l.drop n)=some r:=by
 unfold OD at h;split at h
 .rename_i hc;obtain⟨h1,h2,h3,h4⟩:=hc
  match v,h3 with
  | [x],_=>grind
 .simp at h
@[irreducible] def ZW{α β:Type}(l:List α)(i j:Int)(k:List α->Option β):Option β:=
 if 0<=i/\i<=j/\j<=l.length then k (l.take i.toNat++l.drop j.toNat)else none
def abA{α β:Type}{l:List α}{i j:Int}{k:List α->Option β}{r:β}(h:ZW l i j k=some r):
  ∃(n m:Nat),i=(n:Int)/\j=(m:Int)/\n<=m/\m<=l.length/\k (l.take n++l.drop m)=some r:=by
 unfold ZW at h;split at h
 .grind
 .simp at h
def adw{L:List (List C)}{i j:Nat}(Z:List (List C))(hij:i<=j)(hj:j<=L.length):
  (aR (aR L i (L.drop j)) (i+(L.length-j)) Z).take (i+(L.length-j))=L.take i++L.drop j:=by
 have l0:(L.take i).length=i:=oZd;have l1:(L.take i++L.drop j).length=i+(L.length-j):=oZd;have e1:(aR L i (L.drop j)).take (i+(L.length-j))=L.take i++L.drop j:=by
  simp_all[aR,xt,cT]
 have l2:((aR L i (L.drop j)).take (i+(L.length-j))).length=i+(L.length-j):=by rw[e1,l1]
 unfold aR at *
 grind
def Qt(a:Nat):(∀c:Nat,c∈(none:Option Nat)->a<=c)=True:=oZk
def Y0(a b:Nat):(∀c:Nat,c∈(some b:Option Nat)->a<=c)=(a<=b):=oZk
theorem aa7{α β:Type}(l:List α)(f:α->β)(x:β):List.take (l.length+1) (l.map f++[x])=l.map f++[x]:=cT oZk
theorem aby{α β γ:Type}(f:α->γ)(g:β->γ)(a:List α)(x:γ)(b:List β):List.take (a.length+1+b.length) (a.map f++[x]++b.map g)=a.map f++[x]++b.map g:=cT oZd
theorem abW{α γ β:Type}(l:List α)(k:List γ)(f:α->β)(g:γ->β):List.take (l.length+k.length) (l.map f++k.map g)=l.map f++k.map g:=cT oZk
end Go.Abs
namespace Go.Abs
def Qf{n:Nat}{f:Nat->C}{R:Nat->C}(t s d:Nat){nl:Option Bool}{es:Nat}{cap:Option Nat}{rows:List (List C)}{len:Nat}(htn:t<n)(hne:d≠s)(hd:R d=.dead)(hs:R s=.sl true nl es cap rows)
  (ht:f t=.pal s [] 0 len none) (hlen:len=rows.length):
  aM ⟨tab n f,R⟩ ⟨tab n (af (zb (fun k _=>k == s) f) t (.pal d [] 0 len none)),upd (upd R s .dead) d (.sl true none es none rows)⟩:=by
 rintro X a w ⟨m,H⟩;obtain⟨u,dd,h1,h2⟩:=H.tmp t (f t) (by simp_all[fe]);rw[ht]at h2;have hv:Lv R m (.pal s [] 0 len none) u:=eD ⟨dd,h2⟩;obtain⟨M1,M2,M3⟩:=H.move (h:=d) (n:=s) (p:=[]) hd hne (by rw[C.at];exact congrArg some hs) hv;have e1:(St.move ⟨tab n f,R⟩ s [] 0 len none d es rows)=⟨tab n (zb (fun k _=>k == s) f),upd (upd R s .dead) d (.sl true none es none rows)⟩:=by
  have e0:(fun(n':Nat) (p':aq)=>n' == s&&ph [] p')=(fun(k:Nat) (_:aq)=>k == s):=by funext x y;simp[ph]
  have e2:(R s).turn (fun _=>C.dead) []=C.dead:=by rw[hs];rfl
  simp_all[St.move,Fa,nu,xE]
 rw[e1]at M1 M2;refine⟨_,⟨by rw[H.len];simp[oU],?_,M1.root,M1.inj,M1.own,M1.fr,M1.df⟩⟩;intro t' c hc;rw[fe]at hc;split at hc
 case isFalse=>simp at hc
 rename_i hlt;simp only[cc]at hc;by_cases e:t'=t
 .subst e;simp only[af,if_true]at hc;subst hc;refine⟨u,1,h1,?_⟩;obtain⟨nl',es',cap',rows',ad,k,a',k',g1,g2,g3,g4,g5,g6,g7,g8,g9⟩:=hv;simp only[C.at,cc,hs,C.sl.injEq,true_and]at g1;obtain⟨rfl,rfl,rfl,rfl⟩:=g1;simp only[rel,Lv];refine⟨none,es,none,rows,a',k',a',k',by simp[aI,C.at],?_,oZg,g4,g5,oZg,oZk,oZk,?_⟩
  .simp_all[ji]
  grind
 .simp only[af,e,if_false]at hc;exact M1.tmp t' c (by simp_all[fe])
theorem aec(g:Nat->aq->Bool)(cs:List C):poi g (.agg cs)=if cs.any (C.ment g 2)=true then .dead else .agg cs:=rfl
theorem aeJ(g:Nat->aq->Bool)(cs:List C):poi g (.tup cs)=if cs.any (C.ment g 2)=true then .dead else .tup cs:=rfl
end Go.Abs
namespace Go.Abs
open Go.ChangeShapes Go.WideShapes Go.ChangeAt Go.RowKit
def rU(w:World)(cs:List Value)(r:List C):Prop:=r.length=cs.length/\∃d,∀(j:Nat) (c:C),r[j]?=some c->∃u,cs[j]?=some u/\rel w (fun _=>True) L0 dm false d [] c u
def Sz(P:Program){H:Type}(t:TypeId)(d:DataW H):Prop:=∀n∈d.weights P t,n<=140737488351232
def aa1{P:Program}{H:Type}{e:TypeId}:∀{ds:List (DataW H)} {i:Nat} {d:DataW H},ds[i]?=some d->∀n∈d.weights P e,n∈DataW.weightsAll P e ds
 | d0::ds,0,d,h,n,hn=>by
  simp_all[DataW.weightsAll]
 | d0::ds,i+1,d,h,n,hn=>by
  simp only[nY]at h;simp only[DataW.weightsAll,cJ];exact .inr (aa1 h n hn)
def Md{P:Program}{H:Type}{t t':TypeId}{fs:Array Field}{ds:List (DataW H)}(ht:P.underlying t=some (.struct fs))(h:Sz P t (.agg ds)){i:Nat}{d:DataW H}(hi:(fs.toList.map (·.type))[i]?=some t')(hd:ds[i]?=some d):Sz P t' d:=by
 intro n hn;refine h n ?_
 grind[DataW.weights,DataW.weights_mem_each]
def afj{P:Program}{H:Type}{ts:List TypeId}{ds:List (DataW H)}(h:(DataW.weightsEach P ts ds).all (·<=reachBytes)=true){j:Nat}{t:TypeId}{d:DataW H}(ht:ts[j]?=some t)(hd:ds[j]?=some d):Sz P t d:=by
 intro n hn;have:=cE.1 h _ (DataW.weights_mem_each ht hd n hn);exact of_decide_eq_true this
def RD(P:Program)(t:TypeId){α:Type}(row:α->List C)(wf:α->Prop):Prop:=
 ∀(H:Type) (enc:TypeId×Value->H) (w:World) (base:Nat) (spare:Nat->Bool) (held:Bool) (fuel:Nat) (cs:List Value) (x:DataW H×List MemPlace),
  DataW.trod enc P w base spare held fuel t cs=some x->Sz P t x.1->∃y:α,wf y/\rU w cs (row y)
def MJ{w:World}{c:C}{u:Value}{d:Nat}(h:rel w (fun _=>True) L0 dm false d [] c u):rU w [u] [c]:=by
 refine⟨rfl,d,?_⟩
 grind
theorem aab{w:World}:rU w [] []:=⟨rfl,0,oZk⟩
theorem Vo{w:World}{cs cs':List Value}{r r':List C}(h:rU w cs r)(h':rU w cs' r'):rU w (cs++cs') (r++r'):=by
 obtain⟨hl,d,h⟩:=h;obtain⟨hl',d',h'⟩:=h';refine⟨oZf,max d d',?_⟩;intro j c hj;by_cases hlt:j<r.length
 .grind[aW]
 .rw[ni oZg]at hj;obtain⟨u,e1,e2⟩:=h' _ c hj;exact⟨u,oZi,aW _ _ oZg e2⟩
theorem Jo{P:Program}{t:TypeId}{k:IntKind}(ht:P.underlying t=some (.int k)):RD P t (aA k) (fun n=>(Lit.int k n).wf=true):=by
 intro H enc w base spare held fuel cs x h _;obtain⟨n,rfl,_,hw⟩:=DataW.trod_int ht h;exact⟨n,hw,MJ (d:=1) rfl⟩
def aeu{P:Program}{e:TypeId}{α:Type}{row:α->List C}{wf:α->Prop}(he:RD P e row wf){H:Type}{enc:TypeId×Value->H}{w:World}{base:Nat}{spare:Nat->Bool}{held:Bool}{fuel:Nat}{css:Nat->List Value}:
  ∀(n:Nat),(∀i,i<n->∃x,DataW.trod enc P w base spare held fuel e (css i)=some x/\Sz P e x.1)->∃l:List α,l.length=n/\(∀y∈l,wf y)/\∃d,∀(i:Nat) (y:α),l[i]?=some y ->
   (row y).length=(css i).length/\∀(j:Nat) (c:C),(row y)[j]?=some c->∃u,(css i)[j]?=some u/\rel w (fun _=>True) L0 dm false d [] c u:=by
 intro n
 induction n with
 | zero=>simp_all
 | succ n ih=>
  intro h;obtain⟨l,e1,e2,d,e3⟩:=ih (fun i hi=>h i oZg);obtain⟨x,hx,hz⟩:=h n oZg;obtain⟨y,hy,hl,d',hr⟩:=he H enc w base spare held fuel _ x hx hz;refine⟨l++[y],by simp[e1],?_,max d d',?_⟩
  .grind
  .intro i z hz;by_cases hlt:i<l.length
   .grind[aW]
   .rw[ni oZg]at hz;have:i=n:=by
     grind
    subst this;rw[e1]at hz;simp only[xD,cG,cc]at hz;subst hz;exact⟨hl,fun j c hj=>let⟨u,g1,g2⟩:=hr j c hj;⟨u,g1,aW _ _ oZg g2⟩⟩
theorem adh(a:Addr)(n:Nat):(a.add n).off=a.off+n:=by
 unfold Addr.add
 grind
def YX{P:Program}{t e:TypeId}{α:Type}{row:α->List C}{wf:α->Prop}{es:Nat}(ht:P.underlying t=some (.slice e))(hes:P.cellsOf e=es)(hpos:0<es){b:Nat}(hby:P.bytesOf e=b)(he:RD P e row wf):
  RD P t (afe es row) (fun l=>l.length*b<=140737488351232/\∀x∈l,wf x):=by
 intro H enc w base spare held fuel cs x h hz;rcases DataW.trod_slice ht h with⟨rfl,_⟩|⟨a,len,cap,elems,rest,n,_,rfl,rfl,hb,hl,hc,hlen,hel,_,_⟩
 .refine⟨[],⟨oZk,oZk⟩,MJ (d:=1) ?_⟩;exact⟨none,0,rfl,ck _,cQ _,oZk,⟨oZk,oZk⟩,oZk,oZk,.inl rfl⟩
 .rw[hes]at hel;simp only[Sz,DataW.weights,ht,hby]at hz;have hcells:∀i,i<len->∃c x,w.cells? base (a.add (i*es)) es=some c/\DataW.trod enc P w base spare held n e c=some x/\Sz P e x.1:=by
   intro i hi;have h1:=hel i hi;have h2:elems[i]?=some elems[i]:=oZf;rw[h2,cv]at h1;obtain⟨c,f1,f2⟩:=h1;refine⟨c,_,f1,f2,fun m hm=>hz m ?_⟩;have:=aa1 (P:=P) (e:=e) (ds:=elems.map (·.1)) (i:=i) (d:=elems[i].1) oZf m hm
   simp_all
  obtain⟨css,hcss⟩:∃css:Nat->List Value,css=fun i=>(w.cells? base (a.add (i*es)) es).getD []:=⟨_,rfl⟩;have hcs:∀i,i<len->w.cells? base (a.add (i*es)) es=some (css i):=by
   grind
  obtain⟨l,e1,e2,d,e3⟩:=aeu he (css:=css) (H:=H) (enc:=enc) (w:=w) (base:=base) (spare:=spare) (held:=held) (fuel:=n) len (fun i hi=>by
   grind)
  refine⟨l,⟨?_,e2⟩,MJ (d:=d+1) ?_⟩
  .grind[List.mem_cons_self]
  refine⟨some a,cap,by simp[e1],oZi,hc,oZk,⟨oZk,oZk⟩,?_,oZk,?_⟩
  .intro r hr;obtain⟨y,hy,rfl⟩:=cH.1 hr;obtain⟨i,hi⟩:=cC hy;have hlt:=(cg.1 hi).1;obtain⟨f1,_⟩:=e3 i y hi;rw[f1];have:=hcs i oZg;exact(World.cells?_some this).2.1
  .by_cases h0:len=0
   .grind
   .have hcell:∀i j,i<len->j<es->w.cell? ((a.add (i*es)).add j)=(css i)[j]?:=by
     intro i j hi hj;obtain⟨g1,g2,g3⟩:=World.cells?_some (hcs i hi);exact g3 j hj
    have h00:=hcell 0 0 oZg hpos;have hsome:((css 0)[0]?).isSome=true:=by
     have:=(World.cells?_some (hcs 0 oZg)).2.1
     grind
    rw[<-h00]at hsome;simp only[aiK,Addr.add,if_true]at hsome;unfold World.cell? at hsome;split at hsome
    case h_2=>simp at hsome
    rename_i arr elem frz hheap;split at hsome
    case isTrue=>simp at hsome
    rename_i hspot;refine .inr (.inr ⟨a.block,a.off,arr,elem,frz,?_,hheap,fun _=>trivial,oZk,?_⟩)
    .obtain⟨ab,ao,asp⟩:=a;simp only[cc,Addr.mk.injEq,true_and];simpa using hspot
    .intro i j r c' h1 h2;simp only[cz,cq]at h1;obtain⟨y,hy,rfl⟩:=h1;have hlt:=(cg.1 hy).1;obtain⟨f1,f2⟩:=e3 i y hy;obtain⟨u,g1,g2⟩:=f2 j c' h2;refine⟨u,?_,bY g2⟩;have hj:j<es:=by
      have:=(cg.1 g1).1;rw[(World.cells?_some (hcs i oZg)).2.1]at this;exact this
     have:=hcell i j oZg hj;rw[g1]at this;unfold World.cell? at this;have hblk:((a.add (i*es)).add j).block=a.block:=by unfold Addr.add;split<;>split<;>rfl
     grind[adh]
end Go.Abs
namespace Go.Abs
open Go.ChangeShapes Go.WideShapes Go.ChangeAt Go.RowKit
def FrK.below{W W':World}(h:FrK W (fun _=>False) W'):Below W.heap.size W W':=⟨h.os,h.tape,h.output,h.size,fun b hb=>h.block b hb id⟩
def Xn{P:Program}{f:FuncId}{fn:Func}{body:Code}{pure:Bool}{cs:List C}{us:List Value}{W:World}(hf:Jy P f fn body)(hcon:Con P f [] pure cs (.val (.bool true)))(hlen:us.length=cs.length)
  (hrel:∀(i:Nat) (c:C),cs[i]?=some c->∃u d,us[i]?=some u/\rel W (fun _=>True) L0 dm false d [] c u):
  Calls P f us.toArray W fun e W'=>e=.returned (.bool true)/\FrK W (fun _=>False) W':=by
 have e1:aJ (R0 [] cs) (fun _=>dm)=fun _=>False:=funext fun b=>propext ⟨fun h=>od h,fun h=>h.elim⟩;have hd:=hcon W (fun _=>True) (fun _=>dm) us hlen (by
  simp_all) (by
  intro n p n' p' b h1
  simp_all[Zl,aY])
 have hname':¬fn.name = "runtime.NumGoroutine" := by simpa using hf.name
 have henter:(callFunc f us.toArray).run P W=.ok (.enter f us.toArray) W:=by simp[callFunc,hf.get,hname',hf.bd]
 rcases hd with⟨_,h⟩|⟨u,w',h,_⟩
 .refine h.mono ?_;rintro e W' ⟨u,rfl,mr,d,h1,_,_,h4⟩;rw[e1]at h4;refine⟨?_,h4⟩;cases d with
  | zero=>exact h1.elim
  | succ d=>
   have:u=.bool true:=h1;rw[this]
 simp_all
theorem Nf{H:Type}{enc:TypeId×Value->H}{P:Program}(hl:laidOutB P=true){W W':World}(hb:Below W.heap.size W W'):∀{ts:List TypeId} {vs:List Value} {ds:List (DataW H)} {ps:List MemPlace},
  (∀t∈ts,P.readableRec t=true/\t<P.types.size)->DataW.TrodAll enc P W 0 (fun _=>true) true ts vs ds ps->(∀x∈ps,x.block<W.heap.size)->DataW.TrodAll enc P W' 0 (fun b=>decide (b<W.heap.size)) true ts vs ds ps
 | [],[],[],_,_,h,_=>h
 | t::ts,v::vs,d::ds,ps,ht,h,hlt=>by
  obtain⟨p,q,h1,h2,rfl⟩:=h;exact⟨p,q,Below.trod hl (ht t oZk).1 (ht t oZk).2 h1 hb (fun x hx=>hlt x (by simp[hx])),Nf hl hb (fun t' h'=>ht t' (by simp[h'])) h2 (fun x hx=>hlt x (by simp[hx])),rfl⟩
def FrK.kept{W W':World}(h:FrK W (fun _=>False) W')(may:MemPlace->Prop):W.keptBut W' may:=by
 refine⟨h.os,h.output,fun i hi=>?_⟩;rw[h.block i hi id]
 grind
theorem acI{H:Type}{enc:TypeId×Value->H}{P:Program}{f:Func}{s:ChangeSpec}{W W':World}{args:Array Value}{ds gs:List (DataW H)}{before:List MemPlace}{tb:TypeId}
  (hl:laidOutB P=true) (hts:∀t∈f.params.toList,P.readableRec t=true/\t<P.types.size) (hrt:f.resultTypes=#[tb]) (htb:P.underlying tb=some .bool)
  (hv:s.vars=[]) (hs:s.fn H (ds++gs)={results:=[.lit (.bool true)],args:=ds++gs})
  (hW:DataW.Whole enc P f.params.toList s.vars false W args.toList ds gs before) (hfr:FrK W (fun _=>False) W'):s.post enc P f false true false false W args (.bool true) W':=by
 have hlt:=hW.lt;have hW':=hW;obtain⟨p,q,hA,hV,rfl,_,_⟩:=hW;rw[hv]at hV;obtain⟨rfl,rfl⟩:=trodVars_none hV;simp only[nn]at hs hlt hW';have hgs:(([]:List (DataW H))=[]):=rfl;refine⟨ds,[],p,[],p,[],hW',?_,?_,?_,hfr.kept _,oZk⟩
 .rw[nn,hs,hrt];exact trodAll_cons_mk (shut_bool htb _) trodAll_mk0
 .rw[nn,hs];exact Nf hl hfr.below hts hA hlt
 .rw[nn,hs,hv];rfl
def HJ{w:World}{cs:List Value}{o s:Nat}{r rs:List C}(h:rU w ((cs.drop o).take s) r)(h':rU w (cs.drop (o+s)) rs):rU w (cs.drop o) (r++rs):=by
 grind[Vo,List.drop_drop,List.take_append_drop]
def ZF{w:World}{cs:List Value}{o:Nat}(h:cs.length<=o):rU w (cs.drop o) []:=by
 grind[List.drop_eq_nil_of_le,aab]
def aeq{w:World}{v:Value}{c:C}(hc:v.cells=#[v])(h:rU w v.cells.toList [c]):∃d,rel w (fun _=>True) L0 dm false d [] c v:=by
 obtain⟨_,d,h⟩:=h;obtain⟨u,h1,h2⟩:=h 0 c rfl
 grind
def adr{w:World}{us:List Value}:∀(i:Nat) (c:C),([]:List C)[i]?=some c->∃u d,us[i]?=some u/\rel w (fun _=>True) L0 dm false d [] c u:=oZk
def abo{w:World}{c0:C}{u0:Value}{cs:List C}{us:List Value}(h:∃d,rel w (fun _=>True) L0 dm false d [] c0 u0)(t:∀(i:Nat) (c:C),cs[i]?=some c->∃u d,us[i]?=some u/\rel w (fun _=>True) L0 dm false d [] c u):
  ∀(i:Nat) (c:C),(c0::cs)[i]?=some c->∃u d,(u0::us)[i]?=some u/\rel w (fun _=>True) L0 dm false d [] c u:=by
 grind
end Go.Abs
namespace Go.Abs
attribute [go_sem] St.move aaR ad1 acS Fa ael fe aeC aeW adn
attribute [go_sem] afI acw ac6 adV CF Ei H0 List.getElem?_toArray Option.bind_some Option.bind_none List.map_cons List.map_nil
attribute [go_sem] ov z7 Rh Pa Si RF unC Ps MR dz Om lU
attribute [go_sem] KW uq Ry ue HH Z7 QP OY AA wq Gr O6
attribute [go_sem] tF JD o7 yh uZ rF TA pW St.fresh OS Tq lS jA wy
attribute [go_sem] C.oneC dN St.node C.at C.kid Bool.false_eq_true List.length_map List.getElem?_cons_zero List.getElem?_cons_succ List.drop_zero List.drop_succ_cons List.drop_nil
attribute [go_sem] List.take_succ_cons List.take_zero List.take_nil List.length_cons List.length_nil List.all_cons List.all_nil List.any_cons List.any_nil C.cellOk Value.oneCell' Bool.and_self
attribute [go_sem] Bool.and_true Bool.true_and Bool.or_false Bool.false_or lP SO decide_true decide_false Bool.not_true Bool.not_false Bool.not_not false_implies
attribute [go_sem] true_implies true_and and_true and_self C.turn List.modify_cons List.getElem?_map Option.map_some Option.map_none if_true if_false C.frz
attribute [go_sem] List.nil_append List.cons_append List.append_nil List.set_cons_zero List.set_cons_succ Int.ofNat_lt Int.natCast_nonneg Int.toNat_natCast Option.getD_some Option.getD_none Nat.zero_add Nat.add_zero
attribute [go_sem] Jx DG Je Ct MC St.drop List.contains_cons List.contains_nil List.elem_cons List.elem_nil
attribute [go_sem] Wc D5 BE zM BD adopt grown j8 PB yD Kb mO F1
attribute [go_sem] LJ G2 lM Ip ml oa List.replicate Option.isNone_some Option.isSome_some ne_eq not_true_eq_false not_false_eq_true
attribute [go_sem] Nat.succ_ne_self List.map_append List.length_append Rq ab0 aaY List.take_length List.isEmpty_cons jn jw jk pQ
attribute [go_sem] acR Yq Oa bO undef abt Array.size_empty List.size_toArray ph beq_self_eq_true Bool.and_false
attribute [go_sem] Bool.false_and Nat.lt_irrefl false_and and_false true_or or_true false_or or_false or_self Go.Abs.plainCell C.isOwn Y2
attribute [go_sem] WG acj ady gA IK gC VO D4 CR se SE.apply Yf WQ Int.toNat_zero
attribute [go_sem] acs adj AV bN List.flatMap_cons List.flatMap_nil kV CI jf mM List.mapIdx_cons
attribute [go_sem] List.mapIdx_nil
attribute [go_sem] Pn kT iO C.ment aeJ aec bN List.flatMap_cons List.flatMap_nil kV CI jf mM List.mapIdx_cons List.mapIdx_nil List.singleton_append Nat.succ_eq_add_one aep afB FZ aeB ac3
attribute [go_sem] Wb
attribute [go_sem] mkX VP
attribute [go_sem] ja I8 yM Ext.all
attribute [go_sem] R4 pS St.plug Bool.or_true Bool.true_or Nat.le_refl aa7 abW aby
attribute [go_sem] Rb LS K6 ZO
end Go.Abs
namespace Go.Abs
attribute [go_sem] List.length_set
section
variable {E:Env} {Q:Exit->St->Prop} {st:St} {K:List Fm}
instance {e:Exit}:Pop (ap E Q [] e st) (Q e st):=⟨adx⟩
instance {J:St->Prop}:Pop (ap E Q (.lp J::K) .normal st) (J st):=⟨adT⟩
class Dh (A:Prop) (B:outParam Prop):Prop where
 h:B->A
instance (priority:=low) (A:Prop):Dh A A:=⟨id⟩
instance {A B D:Prop} [p:Pop A B] [q:Dh B D]:Dh A D:=⟨fun h=>p.pop (q.h h)⟩
theorem pp{A B:Prop}[p:Dh A B](h:B):A:=p.h h
end
class vH (c:C):Prop where
 h:bF c
class Cl (l:List C):Prop where
 h:∀c∈l,bF c
instance (v:Value):vH (.val v):=⟨bF.val v⟩
instance (l:List C) [Cl l]:vH (.tup l):=⟨bF.tup Cl.h⟩
instance (l:List C) [Cl l]:vH (.agg l):=⟨bF.agg Cl.h⟩
instance:Cl []:=⟨Fw⟩
instance (c:C) (l:List C) [vH c] [Cl l]:Cl (c::l):=⟨mG vH.h Cl.h⟩
class Lu {α:Type} (row:α->List C):Prop where
 h:∀x,∀c∈row x,bF c
instance (k:IntKind):Lu (aA k):=⟨ab3 k⟩
instance:Lu dA:=⟨abj⟩
class AJ (l:List (List C)):Prop where
 h:∀row∈l,∀c∈row,bF c
instance:AJ []:=⟨Vk⟩
instance (r:List C) (l:List (List C)) [Cl r] [AJ l]:AJ (r::l):=⟨TD Cl.h AJ.h⟩
instance (a b:List (List C)) [AJ a] [AJ b]:AJ (a++b):=⟨QZ AJ.h AJ.h⟩
instance {α:Type} (row:α->List C) (l:List α) [h:Lu row]:AJ (l.map row):=⟨abQ h.h l⟩
instance (nl:Option Bool) (es:Nat) (cap:Option Nat) (rows:List (List C)) [h:AJ rows]:vH (.sl true nl es cap rows):=⟨bF.sl h.h⟩
class B7 {α:Type} (row:α->List C):Prop where
 ok:aO row
class NoI (c:C):Prop where
 h:fq c
class QX (l:List C):Prop where
 h:∀c∈l,fq c
class Fb (l:List (List C)):Prop where
 h:∀row∈l,∀c∈row,fq c
instance (v:Value):NoI (.val v):=⟨fq.val v⟩
instance (nl:Option Bool) (es:Nat) (cap:Option Nat) (rows:List (List C)):NoI (.sl false nl es cap rows):=⟨fq.sl nl es cap rows⟩
instance:QX []:=⟨Ut⟩
instance (c:C) (l:List C) [NoI c] [QX l]:QX (c::l):=⟨SM NoI.h QX.h⟩
instance:Fb []:=⟨oZk⟩
instance (r:List C) (l:List (List C)) [QX r] [Fb l]:Fb (r::l):=⟨fun row hr=>by
 rcases cF.1 hr with rfl|hr
 .exact QX.h
 grind[Fb.h]⟩
instance (a b:List (List C)) [Fb a] [Fb b]:Fb (a++b):=⟨fun row hr=>by
 grind[Fb.h]⟩
instance {α:Type} (row:α->List C) (l:List α) [h:B7 row]:Fb (l.map row):=⟨h.ok.noOwn l⟩
class LeI (a b:C):Prop where
 h:Le a b
class jt (a b:List C):Prop where
 h:LeL a b
class AM (a b:List (List C)):Prop where
 h:gy a b
instance (priority:=high) (a:C):LeI a a:=⟨Le.refl a⟩
instance:jt [] []:=⟨LeL.nil⟩
instance (a b:C) (as bs:List C) [LeI a b] [jt as bs]:jt (a::as) (b::bs):=⟨LeL.cons LeI.h jt.h⟩
instance (priority:=high) (a:List (List C)):AM a a:=⟨gy.refl a⟩
instance (a b:List C) (as bs:List (List C)) [jt a b] [AM as bs]:AM (a::as) (b::bs):=⟨gy.cons jt.h AM.h⟩
instance (as bs cs ds:List (List C)) [h:AM as cs] [h2:AM bs ds]:AM (as++bs) (cs++ds):=⟨h.h.append h2.h⟩
instance (o o':Bool) (nl:Option Bool) (es:Nat) (cap:Option Nat) (rows rows':List (List C)) [h:AM rows rows']:LeI (.sl o nl es cap rows) (.sl o' none es none rows'):=⟨Le.sl h.h⟩
instance (o:Bool) (es:Nat):LeI (.val (.slice none 0 0)) (.sl o none es none []):=⟨Le.nils⟩
class jV (a b:C):Prop where
 h:ROk a b
class Xf (as bs:List C):Prop where
 len:bs.length=as.length
 h:∀(i:Nat) (a b:C),as[i]?=some a->bs[i]?=some b->ROk a b
instance (priority:=high) (a:C):jV a a:=⟨ROk.refl a⟩
instance:Xf [] []:=⟨rfl,aeF⟩
instance (a b:C) (as bs:List C) [h:jV a b] [t:Xf as bs]:Xf (a::as) (b::bs):=⟨by simp[t.len],acH h.h t.h⟩
instance (as bs:List C) [h:Xf as bs]:jV (.agg as) (.agg bs):=⟨ROk.agg h.len h.h⟩
instance (as bs:List C) [h:Xf as bs]:jV (.tup as) (.tup bs):=⟨ROk.tup h.len h.h⟩
instance (es:Nat):jV (.val (.slice none 0 0)) (.sl true none es none []):=⟨ROk.nil es⟩
instance (es:Nat):jV (.val (.slice none 0 0)) (.sl false none es none []):=⟨ROk.of _ Le.nils (fq.sl _ _ _ _)⟩
instance (o:Bool) (nl:Option Bool) (es:Nat) (cap:Option Nat) (rows rows':List (List C)) [h:AM rows rows']:jV (.sl o nl es cap rows) (.sl false none es none rows'):=⟨ROk.of _ (Le.sl h.h) (fq.sl _ _ _ _)⟩
instance (nl:Option Bool) (es:Nat) (cap:Option Nat) (rows rows':List (List C)) [h:AM rows rows'] [n:Fb rows']:jV (.sl true nl es cap rows) (.sl true none es none rows'):=⟨ROk.own h.h n.h⟩
def aL:List (Nat×Nat×FnS)->Nat->Nat->Option FnS
 | [],_,_=>none
 |(d0,f0,fs)::l,d,f=>if d=d0/\f=f0 then some fs else aL l d f
def VJ:List (Nat×Bool)->Nat->Option Bool
 | [],_=>none
 |(d0,b)::l,d=>if d=d0 then some b else VJ l d
def GL(P:Program)(L:List (Nat×Nat×FnS)):Prop:=∀d f fs,aL L d f=some fs->ar P f fs
def gn{P:Program}:GL P []:=fun d f fs h=>oZj
def gc{P:Program}(d0:Nat){f0:Nat}{fs0:FnS}{L:List (Nat×Nat×FnS)}(h0:ar P f0 fs0)(h:GL P L):GL P ((d0,f0,fs0)::L):=by
 intro d f fs hf;simp only[aL]at hf;split at hf
 .simp_all
 .exact h d f fs hf
@[reducible] def EE(P:Program)(G:Nat->Nat->Option FnS)(F:List (Nat×Bool))(L:Nat->Nat->Option FnL):Env:={T:=eG P,G:=G,F:=VJ F,L:=L}
theorem ahi(P:Program)(G:Nat->Nat->Option FnS)(F:List (Nat×Bool))(L:Nat->Nat->Option FnL):(EE P G F L).T=eG P:=rfl
theorem agO(P:Program)(G:Nat->Nat->Option FnS)(F:List (Nat×Bool))(L:Nat->Nat->Option FnL):(EE P G F L).G=G:=rfl
theorem aha(P:Program)(G:Nat->Nat->Option FnS)(F:List (Nat×Bool))(L:Nat->Nat->Option FnL):(EE P G F L).F=VJ F:=rfl
theorem ahT(P:Program)(G:Nat->Nat->Option FnS)(F:List (Nat×Bool))(L:Nat->Nat->Option FnL):(EE P G F L).L=L:=rfl
def noL:Nat->Nat->Option FnL:=fun _ _=>none
theorem aff(d f:Nat):noL d f=none:=rfl
def FY:List (Nat×Nat×FnL)->Nat->Nat->Option FnL
 | [],_,_=>none
 |(d0,f0,fs)::l,d,f=>if d=d0/\f=f0 then some fs else FY l d f
def LL(P:Program)(L:List (Nat×Nat×FnL)):Prop:=∀d f fs,FY L d f=some fs->B1 P f fs
def ln{P:Program}:LL P []:=fun d f fs h=>oZj
def lc{P:Program}(d0:Nat){f0:Nat}{fs0:FnL}{L:List (Nat×Nat×FnL)}(h0:B1 P f0 fs0)(h:LL P L):LL P ((d0,f0,fs0)::L):=by
 intro d f fs hf;simp only[FY]at hf;split at hf
 .simp_all
 .exact h d f fs hf
def GP:(Nat->C)->Nat->List C->Nat->C
 | f,_,[]=>f
 | f,k,c::cs=>GP (af f k c) (k+1) cs
def Tj:∀(cs:List C) (f:Nat->C) (k t:Nat),GP f k cs t=if k<=t/\t<k+cs.length then(cs[t-k]?).getD .dead else f t
 | [],f,k,t=>by simp[GP];omega
 | c::cs,f,k,t=>by
  rw[GP,Tj cs (af f k c) (k+1) t];simp only[cn,af]
  grind
def Qp(cs:List C)(h:∀t c,cs[t]?=some c->jX [] t c=c):gI [] cs=GP au 0 cs:=by
 funext t
 rw[Tj];unfold gI;cases hc:cs[t]? with
 | none=>
  have:cs.length<=t:=aiR.1 hc;rw[if_neg oZg];rfl
 | some c=>
  grind
attribute [go_sem] Q9 VQ LB JE JA XT ZQ X6 Tt N6 Kd B0 MC DG Je aL VJ FY ahi agO aha ahT aff Env.Gs GP Jm DV Pz dC VN VM FV Fq zP
def DD{P:Program}{f:FuncId}{fn:Func}{body:Code}(hf:P.funcs[f]?=some fn)(hb:fn.body=some body)(hname:(fn.name == "runtime.NumGoroutine")= false)(hok : ly body = true)
  {G:Nat->Nat->Option FnS} (hG:∀d f fs,G d f=some fs->ar P f fs) (F:List (Nat×Bool)) (hmix:P.follows .mixedOrders=true) {pure:Bool} {cs:List C} {r:C} (hn:cs.length<=fn.ntmps)
  (hW:Wk (EE P G F noL) body (ap (EE P G F noL) (Tw (EE P G F noL) fn.results.toList pure r) []) ⟨tab fn.ntmps (GP au 0 cs),RZ⟩):Con P f [] pure cs r:=by
 refine Y8 (E:=EE P G F noL) (fun t ti h=>DA P G t ti h) ⟨fun d f fs h=>hG d f fs h,fun _ _ _ h=>oZj⟩ hmix ⟨hf,hb,hname,hok⟩ hn fun _=>?_
 simp_all[AY,adF,Qp,jX,WB]
def Zo{P:Program}{f:FuncId}{fn:Func}{body:Code}(hf:P.funcs[f]?=some fn)(hb:fn.body=some body)(hname:(fn.name == "runtime.NumGoroutine")= false)(hok : ly body = true)
  {G:Nat->Nat->Option FnS} (hG:∀d f fs,G d f=some fs->ar P f fs) {L:Nat->Nat->Option FnL} (hL:∀d f fl,L d f=some fl->B1 P f fl) (F:List (Nat×Bool)) (hmix:P.follows .mixedOrders=true) {pure:Bool} {cs:List C} {r:C} (hn:cs.length<=fn.ntmps)
  (hW:Wk (EE P G F L) body (ap (EE P G F L) (Tw (EE P G F L) fn.results.toList pure r) []) ⟨tab fn.ntmps (GP au 0 cs),RZ⟩):Con P f [] pure cs r:=by
 refine Y8 (E:=EE P G F L) (fun t ti h=>DA P G t ti h) ⟨fun d f fs h=>hG d f fs h,fun d f fl h=>hL d f fl h⟩ hmix ⟨hf,hb,hname,hok⟩ hn fun _=>?_
 simp_all[AY,adF,Qp,jX,WB]
def sw{A B D:Prop}(f:A->B->D)(b:B)(a:A):D:=f a b
def xn{R:Nat->C}:∀k,RZ k=R k∨RZ k=.dead:=abO
def xc{R R':Nat->C}{d:Nat}{c:C}(h0:R d=c)(h:∀k,R' k=R k∨R' k=.dead):∀k,upd R' d c k=R k∨upd R' d c k=.dead:=ZX h0 h
def rn{n:Nat}{f R':Nat->C}:∀t,t<n->au t=.dead∨(au t=f t/\(au t).ment (fun k _=>dN (R' k)) 3=false):=aa6
def rc{n:Nat}{f g R':Nat->C}{d:Nat}{c:C}(h0:f d=c)(hm:c.ment (fun k _=>dN (R' k)) 3=false)
  (h:∀t,t<n->g t=.dead∨(g t=f t/\(g t).ment (fun k _=>dN (R' k)) 3=false)):∀t,t<n->af g d c t=.dead∨(af g d c t=f t/\(af g d c t).ment (fun k _=>dN (R' k)) 3=false):=Z1 h0 hm h
end Go.Abs
namespace Go.Abs
section
variable {X:Ctx} {m:Nat->aq->Value} {st:St} {a:Act} {w:World} {P:Program}
def Yg{w:World}{S S':Nat->Prop}{m:aq->Value}(hS:∀b,S b->S' b){nl:Option Bool}{es:Nat}{cap:Option Nat}{rows rows':List (List C)}(h:gy rows rows')(hn:∀row∈rows',∀c∈row,fq c){d:Nat}{u:Value}
  (hO:∀i j q b,ak (.sl true nl es cap rows) ((i,j)::q)->blk (m ((i,j)::q))=some b->S' b)
  (hr:rel w S L0 m true d [] (.sl true nl es cap rows) u):rel w S' L0 m true (d+1) [] (.sl true nl es cap rows') u:=by
 cases d with
 | zero=>exact hr.elim
 | succ d=>
  obtain⟨a,k,h1,h2,h3,h4,hz,h5,h6,h7⟩:=hr;refine⟨a,k,by rw[h.len];exact h1,by rw[h.len];exact h2,h3,h4,hz,?_,fun _=>h6 rfl,?_⟩
  .intro row' hrow;obtain⟨i,hi,e⟩:=ai8 hrow;have hlt:i<rows.length:=by rw[<-h.len];exact hi
   have:=h.get i rows[i] row' (by simp[hlt]) (by simp[hi,e]);rw[this.len];exact h5 _ (nx hlt)
  .rcases h7 with h7|h7|⟨b,off,arr,elem,frz,g1,g2,g3,g4,g5⟩
   .exact .inl h7
   .simp at h7
   .refine .inr (.inr ⟨b,off,arr,elem,frz,g1,g2,fun h=>oZe,g4,?_⟩);intro i j row' c' e1 e2;have hlt:i<rows.length:=by rw[<-h.len];exact(cg.1 e1).1
    have hrow:rows[i]?=some rows[i]:=by simp[hlt]
    have hle:=h.get i rows[i] row' hrow e1;have hltj:j<rows[i].length:=by rw[<-hle.len];exact(cg.1 e2).1
    have hc:rows[i][j]?=some rows[i][j]:=by simp[hltj]
    obtain⟨u',e3,e4⟩:=g5 i j _ _ hrow hc;have hnc:=hn row' (cd e1) c' (cd e2);refine⟨u',e3,aW d (d+1) (n7 _) (Ju d hnc (hle.get j _ c' hc e2 _ _ _ m _ [] d u' (tU (S:=S) (S':=S') (m:=m) (m':=m) (p:=[]++[(i,j)]) (p':=[]) hS d ?_ e4)))⟩
    grind[ak,C.at,C.kid]
theorem qI{nl:Option Bool}{es:Nat}{cap:Option Nat}{rows:List (List C)}(hn:∀row∈rows,∀c∈row,fq c){q:aq}(h:ak (.sl true nl es cap rows) q):q=[]:=by
 cases q with
 | nil=>rfl
 | cons s q=>
  exfalso;simp only[ak,C.at,C.kid]at h;cases hr:rows[s.1]? with
  | none=>simp[hr]at h
  | some row=>
   simp only[hr,cb]at h;cases hc:row[s.2]? with
   | none=>simp[hc]at h
   | some c=>
    simp only[hc,cb]at h;exact hn row (cd hr) c (cd hc) q h
def AB(n:Nat):Nat->aq->Bool:=fun k p=>k == n && !p.isEmpty
def av.tell(H:av X m st a w){n:Nat}{nl:Option Bool}{es:Nat}{cap:Option Nat}{rows rows':List (List C)}(hR:st.roots n=.sl true nl es cap rows)(hle:gy rows rows')(hn:∀row∈rows',∀c∈row,fq c):
  av X m {tmps:=st.tmps.map (poi (AB n)),roots:=upd st.roots n (.sl true nl es cap rows')} a w:=by
 have hown:∀k p,ak (upd st.roots n (.sl true nl es cap rows') k) p->ak (st.roots k) p/\(k=n->p=[]):=by
  intro k p ho;by_cases e:k=n
  .subst e;rw[aI]at ho;have hp:=qI hn ho;subst hp;refine⟨?_,fun _=>rfl⟩;rw[hR];rfl
  .rw[aV e]at ho;exact⟨ho,fun h=>absurd h e⟩
 have hS:∀b,X.S st.roots m b->X.S (upd st.roots n (.sl true nl es cap rows')) m b:=by
  rintro b ⟨h1,h2⟩;refine⟨h1,?_⟩;rintro⟨k,p,ho,hb⟩;exact h2 ⟨k,p,(hown k p ho).1,hb⟩
 have hL:∀v u,(∀k p,v.place=some (k,p)->k=n->p=[])->Lv st.roots m v u->Lv (upd st.roots n (.sl true nl es cap rows')) m v u:=by
  intro v u hp hl;cases v with
  | pref k p i j=>
   obtain⟨nl',es',cap',rows0,b,off,kk,g1,g2,g3⟩:=hl;by_cases e:k=n
   .subst e;have:p=[]:=hp k p rfl rfl;subst this;rw[hR]at g1;obtain⟨rfl,rfl,rfl,rfl⟩:=g1;exact⟨nl,es,cap,rows',b,off,kk,by rw[aI];rfl,by rw[hle.len];exact g2,g3⟩
   .exact⟨nl',es',cap',rows0,b,off,kk,by rw[aV e];exact g1,g2,g3⟩
  | pal k p lo len c=>
   obtain⟨nl',es',cap',rows0,a0,kk,a',k',g1,g2,g3,g4⟩:=hl;by_cases e:k=n
   .subst e;have:p=[]:=hp k p rfl rfl;subst this;rw[hR]at g1;obtain⟨rfl,rfl,rfl,rfl⟩:=g1;exact⟨nl,es,cap,rows',a0,kk,a',k',by rw[aI];rfl,by rw[hle.len];exact g2,by rw[hle.len];exact g3,g4⟩
   .exact⟨nl',es',cap',rows0,a0,kk,a',k',by rw[aV e];exact g1,g2,g3,g4⟩
  | _=>exact hl
 refine⟨by simp[H.len],?_,?_,?_,?_,H.fr,H.df⟩
 .intro t c hc;simp only[cz,cq]at hc;obtain⟨c0,h0,rfl⟩:=hc;obtain⟨u,d,h1,h2⟩:=H.tmp t c0 h0;rcases ld (AB n) c0 with e|⟨e,hm⟩
  .rw[e];exact⟨u,1,h1,trivial⟩
  .rw[e];refine⟨u,d,h1,az (fun b _ hb=>⟨hS b hb,rfl⟩) d (fun v uv ho hl=>?_) (fun h=>by simp at h) (fun h=>by simp at h) h2⟩;refine hL v uv ?_ hl;intro k p hpl hk;obtain⟨k',p',e1,e2⟩:=jB d 3 c0 v hm ho;rw[hpl]at e1;obtain⟨rfl,rfl⟩:=e1;subst hk;simpa[AB]using e2
 .intro k;obtain⟨u,d,hr⟩:=H.root k;by_cases e:k=n
  .subst e;rw[hR]at hr;refine⟨u,d+1,?_⟩;show rel w _ L0 (m k) true (d+1) [] (upd st.roots k (.sl true nl es cap rows') k) u;rw[aI];refine Yg hS hle hn (fun i j q b ho hb=>?_) hr;have ho':ak (st.roots k) ((i,j)::q):=by rw[hR];exact ho
   refine⟨(H.own _ _ b ho' hb).elim .inr (fun h=>.inl (X.kS b h)),?_⟩;rintro⟨k',p',ho2,hb2⟩;obtain⟨ho3,hp⟩:=hown k' p' ho2;obtain⟨e1,e2⟩:=H.inj _ _ _ _ b ho3 ho' hb2 hb
   simp_all
  .refine⟨u,d,?_⟩;show rel w _ L0 (m k) true d [] (upd st.roots n (.sl true nl es cap rows') k) u;rw[aV e];exact az (fun b _ hb=>⟨hS b hb,rfl⟩) d (fun _ _ _ h=>h) (fun _ _ _ _ _ _=>rfl) (fun _ _ _=>rfl) hr
 .intro k p k' p' b h1 h2;exact H.inj k p k' p' b (hown k p h1).1 (hown k' p' h2).1
 .intro k p b h1;exact H.own k p b (hown k p h1).1
end
def Ui{α:Type}{row:α->List C}{l:List α}{i:Nat}{x:α}{rx ry:List C}{g:List C->List C}(hx:l[i]?=some x)(e1:row x=rx)(h:g rx=ry):(l.map row).modify i g=(l.map row).set i ry:=by
 apply nP;intro j;by_cases e:i=j
 .subst e;have hlt:=(cg.1 hx).1;have hxi:l[i]=x:=by rw[cj hlt]at hx;exact cX hx
  simp[hlt,hxi,e1,h]
 .simp[e]
def rL{α:Type}{row:α->List C}{l:List α}{i:Nat}{x:α}(ry:List C)(hx:l[i]?=some x):((l.map row).set i ry)[i]?=some ry:=by
 have hlt:=(cg.1 hx).1;simp[hlt]
def uM{α:Type}{row:α->List C}{l:List α}{i:Nat}{x:α}{ry rz:List C}{g:List C->List C}(hx:l[i]?=some x)(h:g ry=rz):((l.map row).set i ry).modify i g=(l.map row).set i rz:=by
 apply nP;intro j;have hlt:=(cg.1 hx).1;by_cases e:i=j
 .subst e;simp[hlt,h]
 .simp[e]
instance over_le {α:Type} (row:α->List C) (l:List α) (i:Nat) (ry:List C) (y:α) [h:jt ry (row y)]:AM ((l.map row).set i ry) ((l.set i y).map row):=⟨by
 refine⟨oZk,?_⟩;intro j r r' h1 h2;rw[nO]at h1;simp only[cz,nO]at h2;by_cases e:i=j
 .subst e;by_cases hl:i<l.length
  .simp only[cr,hl,if_true,cc,cI]at h1 h2;subst h1;subst h2;exact h.h
  .simp[hl]at h1
 .simp only[e,if_false,cz]at h1 h2;rw[h1]at h2;cases h2;exact LeL.refl _⟩
instance over_no {α:Type} (row:α->List C) [h:B7 row] (l:List α) (i:Nat) (rc:List C) [n:QX rc]:Fb ((l.map row).set i rc):=⟨fun r hr=>by
 rcases ajD hr with hr|rfl
 .exact h.ok.noOwn l r hr
 .exact n.h⟩
class tJ (a b:C):Prop where
 h:∀q,ak a q->ak b q
class SL (as bs:List C):Prop where
 h:∀(i:Nat) (a:C) (q:aq),as[i]?=some a->ak a q->∃b,bs[i]?=some b/\ak b q
instance (priority:=high) (a:C):tJ a a:=⟨fun _ h=>h⟩
instance (bs:List C):SL [] bs:=⟨oZk⟩
instance (a b:C) (as bs:List C) [h:tJ a b] [t:SL as bs]:SL (a::as) (b::bs):=⟨fun i c q e ho=>by
 cases i with
 | zero=>simp only[cG,cc]at e;subst e;exact⟨b,rfl,h.h q ho⟩
 | succ i=>simpa using t.h i c q (by simpa using e) ho⟩
theorem adR{as bs:List C}(t:SL as bs){s:Nat×Nat}{q:aq}(h:Option.map C.isOwn ((if s.1=0 then as[s.2]? else none).bind (·.at q))=some true):Option.map C.isOwn ((if s.1=0 then bs[s.2]? else none).bind (·.at q))=some true:=by
 split at h
 .rename_i e;rw[if_pos e];cases ha:as[s.2]? with
  | none=>rw[ha]at h;simp at h
  | some a=>
   rw[ha]at h;obtain⟨b,hb,ho⟩:=t.h s.2 a q ha h;rw[hb];exact ho
 .simp at h
instance (as bs:List C) [t:SL as bs]:tJ (.tup as) (.tup bs):=⟨fun q h=>by
 cases q with
 | nil=>simp[ak,C.at,C.isOwn]at h
 | cons s q=>exact adR t h⟩
instance (nl nl':Option Bool) (es es':Nat) (cap cap':Option Nat) (rows rows':List (List C)) [n:Fb rows]:tJ (.sl true nl es cap rows) (.sl true nl' es' cap' rows'):=⟨fun q h=>by
 rw[qI n.h h];rfl⟩
def Uw{α:Type}{row:α->List C}[hrow:B7 row]{k n:Nat}{f:Nat->C}{R:Nat->C}{nl:Option Bool}{es:Nat}{cap:Option Nat}{l:List α}{i:Nat}{rc:List C}(y:α)(rz:List C)(hR:R n=.sl true nl es cap ((l.map row).set i rc))(hz:row y=rz)[hle:jt rc rz]:
  aM ⟨tab k f,R⟩ ⟨tab k (zb (AB n) f),upd R n (.sl true nl es cap ((l.set i y).map row))⟩:=by
 rintro X a w ⟨m,H⟩;have h1:AM ((l.map row).set i rc) ((l.set i y).map row):=by
  have:jt rc (row y):=by rw[hz];exact hle
  exact over_le row l i rc y
 have:=H.tell hR h1.h (hrow.ok.noOwn (l.set i y));exact⟨m,by simpa[Fa]using this⟩
class SA (a:C) (b:outParam C):Prop where
 le:Le a b
 no:fq b
class Jz (a:List C) (b:outParam (List C)):Prop where
 le:LeL a b
 no:∀c∈b,fq c
class Sw (a:List (List C)) (b:outParam (List (List C))):Prop where
 le:gy a b
 no:∀row∈b,∀c∈row,fq c
instance (priority:=low) (a:C) [NoI a]:SA a a:=⟨Le.refl a,NoI.h⟩
instance (nl:Option Bool) (es:Nat) (cap:Option Nat) (rows:List (List C)):SA (.sl true nl es cap rows) (.sl false none es none rows):=⟨Le.sl (gy.refl rows),fq.sl _ _ _ _⟩
instance:Jz [] []:=⟨LeL.nil,Ut⟩
instance (a b:C) (as bs:List C) [SA a b] [Jz as bs]:Jz (a::as) (b::bs):=⟨LeL.cons SA.le Jz.le,SM (SA.no a) (Jz.no as)⟩
instance:Sw [] []:=⟨gy.nil,oZk⟩
instance (a b:List C) (as bs:List (List C)) [Jz a b] [h:Sw as bs]:Sw (a::as) (b::bs):=⟨gy.cons Jz.le Sw.le,fun row hr=>by
 rcases cF.1 hr with rfl|hr
 .exact Jz.no a
 .exact h.no row hr⟩
theorem fg(g:Nat->aq->Bool)(f:Nat->C)(d:Nat)(c:C):zb g (af f d c)=af (zb g f) d (poi g c):=by
 funext t
 simp only[zb,af];split<;>rfl
theorem ek(g:Nat->aq->Bool):zb g au=au:=rfl
def MO{k n:Nat}{f f':Nat->C}{R:Nat->C}{nl:Option Bool}{es:Nat}{cap:Option Nat}{rows rows':List (List C)}(hR:R n=.sl true nl es cap rows)(hf:zb (AB n) f=f')[h:Sw rows rows']:
  aM ⟨tab k f,R⟩ ⟨tab k f',upd R n (.sl true nl es cap rows')⟩:=by
 subst hf;rintro X a w ⟨m,H⟩;exact⟨m,by simpa[Fa]using H.tell hR h.le h.no⟩
def tu{k n:Nat}{f f':Nat->C}{R:Nat->C}{nl:Option Bool}{es:Nat}{cap:Option Nat}{rows rows':List (List C)}(told:List (List C))(ht:told=rows')(hR:R n=.sl true nl es cap rows)(hf:zb (AB n) f=f')[hle:AM rows rows'][hn:Fb rows']:
  aM ⟨tab k f,R⟩ ⟨tab k f',upd R n (.sl true nl es cap rows')⟩:=by
 subst hf;rintro X a w ⟨m,H⟩;exact⟨m,by simpa[Fa]using H.tell hR hle.h hn.h⟩
attribute [go_sem] AB List.isEmpty_nil
class TE {α:Type} (f g:α->List C):Prop where
 h:∀x,LeL (f x) (g x)
instance leRF_map {α:Type} (f g:α->List C) (l:List α) [h:TE f g]:AM (l.map f) (l.map g):=⟨gy.map h.h l⟩
theorem acG{α:Type}(f g:α->List C)(l:List α)(i:Nat)(ry:List C)(y:α)[hF:TE f g][h:jt ry (g y)]:AM ((l.map f).set i ry) ((l.set i y).map g):=⟨by
 refine⟨oZk,?_⟩;intro j r r' h1 h2;rw[nO]at h1;simp only[cz,nO]at h2;by_cases e:i=j
 .subst e;by_cases hl:i<l.length
  .simp only[cr,hl,if_true,cc,cI]at h1 h2;subst h1;subst h2;exact h.h
  .simp[hl]at h1
 .simp only[e,if_false,cz]at h1 h2;cases hx:l[j]? with
  | none=>rw[hx]at h1;cases h1
  | some x=>
   rw[hx]at h1 h2;cases h1;cases h2;exact hF.h x⟩
instance over_leF' {α:Type} (f g:α->List C) (l:List α) (i:Nat) (ry:List C) (y:α) [hF:TE f g] [h:jt ry (g y)]:AM ((l.map f).set i ry) ((l.set i y).map g):=acG f g l i ry y
def mxR{α:Type}(f g:α->List C)(i:Nat)(l:List α):List (List C):=(l.take i).map f++(l.drop i).map g
section
variable {α:Type} {f g:α->List C} {i:Nat} {l:List α}
def Bz:(mxR f g i l).length=l.length:=by simp[mxR];omega
def ad2(h:l.length<=i):mxR f g i l=l.map f:=by simp[mxR,cT h,xh h]
def Uy{x:α}(hx:l[i]?=some x):mxR f g i l=(l.take i).map f++g x::(l.drop (i+1)).map g:=by
 have hlt:=(cg.1 hx).1;have hxi:=(cg.1 hx).2;unfold mxR;rw[nI hlt,hC,hxi]
def RB{x:α}(hx:l[i]?=some x):((l.take i).map f).length=i:=by
 have hlt:=(cg.1 hx).1;simp;omega
theorem Ug{x:α}(hx:l[i]?=some x):(mxR f g i l)[i]?=some (g x):=by
 rw[Uy hx,ni (by rw[RB hx];exact ck _),RB hx,xD];rfl
def abn{x:α}{rx ry:List C}{k:List C->List C}(hx:l[i]?=some x)(e1:g x=rx)(h:k rx=ry):(mxR f g i l).modify i k=(mxR f g i l).set i ry:=by
 apply nP;intro j;have hlt:i <(mxR f g i l).length:=by rw[Bz];exact(cg.1 hx).1
 rw[List.getElem?_modify,nO];by_cases e:i=j
 .subst e;rw[Ug hx];simp[hlt,e1,h]
 .simp[e]
theorem V0{x:α}(hx:l[i]?=some x)(y:α):(mxR f g i l).set i (f y)=mxR f g (i+1) (l.set i y):=by
 have hlt:=(cg.1 hx).1;rw[Uy hx,ajE _ _ (by rw[RB hx];exact ck _),RB hx,xD,ajF];unfold mxR;have e1:(l.set i y).take (i+1)=l.take i++[y]:=by
  rw[xp,nO];simp only[if_true,hlt,xF];rw[ajG (ck i)]
 have e2:(l.set i y).drop (i+1)=l.drop (i+1):=by
  rw[List.drop_set];simp
 rw[e1,e2,cW,hU];rfl
def abE(y:α):(l.map f).set i (f y)=(l.set i y).map f:=by rw[xS]
end
@[irreducible] def Rs{α β:Type}(l:List α)(i:Nat)(k:Option β):Option β:=if l.length<=i then k else none
def Ve{α β:Type}{l:List α}{i:Nat}{k:Option β}{r:β}(h:Rs l i k=some r):l.length<=i/\k=some r:=by
 unfold Rs at h;split at h
 .rename_i hl;exact⟨hl,h⟩
 .cases h
def aey{α β:Type}{l:List α}{i:Nat}{k:Option β}(h:l.length<=i):Rs l i k=k:=by unfold Rs;exact if_pos h
def U6{k n:Nat}{f f':Nat->C}{R:Nat->C}{nl:Option Bool}{es:Nat}{cap:Option Nat}{rows rows':List (List C)}(hR:R n=.sl true nl es cap rows)(he:rows=rows')(hf:zb (AB n) f=f'):
  aM ⟨tab k f,R⟩ ⟨tab k f',upd R n (.sl true nl es cap rows')⟩:=by
 subst he hf;have hu:upd R n (.sl true nl es cap rows)=R:=by
  funext t;unfold upd;split
  .rename_i e;rw[e,hR]
  .rfl
 rw[hu];rintro X a w ⟨m,H⟩;refine⟨m,⟨by rw[H.len];simp[oU],?_,H.root,H.inj,H.own,H.fr,H.df⟩⟩;intro t c hc;rw[fe]at hc;split at hc
 case isFalse=>simp at hc
 rename_i hlt;simp only[cc]at hc;subst hc;obtain⟨u,d,h1,h2⟩:=H.tmp t (f t) (by simp only[fe,hlt,if_true]);rcases ld (AB n) (f t)with e|⟨e,_⟩
 .exact⟨u,1,h1,by simp only[zb];rw[e];trivial⟩
 grind[zb]
def Z6{α:Type}{row:α->List C}{k n:Nat}{f f':Nat->C}{R:Nat->C}{nl:Option Bool}{es:Nat}{cap:Option Nat}{l:List α}{i:Nat}{rc:List C}(y:α)(hR:R n=.sl true nl es cap ((l.map row).set i rc))(hz:row y=rc)(hf:zb (AB n) f=f'):
  aM ⟨tab k f,R⟩ ⟨tab k f',upd R n (.sl true nl es cap ((l.set i y).map row))⟩:=U6 hR (by rw[<-hz,abE]) hf
def aar{α:Type}{f0 g0:α->List C}{k n:Nat}{f f':Nat->C}{R:Nat->C}{nl:Option Bool}{es:Nat}{cap:Option Nat}{l:List α}{i:Nat}{x:α}{rc:List C}(y:α)(hx:l[i]?=some x)(hR:R n=.sl true nl es cap ((mxR f0 g0 i l).set i rc))(hz:f0 y=rc)(hf:zb (AB n) f=f'):
  aM ⟨tab k f,R⟩ ⟨tab k f',upd R n (.sl true nl es cap (mxR f0 g0 (i+1) (l.set i y)))⟩:=U6 hR (by rw[<-hz,V0 hx]) hf
def fn1{A0:Type}(d0:C->Option A0)(f:A0->Option C):List C->Option C
 | [c0]=>(d0 c0).bind fun q0=>f q0
 | _=>none
def ok1{P:Program}{k:FuncId}{pure:Bool}{A0:Type}{d0:C->Option A0}{f:A0->Option C}{t0:A0->C}(h:∀q0 r,f q0=some r->Con P k [] pure [t0 q0] r)(l0:∀{c x},d0 c=some x->Le c (t0 x)):ar P k ⟨[],pure,fn1 d0 f,false⟩:=by
 refine⟨fun cs r hr=>?_,fun h=>oZj⟩;simp only[fn1]at hr;split at hr
 .simp only[cv]at hr;obtain⟨q0,h0,hr⟩:=hr;exact(h q0 r hr).args (LeL.cons (l0 h0) (LeL.nil))
 .cases hr
def fn2{A0 A1:Type}(d0:C->Option A0)(d1:C->Option A1)(f:A0->A1->Option C):List C->Option C
 | [c0,c1]=>(d0 c0).bind fun q0=>(d1 c1).bind fun q1=>f q0 q1
 | _=>none
def ok2{P:Program}{k:FuncId}{pure:Bool}{A0 A1:Type}{d0:C->Option A0}{d1:C->Option A1}{f:A0->A1->Option C}{t0:A0->C}{t1:A1->C}(h:∀q0 q1 r,f q0 q1=some r->Con P k [] pure [t0 q0,t1 q1] r)(l0:∀{c x},d0 c=some x->Le c (t0 x))(l1:∀{c x},d1 c=some x->Le c (t1 x)):ar P k ⟨[],pure,fn2 d0 d1 f,false⟩:=by
 refine⟨fun cs r hr=>?_,fun h=>oZj⟩;simp only[fn2]at hr;split at hr
 .simp only[cv]at hr;obtain⟨q0,h0,q1,h1,hr⟩:=hr;exact(h q0 q1 r hr).args (LeL.cons (l0 h0) (LeL.cons (l1 h1) (LeL.nil)))
 .cases hr
def fn3{A0 A1 A2:Type}(d0:C->Option A0)(d1:C->Option A1)(d2:C->Option A2)(f:A0->A1->A2->Option C):List C->Option C
 | [c0,c1,c2]=>(d0 c0).bind fun q0=>(d1 c1).bind fun q1=>(d2 c2).bind fun q2=>f q0 q1 q2
 | _=>none
def ok3{P:Program}{k:FuncId}{pure:Bool}{A0 A1 A2:Type}{d0:C->Option A0}{d1:C->Option A1}{d2:C->Option A2}{f:A0->A1->A2->Option C}{t0:A0->C}{t1:A1->C}{t2:A2->C}(h:∀q0 q1 q2 r,f q0 q1 q2=some r->Con P k [] pure [t0 q0,t1 q1,t2 q2] r)(l0:∀{c x},d0 c=some x->Le c (t0 x))(l1:∀{c x},d1 c=some x->Le c (t1 x))(l2:∀{c x},d2 c=some x->Le c (t2 x)):ar P k ⟨[],pure,fn3 d0 d1 d2 f,false⟩:=by
 refine⟨fun cs r hr=>?_,fun h=>oZj⟩;simp only[fn3]at hr;split at hr
 .simp only[cv]at hr;obtain⟨q0,h0,q1,h1,q2,h2,hr⟩:=hr;exact(h q0 q1 q2 r hr).args (LeL.cons (l0 h0) (LeL.cons (l1 h1) (LeL.cons (l2 h2) (LeL.nil))))
 .cases hr
def fn4{A0 A1 A2 A3:Type}(d0:C->Option A0)(d1:C->Option A1)(d2:C->Option A2)(d3:C->Option A3)(f:A0->A1->A2->A3->Option C):List C->Option C
 | [c0,c1,c2,c3]=>(d0 c0).bind fun q0=>(d1 c1).bind fun q1=>(d2 c2).bind fun q2=>(d3 c3).bind fun q3=>f q0 q1 q2 q3
 | _=>none
def ok4{P:Program}{k:FuncId}{pure:Bool}{A0 A1 A2 A3:Type}{d0:C->Option A0}{d1:C->Option A1}{d2:C->Option A2}{d3:C->Option A3}{f:A0->A1->A2->A3->Option C}{t0:A0->C}{t1:A1->C}{t2:A2->C}{t3:A3->C}(h:∀q0 q1 q2 q3 r,f q0 q1 q2 q3=some r->Con P k [] pure [t0 q0,t1 q1,t2 q2,t3 q3] r)(l0:∀{c x},d0 c=some x->Le c (t0 x))(l1:∀{c x},d1 c=some x->Le c (t1 x))(l2:∀{c x},d2 c=some x->Le c (t2 x))(l3:∀{c x},d3 c=some x->Le c (t3 x)):ar P k ⟨[],pure,fn4 d0 d1 d2 d3 f,false⟩:=by
 refine⟨fun cs r hr=>?_,fun h=>oZj⟩;simp only[fn4]at hr;split at hr
 .simp only[cv]at hr;obtain⟨q0,h0,q1,h1,q2,h2,q3,h3,hr⟩:=hr;exact(h q0 q1 q2 q3 r hr).args (LeL.cons (l0 h0) (LeL.cons (l1 h1) (LeL.cons (l2 h2) (LeL.cons (l3 h3) (LeL.nil)))))
 .cases hr
def fn5{A0 A1 A2 A3 A4:Type}(d0:C->Option A0)(d1:C->Option A1)(d2:C->Option A2)(d3:C->Option A3)(d4:C->Option A4)(f:A0->A1->A2->A3->A4->Option C):List C->Option C
 | [c0,c1,c2,c3,c4]=>(d0 c0).bind fun q0=>(d1 c1).bind fun q1=>(d2 c2).bind fun q2=>(d3 c3).bind fun q3=>(d4 c4).bind fun q4=>f q0 q1 q2 q3 q4
 | _=>none
def ok5{P:Program}{k:FuncId}{pure:Bool}{A0 A1 A2 A3 A4:Type}{d0:C->Option A0}{d1:C->Option A1}{d2:C->Option A2}{d3:C->Option A3}{d4:C->Option A4}{f:A0->A1->A2->A3->A4->Option C}{t0:A0->C}{t1:A1->C}{t2:A2->C}{t3:A3->C}{t4:A4->C}(h:∀q0 q1 q2 q3 q4 r,f q0 q1 q2 q3 q4=some r->Con P k [] pure [t0 q0,t1 q1,t2 q2,t3 q3,t4 q4] r)(l0:∀{c x},d0 c=some x->Le c (t0 x))(l1:∀{c x},d1 c=some x->Le c (t1 x))(l2:∀{c x},d2 c=some x->Le c (t2 x))(l3:∀{c x},d3 c=some x->Le c (t3 x))(l4:∀{c x},d4 c=some x->Le c (t4 x)):ar P k ⟨[],pure,fn5 d0 d1 d2 d3 d4 f,false⟩:=by
 refine⟨fun cs r hr=>?_,fun h=>oZj⟩;simp only[fn5]at hr;split at hr
 .simp only[cv]at hr;obtain⟨q0,h0,q1,h1,q2,h2,q3,h3,q4,h4,hr⟩:=hr;exact(h q0 q1 q2 q3 q4 r hr).args (LeL.cons (l0 h0) (LeL.cons (l1 h1) (LeL.cons (l2 h2) (LeL.cons (l3 h3) (LeL.cons (l4 h4) (LeL.nil))))))
 .cases hr
def fn6{A0 A1 A2 A3 A4 A5:Type}(d0:C->Option A0)(d1:C->Option A1)(d2:C->Option A2)(d3:C->Option A3)(d4:C->Option A4)(d5:C->Option A5)(f:A0->A1->A2->A3->A4->A5->Option C):List C->Option C
 | [c0,c1,c2,c3,c4,c5]=>(d0 c0).bind fun q0=>(d1 c1).bind fun q1=>(d2 c2).bind fun q2=>(d3 c3).bind fun q3=>(d4 c4).bind fun q4=>(d5 c5).bind fun q5=>f q0 q1 q2 q3 q4 q5
 | _=>none
def ok6{P:Program}{k:FuncId}{pure:Bool}{A0 A1 A2 A3 A4 A5:Type}{d0:C->Option A0}{d1:C->Option A1}{d2:C->Option A2}{d3:C->Option A3}{d4:C->Option A4}{d5:C->Option A5}{f:A0->A1->A2->A3->A4->A5->Option C}{t0:A0->C}{t1:A1->C}{t2:A2->C}{t3:A3->C}{t4:A4->C}{t5:A5->C}(h:∀q0 q1 q2 q3 q4 q5 r,f q0 q1 q2 q3 q4 q5=some r->Con P k [] pure [t0 q0,t1 q1,t2 q2,t3 q3,t4 q4,t5 q5] r)(l0:∀{c x},d0 c=some x->Le c (t0 x))(l1:∀{c x},d1 c=some x->Le c (t1 x))(l2:∀{c x},d2 c=some x->Le c (t2 x))(l3:∀{c x},d3 c=some x->Le c (t3 x))(l4:∀{c x},d4 c=some x->Le c (t4 x))(l5:∀{c x},d5 c=some x->Le c (t5 x)):ar P k ⟨[],pure,fn6 d0 d1 d2 d3 d4 d5 f,false⟩:=by
 refine⟨fun cs r hr=>?_,fun h=>oZj⟩;simp only[fn6]at hr;split at hr
 .simp only[cv]at hr;obtain⟨q0,h0,q1,h1,q2,h2,q3,h3,q4,h4,q5,h5,hr⟩:=hr;exact(h q0 q1 q2 q3 q4 q5 r hr).args (LeL.cons (l0 h0) (LeL.cons (l1 h1) (LeL.cons (l2 h2) (LeL.cons (l3 h3) (LeL.cons (l4 h4) (LeL.cons (l5 h5) (LeL.nil)))))))
 .cases hr
attribute [go_sem] fn1 fn2 fn3 fn4 fn5 fn6
end Go.Abs
namespace Go.Abs
def MD(n:Nat):C->C
 | .sl true _ _ (some 1) [_]=>.pref n [] 0 0
 | .sl true none _ none rows=>.pal n [] 0 rows.length none
 | _=>.dead
def Ek:List Nat->List C->List C
 | n::ns,c::cs=>MD n c::Ek ns cs
 | _,cs=>cs
def acy(E:Env)(vs:List ResultVar)(k:Nat)(r:C)(ls:List C):Exit->St->Prop:=fun e s=>(e=.ret∨e=.normal)/\∃s',aM s s'/\∃cs rs,B6 E s' vs=some cs/\fo cs=some rs/\Le (qB rs) r ∧
 ∀(i:Nat) (c:C),ls[i]?=some c->s'.tmps[i]?=some (MD i c)/\s'.roots i=c
section
variable {X:Ctx} {m:Nat->aq->Value} {st:St} {a:Act} {w:World} {P:Program}
def aaH{k:Nat}{cs:List C}{us:List Value}{S:Nat->Prop}{n:Nat}(hl:us.length=cs.length)(hn:cs.length<=n)(hone:∀(i:Nat) (c:C),cs[i]?=some c->i<k->∃x,dC c=some x)
  (hp:∀(i:Nat) (c:C),cs[i]?=some c->k<=i->∃u d,us[i]?=some u/\rel w (fun b=>S b/\¬aJ (Rl k cs) m b) L0 dm false d [] c u)
  (hr:∀(i:Nat) (c:C),cs[i]?=some c->i<k->∃u d,us[i]?=some u/\Hd c u (m i [])/\rel w (fun b=>S b/\¬aJ (Rl k cs) m b) L0 (m i) true d [] c (m i []))
  (hinj:Inj (Rl k cs) m) (f:Nat->C) (hf:∀t,f t=if t<k/\t<cs.length then MD t ((cs[t]?).getD .dead)else(cs[t]?).getD .dead):
  av (F2 w S (aJ (Rl k cs) m)) m ⟨tab n f,Rl k cs⟩ {tmps:=us.toArray++Array.replicate (n-us.toArray.size) undef,defers:=[]} w:=by
 have hS:∀b,b<w.heap.size->(S b/\¬aJ (Rl k cs) m b)->Ctx.S (F2 w S (aJ (Rl k cs) m)) (Rl k cs) m b/\w.heap[b]?=w.heap[b]?:=fun b _ hb=>⟨⟨.inl (.inl hb.1),hb.2⟩,rfl⟩;refine⟨?_,?_,?_,hinj,?_,⟨rfl,rfl,rfl,ck _,ck _,fun _ _ _=>rfl⟩,rfl⟩
 .simp_all[oU,xQ,xg,ajC]
 .intro t c ht;rw[fe]at ht;split at ht
  case isFalse=>cases ht
  rename_i htn;simp only[cc]at ht;subst ht;rw[hf];by_cases hlt:t<cs.length
  .have hc:cs[t]?=some cs[t]:=cj hlt;have hu:∀u,us[t]?=some u->(us.toArray++Array.replicate (n-us.toArray.size) undef)[t]?=some u:=by
    simp_all
   by_cases hk:t<k
   .rw[if_pos ⟨hk,hlt⟩];obtain⟨u,d,e1,e2,e3⟩:=hr t _ hc hk;obtain⟨⟨es,x⟩,g2⟩:=hone t _ hc hk;simp only[Hd,g2]at e2;obtain⟨nl,cap,rows,g3,g4⟩:=Cg g2;rcases g4 with⟨rfl,rfl,row,rfl⟩|⟨rfl,rfl,rfl⟩
    .obtain⟨b,off,rfl,e4⟩:=e2;refine⟨_,1,hu _ e1,?_⟩;rw[hc,nB,g3];refine⟨nl,es,some 1,[row],b,off,1,?_,e4,oZk⟩
     simp_all[C.at,Rl]
    .rw[g3]at e3;obtain⟨a1,k1,D,q1,q2,q3,q4,q5,q6,q7,q8⟩:=ei e3;refine⟨u,1,hu _ e1,?_⟩;rw[hc,nB,g3];have hat:(Rl k cs t).at []=some (.sl true none es none rows):=by simp_all[C.at,Rl]
     rcases e2 with e2|⟨a,a',e2,e4⟩
     .refine⟨none,es,none,rows,a1,k1,a1,k1,hat,q2,oZg,by rw[e2,q2],q3,oZg,(fun c h=>by cases h),fun _=>oZg,?_⟩
      grind
     .rw[e4]at q2;simp only[Value.slice.injEq]at q2;obtain⟨q9,q10,q11⟩:=q2;refine⟨none,es,none,rows,a',0,a,0,hat,by rw[e4,q10],oZg,by rw[e2,q10],oZg,oZg,(fun c h=>by cases h),fun _=>rfl,.inl rfl⟩
   .rw[if_neg (fun h=>hk h.1),hc];obtain⟨u,d,e1,e2⟩:=hp t _ hc oZg;exact⟨u,d,hu u e1,az hS d (fun _ _ _ h=>h.elim) (fun h=>by simp at h) (fun h=>by simp at h) e2⟩
  .rw[if_neg (fun h=>hlt h.2),ajH oZg];refine⟨undef,1,?_,trivial⟩
   grind
 .intro i;by_cases hk:i<k
  .cases hc:cs[i]? with
   | none=>exact⟨undef,1,by simp only[Rl,hk,if_true,hc];trivial⟩
   | some c=>
    obtain⟨u,d,e1,e2,e3⟩:=hr i c hc hk;refine⟨m i [],d,?_⟩;have eR:Rl k cs i=c:=by simp[Rl,hk,hc]
    show rel w (Ctx.S (F2 w S (aJ (Rl k cs) m)) (Rl k cs) m) L0 (m i) true d [] (Rl k cs i) (m i []);rw[eR];exact az (m:=m i) (m':=m i) (p:=[]) (p':=[]) hS d (fun _ _ _ h=>h) (fun _ _ _ _ _ _=>rfl) (fun _ _ _=>rfl) e3
  .exact⟨undef,1,by simp only[Rl,hk,if_false];trivial⟩
 .intro i p b ho hb;exact .inr ⟨i,p,ho,hb⟩
def aeO(k:Nat):∀(cs:List C),k<=cs.length->∀j,Fq (List.range' j k) cs RZ=fun n=>if j<=n/\n<j+k then(cs[n-j]?).getD .dead else .dead:=by
 induction k with
 | zero=>intro cs _ j;funext n;rw[if_neg oZg];cases cs<;>rfl
 | succ k ih=>
  intro cs hk j;cases cs with
  | nil=>simp at hk
  | cons c cs=>
   simp only[xM,Fq]
   funext n
   by_cases e:n=j
   .simp_all[upd]
   .simp only[upd,e,if_false]
    grind
theorem OX(k:Nat):∀(cs:List C),k<=cs.length->∀j t,(Ek (List.range' j k) cs)[t]?=if t<k then some (MD (j+t) ((cs[t]?).getD .dead))else cs[t]?:=by
 induction k with
 | zero=>simp_all[Ek]
 | succ k ih=>
  intro cs hk j t;cases cs with
  | nil=>simp at hk
  | cons c cs=>
   simp only[xM,Ek]
   grind
def Wj(k:Nat)(cs:List C)(h:k<=cs.length)(j:Nat):(Ek (List.range' j k) cs).length=cs.length:=by
 apply Nat.le_antisymm
 .apply aiR.1
  simp_all[OX]
 .have h1:(Ek (List.range' j k) cs)[(Ek (List.range' j k) cs).length]?=none:=oZk
  grind[OX]
def acN{f:FuncId}{fn:Func}{body:Code}(hf:P.funcs[f]?=some fn)(hb:fn.body=some body)(hname:(fn.name == "runtime.NumGoroutine")= false)(hok : ly body = true)(k : Nat)(hkeep : mN (List.range' 0 k) body = true)
  {G:Nat->Nat->Option FnS} (hG:∀d f fs,G d f=some fs->ar P f fs) {L:Nat->Nat->Option FnL} (hL:∀d f fl,L d f=some fl->B1 P f fl) (F:List (Nat×Bool)) (hmix:P.follows .mixedOrders=true) {cs ls:List C} {r:C} (hn:cs.length<=fn.ntmps) (hk:k<=cs.length)
  (hone:∀(i:Nat) (c:C),cs[i]?=some c->i<k->∃x,dC c=some x) (hls:ls.map dC=(cs.take k).map dC)
  (hW:Wk (EE P G F L) body (ap (EE P G F L) (acy (EE P G F L) fn.results.toList k r ls) []) ⟨tab fn.ntmps (GP au 0 (Ek (List.range' 0 k) cs)),Fq (List.range' 0 k) cs RZ⟩):qe P f k cs r ls:=by
 intro w S m us hl hp hr hinj;left;have hname':¬fn.name = "runtime.NumGoroutine" := oZf;refine⟨by simp_all[callFunc], ?_⟩;have eR : Fq (List.range' 0 k) cs RZ = Rl k cs := by
  rw[aeO k cs hk 0]
  funext n
  simp_all[Rl]
 rw[eR]at hW;have H:=aaH (n:=fn.ntmps) hl hn hone hp hr hinj (GP au 0 (Ek (List.range' 0 k) cs)) (by
  intro t;rw[Tj,Wj k cs hk 0];by_cases h:t<cs.length
  .rw[if_pos ⟨oZg,oZg⟩,OX k cs hk 0]
   grind
  .rw[if_neg oZg,if_neg oZg,ajH oZg];rfl)
 have hGO:GOk P (EE P G F L):=⟨fun d f fs h=>hG d f fs h,fun d f fl h=>hL d f fl h⟩;have hTO:TOk P (EE P G F L):=fun t ti h=>DA P G t ti h;refine calls_of_wp hf hb (wp_mono (hW P hTO hGO hmix hok _ _ _ ⟨m,H⟩ (List.range' 0 k) hkeep) ?_);rintro e a' w' ⟨⟨s,⟨he,s',hwk,cs',rs,hres,hpl,hle,hend⟩,H1⟩,hsm⟩;have hsm':yT (List.range' 0 k) {tmps:=us.toArray++Array.replicate (fn.ntmps-us.toArray.size) undef,defers:=[]} a':=hsm.resolve_left (by rcases he with rfl|rfl<;>simp)
 obtain⟨m',H'⟩:=hwk _ _ _ H1;obtain⟨us',f1,f2,f3⟩:=Pr hTO H' hres;obtain⟨⟨D,hrel⟩,hno⟩:=Sf hTO H' f2 f3 hpl;have hlsl:ls.length=k:=by have:=congrArg List.length hls;grind
 have hRl:∀i p,ak (Rl k ls i) p->∃c,ls[i]?=some c/\i<k/\s'.roots i=c/\ak (s'.roots i) p:=by
  grind[Rl,List.getElem?_eq_getElem,aY]
 have hOw:∀b,aJ (Rl k ls) m' b->aJ s'.roots m' b:=by
  rintro b ⟨i,p,ho,hb⟩;obtain⟨c,_,_,_,h2⟩:=hRl i p ho;exact⟨i,p,h2,hb⟩
 have hS:∀b,b<w'.heap.size->Ctx.S (F2 w S (aJ (Rl k cs) m)) s'.roots m' b->((S b∨aJ (Rl k cs) m b∨w.heap.size<=b)/\¬aJ (Rl k ls) m' b)/\w'.heap[b]?=w'.heap[b]?:=by
  intro b _ hs;refine⟨⟨?_,fun h=>hs.2 (hOw b h)⟩,rfl⟩;rcases hs.1 with h|h
  .rcases h with h|h
   .exact .inl h
   simp_all
  .exact .inr (.inr h)
 have hkey:∀(i:Nat) (c:C),ls[i]?=some c->(m' i []=m i [])∨(∃a a2 es,m i []=.slice a 0 0/\m' i []=.slice a2 0 0/\c=.sl true none es none []):=by
  intro i c hc;have hi:i<k:=oZi;obtain⟨e1,e2⟩:=hend i _ hc;have hci:cs[i]?=some cs[i]:=cj oZg;obtain⟨u,d0,g1,g2,g3⟩:=hr i _ hci hi;obtain⟨⟨es,y⟩,q1⟩:=hone i _ hci hi;have q2:dC c=some (es,y):=by
   have:=congrArg (fun l=>l[i]?) hls
   grind
  simp only[Hd,q1]at g2;obtain⟨uv,dv,k1,k2⟩:=H'.tmp i _ e1;have hs2:=hsm' i oZf;rw[k1,ajs oZd]at hs2;simp only[ajt,g1,cc]at hs2;subst hs2;obtain⟨nl,cap,rows,y1,y2⟩:=Cg q2;rcases y2 with⟨rfl,rfl,row,rfl⟩|⟨rfl,rfl,rfl⟩
  .left;obtain⟨b0,off0,rfl,g4⟩:=g2;rw[y1]at k2;obtain⟨nl',es',cap',rows',b',off',kk,p1,p2,p3⟩:=pf ⟨dv,k2⟩;simp only[Value.pointer.injEq,cc,Addr.mk.injEq,aiK,xz,and_true]at p3;obtain⟨rfl,rfl⟩:=p3;obtain⟨u0,dd,hr0⟩:=H'.root i;rw[e2,y1]at hr0;obtain⟨a1,k2',D2,z1,z2,z3,z4,z5,_⟩:=ei hr0
   simp_all
  .rw[y1]at k2;obtain⟨nl',es',cap',rows',a,kk,a',k',f1,f2,f3,f4,f5,f6,f7,f8,f9⟩:=eD ⟨dv,k2⟩;have f1':(s'.roots i).at []=some (.sl true nl' es' cap' rows'):=f1;rw[e2,y1]at f1';simp only[C.at,cc,C.sl.injEq,true_and]at f1';obtain⟨rfl,rfl,rfl,rfl⟩:=f1';have hkk:=f8 rfl;rcases f9 with f9|⟨b,off,w1,w2⟩
   .right;have hrl:rows=[]:=nb oZg
    grind
   grind
 have hin:∀i,i<k->∃c,ls[i]?=some c:=fun i hi=>⟨_,cj oZg⟩;obtain⟨mk,hmk⟩:∃mk:Nat->aq->Value,mk=fun i p=>if p=[]/\i<k then m i []else m' i p:=⟨_,rfl⟩
 have hblk:∀i p,blk (mk i p)=blk (m' i p):=by
  intro i p;rw[hmk];simp only;split
  .rename_i hp;obtain⟨rfl,hi⟩:=hp;obtain⟨c,hc⟩:=hin i hi;rcases hkey i c hc with h|⟨a,a2,es,h1,h2,_⟩
   .rw[h]
   .rw[h1,h2];cases a<;>cases a2<;>rfl
  .rfl
 have hOwn:aJ (Rl k ls) mk=aJ (Rl k ls) m':=by
  funext b
  apply propext;constructor
  .rintro⟨i,p,ho,hb⟩;exact⟨i,p,ho,oZf⟩
  .rintro⟨i,p,ho,hb⟩;exact⟨i,p,ho,oZf⟩
 have post:a'.defers=[]/\∃v,(results fn a'.tmps).run P w'=.ok v w'/\∃u,Ending.returned v=.returned u/\∃mk:Nat->aq->Value,
   (∃d,rel w' (fun b=>(S b∨aJ (Rl k cs) m b∨w.heap.size<=b)/\¬aJ (Rl k ls) mk b) L0 dm false d [] r u)∧
   (∀(i:Nat) (c:C),ls[i]?=some c->mk i []=m i []/\∃uu d,rel w' (fun b=>(S b∨aJ (Rl k cs) m b∨w.heap.size<=b)/\¬aJ (Rl k ls) mk b) L0 (mk i) true d [] c uu)∧
   Inj (Rl k ls) mk/\(∀b,aJ (Rl k ls) mk b->w.heap.size<=b∨aJ (Rl k cs) m b)/\FrK w (aJ (Rl k cs) m) w':=by
  refine⟨H'.df,_,F3 f1,_,rfl,mk,?_,?_,?_,?_,⟨H'.fr.os,H'.fr.tape,H'.fr.output,H'.fr.drawn,H'.fr.size,H'.fr.block⟩⟩
  .have h1:=tU (S':=Ctx.S (F2 w S (aJ (Rl k cs) m)) s'.roots m') (m':=dm) (p':=[]) (fun b h=>h) D (fun _ q b ho=>(hno q ho).elim) hrel;have h2:=hle _ _ _ dm _ [] _ _ h1;rw[hOwn];exact⟨D,az hS D (fun _ _ _ h=>h) (fun h=>by simp at h) (fun h=>by simp at h) h2⟩
  .intro i c hc;have hi:i<k:=oZi;have hm0:mk i []=m i []:=oZf;refine⟨hm0,?_⟩;rw[hOwn];obtain⟨e1,e2⟩:=hend i c hc;rcases hkey i c hc with h|⟨a,a2,es,h1,h2,h3⟩
   .have hmi:mk i=m' i:=by
     grind
    obtain⟨u0,dd,hr0⟩:=H'.root i;rw[e2]at hr0;rw[hmi];exact⟨u0,dd,az hS dd (fun _ _ _ h=>h) (fun _ _ _ _ _ _=>rfl) (fun _ _ _=>rfl) hr0⟩
   .rw[h3];exact⟨_,1,qt (a:=a) (k:=0) oZf oZk oZk (fun c h=>by cases h) ⟨(fun b h=>by cases h),fun _=>rfl⟩ oZk (.inl rfl)⟩
  .intro i p i' p' b h1 h2 h3 h4;rw[hblk]at h3 h4;obtain⟨_,_,_,_,g1⟩:=hRl i p h1;obtain⟨_,_,_,_,g2⟩:=hRl i' p' h2;exact H'.inj _ _ _ _ b g1 g2 h3 h4
  .intro b hb0;rw[hOwn]at hb0;obtain⟨i,p,ho,hb⟩:=hb0;obtain⟨_,_,_,_,g1⟩:=hRl i p ho;exact H'.own i p b g1 hb
 rcases he with rfl|rfl
 .exact post
 .exact post
structure Ac (c c':C):Prop where
 ex:∃es cap rows rows',c=.sl true none es cap rows/\c'=.sl true none es cap rows'/\gy rows rows'/\(∀row∈rows,∀x∈row,fq x)/\∀row∈rows',∀x∈row,fq x
def Ac.own{c c':C}(h:Ac c c')(q:aq):(ak c q↔q=[])/\(ak c' q↔q=[]):=by
 obtain⟨es,cap,row,row',rfl,rfl,_,h1,h2⟩:=h.ex;have key:∀(r:List (List C)),(∀row∈r,∀x∈row,fq x)->(ak (.sl true none es cap r) q↔q=[]):=by
  intro r hr;constructor
  .grind[qI]
  .rintro rfl;rfl
 grind
def abh{nl nl':Option Bool}{es:Nat}{cap:Option Nat}{rows rows':List (List C)}(h:rows.length=rows'.length)(hn:nl=nl'):dC (.sl true nl es cap rows)=dC (.sl true nl' es cap rows'):=by
 subst hn;cases cap with
 | none=>cases nl<;>simp[dC,h]
 | some n=>
  match rows,rows',h with
  | [],[],_=>rfl
  | [a],[b],_=>by_cases hn:n=1<;>simp[dC,hn]
  | a::b::r,a'::b'::r',_=>simp[dC]
theorem Ac.one{c c':C}(h:Ac c c'):dC c=dC c':=by
 obtain⟨es,cap,row,row',rfl,rfl,hl,_⟩:=h.ex;exact abh hl.len.symm rfl
def Ac.hd{c c':C}(h:Ac c c'){u v:Value}(hd:Hd c u v):Hd c' u v:=by
 unfold Hd at hd ⊢;rw[<-h.one];exact hd
def Ac.rel{c c':C}(h:Ac c c'){w:World}{S:Nat->Prop}{m:aq->Value}{d:Nat}{u:Value}(hr:Go.Abs.rel w S L0 m true d [] c u):Go.Abs.rel w S L0 m true (d+1) [] c' u:=by
 obtain⟨es,cap,row,row',rfl,rfl,hle,h1,h2⟩:=h.ex;refine Yg (fun b h=>h) hle h2 ?_ hr
 grind[qI]
def qe.told{f:FuncId}{k:Nat}{cs cs' rest rest':List C}{r:C}{ls:List C}(h1:cs.length=k)(h2:cs'.length=k)(hv:∀(i:Nat) (c c':C),cs[i]?=some c->cs'[i]?=some c'->Ac c c')(hr:LeL rest rest')(h:qe P f k (cs'++rest') r ls):qe P f k (cs++rest) r ls:=by
 have eO:∀m:Nat->aq->Value,aJ (Rl k (cs++rest)) m=aJ (Rl k (cs'++rest')) m:=by
  intro m;have key:∀i q,ak (Rl k (cs++rest) i) q↔ak (Rl k (cs'++rest') i) q:=by
   intro i q;unfold Rl;by_cases hi:i<k
   .rw[if_pos hi,if_pos hi,na oZg,na oZg,cj oZg,cj oZg];have:=(hv i cs[i] cs'[i] (cj oZg) (cj oZg)).own q
    simp_all
   grind
  funext b
  apply propext;constructor
  .rintro⟨i,q,ho,hb⟩;exact⟨i,q,(key i q).1 ho,hb⟩
  .rintro⟨i,q,ho,hb⟩;exact⟨i,q,(key i q).2 ho,hb⟩
 intro w S m us hl hp hrr hinj;rw[eO m]at *;refine h w S m us (by rw[hl];simp[h1,h2,hr.len]) ?_ ?_ ?_
 .intro i c' hi hk;rw[ni oZg,h2]at hi;have hlt:=(cg.1 hi).1;rw[hr.len]at hlt;have hi0:(cs++rest)[i]?=some rest[i-k]:=oZi;obtain⟨u,d,e1,e2⟩:=hp i _ hi0 hk;exact⟨u,d,e1,hr.get (i-k) _ c' (cj hlt) hi _ _ _ dm _ [] _ _ e2⟩
 .intro i c' hi hk;rw[na oZg]at hi;have hi0:cs[i]?=some cs[i]:=cj oZg;obtain⟨u,d,e1,e2,e3⟩:=hrr i cs[i] oZi hk;exact⟨u,d+1,e1,(hv i _ _ hi0 hi).hd e2,(hv i _ _ hi0 hi).rel e3⟩
 .intro i q i' q' b ho ho' hb hb';have key:∀i q,ak (Rl k (cs'++rest') i) q->ak (Rl k (cs++rest) i) q:=by
   intro i q ho;unfold Rl at ho ⊢;by_cases hi:i<k
   .rw[na oZg,cj oZg]at ho ⊢;have:=(hv i cs[i] cs'[i] (cj oZg) (cj oZg)).own q
    simp_all
   grind
  exact hinj i q i' q' b (key i q ho) (key i' q' ho') hb hb'
def It{α:Type}(es:Nat)(d:List C->Option α):C->Option (List α)
 | .sl true none es' none rows=>if es'=es/\rows.all (fun r=>r.all Abs.plainCell)=true then bQ d rows else none
 | _=>none
def Dv{α:Type}{es:Nat}{d:List C->Option α}{row:α->List C}(hrow:aO row)(hle:∀r x,d r=some x->LeL r (row x)){c:C}{l:List α}(h:It es d c=some l):Ac c (.sl true none es none (l.map row)):=by
 unfold It at h;split at h
 .rename_i es' rows;split at h
  .rename_i hc;obtain⟨rfl,hall⟩:=hc;refine⟨⟨_,_,rows,l.map row,rfl,rfl,LN hle h,?_,?_⟩⟩
   .grind[Eh]
   .exact hrow.noOwn l
  .cases h
 .cases h
attribute [go_sem] It Ek MD
def aax(s:St)(j:Nat)(ls:List C):Prop:=∀(i:Nat) (c:C),ls[i]?=some c->s.tmps[j+i]?=some (MD (j+i) c)/\s.roots (j+i)=c
def KT{s:St}{j:Nat}:aax s j []:=by intro i c h;simp at h
def HN{s:St}{j:Nat}{c:C}{ls:List C}(h1:s.tmps[j]?=some (MD j c))(h2:s.roots j=c)(h:aax s (j+1) ls):aax s j (c::ls):=by
 intro i c' hi;cases i with
 | zero=>simp_all
 | succ i=>
  have:=h i c' oZf
  grind
def HL{E:Env}{vs:List ResultVar}{k:Nat}{r:C}{ls:List C}{e:Exit}{s:St}(he:e=.ret∨e=.normal){s':St}(hw:aM s s'){cs rs:List C}(h1:B6 E s' vs=some cs)(h2:fo cs=some rs)(h3:Le (qB rs) r)(h4:aax s' 0 ls):acy E vs k r ls e s:=
 ⟨he,s',hw,cs,rs,h1,h2,h3,fun i c hi=>by have:=h4 i c hi;simp_all⟩
def GJ:∀(i:Nat) (c c':C),([]:List C)[i]?=some c->([]:List C)[i]?=some c'->Ac c c':=oZf
def DK{a a':C}{as as':List C}(h:Ac a a')(t:∀(i:Nat) (c c':C),as[i]?=some c->as'[i]?=some c'->Ac c c'):∀(i:Nat) (c c':C),(a::as)[i]?=some c->(a'::as')[i]?=some c'->Ac c c':=by
 grind
def DI{f:FuncId}{fn:Func}{body:Code}(hf:P.funcs[f]?=some fn)(hb:fn.body=some body)(hname:(fn.name == "runtime.NumGoroutine")= false)(hok : ly body = true)(k : Nat)(hkeep : mN (List.range' 0 k) body = true)
  {G:Nat->Nat->Option FnS} (hG:∀d f fs,G d f=some fs->ar P f fs) {L:Nat->Nat->Option FnL} (hL:∀d f fl,L d f=some fl->B1 P f fl) (F:List (Nat×Bool)) (hmix:P.follows .mixedOrders=true) {cs ls:List C} {r:C} (hn:cs.length<=fn.ntmps) (hk:k<=cs.length)
  (hone:(cs.take k).all (fun c=>(dC c).isSome)=true) (hls:ls.map dC=(cs.take k).map dC)
  (hW:Wk (EE P G F L) body (ap (EE P G F L) (acy (EE P G F L) fn.results.toList k r ls) []) ⟨tab fn.ntmps (GP au 0 (Ek (List.range' 0 k) cs)),Fq (List.range' 0 k) cs RZ⟩):qe P f k cs r ls:=
 acN hf hb hname hok k hkeep hG hL F hmix hn hk (by
  intro i c hc hi;have:c∈cs.take k:=cd (by rw[xi hi];exact hc);exact xO.1 (cE.1 hone c this)) hls hW
attribute [go_sem] List.range'
def aan(n es:Nat)(rows:List (List C)):C->C
 | .pref n' [] i j=>if n'=n then .iref es rows i j else .pref n' [] i j
 | c=>poi (fun n' _=>n' == n) c
def S6(n es:Nat)(rows:List (List C))(f:Nat->C):Nat->C:=fun t=>aan n es rows (f t)
theorem Uv(n es:Nat)(rows:List (List C))(f:Nat->C)(d:Nat)(c:C):S6 n es rows (af f d c)=af (S6 n es rows f) d (aan n es rows c):=by
 funext t
 simp only[S6,af];split<;>rfl
theorem RL(n es:Nat)(rows:List (List C)):S6 n es rows au=au:=rfl
def acO{k n:Nat}{f f':Nat->C}{R:Nat->C}{nl:Option Bool}{es:Nat}{cap:Option Nat}{rows:List (List C)}(hR:R n=.sl true nl es cap rows)(hne:(rows.length == 0)=false)(hf:S6 n es rows f=f'):
  aM ⟨tab k f,R⟩ ⟨tab k f',upd R n .dead⟩:=by
 rintro X a w ⟨m,H⟩;subst hf;have H1:=H.drop n;refine⟨m,⟨by rw[H.len];simp[oU],?_,H1.root,H1.inj,H1.own,H1.fr,H1.df⟩⟩;intro t c hc;rw[fe]at hc;split at hc
 case isFalse=>simp at hc
 simp only[cc]at hc;subst hc;have hd:∀c',c'=poi (fun n' _=>n' == n) (f t)->∃u d,a.tmps[t]?=some u/\rel w (X.S (upd R n .dead) m) (Lv (upd R n .dead) m) dm false d [] c' u:=by
  intro c' e;exact H1.tmp t c' (by simp_all[St.drop,fe])
 unfold S6 aan;split
 .rename_i n' i j hft;split
  .rename_i e;subst e;obtain⟨u,d,h1,h2⟩:=H.tmp t (f t) (by simp_all[fe]);rw[hft]at h2;have hs:mO ⟨tab k f,R⟩ (.pref n' [] i j)=some (.iref es rows i j):=by
    simp_all[mO,St.node,C.at]
   obtain⟨d',hr⟩:=y4 (N:=fun q=>q=n') H ⟨d,h2⟩ (by
    intro dd v q p ho hp;cases dd with
    | zero=>exact ho.elim
    | succ dd=>
     have:v=.pref n' [] i j:=ho
     simp_all[C.place]) hs
   refine⟨u,d',h1,az (fun b _ hb=>⟨?_,rfl⟩) d' (fun _ _ _ h=>h.elim) (fun h=>by simp at h) (fun h=>by simp at h) hr⟩;rcases hb with hb|⟨_,q,p,rfl,ho,hb⟩
   .exact W8 hb
   .exact H.loose ho hb
  simp_all[poi,C.ment]
 simp_all
attribute [go_sem] aan Uv RL
def ZM(n es:Nat)(rows:List (List C)):C->C
 | .pal n' [] lo len cap=>if n'=n then .sl false none es cap ((rows.drop lo).take len)else .pal n' [] lo len cap
 | c=>poi (fun n' _=>n' == n) c
def TU(n es:Nat)(rows:List (List C))(f:Nat->C):Nat->C:=fun t=>ZM n es rows (f t)
theorem UH(n es:Nat)(rows:List (List C))(f:Nat->C)(d:Nat)(c:C):TU n es rows (af f d c)=af (TU n es rows f) d (ZM n es rows c):=by
 funext t
 simp only[TU,af];split<;>rfl
theorem SQ(n es:Nat)(rows:List (List C)):TU n es rows au=au:=rfl
def abC{k n:Nat}{f f':Nat->C}{R:Nat->C}{nl:Option Bool}{es:Nat}{cap:Option Nat}{rows:List (List C)}(hR:R n=.sl true nl es cap rows)(hf:TU n es rows f=f'):
  aM ⟨tab k f,R⟩ ⟨tab k f',upd R n .dead⟩:=by
 rintro X a w ⟨m,H⟩;subst hf;have H1:=H.drop n;refine⟨m,⟨by rw[H.len];simp[oU],?_,H1.root,H1.inj,H1.own,H1.fr,H1.df⟩⟩;intro t c hc;rw[fe]at hc;split at hc
 case isFalse=>simp at hc
 simp only[cc]at hc;subst hc;have hd:∀c',c'=poi (fun n' _=>n' == n) (f t)->∃u d,a.tmps[t]?=some u/\rel w (X.S (upd R n .dead) m) (Lv (upd R n .dead) m) dm false d [] c' u:=by
  intro c' e;exact H1.tmp t c' (by simp_all[St.drop,fe])
 unfold TU ZM;split
 .rename_i n' lo len cap' hft;split
  .rename_i e;subst e;obtain⟨u,d,h1,h2⟩:=H.tmp t (f t) (by simp_all[fe]);rw[hft]at h2;have hs:mO ⟨tab k f,R⟩ (.pal n' [] lo len cap')=some (.sl false none es cap' ((rows.drop lo).take len)):=by
    simp_all[mO,St.node,C.at]
   obtain⟨d',hr⟩:=y4 (N:=fun q=>q=n') H ⟨d,h2⟩ (by
    intro dd v q p ho hp;cases dd with
    | zero=>exact ho.elim
    | succ dd=>
     have:v=.pal n' [] lo len cap':=ho
     simp_all[C.place]) hs
   refine⟨u,d',h1,az (fun b _ hb=>⟨?_,rfl⟩) d' (fun _ _ _ h=>h.elim) (fun h=>by simp at h) (fun h=>by simp at h) hr⟩;rcases hb with hb|⟨_,q,p,rfl,ho,hb⟩
   .exact W8 hb
   .exact H.loose ho hb
  simp_all[poi,C.ment]
 simp_all
attribute [go_sem] ZM UH SQ
def Ur{n:Nat}{f f':Nat->C}{R R':Nat->C}(t s:Nat)(p:aq)(d:Nat){nl:Option Bool}{es:Nat}{cap:Option Nat}{rows:List (List C)}{len:Nat}(htn:t<n)(hne:d≠s)(hd:R d=.dead)(hs:(R s).at p=some (.sl true nl es cap rows))
  (ht:f t=.pal s p 0 len none) (hlen:len=rows.length) (hf:af (zb (fun k q=>k == s&&ph p q) f) t (.pal d [] 0 len none)=f') (hr:upd (upd R s ((R s).turn (fun _=>.dead) p)) d (.sl true none es none rows)=R'):
  aM ⟨tab n f,R⟩ ⟨tab n f',R'⟩:=by
 subst hf hr;rintro X a w ⟨m,H⟩;obtain⟨u,dd,h1,h2⟩:=H.tmp t (f t) (by simp_all[fe]);rw[ht]at h2;have hv:Lv R m (.pal s p 0 len none) u:=eD ⟨dd,h2⟩;obtain⟨M1,M2,M3⟩:=H.move (h:=d) (n:=s) (p:=p) hd hne hs hv;have e1:(St.move ⟨tab n f,R⟩ s p 0 len none d es rows)=⟨tab n (zb (fun k q=>k == s&&ph p q) f),upd (upd R s ((R s).turn (fun _=>.dead) p)) d (.sl true none es none rows)⟩:=by
  simp_all[St.move,Fa]
 rw[e1]at M1 M2;refine⟨_,⟨by rw[H.len];simp[oU],?_,M1.root,M1.inj,M1.own,M1.fr,M1.df⟩⟩;intro t' c hc;rw[fe]at hc;split at hc
 case isFalse=>simp at hc
 simp only[cc]at hc;by_cases e:t'=t
 .subst e;simp only[af,if_true]at hc;subst hc;refine⟨u,1,h1,?_⟩;obtain⟨nl',es',cap',rows',ad,k,a',k',g1,g2,g3,g4,g5,g6,g7,g8,g9⟩:=hv;refine⟨none,es,none,rows,a',k',a',k',by simp[aI,C.at],?_,oZg,g4,g5,oZg,oZk,oZk,?_⟩
  .simp_all[ji]
  grind
 .simp only[af,e,if_false]at hc;exact M1.tmp t' c (by simp_all[fe])
def E4{P:Program}{f:FuncId}{fn:Func}{body:Code}(hf:P.funcs[f]?=some fn)(hb:fn.body=some body)(hname:(fn.name == "runtime.NumGoroutine")= false)(hok : ly body = true)
  {G:Nat->Nat->Option FnS} (hG:∀d f fs,G d f=some fs->ar P f fs) {L:Nat->Nat->Option FnL} (hL:∀d f fl,L d f=some fl->B1 P f fl) (F:List (Nat×Bool)) (hmix:P.follows .mixedOrders=true) {own:List Bool} {pure:Bool} {cs:List C} {r:C} (hn:cs.length<=fn.ntmps)
  (hW:Wk (EE P G F L) body (ap (EE P G F L) (TP (EE P G F L) fn.results.toList pure r) []) ⟨tab fn.ntmps (gI own cs),R0 own cs⟩):Con P f own pure cs r:=by
 intro w S m us hl hr hinj;left;have hname':¬fn.name = "runtime.NumGoroutine" := oZf;refine⟨by simp_all[callFunc], ?_⟩;have H := Rr (n := fn.ntmps) hl hn hr hinj;rw[AY hn]at H;have hGO : GOk P (EE P G F L):=⟨fun d f fs h => hG d f fs h, fun d f fl h => hL d f fl h⟩;have hTO : TOk P (EE P G F L):= fun t ti h => DA P G t ti h;refine calls_of_wp hf hb (wp_mono (hW P hTO hGO hmix hok _ _ _ ⟨m, H⟩ [] (OI _)) ?_);rintro e a' w' ⟨⟨s,⟨he, r0, hfin, hrok, hkeep, hpure⟩, m', H'⟩, -⟩;have main : ∃u,(results fn a'.tmps).run P w' = .ok u w'∧Done (F2 w S (aJ (R0 own cs) m)) w' r0 u := by
  unfold Ec at hfin;split at hfin
  case h_2=>simp at hfin
  rename_i cs' hres;obtain⟨us',f1,f2,f3⟩:=Pr hTO H' hres;refine⟨_,F3 f1,?_⟩
  grind[Iq,JP]
 obtain⟨u,hrun,hd⟩:=main;obtain⟨mr,d,g1,g2,g3⟩:=hd.ex;have post:a'.defers=[]/\∃v,(results fn a'.tmps).run P w'=.ok v w'/\∃u,Ending.returned v=.returned u/\∃mr d,rel w' (fun b=>((pure=false/\(S b∨aJ (R0 own cs) m b))∨w.heap.size<=b)/\¬jM r mr b) L0 mr true d [] r u ∧
   (∀q q' b,ak r q->ak r q'->blk (mr q)=some b->blk (mr q')=some b->q=q')/\(∀b,jM r mr b->w.heap.size<=b∨aJ (R0 own cs) m b)/\FrK w (aJ (R0 own cs) m) w':=by
  refine⟨H'.df,u,hrun,u,rfl,V4 hrok hkeep ⟨mr,d,?_,g2,g3,⟨hd.fr.os,hd.fr.tape,hd.fr.output,hd.fr.drawn,hd.fr.size,hd.fr.block⟩⟩⟩;cases hp:pure with
  | true=>exact hpure hp w' _ _ mr d [] u g1
  | false=>exact az (fun b _ hs=>⟨⟨hs.1.imp (fun h=>⟨rfl,h⟩) id,hs.2⟩,rfl⟩) d (fun _ _ _ h=>h) (fun _ _ _ _ _ _=>rfl) (fun _ _ _=>rfl) g1
 rcases he with rfl|rfl
 .exact post
 .exact post
def yG{α:Type}(z:α)(k:Nat)(l:List α):List α:=l.take k++List.replicate (l.length-k) z
def QC{α:Type}{z:α}{k:Nat}{l:List α}(h:k<=l.length):(yG z k l).take k=l.take k:=by
 show(l.take k++List.replicate (l.length-k) z).take k=l.take k
 simp_all
def TL{α:Type}{z:α}{k:Nat}{l:List α}(h:k<=l.length):(yG z k l).length=l.length:=by
 show(l.take k++List.replicate (l.length-k) z).length=l.length
 simp_all
def VX{α:Type}{row:α->List C}{z:α}{rz:List C}{k:Nat}{l:List α}(h:k<=l.length)(hz:row z=rz):aR (l.map row) k (List.replicate (l.length-k) rz)=(yG z k l).map row:=by
 subst hz;show(l.map row).take k++List.replicate (l.length-k) (row z)++(l.map row).drop (k+(List.replicate (l.length-k) (row z)).length)=(l.take k++List.replicate (l.length-k) z).map row
 simp_all
def afw(rz:List C)(k:Nat)(rows:List (List C)):List (List C):=rows.take k++List.replicate (rows.length-k) rz
def TM{α:Type}{row:α->List C}{rz:List C}{k:Nat}{l:List α}(h:k<=l.length):aR (l.map row) k (List.replicate (l.length-k) rz)=afw rz k (l.map row):=by
 show(l.map row).take k++List.replicate (l.length-k) rz++(l.map row).drop (k+(List.replicate (l.length-k) rz).length)=(l.map row).take k++List.replicate ((l.map row).length-k) rz
 simp_all
def Kx{a b:List C}(h:LeL a b):∀n:Nat,gy (List.replicate n a) (List.replicate n b)
 | 0=>gy.nil
 | n+1=>gy.cons h (Kx h n)
theorem W6{α:Type}{row:α->List C}{z:α}{rz:List C}{k:Nat}{l:List α}(h:LeL rz (row z)):AM (afw rz k (l.map row)) ((yG z k l).map row):=⟨by
 show gy ((l.map row).take k++List.replicate ((l.map row).length-k) rz) ((l.take k++List.replicate (l.length-k) z).map row);rw[cW,xa,List.map_replicate,cr];exact(gy.refl _).append (Kx h _)⟩
def TC{α:Type}{l:List α}{lo n i:Nat}{x:α}(h:((l.drop lo).take n)[i]?=some x):l[lo+i]?=some x:=by
 grind
def XQ{α:Type}{l:List α}{lo n:Nat}{i:Int}(h:0<=i/\i <((((l.drop lo).take n).length:Nat):Int)):i <(n:Int):=by
 grind
theorem aex(g:Nat->aq->Bool)(f:Nat)(cs:List C):poi g (.clo f cs)=if(cs.any fun c=>c.ment g 2)=true then .dead else .clo f cs:=rfl
theorem abb(g:Nat->aq->Bool)(k es:Nat)(rows:List (List C))(i j:Nat):C.ment g (k+1) (.iref es rows i j)=false:=rfl
theorem acZ(g:Nat->aq->Bool)(k:Nat)(v:Value):C.ment g (k+1) (.val v)=false:=rfl
theorem aaW(g:Nat->aq->Bool)(k n:Nat)(p:aq)(i j:Nat):C.ment g (k+1) (.pref n p i j)=g n p:=rfl
theorem aeK(g:Nat->aq->Bool)(k:Nat)(o:Bool)(nl:Option Bool)(es:Nat)(cap:Option Nat)(rows:List (List C)):C.ment g (k+1) (.sl o nl es cap rows)=false:=rfl
attribute [go_sem] aex abb acZ aaW aeK
@[irreducible] def GO{ρ α:Type}(p:ρ->List α)(l:List α)(o:Option ρ):Option ρ:=o.bind fun r=>if(p r).length=l.length then some r else none
def ll{ρ α:Type}{p:ρ->List α}{l:List α}{o:Option ρ}{r:ρ}(h:GO p l o=some r):o=some r/\(p r).length=l.length:=by
 unfold GO at h;obtain⟨r',h1,h2⟩:=cv.1 h
 grind
end
end Go.Abs
namespace Go.Abs
section
variable {X:Ctx} {m:Nat->aq->Value} {st:St} {a:Act} {w:World} {P:Program}
def av.nilO(H:av X m st a w){n:Nat}{q:aq}(es:Nat)(hq:(st.roots n).at q=some (.val (.slice none 0 0))):
  ∃m',av X m' {st with roots:=upd st.roots n ((st.roots n).turn (fun _=>.sl true none es none []) q)} a w:=by
 obtain⟨m',hm'⟩:∃m':Nat->aq->Value,m'=fun n' p=>if n'=n/\p=q then .slice none 0 0 else m n' p:=⟨_,rfl⟩
 have M1:m' n q=.slice none 0 0:=oZf;have Mn:∀n' p,¬(n'=n/\p=q)->m' n' p=m n' p:=oZf;obtain⟨R',hR'⟩:∃R',R'=upd st.roots n ((st.roots n).turn (fun _=>.sl true none es none []) q):=⟨_,rfl⟩;have hown:∀n' p b,ak (R' n') p->blk (m' n' p)=some b->ak (st.roots n') p/\blk (m n' p)=some b/\¬(n'=n/\p=q):=by
  intro n' p b ho hb;by_cases e:n'=n
  .subst e;rw[hR',aI]at ho;rcases ak.of_turn hq ho with⟨r,rfl,h2⟩|⟨h1,h2⟩
   .grind[qI,blk]
   .have hne:¬(n'=n'/\p=q):=fun h=>h1 [] (by simp[h.2])
    simp_all
  simp_all[aV]
 have hS:∀b,X.S st.roots m b->X.S R' m' b:=by
  rintro b ⟨h1,h2⟩;refine⟨h1,?_⟩;rintro⟨n',p,ho,hb⟩;obtain⟨g1,g2,_⟩:=hown n' p b ho hb;exact h2 ⟨n',p,g1,g2⟩
 have hnoq:∀r,r≠[]->(st.roots n).at (q++r)=none:=by
  intro r hr;rw[C.at_append,hq];cases r with
  | nil=>simp_all
  | cons x r=>rfl
 have hL:∀v u,Lv st.roots m v u->Lv R' m' v u:=by
  intro v u hl;have key:∀k p nl es' cap rows,(st.roots k).at p=some (.sl true nl es' cap rows)->¬(k=n/\p=q)/\∃rows',(R' k).at p=some (.sl true nl es' cap rows')/\rows'.length=rows.length:=by
   intro k p nl es' cap rows hk;by_cases e:k=n
   .subst e;have hpq:∀r,p≠q++r:=by
     grind
    obtain⟨x',e1,_,e3⟩:=C.at_turn_off (fun _=>.sl true none es none []) q p (st.roots k) _ _ hq hpq hk;obtain⟨rows',rfl,e4⟩:=e3 nl es' cap rows rfl;exact⟨fun h=>hpq [] (by simp[h.2]),rows',by simp_all[aI],e4⟩
   .exact⟨fun h=>e h.1,rows,by rw[hR',aV e];exact hk,rfl⟩
  cases v with
  | pref k p i j=>
   obtain⟨nl,es',cap,rows,b,off,kk,g1,g2,g3⟩:=hl;obtain⟨hne,rows',g4,g5⟩:=key k p _ _ _ _ g1;exact⟨nl,es',cap,rows',b,off,kk,g4,oZf,g3⟩
  | pal k p lo len c=>
   obtain⟨nl,es',cap,rows,a0,kk,a',k',g1,g2,g3,g4⟩:=hl;obtain⟨hne,rows',g5,g6⟩:=key k p _ _ _ _ g1;exact⟨nl,es',cap,rows',a0,kk,a',k',g5,oZf,oZg,g4⟩
  | _=>exact hl
 rw[<-hR'];refine⟨m',⟨H.len,?_,?_,?_,?_,H.fr,H.df⟩⟩
 .intro t c hc;obtain⟨u,d,h1,h2⟩:=H.tmp t c hc;exact⟨u,d,h1,az (fun b _ hb=>⟨hS b hb,rfl⟩) d (fun v u _ h=>hL v u h) (fun h=>by simp at h) (fun h=>by simp at h) h2⟩
 .intro k;obtain⟨u,d,hr⟩:=H.root k;by_cases e:k=n
  .subst e;obtain⟨d',hd'⟩:=Fi (f:=fun _=>C.sl true none es none []) (m':=m' k) (S':=X.S R' m') (w':=w) (fun b _ hb=>⟨hS b hb,rfl⟩) q hr hq (fun _ _ _ _ _ _=>rfl) (by
    intro q1 ho hne;simp only[cO];exact Mn _ _ (fun h=>hne [] (by simp[h.2]))) (by
    intro u0 d0 h0;simp only[cO]at h0 ⊢;cases d0 with
    | zero=>exact h0.elim
    | succ d0=>
     have hu:u0=.slice none 0 0:=h0;subst hu;rw[<-M1];exact⟨2,qt (d:=1) (a:=none) (k:=0) (by rw[M1];rfl) oZk (by simp[maxLen]) oZk ⟨oZk,oZk⟩ oZk (.inl rfl)⟩)
   exact⟨u,d',by simp_all[aI]⟩
  .refine⟨u,d,?_⟩;show rel w _ L0 (m' k) true d [] (R' k) u;rw[show R' k=st.roots k from by rw[hR',aV e]];exact az (fun b _ hb=>⟨hS b hb,rfl⟩) d (fun _ _ _ h=>h) (fun _ _ _ _ _ _=>rfl) (fun _ q0 _=>Mn _ _ (fun h=>e h.1)) hr
 .intro k p k' p' b h1 h2 h3 h4;obtain⟨g1,g2,_⟩:=hown k p b h1 h3;obtain⟨g3,g4,_⟩:=hown k' p' b h2 h4;exact H.inj k p k' p' b g1 g3 g2 g4
 .intro k p b h1 h2;obtain⟨g1,g2,_⟩:=hown k p b h1 h2;exact H.own k p b g1 g2
def yB{k:Nat}{f:Nat->C}{R:Nat->C}(n:Nat)(q:aq)(es:Nat){c':C}(hq:(R n).at q=some (.val (.slice none 0 0)))(hc:(R n).turn (fun _=>.sl true none es none []) q=c'):
  aM ⟨tab k f,R⟩ ⟨tab k f,upd R n c'⟩:=by
 subst hc;rintro X a w ⟨m,H⟩;exact H.nilO es hq
def av.nilF(H:av X m st a w){n:Nat}{q:aq}(es:Nat)(hq:(st.roots n).at q=some (.val (.slice none 0 0))):
  ∃m',av X m' {st with roots:=upd st.roots n ((st.roots n).turn (fun _=>.sl false none es none []) q)} a w:=by
 obtain⟨m',hm'⟩:∃m':Nat->aq->Value,m'=fun n' p=>if n'=n/\p=q then .slice none 0 0 else m n' p:=⟨_,rfl⟩
 have M1:m' n q=.slice none 0 0:=oZf;have Mn:∀n' p,¬(n'=n/\p=q)->m' n' p=m n' p:=oZf;obtain⟨R',hR'⟩:∃R',R'=upd st.roots n ((st.roots n).turn (fun _=>.sl false none es none []) q):=⟨_,rfl⟩;have hown:∀n' p b,ak (R' n') p->blk (m' n' p)=some b->ak (st.roots n') p/\blk (m n' p)=some b/\¬(n'=n/\p=q):=by
  intro n' p b ho hb;by_cases e:n'=n
  .subst e;rw[hR',aI]at ho;rcases ak.of_turn hq ho with⟨r,rfl,h2⟩|⟨h1,h2⟩
   .exact absurd h2 (by cases r<;>simp[ak,C.at,C.kid,C.isOwn])
   .have hne:¬(n'=n'/\p=q):=fun h=>h1 [] (by simp[h.2])
    simp_all
  simp_all[aV]
 have hS:∀b,X.S st.roots m b->X.S R' m' b:=by
  rintro b ⟨h1,h2⟩;refine⟨h1,?_⟩;rintro⟨n',p,ho,hb⟩;obtain⟨g1,g2,_⟩:=hown n' p b ho hb;exact h2 ⟨n',p,g1,g2⟩
 have hnoq:∀r,r≠[]->(st.roots n).at (q++r)=none:=by
  intro r hr;rw[C.at_append,hq];cases r with
  | nil=>simp_all
  | cons x r=>rfl
 have hL:∀v u,Lv st.roots m v u->Lv R' m' v u:=by
  intro v u hl;have key:∀k p nl es' cap rows,(st.roots k).at p=some (.sl true nl es' cap rows)->¬(k=n/\p=q)/\∃rows',(R' k).at p=some (.sl true nl es' cap rows')/\rows'.length=rows.length:=by
   intro k p nl es' cap rows hk;by_cases e:k=n
   .subst e;have hpq:∀r,p≠q++r:=by
     grind
    obtain⟨x',e1,_,e3⟩:=C.at_turn_off (fun _=>.sl false none es none []) q p (st.roots k) _ _ hq hpq hk;obtain⟨rows',rfl,e4⟩:=e3 nl es' cap rows rfl;exact⟨fun h=>hpq [] (by simp[h.2]),rows',by simp_all[aI],e4⟩
   .exact⟨fun h=>e h.1,rows,by rw[hR',aV e];exact hk,rfl⟩
  cases v with
  | pref k p i j=>
   obtain⟨nl,es',cap,rows,b,off,kk,g1,g2,g3⟩:=hl;obtain⟨hne,rows',g4,g5⟩:=key k p _ _ _ _ g1;exact⟨nl,es',cap,rows',b,off,kk,g4,oZf,g3⟩
  | pal k p lo len c=>
   obtain⟨nl,es',cap,rows,a0,kk,a',k',g1,g2,g3,g4⟩:=hl;obtain⟨hne,rows',g5,g6⟩:=key k p _ _ _ _ g1;exact⟨nl,es',cap,rows',a0,kk,a',k',g5,oZf,oZg,g4⟩
  | _=>exact hl
 rw[<-hR'];refine⟨m',⟨H.len,?_,?_,?_,?_,H.fr,H.df⟩⟩
 .intro t c hc;obtain⟨u,d,h1,h2⟩:=H.tmp t c hc;exact⟨u,d,h1,az (fun b _ hb=>⟨hS b hb,rfl⟩) d (fun v u _ h=>hL v u h) (fun h=>by simp at h) (fun h=>by simp at h) h2⟩
 .intro k;obtain⟨u,d,hr⟩:=H.root k;by_cases e:k=n
  .subst e;obtain⟨d',hd'⟩:=Fi (f:=fun _=>C.sl false none es none []) (m':=m' k) (S':=X.S R' m') (w':=w) (fun b _ hb=>⟨hS b hb,rfl⟩) q hr hq (fun _ _ _ _ _ _=>rfl) (by
    intro q1 ho hne;simp only[cO];exact Mn _ _ (fun h=>hne [] (by simp[h.2]))) (by
    intro u0 d0 h0;simp only[cO]at h0 ⊢;cases d0 with
    | zero=>exact h0.elim
    | succ d0=>
     have hu:u0=.slice none 0 0:=h0;subst hu;exact⟨1,none,0,rfl,ck _,oZh,oZk,oZk,oZk,oZk,.inl rfl⟩)
   exact⟨u,d',by simp_all[aI]⟩
  .refine⟨u,d,?_⟩;show rel w _ L0 (m' k) true d [] (R' k) u;rw[show R' k=st.roots k from by rw[hR',aV e]];exact az (fun b _ hb=>⟨hS b hb,rfl⟩) d (fun _ _ _ h=>h) (fun _ _ _ _ _ _=>rfl) (fun _ q0 _=>Mn _ _ (fun h=>e h.1)) hr
 .intro k p k' p' b h1 h2 h3 h4;obtain⟨g1,g2,_⟩:=hown k p b h1 h3;obtain⟨g3,g4,_⟩:=hown k' p' b h2 h4;exact H.inj k p k' p' b g1 g3 g2 g4
 .intro k p b h1 h2;obtain⟨g1,g2,_⟩:=hown k p b h1 h2;exact H.own k p b g1 g2
def Dq{k:Nat}{f:Nat->C}{R:Nat->C}(n:Nat)(q:aq)(es:Nat){c':C}(hq:(R n).at q=some (.val (.slice none 0 0)))(hc:(R n).turn (fun _=>.sl false none es none []) q=c'):
  aM ⟨tab k f,R⟩ ⟨tab k f,upd R n c'⟩:=by
 subst hc;rintro X a w ⟨m,H⟩;exact H.nilF es hq
def aca{w:World}{S S':Nat->Prop}{m:aq->Value}(hS:∀b,S b->S' b){nl:Option Bool}{es:Nat}{cap:Option Nat}{rows rows':List (List C)}(h:gy rows rows')(hn:∀row∈rows',∀c∈row,fq c){d:Nat}{u:Value}{p0:aq}
  (hO:∀i j q b,ak (.sl true nl es cap rows) ((i,j)::q)->blk (m (p0++(i,j)::q))=some b->S' b)
  (hr:rel w S L0 m true d p0 (.sl true nl es cap rows) u):rel w S' L0 m true (d+1) p0 (.sl true nl es cap rows') u:=by
 cases d with
 | zero=>exact hr.elim
 | succ d=>
  obtain⟨a,k,h1,h2,h3,h4,hz,h5,h6,h7⟩:=hr;refine⟨a,k,by rw[h.len];exact h1,by rw[h.len];exact h2,h3,h4,hz,?_,fun _=>h6 rfl,?_⟩
  .intro row' hrow;obtain⟨i,hi,e⟩:=ai8 hrow;have hlt:i<rows.length:=by rw[<-h.len];exact hi
   have:=h.get i rows[i] row' (by simp[hlt]) (by simp[hi,e]);rw[this.len]
   simp_all
  .rcases h7 with h7|h7|⟨b,off,arr,elem,frz,g1,g2,g3,g4,g5⟩
   .exact .inl h7
   .simp at h7
   .refine .inr (.inr ⟨b,off,arr,elem,frz,g1,g2,fun h=>oZe,g4,?_⟩);intro i j row' c' e1 e2;have hlt:i<rows.length:=by rw[<-h.len];grind
    have hrow:rows[i]?=some rows[i]:=by simp[hlt]
    have hle:=h.get i rows[i] row' hrow e1;have hltj:j<rows[i].length:=by rw[<-hle.len];grind
    have hc:rows[i][j]?=some rows[i][j]:=by simp[hltj]
    obtain⟨u',e3,e4⟩:=g5 i j _ _ hrow hc;have hnc:=hn row' (cd e1) c' (cd e2);refine⟨u',e3,aW d (d+1) (n7 _) (Ju d hnc (hle.get j _ c' hc e2 _ _ _ m _ p0 d u' (tU (S:=S) (S':=S') (m:=m) (m':=m) (p:=p0++[(i,j)]) (p':=p0) hS d ?_ e4)))⟩
    grind[ak,C.at,C.kid]
def av.tellP(H:av X m st a w){n:Nat}{q:aq}{nl:Option Bool}{es:Nat}{cap:Option Nat}{rows rows':List (List C)}(hq:(st.roots n).at q=some (.sl true nl es cap rows))(hle:gy rows rows')(hn:∀row∈rows',∀c∈row,fq c):
  av X m {tmps:=st.tmps.map (poi fun n' p'=>n' == n&&ph q p'),roots:=upd st.roots n ((st.roots n).turn (fun _=>.sl true nl es cap rows') q)} a w:=by
 obtain⟨R',hR'⟩:∃R',R'=upd st.roots n ((st.roots n).turn (fun _=>.sl true nl es cap rows') q):=⟨_,rfl⟩;have hown:∀k p,ak (R' k) p->ak (st.roots k) p/\(k=n->∀r,p=q++r->r=[]):=by
  intro k p ho;by_cases e:k=n
  .subst e;rw[hR',aI]at ho;rcases ak.of_turn hq ho with⟨r,rfl,h2⟩|⟨h1,h2⟩
   .have hr:=qI hn h2;subst hr;refine⟨?_,fun _ r hr=>oZf⟩;simp only[ak,nn,hq];rfl
   simp_all
  simp_all[aV]
 have hS:∀b,X.S st.roots m b->X.S R' m b:=by
  rintro b ⟨h1,h2⟩;refine⟨h1,?_⟩;rintro⟨k,p,ho,hb⟩;exact h2 ⟨k,p,(hown k p ho).1,hb⟩
 have hL:∀v u,(∀k p,v.place=some (k,p)->(k == n&&ph q p)=false)->Lv st.roots m v u->Lv R' m v u:=by
  intro v u hp hl;have key:∀k p nl' es' cap' rows0,(k == n&&ph q p)=false->(st.roots k).at p=some (.sl true nl' es' cap' rows0)->∃rows1,(R' k).at p=some (.sl true nl' es' cap' rows1)/\rows1.length=rows0.length:=by
   intro k p nl' es' cap' rows0 hf hk;by_cases e:k=n
   .subst e;have hpq:∀r,p≠q++r:=by
     rintro r rfl
     simp_all[JN]
    obtain⟨x',e1,_,e3⟩:=C.at_turn_off (fun _=>.sl true nl es cap rows') q p (st.roots k) _ _ hq hpq hk;obtain⟨rows1,rfl,e4⟩:=e3 nl' es' cap' rows0 rfl;exact⟨rows1,by rw[hR',aI];exact e1,e4⟩
   .exact⟨rows0,by rw[hR',aV e];exact hk,rfl⟩
  cases v with
  | pref k p i j=>
   obtain⟨nl',es',cap',rows0,b,off,kk,g1,g2,g3⟩:=hl;obtain⟨rows1,g4,g5⟩:=key k p _ _ _ _ (hp k p rfl) g1;exact⟨nl',es',cap',rows1,b,off,kk,g4,oZf,g3⟩
  | pal k p lo len c=>
   obtain⟨nl',es',cap',rows0,a0,kk,a',k',g1,g2,g3,g4⟩:=hl;obtain⟨rows1,g5,g6⟩:=key k p _ _ _ _ (hp k p rfl) g1;exact⟨nl',es',cap',rows1,a0,kk,a',k',g5,oZf,oZg,g4⟩
  | _=>exact hl
 rw[<-hR'];refine⟨by simp[H.len],?_,?_,?_,?_,H.fr,H.df⟩
 .intro t c hc;simp only[cz,cq]at hc;obtain⟨c0,h0,rfl⟩:=hc;obtain⟨u,d,h1,h2⟩:=H.tmp t c0 h0;rcases ld (fun n' p'=>n' == n&&ph q p') c0 with e|⟨e,hm⟩
  .rw[e];exact⟨u,1,h1,trivial⟩
  .rw[e];refine⟨u,d,h1,az (fun b _ hb=>⟨hS b hb,rfl⟩) d (fun v uv ho hl=>?_) (fun h=>by simp at h) (fun h=>by simp at h) h2⟩;refine hL v uv ?_ hl;intro k p hpl;obtain⟨k',p',e1,e2⟩:=jB d 3 c0 v hm ho
   simp_all
 .intro k;obtain⟨u,d,hr⟩:=H.root k;by_cases e:k=n
  .subst e;obtain⟨d',hd'⟩:=Fi (f:=fun _=>C.sl true nl es cap rows') (m':=m k) (S':=X.S R' m) (w':=w) (fun b _ hb=>⟨hS b hb,rfl⟩) q hr hq (fun _ _ _ _ _ _=>rfl) (fun _ _ _=>rfl) (by
    intro u0 d0 h0;simp only[cO]at h0 ⊢;refine⟨d0+1,aca hS hle hn (fun i j q' b ho hb=>?_) h0⟩;have ho':ak (st.roots k) (q++(i,j)::q'):=by
     simp_all[ak,C.at_append]
    refine⟨(H.own _ _ b ho' hb).elim .inr (fun h=>.inl (X.kS b h)),?_⟩;rintro⟨k',p',ho2,hb2⟩;obtain⟨ho3,hp⟩:=hown k' p' ho2;obtain⟨e1,e2⟩:=H.inj _ _ _ _ b ho3 ho' hb2 hb
    simp_all)
   exact⟨u,d',by simp_all[aI]⟩
  .refine⟨u,d,?_⟩;show rel w _ L0 (m k) true d [] (R' k) u;rw[show R' k=st.roots k from by rw[hR',aV e]];exact az (fun b _ hb=>⟨hS b hb,rfl⟩) d (fun _ _ _ h=>h) (fun _ _ _ _ _ _=>rfl) (fun _ _ _=>rfl) hr
 .intro k p k' p' b h1 h2;exact H.inj k p k' p' b (hown k p h1).1 (hown k' p' h2).1
 .intro k p b h1;exact H.own k p b (hown k p h1).1
def Qn{α:Type}(row0 row:α->List C)[hrow:B7 row][hF:TE row0 row]{k:Nat}{f f':Nat->C}{R:Nat->C}(n:Nat)(q:aq){nl:Option Bool}{es:Nat}{cap:Option Nat}(l:List α){c':C}(hq:(R n).at q=some (.sl true nl es cap (l.map row0)))(hf:zb (fun n' p'=>n' == n&&ph q p') f=f')(hc:(R n).turn (fun _=>.sl true nl es cap (l.map row)) q=c'):
  aM ⟨tab k f,R⟩ ⟨tab k f',upd R n c'⟩:=by
 subst hf;subst hc;rintro X a w ⟨m,H⟩;have:=H.tellP hq (gy.map hF.h l) (hrow.ok.noOwn l);exact⟨m,by simp_all[Fa]⟩
def av.uncap(H:av X m st a w){n:Nat}{nl:Option Bool}{es:Nat}{cap:Option Nat}{rows:List (List C)}(hR:st.roots n=.sl true nl es cap rows):
  av X m {st with roots:=upd st.roots n (.sl true none es none rows)} a w:=by
 obtain⟨R',hR'⟩:∃R',R'=upd st.roots n (.sl true none es none rows):=⟨_,rfl⟩;have hat:∀k p,(R' k).at p=(st.roots k).at p∨(k=n/\p=[]):=by
  intro k p;by_cases e:k=n
  .subst e;cases p with
   | nil=>simp_all
   | cons x p=>left;rw[hR',aI,hR];rfl
  simp_all[aV]
 have hown:∀k p,ak (R' k) p->ak (st.roots k) p:=by
  intro k p ho;rcases hat k p with e|⟨rfl,rfl⟩
  .simp_all[ak]
  .unfold ak;rw[hR];rfl
 have hS:∀b,X.S st.roots m b->X.S R' m b:=by
  rintro b ⟨h1,h2⟩;refine⟨h1,?_⟩;rintro⟨k,p,ho,hb⟩;exact h2 ⟨k,p,hown k p ho,hb⟩
 have hL:∀v u,Lv st.roots m v u->Lv R' m v u:=by
  intro v u hl;have key:∀k p nl' es' cap' rows0,(st.roots k).at p=some (.sl true nl' es' cap' rows0)->∃nl1 cap1,(R' k).at p=some (.sl true nl1 es' cap1 rows0):=by
   intro k p nl' es' cap' rows0 hk;rcases hat k p with e|⟨rfl,rfl⟩
   .simp_all
   .rw[hR]at hk;obtain⟨rfl,rfl,rfl,rfl⟩:=hk;exact⟨none,none,by rw[hR',aI];rfl⟩
  cases v with
  | pref k p i j=>
   obtain⟨nl',es',cap',rows0,b,off,kk,g1,g2,g3⟩:=hl;obtain⟨nl1,cap1,g4⟩:=key k p _ _ _ _ g1;exact⟨nl1,es',cap1,rows0,b,off,kk,g4,g2,g3⟩
  | pal k p lo len c=>
   obtain⟨nl',es',cap',rows0,a0,kk,a',k',g1,g2,g3,g4⟩:=hl;obtain⟨nl1,cap1,g5⟩:=key k p _ _ _ _ g1;exact⟨nl1,es',cap1,rows0,a0,kk,a',k',g5,g2,g3,g4⟩
  | _=>exact hl
 rw[<-hR'];refine⟨H.len,?_,?_,?_,?_,H.fr,H.df⟩
 .intro t c hc;obtain⟨u,d,h1,h2⟩:=H.tmp t c hc;exact⟨u,d,h1,az (fun b _ hb=>⟨hS b hb,rfl⟩) d (fun v u _ h=>hL v u h) (fun h=>by simp at h) (fun h=>by simp at h) h2⟩
 .intro k;obtain⟨u,d,hr⟩:=H.root k;have hr2:rel w (X.S R' m) L0 (m k) true d [] (st.roots k) u:=az (fun b _ hb=>⟨hS b hb,rfl⟩) d (fun _ _ _ h=>h) (fun _ _ _ _ _ _=>rfl) (fun _ _ _=>rfl) hr;by_cases e:k=n
  .subst e;rw[hR]at hr2;refine⟨u,d,?_⟩;show rel w _ L0 (m k) true d [] (R' k) u;rw[show R' k=.sl true none es none rows from by rw[hR',aI]];cases d with
   | zero=>exact hr2.elim
   | succ d=>
    obtain⟨a1,k1,h1,h2,h3,h4,hz,h5,h6,h7⟩:=hr2;exact⟨a1,k1,h1,h2,h3,oZk,⟨oZk,hz.2⟩,h5,h6,h7⟩
  .refine⟨u,d,?_⟩
   simp_all[aV]
 .intro k p k' p' b h1 h2;exact H.inj k p k' p' b (hown k p h1) (hown k' p' h2)
 .intro k p b h1;exact H.own k p b (hown k p h1)
def adl{k:Nat}{f:Nat->C}{R:Nat->C}(n:Nat){nl:Option Bool}{es:Nat}{cap:Option Nat}{rows:List (List C)}(hR:R n=.sl true nl es cap rows):
  aM ⟨tab k f,R⟩ ⟨tab k f,upd R n (.sl true none es none rows)⟩:=by
 rintro X a w ⟨m,H⟩;exact⟨m,H.uncap hR⟩
def Bx{k:IntKind}{c:C}{n:Int}(h:aC k c=some n):c=.val (.int k n):=by
 unfold aC at h
 grind
def adO{c:C}{n:Bool}(h:IU c=some n):c=.val (.bool n):=by
 unfold IU at h
 grind
def Dw{c:C}{n:ByteArray}(h:bG c=some n):c=.val (.string n):=by
 unfold bG at h
 grind
theorem RY{α:Type}{d:List C->Option α}{row:α->List C}(hd:∀r x,d r=some x->r=row x):∀{rows:List (List C)} {l:List α},bQ d rows=some l->rows=l.map row:=by
 intro rows
 induction rows with
 | nil=>intro l h;simp only[bQ,cc]at h;subst h;rfl
 | cons r rows ih=>
  grind[Oa]
def exL{α:Type}(es:Nat)(d:List C->Option α):C->Option (List α)
 | .sl true none es' none rows=>if es'=es then bQ d rows else none
 | _=>none
def afn{α:Type}(es:Nat)(d:List C->Option α)(rows:List (List C)):exL es d (.sl true none es none rows)=bQ d rows:=by simp only[exL,if_true]
def aaJ{α:Type}{es:Nat}{d:List C->Option α}{row:α->List C}(hd:∀r x,d r=some x->r=row x){c:C}{l:List α}(h:exL es d c=some l):c=.sl true none es none (l.map row):=by
 unfold exL at h
 grind[RY]
def exF{α:Type}(es:Nat)(d:List C->Option α):C->Option (List α)
 | .sl false none es' none rows=>if es'=es then bQ d rows else none
 | _=>none
def abJ{α:Type}(es:Nat)(d:List C->Option α)(rows:List (List C)):exF es d (.sl false none es none rows)=bQ d rows:=by simp only[exF,if_true]
def Ym{α:Type}{es:Nat}{d:List C->Option α}{row:α->List C}(hd:∀r x,d r=some x->r=row x){c:C}{l:List α}(h:exF es d c=some l):c=.sl false none es none (l.map row):=by
 unfold exF at h
 grind[RY]
def ZD{α:Type}{d:C->Option α}{g:α->C}(hd:∀c x,d c=some x->c=g x):∀(r:List C) (x:α),bO d r=some x->r=[g x]:=by
 intro r x h;unfold bO at h
 grind
attribute [go_sem] exL exF
def UA{α:Type}{row:α->List C}{l:List α}{r:List C}:(l.map row++[r])[l.length]?=some r:=oZk
def U7{α:Type}{row:α->List C}{l:List α}{r:List C}{g:List C->List C}:(l.map row++[r]).modify l.length g=l.map row++[g r]:=by
 apply nP
 grind
def iv{α:Type}{row:α->List C}{l:List α}{i:Nat}{y:α}{rc:List C}(h:row y=rc):(l.map row).set i rc=(l.set i y).map row:=by
 simp_all
def aba{α:Type}{row:α->List C}{l:List α}{i:Nat}{x:α}{rc:List C}(hx:l[i]?=some x)(h:row x=rc):(l.map row).set i rc=l.map row:=by
 apply nP
 grind
def tE{k n:Nat}{f:Nat->C}{R:Nat->C}{c c':C}(hR:R n=c)(h:c=c'):aM ⟨tab k f,R⟩ ⟨tab k f,upd R n c'⟩:=by
 subst h;have hu:upd R n c=R:=by
  funext t;unfold upd;split
  .rename_i e;rw[e,hR]
  .rfl
 rw[hu];exact fun _ _ _ h=>h
def Ov{f:FuncId}{fl:FnL}(hk:fl.k≠0)(hp:fl.pure=false)(h:∀cs rest r ls,cs.length=fl.k->fl.fn cs rest=some (r,ls)->qe P f fl.k (cs++rest) r ls):B1 P f fl:=
 ⟨fun _=>h,fun _ h'=>oZf,fun h'=>(hk h').elim⟩
attribute [go_sem] qB
end
end Go.Abs
