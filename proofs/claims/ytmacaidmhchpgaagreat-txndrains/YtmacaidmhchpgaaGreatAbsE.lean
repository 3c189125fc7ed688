/- A library of readings of Go values with their ownership,and of walks on them. No statement of the program. -/
import Derived.Test.YtmacaidmhchpgaaGreatAbsD
import Derived.Lib.Overlaps
import Derived.WalkKit
import Derived.ProofKit
import Derived.OpenShut
import Derived.ReadAgain
import Derived.ChangeArms
import Derived.SizedLaws
import Derived.Carry
import Derived.LoopN
set_option linter.defProp false
set_option linter.unusedSimpArgs false
set_option linter.unusedVariables false
namespace Go.Abs
def qA (E:Env) (draw:Bool) (bar:Nat->Bool) (i:Nat) (o:Oper) (st:St):Option St:=
 match draw with
 | false=>exe E o st
 | true=>match fB E o st with
  | some e=>match e.apply st with
   | some s=>some s
   | none=>if bar i=true then exe E o st else none
  | none=>if bar i=true then exe E o st else none
def RX (E:Env) (draw:Bool) (gd:Nat->Option Tmp) (bar:Nat->Bool):Nat->List Oper->St->(St->Prop)->Prop
 | _,[],st,Z=>Z st
 | i,o::l,st,Z=>match o.guard with
  | none=>match qA E draw bar i o st with
   | some st'=>RX E draw gd bar (i+1) l st' Z
   | none=>False
  | some (j,want)=>match gd j with
   | some t=>match st.tmps[t]? with
    | some (.val (.bool b))=>if b=want then match qA E draw bar i o st with
      | some st'=>RX E draw gd bar (i+1) l st' Z
      | none=>False
     else RX E draw gd bar (i+1) l (st.put o.dst (.val undef)) Z
    | some (.val (.tuple _))=>RX E draw gd bar (i+1) l (st.put o.dst (.val undef)) Z
    | _=>False
   | none=>False
def kP (ops:Array Oper) (j:Nat):Option Tmp:=(ops[j]?).bind (·.dst)
def LK {E:Env} {ops:Array Oper}:∀ (l:List Oper) (i:Nat) (st:St) (Z:St->Prop),RX E false (kP ops) (ke ops) i l st Z->∃ st',qU E ops l st=some st'/\Z st':=by
 intro l
 induction l with
 | nil=>intro i st Z h; exact ⟨st,rfl,h⟩
 | cons o l ih=>
  intro i st Z h;have go:∀ s,eK E ops o st=some s->RX E false (kP ops) (ke ops) (i+1) l s Z->∃ st',qU E ops (o::l) st=some st'/\Z st':=by
   intro s hs hr;obtain ⟨s2,h1,h2⟩:=ih _ _ _ hr;exact ⟨s2,by simp [qU,hs,h1],h2⟩
  unfold RX at h;split at h
  ·rename_i hg;split at h
   ·rename_i s hs;exact go s (by simpa [eK,hg,qA] using hs) h
   ·exact h.elim
  ·rename_i j want hg;split at h
   case h_2=>exact h.elim
   rename_i t ht;simp only [kP] at ht;split at h
   ·rename_i b hb;split at h
    ·rename_i hbw;split at h
     ·rename_i s hs;exact go s (by simpa [eK,hg,ht,hb,hbw,qA] using hs) h
     ·exact h.elim
    ·rename_i hbw;exact go _ (by simp [eK,hg,ht,hb,hbw]) h
   ·rename_i vs hb;exact go _ (by simp [eK,hg,ht,hb]) h
   ·exact h.elim
def Ya {E:Env} {ops:Array Oper}:∀ (l:List Oper) (i:Nat) (st:St) (Z:St->Prop),RX E true (kP ops) (ke ops) i l st Z->∃ st',wk E ops i l st=some st'/\Z st':=by
 intro l
 induction l with
 | nil=>intro i st Z h; exact ⟨st,rfl,h⟩
 | cons o l ih=>
  intro i st Z h;have go:∀ s,yu E ops i o st=some s->RX E true (kP ops) (ke ops) (i+1) l s Z->∃ st',wk E ops i (o::l) st=some st'/\Z st':=by
   intro s hs hr;obtain ⟨s2,h1,h2⟩:=ih _ _ _ hr;exact ⟨s2,by simp [wk,hs,h1],h2⟩
  have run:∀ s,(∀ x,fB E o st=x->my E ops o st=x)->(∀ x,exe E o st=x->eK E ops o st=x)->qA E true (ke ops) i o st=some s->yu E ops i o st=some s:=by
   intro s h1 h2 hs;unfold yu bx;rw [h1 _ rfl];simp only [qA] at hs;split at hs
   ·rename_i e he;simp only [he];split at hs
    ·rename_i s0 hs0; simp only [hs0]; exact hs
    ·rename_i hs0;simp only [hs0];split at hs
     ·rename_i hb; rw [if_pos hb]; exact h2 _ hs
     ·simp at hs
   ·rename_i he;simp only [he];split at hs
    ·rename_i hb; rw [if_pos hb]; exact h2 _ hs
    ·simp at hs
  unfold RX at h;split at h
  ·rename_i hg;split at h
   ·rename_i s hs;exact go s (run s (fun x hx=>by simpa [my,hg] using hx) (fun x hx=>by simpa [eK,hg] using hx) hs) h
   ·exact h.elim
  ·rename_i j want hg;split at h
   case h_2=>exact h.elim
   rename_i t ht;simp only [kP] at ht;have skip:my E ops o st=some (.q o.dst (.val undef))->yu E ops i o st=some (st.put o.dst (.val undef)):=by
    intro hs; simp [yu,bx,hs,SE.apply]
   split at h
   ·rename_i b hb;split at h
    ·rename_i hbw;split at h
     ·rename_i s hs;exact go s (run s (fun x hx=>by simpa [my,hg,ht,hb,hbw] using hx) (fun x hx=>by simpa [eK,hg,ht,hb,hbw] using hx) hs) h
     ·exact h.elim
    ·rename_i hbw;exact go _ (skip (by simp [my,hg,ht,hb,hbw])) h
   ·rename_i vs hb;exact go _ (skip (by simp [my,hg,ht,hb])) h
   ·exact h.elim
def YW {E:Env} {ops:Array Oper}:∀ (l:List Oper) (i:Nat) (st st':St) (Z:St->Prop),qU E ops l st=some st'->Z st'->RX E false (kP ops) (ke ops) i l st Z:=by
 intro l
 induction l with
 | nil=>intro i st st' Z h hz; simp only [qU,cb] at h; subst h; exact hz
 | cons o l ih=>
  intro i st st' Z h hz;simp only [qU] at h;split at h
  case h_2=>simp at h
  rename_i s hs;have hr:=ih (i+1) s st' Z h hz;unfold eK at hs;rw [RX];split at hs
  ·rename_i hg;simp only [hg,qA,hs];exact hr
  ·rename_i j want hg;simp only [hg,kP];split at hs
   case h_2=>simp at hs
   rename_i t ht;simp only [ht];split at hs
   ·rename_i b hb;simp only [hb];split at hs
    ·rename_i hbw;simp only [hbw,if_true,qA,hs];exact hr
    ·rename_i hbw;simp only [hbw,if_false];simp only [cb] at hs;subst hs;exact hr
   ·rename_i vs hb;simp only [hb];simp only [cb] at hs;subst hs;exact hr
   ·simp at hs
def XN {E:Env} {ops:Array Oper}:∀ (l:List Oper) (i:Nat) (st st':St) (Z:St->Prop),wk E ops i l st=some st'->Z st'->RX E true (kP ops) (ke ops) i l st Z:=by
 intro l
 induction l with
 | nil=>intro i st st' Z h hz; simp only [wk,cb] at h; subst h; exact hz
 | cons o l ih=>
  intro i st st' Z h hz;simp only [wk] at h;split at h
  case h_2=>simp at h
  rename_i s hs;have hr:=ih (i+1) s st' Z h hz;have body:(∀ x,fB E o st=x->my E ops o st=x)->(∀ x,exe E o st=x->eK E ops o st=x)->qA E true (ke ops) i o st=some s:=by
   intro h1 h2;unfold yu bx at hs;rw [h1 _ rfl] at hs;rw [h2 _ rfl] at hs;simp only [qA];cases hb:fB E o st with
   | none=>simp only [hb] at hs ⊢; exact hs
   | some e=>
    simp only [hb] at hs ⊢;cases he:e.apply st with
    | none=>simp only [he] at hs ⊢; exact hs
    | some s1=>simp only [he] at hs ⊢; exact hs
  rw [RX];split
  ·rename_i hg;simp only [body (fun x hx=>by simpa [my,hg] using hx) (fun x hx=>by simpa [eK,hg] using hx)];exact hr
  ·rename_i j want hg;have skip:∀ s':St,my E ops o st=some (.q o.dst (.val undef))->s=st.put o.dst (.val undef):=by
    intro s' h1;simp only [yu,bx,h1,SE.apply,cb] at hs;exact hs.symm
   have dead:my E ops o st=none->eK E ops o st=none->False:=by
    intro h1 h2;simp [yu,bx,h1,h2] at hs
   simp only [kP];cases ht:(ops[j]?).bind (·.dst) with
   | none=>exact dead (by simp [my,hg,ht]) (by simp [eK,hg,ht])
   | some t=>
    simp only;split
    ·rename_i b hb;split
     ·rename_i hbw;simp only [body (fun x hx=>by simpa [my,hg,ht,hb,hbw] using hx) (fun x hx=>by simpa [eK,hg,ht,hb,hbw] using hx)];exact hr
     ·rename_i hbw;have:=skip st (by simp [my,hg,ht,hb,hbw]);rw [<-this];exact hr
    ·rename_i vs hb;have:=skip st (by simp [my,hg,ht,hb]);rw [<-this];exact hr
    ·rename_i h1 h2;refine dead ?_ ?_
     ·simp only [my,hg,ht];try split
     ·simp only [eK,hg,ht];try split
inductive Fm where
 | sq (y:Code)
 | bl (id:Nat)
 | lp (J:St->Prop)
 | sc
 | sk (y:Code)
def ap (E:Env) (Q:Exit->St->Prop):List Fm->Exit->St->Prop
 | [],e,s=>Q e s
 | .sq y::K,e,s=>match e with
  | .normal=>W E y (ap E Q K) s
  | e=>ap E Q K e s
 | .bl id::K,e,s=>match e with
  | .exit i=>if i=id then ap E Q K .normal s else ap E Q K (.exit i) s
  | e=>ap E Q K e s
 | .lp J::K,e,s=>match e with
  | .normal=>J s
  | e=>ap E Q K e s
 | .sc::K,e,s=>match e with
  | .goto _=>False
  | e=>ap E Q K e s
 | .sk y::K,e,s=>match e with
  | .normal=>Wk E y (ap E Q K) s
  | e=>ap E Q K e s
section
variable {E:Env} {Q:Exit->St->Prop} {K:List Fm} {st:St}
def Ju {c:Code} (h:W E c (ap E Q []) st):W E c Q st:=h
@[go_sem] theorem ab8:W E .skip (ap E Q K) st=ap E Q K .normal st:=rfl
@[go_sem] theorem acu {x y:Code}:W E (.seq x y) (ap E Q K) st=W E x (ap E Q (.sq y::K)) st:=by
 simp only [W]
 congr 1
@[go_sem] theorem acg {id:Nat}:W E (.exit id) (ap E Q K) st=ap E Q K (.exit id) st:=rfl
@[go_sem] theorem abW {id:Nat}:W E (.label id) (ap E Q K) st=ap E Q K .normal st:=rfl
@[go_sem] theorem acs:W E .ret (ap E Q K) st=ap E Q K .ret st:=rfl
@[go_sem] theorem ach {e:Exit}:ap E Q [] e st=Q e st:=rfl
@[go_sem] theorem acn {y:Code}:ap E Q (.sq y::K) .normal st=W E y (ap E Q K) st:=rfl
@[go_sem] theorem aam {y:Code}:ap E Q (.sq y::K) .ret st=ap E Q K .ret st:=rfl
@[go_sem] theorem aai {y:Code} {i:Nat}:ap E Q (.sq y::K) (.exit i) st=ap E Q K (.exit i) st:=rfl
@[go_sem] theorem acw {id:Nat}:ap E Q (.bl id::K) .normal st=ap E Q K .normal st:=rfl
@[go_sem] theorem aan {id:Nat}:ap E Q (.bl id::K) .ret st=ap E Q K .ret st:=rfl
@[go_sem] theorem Ts {id i:Nat}:ap E Q (.bl id::K) (.exit i) st=if i=id then ap E Q K .normal st else ap E Q K (.exit i) st:=rfl
@[go_sem] theorem acp {J:St->Prop}:ap E Q (.lp J::K) .normal st=J st:=rfl
@[go_sem] theorem aar {J:St->Prop}:ap E Q (.lp J::K) .ret st=ap E Q K .ret st:=rfl
@[go_sem] theorem Z3 {J:St->Prop} {i:Nat}:ap E Q (.lp J::K) (.exit i) st=ap E Q K (.exit i) st:=rfl
@[go_sem] theorem acr {y:Code}:ap E Q (.sk y::K) .normal st=Wk E y (ap E Q K) st:=rfl
@[go_sem] theorem aap {y:Code}:ap E Q (.sk y::K) .ret st=ap E Q K .ret st:=rfl
@[go_sem] theorem ZS {y:Code} {i:Nat}:ap E Q (.sk y::K) (.exit i) st=ap E Q K (.exit i) st:=rfl
@[go_sem] theorem aco:ap E Q (.sc::K) .normal st=ap E Q K .normal st:=rfl
@[go_sem] theorem aas:ap E Q (.sc::K) .ret st=ap E Q K .ret st:=rfl
@[go_sem] theorem ZM {i:Nat}:ap E Q (.sc::K) (.exit i) st=ap E Q K (.exit i) st:=rfl
@[go_sem] theorem V5 {id:Nat} {ops:Array Oper} {draw:Bool}:W E (.region id ops draw) (ap E Q K) st=RX E draw (kP ops) (ke ops) 0 ops.toList st (fun s=>(draw=true->Bj ops s=true)/\ap E Q K .normal s):=by
 refine propext ⟨?_,fun h=>?_⟩
 ·rintro ⟨st',h1,h2⟩;cases draw with
  | true=>
   simp only [FM] at h1;split at h1
   case h_2=>simp at h1
   rename_i s hs;split at h1
   case isFalse=>simp at h1
   rename_i hf;simp only [cb] at h1;subst h1;exact XN _ _ _ _ _ hs ⟨fun _=>hf,h2⟩
  | false=>exact YW _ _ _ _ _ h1 ⟨fun h=>(by cases h),h2⟩
 ·cases draw with
  | true=>
   obtain ⟨s,h1,h2,h3⟩:=Ya ops.toList 0 st _ h;exact ⟨s,by simp only [FM,h1,h2 rfl,if_true],h3⟩
  | false=>
   obtain ⟨s,h1,_,h3⟩:=LK ops.toList 0 st _ h;exact ⟨s,h1,h3⟩
def Y3 {c:Operand} {x y:Code} {b:Bool} (hc:st.ev c=.val (.bool b)) (h1:b=true->W E x (ap E Q K) st) (h2:b=false->W E y (ap E Q K) st):W E (.cond c x y) (ap E Q K) st:=by
 simp only [W,hc];exact ⟨h1,h2⟩
section
variable {draw:Bool} {gd:Nat->Option Tmp} {bar:Nat->Bool} {i:Nat} {l:List Oper} {Z:St->Prop} {d:Option Tmp} {ty:TypeId} {pos:String} {after:Array Edge}
def mI {o:Oper} {c:C} (hg:o.guard=none) (hp:kX E o st=none) (h1:kF E o st=dZ o st (some c)) (h2:fB E o st=qSE o (some c)):RX E draw gd bar i (o::l) st Z=RX E draw gd bar (i+1) l (st.put o.dst c) Z:=by
 rw [RX,hg];simp only [qA,exe,hp,h1,h2];cases draw<;>simp [dZ,qSE,SE.apply]
def ot {o:Oper} (hg:o.guard=none) (hp:kX E o st=none) (ha:fX E o st=none) (h1:kF E o st=dZ o st none) (h2:fB E o st=qSE o none):RX E draw gd bar i (o::l) st Z=False:=by
 rw [RX,hg];simp only [qA,exe,hp,ha,h1,h2];cases draw<;>simp [dZ,qSE]
def HQ {o:Oper} {q:Option C} (hg:o.guard=none) (hp:kX E o st=none) (h1:kF E o st=dZ o st q) (h2:fB E o st=qSE o q):RX E draw gd bar i (o::l) st Z=match (generalizing:=false) q with
  | some c=>RX E draw gd bar (i+1) l (st.put o.dst c) Z
  | none=>match fX E o st with
   | some s=>(draw=true->bar i=true)/\RX E draw gd bar (i+1) l s Z
   | none=>False:=by
 cases q with
 | some c=>exact mI hg hp h1 h2
 | none=>
  rw [RX,hg];simp only [qA,exe,hp,h1,h2,qSE,dZ];cases draw with
  | false=>cases fX E o st<;>simp
  | true=>
   by_cases hb:bar i=true
   ·simp only [hb,if_true]; cases fX E o st<;>simp
   ·simp only [hb]; cases fX E o st<;>simp
@[go_sem] theorem acj:RX E draw gd bar i [] st Z=Z st:=rfl
def Kw {j:Nat} {want:Bool} {op:Op}:RX E draw gd bar i ({ dst:=d,op:=op,type:=ty,pos:=pos,after:=after,guard:=some (j,want) }::l) st Z =
  match gd j with
   | some t=>match st.ev (.tmp t) with
    | .val (.bool b)=>if b=want then RX E draw gd bar i ({ dst:=d,op:=op,type:=ty,pos:=pos,after:=after,guard:=none }::l) st Z else RX E draw gd bar (i+1) l (st.put d (.val undef)) Z
    | .val (.tuple _)=>RX E draw gd bar (i+1) l (st.put d (.val undef)) Z
    | _=>False
   | none=>False:=by
 rw [RX];simp only;cases hg:gd j with
 | none=>rfl
 | some t=>
  simp only [St.ev];have same:∀ o o':Oper,o.op=o'.op->o.dst=o'.dst->qA E draw bar i o st=qA E draw bar i o' st:=by
   rintro ⟨d1,o1,t1,p1,a1,g1⟩ ⟨d2,o2,t2,p2,a2,g2⟩ h1 h2;simp only at h1 h2;subst h1; subst h2;rfl
  cases ht:st.tmps[t]? with
  | none=>simp
  | some c=>
   cases c with
   | val v=>
    cases v<;>simp only [nk]
    rename_i b;split
    ·rw [RX];simp only;rw [same];all_goals rfl
    ·rfl
   | _=>simp
def wQ (gd:Nat->Option Tmp) (st:St) (j:Nat):Option (Option Bool):=
 match gd j with
 | some t=>match st.ev (.tmp t) with
  | .val (.bool b)=>some (some b)
  | .val (.tuple _)=>some none
  | _=>none
 | none=>none
@[go_sem] theorem Y2 {j:Nat} {want:Bool} {op:Op} (h:wQ gd st j=some (some want)):RX E draw gd bar i ({ dst:=d,op:=op,type:=ty,pos:=pos,after:=after,guard:=some (j,want) }::l) st Z =
  RX E draw gd bar i ({ dst:=d,op:=op,type:=ty,pos:=pos,after:=after,guard:=none }::l) st Z:=by
 rw [Kw];unfold wQ at h;cases ht:gd j with
 | none=>simp [ht] at h
 | some t=>
  simp only [ht] at h ⊢;split at h<;>simp_all
@[go_sem] theorem YQ {j:Nat} {want:Bool} {op:Op} (h:wQ gd st j=some (some (!want))):RX E draw gd bar i ({ dst:=d,op:=op,type:=ty,pos:=pos,after:=after,guard:=some (j,want) }::l) st Z =
  RX E draw gd bar (i+1) l (st.put d (.val undef)) Z:=by
 rw [Kw];unfold wQ at h;cases ht:gd j with
 | none=>simp [ht] at h
 | some t=>
  simp only [ht] at h ⊢;split at h<;>simp_all
@[go_sem] theorem YX {j:Nat} {want:Bool} {op:Op} (h:wQ gd st j=some none):RX E draw gd bar i ({ dst:=d,op:=op,type:=ty,pos:=pos,after:=after,guard:=some (j,want) }::l) st Z =
  RX E draw gd bar (i+1) l (st.put d (.val undef)) Z:=by
 rw [Kw];unfold wQ at h;cases ht:gd j with
 | none=>simp [ht] at h
 | some t=>
  simp only [ht] at h ⊢;split at h<;>simp_all
def TS (c a b:C):Option C:=
 match c with
 | .val (.bool t)=>some (if t then a else b)
 | _=>none
def La (c:C) (k:Nat):Option C:=
 match c with
 | .tup cs=>cs[k]?
 | _=>none
def Il (c:C):Option C:=
 match c with
 | .pref n p i j=>some (.pref n p i j)
 | .iref es rows i j=>some (.iref es rows i j)
 | _=>none
@[go_sem] theorem ab3 {x:Operand}:RX E draw gd bar i ({ dst:=d,op:=.move x,type:=ty,pos:=pos,after:=after,guard:=none }::l) st Z=RX E draw gd bar (i+1) l (st.put d (st.ev x)) Z:=
 mI rfl rfl rfl rfl
@[go_sem] theorem aao {x:Operand}:RX E draw gd bar i ({ dst:=d,op:=.assign x,type:=ty,pos:=pos,after:=after,guard:=none }::l) st Z=RX E draw gd bar (i+1) l (st.put d (st.ev x)) Z:=
 mI rfl rfl rfl rfl
@[go_sem] theorem ab6 {c a b:Operand}:RX E draw gd bar i ({ dst:=d,op:=.pick c a b,type:=ty,pos:=pos,after:=after,guard:=none }::l) st Z=match (TS (st.ev c) (st.ev a) (st.ev b)) with
   | some c=>RX E draw gd bar (i+1) l (st.put d c) Z
   | none=>False:=by
 cases h:(TS (st.ev c) (st.ev a) (st.ev b)) with
 | none=>exact ot rfl rfl rfl (congrArg (dZ _ st) h) (congrArg (qSE _) h)
 | some c=>exact mI rfl rfl (congrArg (dZ _ st) h) (congrArg (qSE _) h)
@[go_sem] theorem ab5 {t:TypeId} {x:Operand}:RX E draw gd bar i ({ dst:=d,op:=.load t x,type:=ty,pos:=pos,after:=after,guard:=none }::l) st Z=match ((E.T t).bind fun ti=>qg st ti (st.ev x)) with
   | some c=>RX E draw gd bar (i+1) l (st.put d c) Z
   | none=>False:=by
 cases h:((E.T t).bind fun ti=>qg st ti (st.ev x)) with
 | none=>exact ot rfl rfl rfl (congrArg (dZ _ st) h) (congrArg (qSE _) h)
 | some c=>exact mI rfl rfl (congrArg (dZ _ st) h) (congrArg (qSE _) h)
@[go_sem] theorem Zq {t:TypeId} {x:Operand} {f:Nat}:RX E draw gd bar i ({ dst:=d,op:=.fieldAddr t x f,type:=ty,pos:=pos,after:=after,guard:=none }::l) st Z=match ((E.T t).bind fun ti=>qQ E ti f (st.ev x)) with
   | some c=>RX E draw gd bar (i+1) l (st.put d c) Z
   | none=>False:=by
 cases h:((E.T t).bind fun ti=>qQ E ti f (st.ev x)) with
 | none=>exact ot rfl rfl rfl (congrArg (dZ _ st) h) (congrArg (qSE _) h)
 | some c=>exact mI rfl rfl (congrArg (dZ _ st) h) (congrArg (qSE _) h)
@[go_sem] theorem Zw {t:TypeId} {x ix:Operand}:RX E draw gd bar i ({ dst:=d,op:=.indexAddr t x ix,type:=ty,pos:=pos,after:=after,guard:=none }::l) st Z=match ((E.T t).bind fun ti=>jT st ti (st.ev x) (st.ev ix)) with
   | some c=>RX E draw gd bar (i+1) l (st.put d c) Z
   | none=>False:=by
 cases h:((E.T t).bind fun ti=>jT st ti (st.ev x) (st.ev ix)) with
 | none=>exact ot rfl rfl rfl (congrArg (dZ _ st) h) (congrArg (qSE _) h)
 | some c=>exact mI rfl rfl (congrArg (dZ _ st) h) (congrArg (qSE _) h)
@[go_sem] theorem abE {t:TypeId} {x ix:Operand}:RX E draw gd bar i ({ dst:=d,op:=.index t x ix,type:=ty,pos:=pos,after:=after,guard:=none }::l) st Z=match ((E.T t).bind fun ti=>E7 E ti (st.ev x) (st.ev ix)) with
   | some c=>RX E draw gd bar (i+1) l (st.put d c) Z
   | none=>False:=by
 cases h:((E.T t).bind fun ti=>E7 E ti (st.ev x) (st.ev ix)) with
 | none=>exact ot rfl rfl rfl (congrArg (dZ _ st) h) (congrArg (qSE _) h)
 | some c=>exact mI rfl rfl (congrArg (dZ _ st) h) (congrArg (qSE _) h)
@[go_sem] theorem aaB {bop:BinOp} {t t':TypeId} {x y:Operand}:RX E draw gd bar i ({ dst:=d,op:=.binOp bop t x y t',type:=ty,pos:=pos,after:=after,guard:=none }::l) st Z=match (IC (E.T t) bop (st.ev x) (st.ev y)) with
   | some c=>RX E draw gd bar (i+1) l (st.put d c) Z
   | none=>False:=by
 cases h:(IC (E.T t) bop (st.ev x) (st.ev y)) with
 | none=>exact ot rfl rfl rfl (congrArg (dZ _ st) h) (congrArg (qSE _) h)
 | some c=>exact mI rfl rfl (congrArg (dZ _ st) h) (congrArg (qSE _) h)
@[go_sem] theorem abX {uop:UnOp} {t:TypeId} {x:Operand}:RX E draw gd bar i ({ dst:=d,op:=.unOp uop t x,type:=ty,pos:=pos,after:=after,guard:=none }::l) st Z=match (unC uop (st.ev x)) with
   | some c=>RX E draw gd bar (i+1) l (st.put d c) Z
   | none=>False:=by
 cases h:(unC uop (st.ev x)) with
 | none=>exact ot rfl rfl rfl (congrArg (dZ _ st) h) (congrArg (qSE _) h)
 | some c=>exact mI rfl rfl (congrArg (dZ _ st) h) (congrArg (qSE _) h)
@[go_sem] theorem ZL {t t':TypeId} {x:Operand}:RX E draw gd bar i ({ dst:=d,op:=.convert t t' x,type:=ty,pos:=pos,after:=after,guard:=none }::l) st Z=match (match (if (E.T t).isSome then (E.T t').bind fun ti=>Jd ti (st.ev x) else none) with
   | some c=>some c
   | none=>KW E st t t' (st.ev x)) with
   | some c=>RX E draw gd bar (i+1) l (st.put d c) Z
   | none=>False:=by
 cases h:(match (if (E.T t).isSome then (E.T t').bind fun ti=>Jd ti (st.ev x) else none) with
   | some c=>some c
   | none=>KW E st t t' (st.ev x)) with
 | none=>exact ot rfl rfl rfl (congrArg (dZ _ st) h) (congrArg (qSE _) h)
 | some c=>exact mI rfl rfl (congrArg (dZ _ st) h) (congrArg (qSE _) h)
@[go_sem] theorem ZT {x:Operand} {k:Nat}:RX E draw gd bar i ({ dst:=d,op:=.extract x k,type:=ty,pos:=pos,after:=after,guard:=none }::l) st Z=match (La (st.ev x) k) with
   | some c=>RX E draw gd bar (i+1) l (st.put d c) Z
   | none=>False:=by
 cases h:(La (st.ev x) k) with
 | none=>exact ot rfl rfl rfl (congrArg (dZ _ st) h) (congrArg (qSE _) h)
 | some c=>exact mI rfl rfl (congrArg (dZ _ st) h) (congrArg (qSE _) h)
@[go_sem] theorem abm {t:TypeId} {x:Operand} {lo hi mx:Option Operand}:RX E draw gd bar i ({ dst:=d,op:=.slice t x lo hi mx,type:=ty,pos:=pos,after:=after,guard:=none }::l) st Z=match ((E.T t).bind fun ti=>BF st ti (st.ev x) (lo.map st.ev) (hi.map st.ev) (mx.map st.ev)) with
   | some c=>RX E draw gd bar (i+1) l (st.put d c) Z
   | none=>match fX E { dst:=d,op:=.slice t x lo hi mx,type:=ty,pos:=pos,after:=after,guard:=none } st with
    | some s=>(draw=true->bar i=true)/\RX E draw gd bar (i+1) l s Z
    | none=>False:=
 HQ (o:={ dst:=d,op:=.slice t x lo hi mx,type:=ty,pos:=pos,after:=after,guard:=none }) rfl rfl rfl rfl
@[go_sem] theorem ZA {f:FuncId} {first caps:Array Operand}:RX E draw gd bar i ({ dst:=d,op:=.makeFunc (.func f) first caps,type:=ty,pos:=pos,after:=after,guard:=none }::l) st Z=match (if first.size=0/\f < B0 then some (C.clo f (caps.toList.map st.ev)) else if caps.size=0 then some (C.clo (f+B0) (first.toList.map st.ev)) else none) with
   | some c=>RX E draw gd bar (i+1) l (st.put d c) Z
   | none=>False:=by
 cases h:(if first.size=0/\f < B0 then some (C.clo f (caps.toList.map st.ev)) else if caps.size=0 then some (C.clo (f+B0) (first.toList.map st.ev)) else none) with
 | none=>exact ot rfl rfl rfl (congrArg (dZ _ st) h) (congrArg (qSE _) h)
 | some c=>exact mI rfl rfl (congrArg (dZ _ st) h) (congrArg (qSE _) h)
@[go_sem] theorem ZC {x:Operand}:RX E draw gd bar i ({ dst:=d,op:=.nilCheck x,type:=ty,pos:=pos,after:=after,guard:=none }::l) st Z=match (Il (st.ev x)) with
   | some c=>RX E draw gd bar (i+1) l (st.put d c) Z
   | none=>False:=by
 cases h:(Il (st.ev x)) with
 | none=>exact ot rfl rfl rfl (congrArg (dZ _ st) h) (congrArg (qSE _) h)
 | some c=>exact mI rfl rfl (congrArg (dZ _ st) h) (congrArg (qSE _) h)
@[go_sem] theorem aba {t:TypeId} {parts:Array (Nat × Operand)}:RX E draw gd bar i ({ dst:=d,op:=.build t parts,type:=ty,pos:=pos,after:=after,guard:=none }::l) st Z=match ((E.T t).bind fun ti=>IM E ti (parts.toList.map fun x=>(x.1,st.ev x.2))) with
   | some c=>RX E draw gd bar (i+1) l (st.put d c) Z
   | none=>False:=by
 cases h:((E.T t).bind fun ti=>IM E ti (parts.toList.map fun x=>(x.1,st.ev x.2))) with
 | none=>exact ot rfl rfl rfl (congrArg (dZ _ st) h) (congrArg (qSE _) h)
 | some c=>exact mI rfl rfl (congrArg (dZ _ st) h) (congrArg (qSE _) h)
end
end
end Go.Abs
namespace Go.Abs
section
variable {E:Env} {st:St} {draw:Bool} {gd:Nat->Option Tmp} {bar:Nat->Bool} {i:Nat} {l:List Oper} {Z:St->Prop} {d:Tmp} {ty:TypeId} {pos:String} {after:Array Edge}
def okD (E:Env) (draw:Bool) (bar:Nat->Bool) (i:Nat) (o:Oper) (st:St):Prop:=
 draw=true->(∃ e s,fB E o st=some e/\e.apply st=some s)∨bar i=true
def V4 {o:Oper} {e:SE} {s:St} (h1:fB E o st=some e) (h2:e.apply st=some s):exe E o st=some s:=by
 obtain ⟨d1,o1,t1,p1,a1,g1⟩:=o;have:=AU (E:=E) (ops:=#[]) (o:=⟨d1,o1,t1,p1,a1,none⟩) (st:=st) (st':=s);have h3:fB E ⟨d1,o1,t1,p1,a1,none⟩ st=some e:=h1;exact this (by simp [bx,my,h3,h2])
def Fk {o:Oper} (hg:o.guard=none):RX E draw gd bar i (o::l) st Z=match exe E o st with
  | some s=>okD E draw bar i o st/\RX E draw gd bar (i+1) l s Z
  | none=>False:=by
 rw [RX,hg];simp only;cases draw with
 | false=>
  simp only [qA];cases exe E o st<;>simp [okD]
 | true=>
  simp only [qA];cases hb:fB E o st with
  | none=>
   simp only;cases hx:exe E o st with
   | none=>simp
   | some s=>
    by_cases hbar:bar i=true
    ·simp [hbar,okD]
    ·simp [hbar,okD,hb]
  | some e=>
   simp only;cases hap:e.apply st with
   | none=>
    simp only;cases hx:exe E o st with
    | none=>simp
    | some s=>
     by_cases hbar:bar i=true
     ·simp [hbar,okD]
     ·simp [hbar,okD,hb,hap]
   | some s=>
    simp only [V4 hb hap];refine propext ⟨fun h=>⟨fun _=>.inl ⟨e,s,hb,hap⟩,h⟩,fun h=>h.2⟩
@[go_sem] theorem aaW {t:TypeId}:RX E draw gd bar i ({ dst:=some d,op:=.alloc t,type:=ty,pos:=pos,after:=after,guard:=none }::l) st Z=match E.T t with
  | some ti=>(draw=true->dN (st.roots d)=true∨bar i=true)/\RX E draw gd bar (i+1) l (Ij d ti st) Z
  | none=>False:=by
 rw [Fk rfl];simp only [exe,kX,kF,fX];cases ht:E.T t with
 | none=>rfl
 | some ti=>
  simp only
  congr 1
  simp only [okD,fB,ht];refine propext (imp_congr_right fun _=>or_congr ⟨?_,?_⟩ xY)
  ·rintro ⟨e,s,h1,h2⟩;simp only [cb] at h1;subst h1;simp only [SE.apply] at h2;split at h2
   ·rename_i h; exact h
   ·simp at h2
  ·intro h;exact ⟨_,_,rfl,by simp only [SE.apply]; rw [h]⟩
@[go_sem] theorem ab9 {t:TypeId} {x:Operand}:RX E draw gd bar i ({ dst:=some d,op:=.box t x,type:=ty,pos:=pos,after:=after,guard:=none }::l) st Z=match E.T t with
  | some ti=>match K3 d ti x st with
   | some s=>okD E draw bar i { dst:=some d,op:=.box t x,type:=ty,pos:=pos,after:=after,guard:=none } st/\RX E draw gd bar (i+1) l s Z
   | none=>False
  | none=>False:=by
 rw [Fk rfl];simp only [exe,kX,kF,fX];cases ht:E.T t with
 | none=>rfl
 | some ti=>simp only; cases K3 d ti x st<;>rfl
@[go_sem] theorem YS {t:TypeId} {len:Nat} {parts:Array (Nat × Operand)}:RX E draw gd bar i ({ dst:=some d,op:=.buildSlice t len parts,type:=ty,pos:=pos,after:=after,guard:=none }::l) st Z=match E.T t with
  | some ti=>match jQ E d ti len parts.toList st with
   | some s=>okD E draw bar i { dst:=some d,op:=.buildSlice t len parts,type:=ty,pos:=pos,after:=after,guard:=none } st/\RX E draw gd bar (i+1) l s Z
   | none=>False
  | none=>False:=by
 rw [Fk rfl];simp only [exe,kX,kF,fX];cases ht:E.T t with
 | none=>rfl
 | some ti=>simp only; cases jQ E d ti len parts.toList st<;>rfl
def Jt (E:Env) (t:TypeId) (x v:Operand) (st:St):Bool:=
 match CO E { dst:=none,op:=.store t x v,type:=0,pos := "", after := #[], guard := none } t x v st with
 | some e=>(e.apply st).isSome
 | none=>false
@[go_sem] theorem abh {t:TypeId} {x v:Operand}:RX E draw gd bar i ({ dst:=none,op:=.store t x v,type:=ty,pos:=pos,after:=after,guard:=none }::l) st Z=match E.T t with
  | some ti=>match jN ti (st.ev x) (st.ev v) st with
   | some s=>(draw=true->(bar i || Jt E t x v st)=true)/\RX E draw gd bar (i+1) l s Z
   | none=>False
  | none=>False:=by
 rw [Fk rfl];simp only [exe,kX,kF,fX];cases ht:E.T t with
 | none=>rfl
 | some ti=>
  simp only;cases hs:jN ti (st.ev x) (st.ev v) st with
  | none=>rfl
  | some s=>
   simp only [okD,fB]
   congr 1
   refine propext ⟨fun h hd=>?_,fun h hd=>?_⟩
   ·rcases h hd with ⟨e,s',h1,h2⟩|h
    ·have:Jt E t x v st=true:=by
      unfold Jt;have h1':CO E { dst:=none,op:=.store t x v,type:=0,pos := "", after := #[], guard := none } t x v st = some e := h1;rw [h1'];simp [h2]
     simp [this]
    ·simp [h]
   ·have:=h hd;rw [ny] at this;rcases this with h|h
    ·exact .inr h
    ·unfold Jt at h;split at h
     ·rename_i e he;obtain ⟨s',hs'⟩:=acF.1 h;exact .inl ⟨e,s',he,hs'⟩
     ·simp at h
def Q3 (E:Env) (d:Nat) (t tx:TypeId) (s x:Operand) (st:St):Option St:=
 match E.T t,E.T tx with
 | some ti,some tix=>match ti.kind with
  | .slice e es=>match (match tix.kind with
    | .slice e' es'=>if e=e'/\es=es' then (match (match E.F d with
      | some false=>(match E.T e with
       | some te=>vO d es te (st.ev s) (st.ev x) st
       | none=>none)
      | some true=>(match E.T e with
       | some te=>gu d es te tix (st.ev s) (st.ev x) st
       | none=>none)
      | none=>qR d es (st.ev s) (st.ev x) st) with
     | some s'=>some s'
     | none=>yU E d ti s x st) else none
    | _=>none) with
   | some s'=>some s'
   | none=>match E.T e with
    | some te=>gu d es te tix (st.ev s) (st.ev x) st
    | none=>none
  | _=>none
 | _,_=>none
@[go_sem] theorem aat {s x:Operand} {t tx:TypeId}:RX E draw gd bar i ({ dst:=some d,op:=.call { callee:=.builtin .append,args:=#[s,x],argTypes:=#[t,tx] },type:=ty,pos:=pos,after:=after,guard:=none }::l) st Z=match Q3 E d t tx s x st with
  | some s=>(draw=true->bar i=true)/\RX E draw gd bar (i+1) l s Z
  | none=>False:=by
 rw [Fk rfl];have e:exe E { dst:=some d,op:=.call { callee:=.builtin .append,args:=#[s,x],argTypes:=#[t,tx] },type:=ty,pos:=pos,after:=after,guard:=none } st=Q3 E d t tx s x st:=by
  simp only [exe,kX,kF,fX,Q3];cases ht:E.T t with
  | none=>rfl
  | some ti=>
   cases htx:E.T tx with
   | none=>rfl
   | some tix=>
    simp only;cases hk:ti.kind<;>cases hkx:tix.kind<;>(try simp only)<;>(try rfl)
    rename_i e es e' es';by_cases he:e=e'/\es=es'
    ·obtain ⟨rfl,rfl⟩:=he;simp only [and_self,if_true];cases E.F d with
     | some b=>
      cases b with
      | false=>
       simp only;cases E.T e with
       | none=>rfl
       | some te=>simp only; cases vO d es te (st.ev s) (st.ev x) st<;>rfl
      | true=>
       simp only;cases E.T e with
       | none=>rfl
       | some te=>simp only; cases gu d es te tix (st.ev s) (st.ev x) st<;>rfl
     | none=>simp only; cases qR d es (st.ev s) (st.ev x) st<;>rfl
    ·simp only [he,if_false];rfl
 rw [e];cases Q3 E d t tx s x st with
 | none=>rfl
 | some s=>
  simp only [okD,fB]
  congr 1
  simp
def Ik:Builtin->Bool
 | .append=>false
 | .copy=>false
 | .cap=>false
 | _=>true
def GM {b:Builtin} {args:Array Operand} {tys:Array TypeId} (hb:Ik b=true):RX E draw gd bar i ({ dst:=some d,op:=.call { callee:=.builtin b,args:=args,argTypes:=tys },type:=ty,pos:=pos,after:=after,guard:=none }::l) st Z =
  match kY ((tys[0]?).bind E.T) b (args.toList.map st.ev) with
   | some c=>RX E draw gd bar (i+1) l (st.put (some d) c) Z
   | none=>False:=by
 have h0:kX E { dst:=some d,op:=.call { callee:=.builtin b,args:=args,argTypes:=tys },type:=ty,pos:=pos,after:=after,guard:=none } st=none:=by
  cases b<;>first|rfl|simp [Ik] at hb
 have h3:fX E { dst:=some d,op:=.call { callee:=.builtin b,args:=args,argTypes:=tys },type:=ty,pos:=pos,after:=after,guard:=none } st=none:=by
  cases b<;>first|rfl|simp [Ik] at hb
 have h1:kF E { dst:=some d,op:=.call { callee:=.builtin b,args:=args,argTypes:=tys },type:=ty,pos:=pos,after:=after,guard:=none } st=dZ { dst:=some d,op:=.call { callee:=.builtin b,args:=args,argTypes:=tys },type:=ty,pos:=pos,after:=after,guard:=none } st (kY ((tys[0]?).bind E.T) b (args.toList.map st.ev)):=by
  cases b<;>first|rfl|simp [Ik] at hb
 have h2:fB E { dst:=some d,op:=.call { callee:=.builtin b,args:=args,argTypes:=tys },type:=ty,pos:=pos,after:=after,guard:=none } st=qSE { dst:=some d,op:=.call { callee:=.builtin b,args:=args,argTypes:=tys },type:=ty,pos:=pos,after:=after,guard:=none } (kY ((tys[0]?).bind E.T) b (args.toList.map st.ev)):=by
  cases b<;>first|rfl|simp [Ik] at hb
 cases h:kY ((tys[0]?).bind E.T) b (args.toList.map st.ev) with
 | none=>exact ot rfl h0 h3 (by rw [h1,h]) (by rw [h2,h])
 | some c=>exact mI rfl h0 (by rw [h1,h]) (by rw [h2,h])
@[go_sem] theorem acf {args:Array Operand} {tys:Array TypeId}:RX E draw gd bar i ({ dst:=some d,op:=.call { callee:=.builtin .len,args:=args,argTypes:=tys },type:=ty,pos:=pos,after:=after,guard:=none }::l) st Z =
  match kY ((tys[0]?).bind E.T) .len (args.toList.map st.ev) with
   | some c=>RX E draw gd bar (i+1) l (st.put (some d) c) Z
   | none=>False:=GM rfl
@[go_sem] theorem aci {args:Array Operand} {tys:Array TypeId}:RX E draw gd bar i ({ dst:=some d,op:=.call { callee:=.builtin .min,args:=args,argTypes:=tys },type:=ty,pos:=pos,after:=after,guard:=none }::l) st Z =
  match kY ((tys[0]?).bind E.T) .min (args.toList.map st.ev) with
   | some c=>RX E draw gd bar (i+1) l (st.put (some d) c) Z
   | none=>False:=GM rfl
@[go_sem] theorem aca {args:Array Operand} {tys:Array TypeId}:RX E draw gd bar i ({ dst:=some d,op:=.call { callee:=.builtin .max,args:=args,argTypes:=tys },type:=ty,pos:=pos,after:=after,guard:=none }::l) st Z =
  match kY ((tys[0]?).bind E.T) .max (args.toList.map st.ev) with
   | some c=>RX E draw gd bar (i+1) l (st.put (some d) c) Z
   | none=>False:=GM rfl
@[go_sem] theorem QH {x:Operand} {t:TypeId}:RX E draw gd bar i ({ dst:=some d,op:=.call { callee:=.builtin .cap,args:=#[x],argTypes:=#[t] },type:=ty,pos:=pos,after:=after,guard:=none }::l) st Z =
  match kY (E.T t) .cap [st.ev x] with
   | some c=>RX E draw gd bar (i+1) l (st.put (some d) c) Z
   | none=>match fX E { dst:=some d,op:=.call { callee:=.builtin .cap,args:=#[x],argTypes:=#[t] },type:=ty,pos:=pos,after:=after,guard:=none } st with
    | some s=>(draw=true->bar i=true)/\RX E draw gd bar (i+1) l s Z
    | none=>False:=
 HQ (o:={ dst:=some d,op:=.call { callee:=.builtin .cap,args:=#[x],argTypes:=#[t] },type:=ty,pos:=pos,after:=after,guard:=none }) rfl rfl rfl rfl
@[go_sem] theorem CM {x s:Operand} {t tx:TypeId} {d:Option Tmp}:RX E draw gd bar i ({ dst:=d,op:=.call { callee:=.builtin .copy,args:=#[s,x],argTypes:=#[t,tx] },type:=ty,pos:=pos,after:=after,guard:=none }::l) st Z =
  match fX E { dst:=d,op:=.call { callee:=.builtin .copy,args:=#[s,x],argTypes:=#[t,tx] },type:=ty,pos:=pos,after:=after,guard:=none } st with
   | some s=>(draw=true->bar i=true)/\RX E draw gd bar (i+1) l s Z
   | none=>False:=
 HQ (q:=none) (o:={ dst:=d,op:=.call { callee:=.builtin .copy,args:=#[s,x],argTypes:=#[t,tx] },type:=ty,pos:=pos,after:=after,guard:=none }) rfl rfl rfl rfl
@[go_sem] theorem PU {x:Operand} {t:TypeId} {d:Option Tmp}:RX E draw gd bar i ({ dst:=d,op:=.call { callee:=.builtin .clear,args:=#[x],argTypes:=#[t] },type:=ty,pos:=pos,after:=after,guard:=none }::l) st Z =
  match fX E { dst:=d,op:=.call { callee:=.builtin .clear,args:=#[x],argTypes:=#[t] },type:=ty,pos:=pos,after:=after,guard:=none } st with
   | some s=>(draw=true->bar i=true)/\RX E draw gd bar (i+1) l s Z
   | none=>False:=
 HQ (q:=none) (o:={ dst:=d,op:=.call { callee:=.builtin .clear,args:=#[x],argTypes:=#[t] },type:=ty,pos:=pos,after:=after,guard:=none }) rfl rfl rfl rfl
@[go_sem] theorem Zb {t:TypeId} {x c:Operand}:RX E draw gd bar i ({ dst:=some d,op:=.makeSlice t x c,type:=ty,pos:=pos,after:=after,guard:=none }::l) st Z =
  match mkX E d t (st.ev x) (st.ev c) st with
   | some s=>(draw=true->bar i=true)/\RX E draw gd bar (i+1) l s Z
   | none=>False:=
 HQ (q:=none) (o:={ dst:=some d,op:=.makeSlice t x c,type:=ty,pos:=pos,after:=after,guard:=none }) rfl rfl rfl rfl
@[go_sem] theorem ab0 {x:Operand} {args:Array Operand} {tys:Array TypeId}:RX E draw gd bar i ({ dst:=some d,op:=.call { callee:=.value x,args:=args,argTypes:=tys },type:=ty,pos:=pos,after:=after,guard:=none }::l) st Z =
  match st.ev x with
   | .clo f caps=>if d < H0 then match G3 E d (GF f) (I0 f (args.toList.map st.ev) caps) st with
     | some s=>okD E draw bar i { dst:=some d,op:=.call { callee:=.value x,args:=args,argTypes:=tys },type:=ty,pos:=pos,after:=after,guard:=none } st/\RX E draw gd bar (i+1) l s Z
     | none=>False
    else False
   | _=>False:=by
 rw [Fk rfl];simp only [exe,kX,kF,fX,I8,gi];cases hx:st.ev x<;>simp only
 by_cases hd:d < H0
 ·simp only [hd,if_true];cases G3 E d (GF _) (I0 _ (List.map st.ev args.toList) _) st<;>rfl
 ·simp only [hd,if_false]
def Wu {o:Oper}:okD E false bar i o st:=fun h=>by simp at h
theorem VB {o:Oper}:okD E false bar i o st=True:=eq_true Wu
end
end Go.Abs
namespace Go.Abs
@[go_sem] theorem aaG (ts:List C) (R:Nat->C) (d:Nat) (c:C):St.put ⟨ts,R⟩ (some d) c=⟨ts.set d c,R⟩:=rfl
@[go_sem] theorem abd (st:St) (c:C):st.put none c=st:=rfl
@[go_sem] theorem ack (ts:List C) (R:Nat->C) (t:Nat):St.ev ⟨ts,R⟩ (.tmp t)=(ts[t]?).getD .dead:=rfl
@[go_sem] theorem ace (st:St) (k:IntKind) (n:Int):st.ev (.const (.int k n))=.val (.int k n):=rfl
@[go_sem] theorem ab1 (st:St) (b:Bool):st.ev (.const (.bool b))=.val (.bool b):=rfl
@[go_sem] theorem aak (st:St) (b:ByteArray):st.ev (.const (.string b))=.val (.string b):=rfl
@[go_sem] theorem acb (st:St) (n k:Nat):st.ev (.const (.slice none n k))=.val (.slice none n k):=rfl
@[go_sem] theorem acm (st:St) (cs:Array Value):st.ev (.const (.agg cs))=.agg (cs.toList.map .val):=rfl
@[go_sem] theorem ab4 (st:St) (f:FuncId):st.ev (.func f)=.clo (KL f) []:=rfl
@[go_sem] theorem ab2 (ops:Array Oper) (j:Nat):kP ops j=(ops[j]?).bind (·.dst):=rfl
@[go_sem] theorem aal (gd:Nat->Option Tmp) (st:St) (j:Nat):wQ gd st j=match gd j with
 | some t=>match st.ev (.tmp t) with
  | .val (.bool b)=>some (some b)
  | .val (.tuple _)=>some none
  | _=>none
 | none=>none:=rfl
def RZ:Nat->C:=fun _=>.dead
@[go_sem] theorem XC (cs:List C):R0 [] cs=RZ:=by funext n; simp [R0,RZ]
@[go_sem] theorem acv (n:Nat):RZ n=.dead:=rfl
@[go_sem] theorem abZ (R:Nat->C) (d:Nat) (a b:C):upd (upd R d a) d b=upd R d b:=by funext n; simp only [upd]; split<;>rfl
@[go_sem] theorem acd (d:Nat):upd RZ d .dead=RZ:=by funext n; simp [upd,RZ]
@[go_sem] theorem ab7 (R:Nat->C) (d:Nat) (a:C) (n:Nat):upd R d a n=if n=d then a else R n:=rfl
def aX.refl (s:St):aX s s:=fun _ _ _ h=>h
def aX.trans {s s' s'':St} (h1:aX s s') (h2:aX s' s''):aX s s'':=fun X a w h=>h2 X a w (h1 X a w h)
end Go.Abs
namespace Go.Abs
section
variable {E:Env} {st:St} {draw:Bool} {gd:Nat->Option Tmp} {bar:Nat->Bool} {i:Nat} {l:List Oper} {Z:St->Prop} {d:Option Tmp} {ty:TypeId} {pos:String} {after:Array Edge}
def lO {j:Nat} {want:Bool} {p:Prop} [inst:Decidable p] {op:Op} (h:wQ gd st j=some (some (decide p)))
  (h1:p->RX E draw gd bar i ({ dst:=d,op:=op,type:=ty,pos:=pos,after:=after,guard:=some (j,want) }::l) st Z)
  (h2:¬ p->RX E draw gd bar i ({ dst:=d,op:=op,type:=ty,pos:=pos,after:=after,guard:=some (j,want) }::l) st Z) :
  RX E draw gd bar i ({ dst:=d,op:=op,type:=ty,pos:=pos,after:=after,guard:=some (j,want) }::l) st Z:=by
 by_cases hp:p
 ·exact h1 hp
 ·exact h2 hp
variable {Q:Exit->St->Prop} {K:List Fm}
def KS {c:Operand} {x y:Code} (hc:st.ev c=.val (.bool true)) (h:W E x (ap E Q K) st):W E (.cond c x y) (ap E Q K) st:=by
 simp [W,hc,h]
def KZ {c:Operand} {x y:Code} (hc:st.ev c=.val (.bool false)) (h:W E y (ap E Q K) st):W E (.cond c x y) (ap E Q K) st:=by
 simp [W,hc,h]
def tg {c:Operand} {x y:Code} {p:Prop} [inst:Decidable p] (hc:st.ev c=.val (.bool (decide p))) (h1:p->W E x (ap E Q K) st) (h2:¬ p->W E y (ap E Q K) st):W E (.cond c x y) (ap E Q K) st:=
 Y3 hc (fun h=>h1 (of_decide_eq_true h)) (fun h=>h2 (of_decide_eq_false h))
@[go_sem] theorem aae (E:Env) (vs:List ResultVar) (ts:List C) (R:Nat->C):zH E vs ⟨ts,R⟩=match wD E ⟨ts,R⟩ vs with
 | some cs=>match eY cs with
  | some rs=>some (mL rs)
  | none=>match jE (cs.flatMap bo).length H0 (cs.flatMap bo) .dead ⟨ts,R⟩ with
   | some (s1,_)=>some (mL (gZ s1.roots H0 cs))
   | none=>none
 | none=>none:=rfl
@[go_sem] theorem abI (E:Env) (s:St):wD E s []=some []:=rfl
@[go_sem] theorem aaY (E:Env) (ts:List C) (R:Nat->C) (t:Nat) (vs:List ResultVar):wD E ⟨ts,R⟩ (.tmp t::vs)=match wD E ⟨ts,R⟩ vs with
 | some cs=>some ((ts[t]?).getD .dead::cs)
 | none=>none:=by
 simp only [wD,NC];cases wD E ⟨ts,R⟩ vs<;>rfl
@[go_sem] theorem aag:eY []=some []:=rfl
@[go_sem] theorem aah (k:IntKind) (n:Int) (cs:List C):eY (.val (.int k n)::cs)=match eY cs with
 | some rs=>some (.val (.int k n)::rs)
 | none=>none:=by
 simp only [eY,vC,C.cellOk,Value.oneCell',if_true,C.frz];cases eY cs<;>rfl
@[go_sem] theorem Zz (b:Bool) (cs:List C):eY (.val (.bool b)::cs)=match eY cs with
 | some rs=>some (.val (.bool b)::rs)
 | none=>none:=by
 simp only [eY,vC,C.cellOk,Value.oneCell',if_true,C.frz];cases eY cs<;>rfl
@[go_sem] theorem YR (b:ByteArray) (cs:List C):eY (.val (.string b)::cs)=match eY cs with
 | some rs=>some (.val (.string b)::rs)
 | none=>none:=by
 simp only [eY,vC,C.cellOk,Value.oneCell',if_true,C.frz];cases eY cs<;>rfl
@[go_sem] theorem ZB (cs:List C):eY (.val (.slice none 0 0)::cs)=match eY cs with
 | some rs=>some (.val (.slice none 0 0)::rs)
 | none=>none:=by
 simp only [eY,vC,C.cellOk,Value.oneCell',if_true,C.frz];cases eY cs<;>rfl
@[go_sem] theorem aa9 (c:C):mL [c]=c:=rfl
@[go_sem] theorem aaX (c c':C) (cs:List C):mL (c::c'::cs)=.tup (c::c'::cs):=rfl
end
end Go.Abs
namespace Go.Abs
def tab (n:Nat) (f:Nat->C):List C:=(List.range n).map f
def af (f:Nat->C) (d:Nat) (c:C):Nat->C:=fun t=>if t=d then c else f t
def au:Nat->C:=fun _=>.dead
def mO (n:Nat) (f:Nat->C):(tab n f).length=n:=by simp [tab]
theorem gm (n:Nat) (f:Nat->C) (t:Nat):(tab n f)[t]?=if t < n then some (f t) else none:=by
 simp only [tab,cv,List.getElem?_range'];by_cases h:t < n
 ·simp [h]
 ·simp [h]
theorem XI (f:Nat->C) (d:Nat) (c:C) (t:Nat):af f d c t=if t=d then c else f t:=rfl
theorem Wx (t:Nat):au t=.dead:=rfl
theorem YJ (n:Nat) (f:Nat->C) (d:Nat) (c:C):(tab n f).set d c=tab n (af f d c):=by
 apply nN;intro t;rw [hU,gm,gm,mO];by_cases h:d=t
 ·subst h;by_cases h2:d < n<;>simp [h2,af]
 ·have h':¬ t=d:=fun e=>h e.symm;simp only [h,h',if_false,af]
def X1 (n:Nat) (f:Nat->C) (g:C->C):(tab n f).map g=tab n (fun t=>g (f t)):=by
 simp [tab,Function.comp_def]
def uF (g:Nat->aq->Bool) (f:Nat->C):Nat->C:=fun t=>poi g (f t)
theorem XT (g:Nat->aq->Bool) (f:Nat->C) (t:Nat):uF g f t=poi g (f t):=rfl
theorem CK (n:Nat) (f:Nat->C) (g:Nat->aq->Bool):(tab n f).map (poi g)=tab n (uF g f):=X1 n f (poi g)
theorem YF (g:Nat->aq->Bool) (v:Value):poi g (.val v)=.val v:=rfl
theorem WV (g:Nat->aq->Bool):poi g .dead=.dead:=rfl
theorem Zn (g:Nat->aq->Bool) (o:Bool) (nl:Option Bool) (es:Nat) (cap:Option Nat) (rows:List (List C)):poi g (.sl o nl es cap rows)=.sl o nl es cap rows:=rfl
theorem V2 (g:Nat->aq->Bool) (es:Nat) (rows:List (List C)) (i j:Nat):poi g (.iref es rows i j)=.iref es rows i j:=rfl
theorem W6 (g:Nat->aq->Bool) (n:Nat) (p:aq) (i j:Nat):poi g (.pref n p i j)=if g n p=true then .dead else .pref n p i j:=rfl
theorem YI (g:Nat->aq->Bool) (n:Nat) (p:aq) (lo len:Nat) (cap:Option Nat):poi g (.pal n p lo len cap)=if g n p=true then .dead else .pal n p lo len cap:=rfl
def gf (own:List Bool) (cs:List C):Nat->C:=fun t=>match cs[t]? with
 | some c=>iW own t c
 | none=>.dead
def vu {own:List Bool} {cs:List C} {n:Nat} (h:cs.length<=n):zx own cs n=⟨tab n (gf own cs),R0 own cs⟩:=by
 unfold zx
 congr 1
 apply nN;intro t;rw [gm];by_cases h1:t < cs.length
 ·rw [cJ (by rw [lr]; exact h1),G2];rw [if_pos (by omega)];simp [gf,h1]
 ·rw [cL (by rw [lr]; omega),lr];by_cases h2:t < n
  ·rw [if_pos h2];have:t - cs.length < n - cs.length:=by omega
   simp [this,gf,h1]
  ·rw [if_neg h2];simp; omega
end Go.Abs
namespace Go.Abs
def Le (c c':C):Prop:=∀ (w:World) (S:Nat->Prop) (m m':aq->Value) (p p':aq) (d:Nat) (u:Value),rel w S L0 m false d p c u->rel w S L0 m' false d p' c' u
def bU (c:C):Prop:=∀ q,¬ ak c q
structure LeL (cs cs':List C):Prop where
 len:cs'.length=cs.length
 get:∀ (i:Nat) (c c':C),cs[i]?=some c->cs'[i]?=some c'->Le c c'
structure dt (rs rs':List (List C)):Prop where
 len:rs'.length=rs.length
 get:∀ (i:Nat) (r r':List C),rs[i]?=some r->rs'[i]?=some r'->LeL r r'
def Le.refl (c:C):Le c c:=fun w S m m' p p' d u h=>db h
def LeL.refl (cs:List C):LeL cs cs:=⟨rfl,fun i c c' h h'=>by rw [h] at h'; simp only [cb] at h'; exact h' ▸ Le.refl c⟩
def dt.refl (rs:List (List C)):dt rs rs:=⟨rfl,fun i c c' h h'=>by rw [h] at h'; simp only [cb] at h'; exact h' ▸ LeL.refl c⟩
def LeL.nil:LeL [] []:=LeL.refl []
def LeL.cons {a b:C} {as bs:List C} (h:Le a b) (t:LeL as bs):LeL (a::as) (b::bs):=by
 refine ⟨by simp [t.len],?_⟩;intro i c c' h1 h2;cases i with
 | zero=>simp only [cu,cb] at h1 h2; subst h1; subst h2; exact h
 | succ i=>exact t.get i c c' (by simpa using h1) (by simpa using h2)
def dt.map {α:Type} {f g:α->List C} (h:∀ x,LeL (f x) (g x)) (l:List α):dt (l.map f) (l.map g):=by
 refine ⟨by simp,?_⟩;intro i r r' h1 h2;simp only [cv,cj] at h1 h2;obtain ⟨x,e1,rfl⟩:=h1;obtain ⟨y,e2,rfl⟩:=h2;rw [e1] at e2;simp only [cb] at e2;subst e2;exact h x
theorem Le.nils {o:Bool} {es:Nat}:Le (.val (.slice none 0 0)) (.sl o none es none []):=by
 intro w S m m' p p' d u h;cases d with
 | zero=>exact h.elim
 | succ d=>
  have hu:u=.slice none 0 0:=h;subst hu;exact ⟨none,0,rfl,cr _,by decide,by simp,by simp,by simp,by simp,.inl rfl⟩
def Le.sl {o o':Bool} {nl:Option Bool} {es:Nat} {cap:Option Nat} {rows rows':List (List C)} (h:dt rows rows'):Le (.sl o nl es cap rows) (.sl o' none es none rows'):=by
 intro w S m m' p p' d u hr;cases d with
 | zero=>exact hr.elim
 | succ d=>
  obtain ⟨a,k,h1,h2,h3,h4,hz,h5,h6,h7⟩:=hr;refine ⟨a,k,by rw [h.len]; exact h1,by rw [h.len]; exact h2,h3,by simp,⟨by simp,hz.2⟩,?_,by simp,?_⟩
  ·intro row hrow;obtain ⟨i,hi⟩:=nV.1 hrow;have hlt:i < rows.length:=by rw [<-h.len]; exact (cd.1 hi).1
   have hle:=h.get i rows[i] row (by simp [hlt]) hi;rw [hle.len];exact h5 _ (nx hlt)
  ·rcases h7 with h7|h7|⟨b,off,arr,elem,frz,g1,g2,g3,g4,g5⟩
   ·exact .inl h7
   ·refine .inr (.inl ⟨by simp,?_⟩);have:=h.len;rw [h7.2] at this;exact adC.1 this
   ·refine .inr (.inr ⟨b,off,arr,elem,frz,g1,g2,fun _=>g3 (by simp),by simp,?_⟩);intro i j row' c' e1 e2;have hlt:i < rows.length:=by rw [<-h.len]; exact (cd.1 e1).1
    have hle:=h.get i rows[i] row' (by simp [hlt]) e1;have hlt2:j < rows[i].length:=by rw [<-hle.len]; exact (cd.1 e2).1
    have hle2:=hle.get j rows[i][j] c' (by simp [hlt2]) e2;obtain ⟨u',f1,f2⟩:=g5 i j rows[i] rows[i][j] (by simp [hlt]) (by simp [hlt2]);refine ⟨u',f1,?_⟩;simp only [nA] at f2 ⊢;exact hle2 _ _ _ _ _ _ _ _ f2
def Le.agg {cs cs':List C} (h:LeL cs cs'):Le (.agg cs) (.agg cs'):=by
 intro w S m m' p p' d u hr;cases d with
 | zero=>exact hr.elim
 | succ d=>
  obtain ⟨arr,h1,h2,h3⟩:=hr;refine ⟨arr,h1,by rw [h.len]; exact h2,fun j c' e=>?_⟩;have hlt:j < cs.length:=by rw [<-h.len]; exact (cd.1 e).1
  obtain ⟨u',f1,f2⟩:=h3 j cs[j] (by simp [hlt]);exact ⟨u',f1,h.get j cs[j] c' (by simp [hlt]) e _ _ _ _ _ _ _ _ f2⟩
def Le.tup {cs cs':List C} (h:LeL cs cs'):Le (.tup cs) (.tup cs'):=by
 intro w S m m' p p' d u hr;cases d with
 | zero=>exact hr.elim
 | succ d=>
  obtain ⟨arr,h1,h2,h3⟩:=hr;refine ⟨arr,h1,by rw [h.len]; exact h2,fun j c' e=>?_⟩;have hlt:j < cs.length:=by rw [<-h.len]; exact (cd.1 e).1
  obtain ⟨u',f1,f2⟩:=h3 j cs[j] (by simp [hlt]);exact ⟨u',f1,h.get j cs[j] c' (by simp [hlt]) e _ _ _ _ _ _ _ _ f2⟩
def Le.clo {f:Nat} {cs cs':List C} (h:LeL cs cs'):Le (.clo f cs) (.clo f cs'):=by
 intro w S m m' p p' d u hr;cases d with
 | zero=>exact hr.elim
 | succ d=>
  obtain ⟨arr,h1,h2,h3⟩:=hr;refine ⟨arr,h1,by rw [h.len]; exact h2,fun j c' e=>?_⟩;have hlt:j < cs.length:=by rw [<-h.len]; exact (cd.1 e).1
  obtain ⟨u',f1,f2⟩:=h3 j cs[j] (by simp [hlt]);exact ⟨u',f1,h.get j cs[j] c' (by simp [hlt]) e _ _ _ _ _ _ _ _ f2⟩
def bU.val (v:Value):bU (.val v):=by
 intro q h; cases q<;>simp [ak,C.at,C.kid,C.isOwn] at h
def bU.sl (nl:Option Bool) (es:Nat) (cap:Option Nat) (rows:List (List C)):bU (.sl false nl es cap rows):=by
 intro q h; cases q<;>simp [ak,C.at,C.kid,C.isOwn] at h
def bU.agg {cs:List C} (h:∀ c∈cs,bU c):bU (.agg cs):=by
 intro q hq;cases q with
 | nil=>simp [ak,C.at,C.isOwn] at hq
 | cons s q=>
  simp only [ak,C.at,C.kid] at hq;split at hq
  ·cases hc:cs[s.2]? with
   | none=>rw [hc] at hq; simp at hq
   | some c=>rw [hc] at hq; exact h c (cg hc) q hq
  ·simp at hq
def bU.tup {cs:List C} (h:∀ c∈cs,bU c):bU (.tup cs):=by
 intro q hq;cases q with
 | nil=>simp [ak,C.at,C.isOwn] at hq
 | cons s q=>
  simp only [ak,C.at,C.kid] at hq;split at hq
  ·cases hc:cs[s.2]? with
   | none=>rw [hc] at hq; simp at hq
   | some c=>rw [hc] at hq; exact h c (cg hc) q hq
  ·simp at hq
def DU {w:World} {S:Nat->Prop}:∀ (d:Nat) {m m':aq->Value} {p p':aq} {c:C} {u:Value},bU c->rel w S L0 m false d p c u->rel w S L0 m' true d p' c u:=by
 intro d
 induction d with
 | zero=>intro m m' p p' c u _ h; exact h.elim
 | succ d ih=>
  intro m m' p p' c u hn h;cases c with
  | dead=>trivial
  | val v=>exact h
  | sl own nl es cap rows=>
   have ho:own=false:=by
    cases own with
    | false=>rfl
    | true=>exact (hn [] (by simp [ak,C.at,C.isOwn])).elim
   subst ho;obtain ⟨a,k,h1,h2,h3,h4,hz,h5,h6,h7⟩:=h;refine ⟨a,k,h1,h2,h3,h4,hz,h5,by simp,?_⟩;rcases h7 with h7|h7|⟨b,off,arr,elem,frz,g1,g2,g3,g4,g5⟩
   ·exact .inl h7
   ·exact .inr (.inl ⟨by simp,h7.2⟩)
   ·refine .inr (.inr ⟨b,off,arr,elem,frz,g1,g2,fun _=>g3 (by simp),by simp,?_⟩);intro i j row c' e1 e2;obtain ⟨u',e3,e4⟩:=g5 i j row c' e1 e2;exact ⟨u',e3,db e4⟩
  | agg cs=>
   obtain ⟨arr,h1,h2,h3⟩:=h;refine ⟨arr,h1,h2,fun j c' e=>?_⟩;obtain ⟨u',e1,e2⟩:=h3 j c' e;refine ⟨u',e1,ih ?_ e2⟩;intro q hq;exact hn ((0,j)::q) (by simp only [ak,C.at,C.kid,if_true,e,cc]; exact hq)
  | tup cs=>
   obtain ⟨arr,h1,h2,h3⟩:=h;refine ⟨arr,h1,h2,fun j c' e=>?_⟩;obtain ⟨u',e1,e2⟩:=h3 j c' e;refine ⟨u',e1,ih ?_ e2⟩;intro q hq;exact hn ((0,j)::q) (by simp only [ak,C.at,C.kid,if_true,e,cc]; exact hq)
  | clo f cs=>
   obtain ⟨arr,h1,h2,h3⟩:=h;exact ⟨arr,h1,h2,fun j c' e=>let ⟨u',e1,e2⟩:=h3 j c' e; ⟨u',e1,db e2⟩⟩
  | iref es rows i j=>
   obtain ⟨b,off,arr,elem,frz,g1,g2,g3,g4,g5⟩:=h;exact ⟨b,off,arr,elem,frz,g1,g2,g3,g4,fun i j row c' e1 e2=>let ⟨u',e3,e4⟩:=g5 i j row c' e1 e2; ⟨u',e3,db e4⟩⟩
  | pref n p i j=>exact h
  | pal n p lo len cap=>exact h
def Jc (cs:List C):R0 [] cs=fun _=>.dead:=by funext n; simp [R0]
def kU {cs:List C} {m:Nat->aq->Value} {b:Nat}:¬ aG (R0 [] cs) m b:=by
 rintro ⟨n,p,h1,h2⟩;rw [Jc] at h1;exact aM h1
def Con.args {P:Program} {f:FuncId} {pure:Bool} {cs cs':List C} {r:C} (h:Con P f [] pure cs' r) (hle:LeL cs cs'):Con P f [] pure cs r:=by
 intro w S m us hl hr hinj;have key:∀ (i:Nat) (c:C),cs'[i]?=some c->∃ u d,us[i]?=some u/\rel w (fun b=>S b/\¬ aG (R0 [] cs') m b) L0 (m i) (([]:List Bool).getD i false) d [] c u:=by
  intro i c' hc;have hlt:i < cs.length:=by rw [<-hle.len]; exact (cd.1 hc).1
  obtain ⟨u,d,h1,h2⟩:=hr i cs[i] (by simp [hlt]);refine ⟨u,d,h1,?_⟩;simp only [acL] at h2 ⊢;have h3:=hle.get i cs[i] c' (by simp [hlt]) hc w _ (m i) (m i) [] [] d u h2;exact av (fun b _ hb=>⟨⟨hb.1,kU⟩,rfl⟩) d (fun _ _ _ h=>h) (fun h=>by simp at h) (fun h=>by simp at h) h3
 have hinj':Inj (R0 [] cs') m:=by
  intro n p n' p' b h1;rw [Jc] at h1;exact (aM h1).elim
 have:=h w S m us (by rw [hl,hle.len]) key hinj';have e:∀ b,aG (R0 [] cs') m b↔aG (R0 [] cs) m b:=fun b=>⟨fun h=>(kU h).elim,fun h=>(kU h).elim⟩;have e2:aG (R0 [] cs') m=aG (R0 [] cs) m:=funext fun b=>propext (e b);rw [e2] at this;exact this
inductive ROk:C->C->Prop
 | refl (r:C):ROk r r
 | of (r:C) {r0:C} (h:Le r0 r) (hn:bU r):ROk r0 r
 | nil (es:Nat):ROk (.val (.slice none 0 0)) (.sl true none es none [])
 | own {nl:Option Bool} {es:Nat} {cap:Option Nat} {rows rows':List (List C)} (h:dt rows rows') (hn:∀ row∈rows',∀ c∈row,bU c):ROk (.sl true nl es cap rows) (.sl true none es none rows')
 | agg {as bs:List C} (hl:bs.length=as.length) (h:∀ (i:Nat) (a b:C),as[i]?=some a->bs[i]?=some b->ROk a b):ROk (.agg as) (.agg bs)
 | tup {as bs:List C} (hl:bs.length=as.length) (h:∀ (i:Nat) (a b:C),as[i]?=some a->bs[i]?=some b->ROk a b):ROk (.tup as) (.tup bs)
def NK:∀ (i:Nat) (a b:C),([]:List C)[i]?=some a->([]:List C)[i]?=some b->ROk a b:=fun i a b h=>by simp at h
def KT {a b:C} {as bs:List C} (h:ROk a b) (t:∀ (i:Nat) (a b:C),as[i]?=some a->bs[i]?=some b->ROk a b):∀ (i:Nat) (c d:C),(a::as)[i]?=some c->(b::bs)[i]?=some d->ROk c d:=by
 intro i c d h1 h2;cases i with
 | zero=>simp only [cu,cb] at h1 h2; subst h1; subst h2; exact h
 | succ i=>exact t i c d (by simpa using h1) (by simpa using h2)
def ROk.ownAt {c c':C} (h:ROk c c'):∀ {q:aq},ak c' q->ak c q∨c.at q=some (.val (.slice none 0 0)):=by
 induction h with
 | refl r=>intro q hq; exact .inl hq
 | of r hle hn=>intro q hq; exact (hn q hq).elim
 | nil es=>
  intro q hq;cases q with
  | nil=>exact .inr rfl
  | cons s q=>simp [ak,C.at,C.kid] at hq
 | own h hn=>
  rename_i nl es cap rows rows';intro q hq;cases q with
  | nil=>exact .inl rfl
  | cons s q=>
   simp only [ak,C.at,C.kid] at hq;cases hr:rows'[s.1]? with
   | none=>simp [hr] at hq
   | some row=>
    simp only [hr,cc] at hq;cases hc:row[s.2]? with
    | none=>simp [hc] at hq
    | some c1=>
     simp only [hc,cc] at hq;exact (hn row (cg hr) c1 (cg hc) q hq).elim
 | agg hl h ih=>
  rename_i cs ds;intro q hq;cases q with
  | nil=>simp [ak,C.at,C.isOwn] at hq
  | cons s q=>
   simp only [ak,C.at,C.kid] at hq;by_cases hs:s.1=0
   ·simp only [hs,if_true] at hq;cases hd:ds[s.2]? with
    | none=>simp [hd] at hq
    | some b=>
     simp only [hd,cc] at hq;have hlt:=(cd.1 hd).1;rw [hl] at hlt;have ha:cs[s.2]?=some cs[s.2]:=by simp [hlt]
     rcases ih s.2 _ _ ha hd hq with h1|h1
     ·left; simp only [ak,C.at,C.kid,hs,if_true,ha,cc]; exact h1
     ·right; simp only [C.at,C.kid,hs,if_true,ha,cc]; exact h1
   ·simp [hs] at hq
 | tup hl h ih=>
  rename_i cs ds;intro q hq;cases q with
  | nil=>simp [ak,C.at,C.isOwn] at hq
  | cons s q=>
   simp only [ak,C.at,C.kid] at hq;by_cases hs:s.1=0
   ·simp only [hs,if_true] at hq;cases hd:ds[s.2]? with
    | none=>simp [hd] at hq
    | some b=>
     simp only [hd,cc] at hq;have hlt:=(cd.1 hd).1;rw [hl] at hlt;have ha:cs[s.2]?=some cs[s.2]:=by simp [hlt]
     rcases ih s.2 _ _ ha hd hq with h1|h1
     ·left; simp only [ak,C.at,C.kid,hs,if_true,ha,cc]; exact h1
     ·right; simp only [C.at,C.kid,hs,if_true,ha,cc]; exact h1
   ·simp [hs] at hq
open Classical in
noncomputable def zG (c:C) (m:aq->Value) (p:aq) (q:aq):Value:=if c.at q=some (.val (.slice none 0 0)) then .slice none 0 0 else m (p++q)
open Classical in
theorem Ay {c:C} {m:aq->Value} {p q:aq} (h:ak c q):zG c m p q=m (p++q):=by
 unfold zG;split
 ·rename_i e; rw [ak,e] at h; simp [C.isOwn] at h
 ·rfl
def Ng {w:World} {S S':Nat->Prop} {m m':aq->Value} (hS:∀ b,S b->S' b) {c c':C} (h:ROk c c'):∀ (d:Nat) {p p':aq} {u:Value},
  (∀ q,ak c' q->m' (p'++q)=zG c m p q)->(∀ q b,ak c q->¬ ak c' q->blk (m (p++q))=some b->S' b) ->
  rel w S L0 m true d p c u->rel w S' L0 m' true (d+1) p' c' u:=by
 induction h with
 | refl r=>
  intro d p p' u hm _ hr;exact aS d (d+1) (xe _) (av (fun b _ hb=>⟨hS b hb,rfl⟩) d (fun _ _ _ h=>h) (fun _ _ _ _ _ _=>rfl) (fun _ q hq=>by rw [hm q hq,Ay hq]) hr)
 | of r hle hn=>
  intro d p p' u hm hO hr;have a1:=qq (S:=S) (S':=S') (m:=m) (m':=m) (p:=p) (p':=p) hS d (fun _ q b hq hb=>hO q b hq (hn q) hb) hr;exact aS d (d+1) (xe _) (DU d hn (hle _ _ _ m _ p d u a1))
 | nil es=>
  intro d p p' u hm hO hr;cases d with
  | zero=>exact hr.elim
  | succ d=>
   have hu:u=.slice none 0 0:=hr;refine ⟨none,0,hu,cr _,cT _,by simp,⟨by simp,by simp⟩,by simp,?_,.inl rfl⟩;intro _;have:=hm [] rfl;rw [cS] at this;rw [hu,this];simp [zG,C.at]
 | own h hn=>
  rename_i nl es cap rows rows';intro d p p' u hm hO hr;cases d with
  | zero=>exact hr.elim
  | succ d=>
   obtain ⟨a,k,h1,h2,h3,h4,hz,h5,h6,h7⟩:=hr;have hm0:m' p'=m p:=by
    have:=hm [] rfl;rw [Ay (c:=.sl true nl es cap rows) (q:=[]) rfl] at this;simpa using this
   refine ⟨a,k,by rw [h.len]; exact h1,by rw [h.len]; exact h2,h3,by simp,⟨by simp,hz.2⟩,?_,fun _=>by rw [hm0]; exact h6 rfl,?_⟩
   ·intro row' hrow;obtain ⟨i,hi,e⟩:=acN hrow;have hlt:i < rows.length:=by rw [<-h.len]; exact hi
    have:=h.get i rows[i] row' (by simp [hlt]) (by simp [hi,e]);rw [this.len];exact h5 _ (nx hlt)
   ·rcases h7 with h7|h7|⟨b,off,arr,elem,frz,g1,g2,g3,g4,g5⟩
    ·exact .inl h7
    ·simp at h7
    ·refine .inr (.inr ⟨b,off,arr,elem,frz,g1,g2,fun h=>by simp at h,g4,?_⟩);intro i j row' c' e1 e2;have hlt:i < rows.length:=by rw [<-h.len]; exact (cd.1 e1).1
     have hrow:rows[i]?=some rows[i]:=by simp [hlt]
     have hle:=h.get i rows[i] row' hrow e1;have hltj:j < rows[i].length:=by rw [<-hle.len]; exact (cd.1 e2).1
     have hc:rows[i][j]?=some rows[i][j]:=by simp [hltj]
     obtain ⟨u',e3,e4⟩:=g5 i j _ _ hrow hc;have hnc:=hn row' (cg e1) c' (cg e2);refine ⟨u',e3,aS d (d+1) (xe _) (DU d hnc (hle.get j _ c' hc e2 _ _ _ m _ p d u' (qq (S:=S) (S':=S') (m:=m) (m':=m) (p:=p++[(i,j)]) (p':=p) hS d ?_ e4)))⟩;intro _ q b' hq hb;refine hO ((i,j)::q) b' ?_ ?_ (by simpa using hb)
     ·simp only [ak,C.at,C.kid,hrow,cc,hc]; exact hq
     ·simp only [ak,C.at,C.kid,e1,cc,e2]; exact hnc q
 | agg hl h ih=>
  rename_i cs ds;intro d p p' u hm hO hr;cases d with
  | zero=>exact hr.elim
  | succ d=>
   obtain ⟨arr,h1,h2,h3⟩:=hr;refine ⟨arr,h1,by rw [hl]; exact h2,fun j c' e=>?_⟩;have hlt:=(cd.1 e).1;rw [hl] at hlt;have ha:cs[j]?=some cs[j]:=by simp [hlt]
   obtain ⟨u',e1,e2⟩:=h3 j _ ha;refine ⟨u',e1,ih j _ _ ha e d ?_ ?_ e2⟩
   ·intro q hq;have:=hm ((0,j)::q) (by simp only [ak,C.at,C.kid,if_true,e,cc]; exact hq);have e3:(C.agg cs).at ((0,j)::q)=cs[j].at q:=by simp only [C.at,C.kid,if_true,ha,cc]
    unfold zG at this ⊢;rw [e3] at this;simpa using this
   ·intro q b hq hnq hb;refine hO ((0,j)::q) b (by simp only [ak,C.at,C.kid,if_true,ha,cc]; exact hq) ?_ (by simpa using hb);simp only [ak,C.at,C.kid,if_true,e,cc]; exact hnq
 | tup hl h ih=>
  rename_i cs ds;intro d p p' u hm hO hr;cases d with
  | zero=>exact hr.elim
  | succ d=>
   obtain ⟨arr,h1,h2,h3⟩:=hr;refine ⟨arr,h1,by rw [hl]; exact h2,fun j c' e=>?_⟩;have hlt:=(cd.1 e).1;rw [hl] at hlt;have ha:cs[j]?=some cs[j]:=by simp [hlt]
   obtain ⟨u',e1,e2⟩:=h3 j _ ha;refine ⟨u',e1,ih j _ _ ha e d ?_ ?_ e2⟩
   ·intro q hq;have:=hm ((0,j)::q) (by simp only [ak,C.at,C.kid,if_true,e,cc]; exact hq);have e3:(C.tup cs).at ((0,j)::q)=cs[j].at q:=by simp only [C.at,C.kid,if_true,ha,cc]
    unfold zG at this ⊢;rw [e3] at this;simpa using this
   ·intro q b hq hnq hb;refine hO ((0,j)::q) b (by simp only [ak,C.at,C.kid,if_true,ha,cc]; exact hq) ?_ (by simpa using hb);simp only [ak,C.at,C.kid,if_true,e,cc]; exact hnq
def PT {w w':World} {S:Nat->Prop} {pure:Bool} {O:Nat->Prop} {F:Prop} {r0 r:C} {u:Value} (hok:ROk r0 r)
  (h:∃ mr d,rel w' (fun b=>((pure=false/\S b)∨w.heap.size<=b)/\¬ iK r0 mr b) L0 mr true d [] r0 u ∧
   (∀ q q' b,ak r0 q->ak r0 q'->blk (mr q)=some b->blk (mr q')=some b->q=q') ∧
   (∀ b,iK r0 mr b->w.heap.size<=b∨O b)/\F) (hO:∀ b,O b->(pure=false/\S b)∨w.heap.size<=b) :
  ∃ mr d,rel w' (fun b=>((pure=false/\S b)∨w.heap.size<=b)/\¬ iK r mr b) L0 mr true d [] r u ∧
   (∀ q q' b,ak r q->ak r q'->blk (mr q)=some b->blk (mr q')=some b->q=q') ∧
   (∀ b,iK r mr b->w.heap.size<=b∨O b)/\F:=by
 obtain ⟨mr,d,h1,h2,h3,h4⟩:=h;have key:∀ q b,ak r q->blk (zG r0 mr [] q)=some b->ak r0 q/\blk (mr q)=some b:=by
  intro q b hq hb;rcases hok.ownAt hq with h|h
  ·rw [Ay h] at hb; exact ⟨h,hb⟩
  ·simp [zG,h,blk] at hb
 refine ⟨zG r0 mr [],d+1,?_,?_,?_,h4⟩
 ·refine Ng (p:=[]) (p':=[]) ?_ hok d (fun q hq=>by simp) ?_ h1
  ·rintro b ⟨hb,hn⟩;exact ⟨hb,fun ⟨q,hq,e⟩=>hn ⟨q,key q b hq e⟩⟩
  ·intro q b hq hnq hb;simp only [cK] at hb;refine ⟨?_,?_⟩
   ·rcases h3 b ⟨q,hq,hb⟩ with h|h
    ·exact .inr h
    ·exact hO b h
   ·rintro ⟨q',hq',e⟩;obtain ⟨e1,e2⟩:=key q' b hq' e;obtain rfl:=h2 q q' b hq e1 hb e2;exact hnq hq'
 ·intro q q' b hq hq' e e';obtain ⟨a1,a2⟩:=key q b hq e;obtain ⟨a3,a4⟩:=key q' b hq' e';exact h2 q q' b a1 a3 a2 a4
 ·rintro b ⟨q,hq,e⟩;exact h3 b ⟨q,key q b hq e⟩
def F2.mono {P:Program} {f:FuncId} {us:List Value} {w:World} {Q Q':Value->World->Prop} (h:F2 P f us w Q) (hq:∀ u w',Q u w'->Q' u w'):F2 P f us w Q':=by
 rcases h with ⟨h1,h2⟩|⟨u,w',h1,h2⟩
 ·exact .inl ⟨h1,h2.mono fun e w' ⟨u,e1,e2⟩=>⟨u,e1,hq u w' e2⟩⟩
 ·exact .inr ⟨u,w',h1,hq u w' h2⟩
def Con.res {P:Program} {f:FuncId} {pure:Bool} {cs:List C} {r0 r:C} (h:Con P f [] pure cs r0) (hok:ROk r0 r):Con P f [] pure cs r:=by
 intro w S m us hl hr hinj;exact (h w S m us hl hr hinj).mono fun u w' hq=>PT hok hq (fun b h=>(kU h).elim)
def Nz (E:Env) (vs:List ResultVar) (pure:Bool) (r:C):Exit->St->Prop:=fun e s=>(e=.ret∨e=.normal)/\∃ r0,zH E vs s=some r0/\ROk r0 r/\(pure=true->bB r0)
theorem WR {E:Env} {vs:List ResultVar} {pure:Bool} {r:C} {s:St}:Nz E vs pure r .ret s=∃ r0,zH E vs s=some r0/\ROk r0 r/\(pure=true->bB r0):=by simp [Nz]
structure DJ (P:Program) (f:FuncId) (fn:Func) (body:Code):Prop where
 get:P.funcs[f]?=some fn
 bd:fn.body=some body
 name:(fn.name == "runtime.NumGoroutine") = false
 ok:jO body=true
def bB.val (v:Value):bB (.val v):=by
 intro w S S' m d p u h;cases d with
 | zero=>exact h.elim
 | succ d=>exact h
def bB.agg {cs:List C} (h:∀ c∈cs,bB c):bB (.agg cs):=by
 intro w S S' m d p u hr;cases d with
 | zero=>exact hr.elim
 | succ d=>
  obtain ⟨arr,h1,h2,h3⟩:=hr;exact ⟨arr,h1,h2,fun j c' e=>let ⟨u',e1,e2⟩:=h3 j c' e; ⟨u',e1,h c' (cg e) _ _ _ _ _ _ _ e2⟩⟩
def bB.tup {cs:List C} (h:∀ c∈cs,bB c):bB (.tup cs):=by
 intro w S S' m d p u hr;cases d with
 | zero=>exact hr.elim
 | succ d=>
  obtain ⟨arr,h1,h2,h3⟩:=hr;exact ⟨arr,h1,h2,fun j c' e=>let ⟨u',e1,e2⟩:=h3 j c' e; ⟨u',e1,h c' (cg e) _ _ _ _ _ _ _ e2⟩⟩
def bB.sl {nl:Option Bool} {es:Nat} {cap:Option Nat} {rows:List (List C)} (h:∀ row∈rows,∀ c∈row,bB c):bB (.sl true nl es cap rows):=by
 intro w S S' m d p u hr;cases d with
 | zero=>exact hr.elim
 | succ d=>
  obtain ⟨a,k,h1,h2,h3,h4,hz,h5,h6,h7⟩:=hr;refine ⟨a,k,h1,h2,h3,h4,hz,h5,h6,?_⟩;rcases h7 with h7|h7|⟨b,off,arr,elem,frz,g1,g2,g3,g4,g5⟩
  ·exact .inl h7
  ·exact .inr (.inl h7)
  ·refine .inr (.inr ⟨b,off,arr,elem,frz,g1,g2,fun e=>by simp at e,g4,fun i j row c' e1 e2=>?_⟩);obtain ⟨u',e3,e4⟩:=g5 i j row c' e1 e2;exact ⟨u',e3,h row (cg e1) c' (cg e2) _ _ _ _ _ _ _ e4⟩
def rW.len {s:St} (h:rW s) {t:Nat} {o:Bool} {nl:Option Bool} {es:Nat} {cap:Option Nat} {rows:List (List C)} (ht:s.tmps[t]?=some (.sl o nl es cap rows)):rows.length<=maxLen:=by
 obtain ⟨X,a,w,m,H⟩:=h;obtain ⟨u,d,h1,h2⟩:=H.tmp t _ ht;cases d with
 | zero=>exact h2.elim
 | succ d=>obtain ⟨a,k,h1,h2,h3,_⟩:=h2; omega
def rW.lenR {s:St} (h:rW s) {n:Nat} {o:Bool} {nl:Option Bool} {es:Nat} {cap:Option Nat} {rows:List (List C)} (ht:s.roots n=.sl o nl es cap rows):rows.length<=maxLen:=by
 obtain ⟨X,a,w,m,H⟩:=h;obtain ⟨u,d,h2⟩:=H.root n;rw [ht] at h2;cases d with
 | zero=>exact h2.elim
 | succ d=>obtain ⟨a,k,h1,h2,h3,_⟩:=h2; omega
end Go.Abs
namespace Go.Abs
def Up {n:Nat} {f g:Nat->C} {R R':Nat->C} (hr:∀ k,R' k=R k∨R' k=.dead)
  (ht:∀ t,t < n->g t=.dead∨(g t=f t/\(g t).ment (fun k _=>dN (R' k)) 3=false)):aX ⟨tab n f,R⟩ ⟨tab n g,R'⟩:=by
 rintro X a w ⟨m,H⟩;have hown:∀ k p,ak (R' k) p->ak (R k) p/\R' k=R k:=by
  intro k p ho;rcases hr k with h|h
  ·exact ⟨by rw [<-h]; exact ho,h⟩
  ·rw [h] at ho; exact (aM ho).elim
 have hS:∀ b,b < w.heap.size->X.S R m b->X.S R' m b/\w.heap[b]?=w.heap[b]?:=by
  intro b _ hs;exact ⟨⟨hs.1,fun ⟨k,p,h1,h2⟩=>hs.2 ⟨k,p,(hown k p h1).1,h2⟩⟩,rfl⟩
 refine ⟨m,⟨by rw [H.len]; simp [mO],?_,?_,?_,?_,H.fr,H.df⟩⟩
 ·intro t c hc;rw [gm] at hc;split at hc
  case isFalse=>simp at hc
  rename_i hlt;simp only [cb] at hc;subst hc;have hsz:t < a.tmps.size:=by rw [H.len]; simp [mO,hlt]
  rcases ht t hlt with h|⟨h,hm⟩
  ·exact ⟨a.tmps[t],1,by simp [hsz],by rw [h]; trivial⟩
  ·obtain ⟨u,d,h1,h2⟩:=H.tmp t (f t) (by simp only [gm,hlt,if_true]);refine ⟨u,d,h1,?_⟩;rw [h];rw [h] at hm;refine av hS d ?_ (fun h=>by simp at h) (fun h=>by simp at h) h2;intro v uv ho hl;obtain ⟨k,p,e1,e2⟩:=ir d 3 (f t) v hm ho;refine kn e1 rfl ?_ hl;intro nl es cap rows he;rcases hr k with h'|h'
   ·exact ⟨cap,rows,by simp only [h']; exact he,rfl⟩
   ·rw [h'] at e2; simp [dN] at e2
 ·intro k;rcases hr k with h|h
  ·obtain ⟨u,d,h1⟩:=H.root k;refine ⟨u,d,?_⟩;simp only [h];refine av hS d (fun _ _ _ h=>h) (fun _ q b ho hb hlt=>rfl) (fun _ q ho=>rfl) h1
  ·exact ⟨undef,1,by simp only [h]; trivial⟩
 ·intro k p k' p' b h1 h2 h3 h4;exact H.inj k p k' p' b (hown k p h1).1 (hown k' p' h2).1 h3 h4
 ·intro k p b h1 h2;exact H.own k p b (hown k p h1).1 h2
theorem Vb {n:Nat} {f R':Nat->C}:∀ t,t < n->au t=.dead∨(au t=f t/\(au t).ment (fun k _=>dN (R' k)) 3=false):=fun _ _=>.inl rfl
def TB {n:Nat} {f g R':Nat->C} {d:Nat} {c:C} (h0:f d=c) (hm:c.ment (fun k _=>dN (R' k)) 3=false)
  (h:∀ t,t < n->g t=.dead∨(g t=f t/\(g t).ment (fun k _=>dN (R' k)) 3=false)):∀ t,t < n->af g d c t=.dead∨(af g d c t=f t/\(af g d c t).ment (fun k _=>dN (R' k)) 3=false):=by
 intro t ht;simp only [af];split
 ·rename_i e; subst e; exact .inr ⟨h0.symm,hm⟩
 ·exact h t ht
theorem UP {R:Nat->C}:∀ k,RZ k=R k∨RZ k=.dead:=fun _=>.inr rfl
def TP {R R':Nat->C} {d:Nat} {c:C} (h0:R d=c) (h:∀ k,R' k=R k∨R' k=.dead):∀ k,upd R' d c k=R k∨upd R' d c k=.dead:=by
 intro k;simp only [upd];split
 ·rename_i e; subst e; exact .inl h0.symm
 ·exact h k
def mR {n:Nat} {f:Nat->C} {R:Nat->C} (t d es:Nat) (hd:R d=.dead) (ht:f t=.val (.slice none 0 0)) :
  aX ⟨tab n f,R⟩ ⟨tab n (af f t (.pal d [] 0 0 none)),upd R d (.sl true none es none [])⟩:=by
 rintro X a w ⟨m,H⟩;obtain ⟨H1,_⟩:=H.adopt (d:=d) hd es none;refine ⟨_,⟨by rw [H.len]; simp [mO],?_,H1.root,H1.inj,H1.own,H1.fr,H1.df⟩⟩;intro t' c hc;rw [gm] at hc;split at hc
 case isFalse=>simp at hc
 rename_i hlt;simp only [cb] at hc;by_cases e:t'=t
 ·subst e;simp only [af,if_true] at hc;subst hc;obtain ⟨u,dd,h1,h2⟩:=H.tmp t' (f t') (by simp only [gm,hlt,if_true]);rw [ht] at h2;have hu:u=.slice none 0 0:=by
   cases dd with
   | zero=>exact h2.elim
   | succ dd=>exact h2
  subst hu;refine ⟨_,1,h1,?_⟩;simp only [rel,Lv];refine ⟨none,es,none,[],none,0,none,0,by simp [aC,C.at],by simp [br],by simp,rfl,by omega,by omega,by simp,by simp,.inl rfl⟩
 ·simp only [af,e,if_false] at hc;exact H1.tmp t' c (by simp only [adopt,gm,hlt,if_true,hc])
end Go.Abs
namespace Go.Abs
def lE {n:Int} (h1:-9223372036854775808<=n) (h2:n<=9223372036854775807):IntKind.i64.wrap n=n:=
 SF ⟨h1,h2⟩
theorem eG {i n:Nat} (h:i < n) (hn:n<=maxLen):IntKind.i64.wrap ((i:Int)+1)=((i+1:Nat):Int):=by
 unfold maxLen at hn;rw [lE (by omega) (by omega)];rfl
def gx {α β:Type} (l:List α) (i:Int) (k:α->Option β):Option β:=if 0<=i/\i < l.length then l[i.toNat]?.bind k else none
def aI {α β:Type} {l:List α} {i:Int} {k:α->Option β} {r:β} (h:gx l i k=some r):∃ x,(0<=i/\i < l.length)/\l[i.toNat]?=some x/\k x=some r:=by
 unfold gx at h;split at h
 ·rename_i hb;simp only [ck] at h;obtain ⟨x,hx,h⟩:=h;exact ⟨x,hb,hx,h⟩
 ·simp at h
theorem aN {α β:Type} {l:List α} {i:Nat} {k:α->Option β} {x:α} (h:l[i]?=some x):gx l (i:Int) k=k x:=by
 have hlt:=(cd.1 h).1;unfold gx;rw [if_pos ⟨by omega,by omega⟩,cP,h];rfl
def mN {α:Type} (l:List α) (i:Nat) (h:i<=l.length):(∃ x,i < l.length/\l[i]?=some x/\l.drop i=x::l.drop (i+1))∨(¬ i < l.length/\i=l.length/\l.drop i=[]):=by
 by_cases hi:i < l.length
 ·exact .inl ⟨l[i],hi,by simp [hi],xC hi⟩
 ·exact .inr ⟨hi,by omega,xd (by omega)⟩
def jf (n i:Nat):(i < n/\n - i=n - (i+1)+1)∨(¬ i < n/\n - i=0):=by
 by_cases h:i < n
 ·exact .inl ⟨h,by omega⟩
 ·exact .inr ⟨h,by omega⟩
def kq {α:Type} {l:List α} {i:Nat} {x y:α} (h:l[i]?=some x):(l.set i y)[i]?=some y:=by
 have hlt:=(cd.1 h).1;simp [hlt]
section
variable {E:Env} {Q:Exit->St->Prop} {K:List Fm} {st:St}
def Gy {J J':St->Prop} (h:∀ s,J s->J' s) (e:Exit) (s:St):ap E Q (.lp J::K) e s->ap E Q (.lp J'::K) e s:=by
 cases e with
 | normal=>exact h s
 | _=>exact id
variable {draw:Bool} {gd:Nat->Option Tmp} {bar:Nat->Bool} {i:Nat} {l:List Oper} {Z:St->Prop} {o:List Oper}
def OS {j:Nat} {want:Bool} {b:Bool} {d:Option Tmp} {ty:TypeId} {pos:String} {after:Array Edge} {op:Op} (_:wQ gd st j=some (some b))
  (h1:b=true->RX E draw gd bar i ({ dst:=d,op:=op,type:=ty,pos:=pos,after:=after,guard:=some (j,want) }::l) st Z)
  (h2:b=false->RX E draw gd bar i ({ dst:=d,op:=op,type:=ty,pos:=pos,after:=after,guard:=some (j,want) }::l) st Z) :
  RX E draw gd bar i ({ dst:=d,op:=op,type:=ty,pos:=pos,after:=after,guard:=some (j,want) }::l) st Z:=by
 cases hb:b
 ·exact h2 hb
 ·exact h1 hb
def sK {j:Nat} {want:Bool} {b:Bool} {d:Option Tmp} {ty:TypeId} {pos:String} {after:Array Edge} {op:Op} (_:wQ gd st j=some (some (!b)))
  (h1:b=false->RX E draw gd bar i ({ dst:=d,op:=op,type:=ty,pos:=pos,after:=after,guard:=some (j,want) }::l) st Z)
  (h2:b=true->RX E draw gd bar i ({ dst:=d,op:=op,type:=ty,pos:=pos,after:=after,guard:=some (j,want) }::l) st Z) :
  RX E draw gd bar i ({ dst:=d,op:=op,type:=ty,pos:=pos,after:=after,guard:=some (j,want) }::l) st Z:=by
 cases hb:b
 ·exact h1 hb
 ·exact h2 hb
def rW.lenT {n:Nat} {f:Nat->C} {R:Nat->C} (h:rW ⟨tab n f,R⟩) (t:Nat) {o:Bool} {nl:Option Bool} {es:Nat} {cap:Option Nat} {rows:List (List C)} (hlt:t < n) (ht:f t=.sl o nl es cap rows):rows.length<=maxLen:=
 h.len (t:=t) (o:=o) (nl:=nl) (es:=es) (cap:=cap) (by simp only [gm,hlt,if_true,ht])
def rW.lenX {n:Nat} {f:Nat->C} {R:Nat->C} (h:rW ⟨tab n f,R⟩) (k:Nat) {o:Bool} {nl:Option Bool} {es:Nat} {cap:Option Nat} {rows:List (List C)} (ht:R k=.sl o nl es cap rows):rows.length<=maxLen:=
 h.lenR (n:=k) ht
def rW.cell {n:Nat} {f:Nat->C} {R:Nat->C} (h:rW ⟨tab n f,R⟩) (k j:Nat) {o o':Bool} {nl nl':Option Bool} {es es':Nat} {cap cap':Option Nat} {row:List C} {rows:List (List C)} (ht:R k=.sl o nl es cap [row]) (hj:row[j]?=some (.sl o' nl' es' cap' rows)):rows.length<=maxLen:=by
 obtain ⟨X,a,w,m,H⟩:=h;obtain ⟨u,d,h2⟩:=H.root k;rw [show (St.mk (tab n f) R).roots k=R k from rfl,ht] at h2;cases d with
 | zero=>exact h2.elim
 | succ d=>
  obtain ⟨a1,k1,h1,h2,h3,h4,hz,h5,h6,h7⟩:=h2;have hk:k1≠0:=by simp at h2; omega
  rcases h7 with h7|h7|⟨b,off,arr,elem,frz,g1,g2,g3,g4,g5⟩
  ·exact absurd h7 hk
  ·simp at h7
  ·obtain ⟨u',_,e2⟩:=g5 0 j row _ rfl hj;cases d with
   | zero=>exact e2.elim
   | succ d=>obtain ⟨a2,k2,e1,e2,e3,_⟩:=e2; omega
end
end Go.Abs
namespace Go.Abs
section
variable {E:Env} {Q:Exit->St->Prop} {K:List Fm} {st:St}
def Ph {c:Code} (h:Wk E c (ap E Q []) st):Wk E c Q st:=h
def ll {c:Code} {Q:Exit->St->Prop} {st':St} (hw:aX st st') (h:Wk E c Q st'):Wk E c Q st:=fun P hT hG hm hc X a w H ts hk=>h P hT hG hm hc X a w (hw X a w H) ts hk
def aL {x y:Code} (h:Wk E x (ap E Q (.sk y::K)) st):Wk E (.seq x y) (ap E Q K) st:=by
 intro P hT hG hm hc X a w H ts hk;simp only [jO,cw] at hc;simp only [kH,cw] at hk;refine wp_seq (wp_mono (h P hT hG hm hc.1 X a w H ts hk.1) ?_);rintro e a' w' ⟨⟨s,hs,H'⟩,hsm⟩;cases e with
 | normal=>exact wp_mono (hs P hT hG hm hc.2 X a' w' H' ts hk.2) fun e a2 w2 h2=>h2.from (hsm.resolve_left (by simp))
 | _=>exact ⟨⟨s,hs,H'⟩,hsm⟩
def aQ {id:Nat} {c:Code} (h:Wk E c (ap E Q (.bl id::K)) st):Wk E (.block id c) (ap E Q K) st:=by
 intro P hT hG hm hc X a w H ts hk;refine wp_block (wp_mono (h P hT hG hm hc X a w H ts hk) ?_);rintro e a' w' ⟨⟨s,hs,H'⟩,hsm⟩;cases e with
 | exit i=>
  simp only [ap] at hs;simp only [Exit.inBlock];have hsm':=hsm.resolve_left (by simp);split at hs
  ·rename_i hi; rw [if_pos hi]; exact .mk' hs H' hsm'
  ·rename_i hi; rw [if_neg hi]; exact .mk' hs H' hsm'
 | _=>exact ⟨⟨s,hs,H'⟩,hsm⟩
def WL {c:Code} (h:Wk E c (ap E Q (.sc::K)) st):Wk E (.scope c) (ap E Q K) st:=by
 intro P hT hG hm hc X a w H ts hk;refine wp_scope_straight (wp_mono (h P hT hG hm hc X a w H ts hk) ?_);rintro e a' w' ⟨⟨s,hs,H'⟩,hsm⟩;cases e with
 | goto l=>exact hs.elim
 | _=>exact ⟨⟨s,hs,H'⟩,hsm⟩
def NY {id:Nat} {ops:Array Oper} {draw:Bool} (h:RX E draw (kP ops) (ke ops) 0 ops.toList st (fun s=>(draw=true->Bj ops s=true)/\ap E Q K .normal s)):Wk E (.region id ops draw) (ap E Q K) st:=
 Fi (by rw [V5]; exact h)
def iL {id:Nat} {ops:Array Oper} (h:∀ Z:St->Prop,(∀ s,ap E Q K .normal s->Z s)->RX E false (kP ops) (ke ops) 0 ops.toList st Z):Wk E (.region id ops false) (ap E Q K) st:=
 NY (h _ fun s hs=>⟨fun h=>(by cases h),hs⟩)
def mW {id:Nat} {ops:Array Oper} (h:∀ Z:St->Prop,(∀ s,Bj ops s=true->ap E Q K .normal s->Z s)->RX E true (kP ops) (ke ops) 0 ops.toList st Z):Wk E (.region id ops true) (ap E Q K) st:=
 NY (h _ fun s hf hs=>⟨fun _=>hf,hs⟩)
def Yc {y:Code} (h:Wk E y (ap E Q K) st):ap E Q (.sk y::K) .normal st:=h
def R8 {y:Code} (h:ap E Q K .ret st):ap E Q (.sk y::K) .ret st:=h
def Qk {y:Code} {i:Nat} (h:ap E Q K (.exit i) st):ap E Q (.sk y::K) (.exit i) st:=h
def Ye {id:Nat} (h:ap E Q K .normal st):ap E Q (.bl id::K) .normal st:=h
def Sh {id:Nat} (h:ap E Q K .ret st):ap E Q (.bl id::K) .ret st:=h
def Uv {id:Nat} (h:ap E Q K .normal st):ap E Q (.bl id::K) (.exit id) st:=by rw [Ts,if_pos rfl]; exact h
def Yr {J:St->Prop} (h:J st):ap E Q (.lp J::K) .normal st:=h
def Rz {J:St->Prop} (h:ap E Q K .ret st):ap E Q (.lp J::K) .ret st:=h
def Pv {J:St->Prop} {i:Nat} (h:ap E Q K (.exit i) st):ap E Q (.lp J::K) (.exit i) st:=h
def Sk (h:ap E Q K .ret st):ap E Q (.sc::K) .ret st:=h
def WU {e:Exit} (h:Q e st):ap E Q [] e st:=h
class Pop (A:Prop) (B:outParam Prop):Prop where
 pop:B->A
instance {y:Code}:Pop (ap E Q (.sk y::K) .normal st) (Wk E y (ap E Q K) st):=⟨Yc⟩
instance {y:Code}:Pop (ap E Q (.sk y::K) .ret st) (ap E Q K .ret st):=⟨R8⟩
instance {y:Code} {i:Nat}:Pop (ap E Q (.sk y::K) (.exit i) st) (ap E Q K (.exit i) st):=⟨Qk⟩
instance {id:Nat}:Pop (ap E Q (.bl id::K) .normal st) (ap E Q K .normal st):=⟨Ye⟩
instance {id:Nat}:Pop (ap E Q (.bl id::K) .ret st) (ap E Q K .ret st):=⟨Sh⟩
instance {id:Nat}:Pop (ap E Q (.bl id::K) (.exit id) st) (ap E Q K .normal st):=⟨Uv⟩
instance {J:St->Prop}:Pop (ap E Q (.lp J::K) .ret st) (ap E Q K .ret st):=⟨Rz⟩
instance {J:St->Prop} {i:Nat}:Pop (ap E Q (.lp J::K) (.exit i) st) (ap E Q K (.exit i) st):=⟨Pv⟩
instance:Pop (ap E Q (.sc::K) .ret st) (ap E Q K .ret st):=⟨Sk⟩
def aU (h:ap E Q K .normal st):Wk E .skip (ap E Q K) st:=Fi h
def WT {id:Nat} (h:ap E Q K .normal st):Wk E (.label id) (ap E Q K) st:=Fi h
def fx {id:Nat} (h:ap E Q K (.exit id) st):Wk E (.exit id) (ap E Q K) st:=Fi h
def eZ (h:ap E Q K .ret st):Wk E .ret (ap E Q K) st:=Fi h
def CP {Q:Exit->St->Prop} {c:Operand} {x y:Code} {b:Bool} (hc:st.ev c=.val (.bool b)) (h1:b=true->Wk E x Q st) (h2:b=false->Wk E y Q st):Wk E (.cond c x y) Q st:=by
 intro P hT hG hm hco X a w H ts hk;simp only [jO,cw] at hco;simp only [kH,cw] at hk;have H0:=H;obtain ⟨m,HM⟩:=H;have hr:=bm HM c;rw [hc] at hr;have hv:=hr.of_val;cases b with
 | true=>exact wp_cond_true hv (h1 rfl P hT hG hm hco.1 X a w H0 ts hk.1)
 | false=>exact wp_cond_false hv (h2 rfl P hT hG hm hco.2 X a w H0 ts hk.2)
def VI {c:Operand} {x y:Code} (hc:st.ev c=.val (.bool true)) (h:Wk E x (ap E Q K) st):Wk E (.cond c x y) (ap E Q K) st:=CP hc (fun _=>h) (fun h=>by cases h)
def VX {c:Operand} {x y:Code} (hc:st.ev c=.val (.bool false)) (h:Wk E y (ap E Q K) st):Wk E (.cond c x y) (ap E Q K) st:=CP hc (fun h=>by cases h) (fun _=>h)
def mY {c:Operand} {x y:Code} {p:Prop} [inst:Decidable p] (hc:st.ev c=.val (.bool (decide p))) (h1:p->Wk E x (ap E Q K) st) (h2:¬ p->Wk E y (ap E Q K) st):Wk E (.cond c x y) (ap E Q K) st:=
 CP hc (fun h=>h1 (of_decide_eq_true h)) (fun h=>h2 (of_decide_eq_false h))
def Ir {c:Operand} {x y:Code} {p:Prop} [inst:Decidable p] (hc:st.ev c=.val (.bool (!decide p))) (h1:¬ p->Wk E x (ap E Q K) st) (h2:p->Wk E y (ap E Q K) st):Wk E (.cond c x y) (ap E Q K) st:=
 CP hc (fun h=>h1 (by simpa using h)) (fun h=>h2 (by simpa using h))
def oH {c:Operand} {x y:Code} {b:Bool} (hc:st.ev c=.val (.bool b)) (h1:b=true->Wk E x (ap E Q K) st) (h2:b=false->Wk E y (ap E Q K) st):Wk E (.cond c x y) (ap E Q K) st:=CP hc h1 h2
def pV {c:Operand} {x y:Code} {b:Bool} (hc:st.ev c=.val (.bool (!b))) (h1:b=false->Wk E x (ap E Q K) st) (h2:b=true->Wk E y (ap E Q K) st):Wk E (.cond c x y) (ap E Q K) st:=
 CP hc (fun h=>h1 (by simpa using h)) (fun h=>h2 (by simpa using h))
def ig {c:Code} {Q:Exit->St->Prop} (h:rW st->Wk E c Q st):Wk E c Q st:=fun P hT hG hm hc X a w H ts hk=>h ⟨X,a,w,H⟩ P hT hG hm hc X a w H ts hk
def M8 {c:Code} {Q Q':Exit->St->Prop} (hq:∀ e s,Q e s->Q' e s) (h:Wk E c Q st):Wk E c Q' st:=
 fun P hT hG hm hc X a w H ts hk=>wp_mono (h P hT hG hm hc X a w H ts hk) fun e a' w' ⟨⟨s,hs,H'⟩,hsm⟩=>⟨⟨s,hq e s hs,H'⟩,hsm⟩
def M6 {α:Type} (mk:α->St) (inv:α->Prop) (μ:α->Nat) (x0:α) {c:Code} (h0:aX st (mk x0)) (hi:inv x0)
  (hr:∀ x,inv x->rW (mk x)->Wk E c (ap E Q (.lp (fun s=>∃ x',aX s (mk x')/\inv x'/\μ x' < μ x)::K)) (mk x)):Wk E (.loop c) (ap E Q K) st:=by
 classical
 intro P hT hG hm hc X a0 w H ts hk
 let J:Act->World->Prop:=fun a w=>(∃ x,inv x/\Inv X (mk x) a w)/\tv ts a0 a
 let ν:Act->World->Nat:=fun a w=>if h:∃ k,∃ x,inv x/\Inv X (mk x) a w/\μ x=k then Classical.choose (rY _ h) else 0
 refine wp_loop J ν ⟨⟨x0,hi,h0 X a0 w H⟩,.refl _ _⟩ ?_;rintro a w ⟨⟨x1,hI1,H1⟩,hs0⟩;have hex:∃ k,∃ x,inv x/\Inv X (mk x) a w/\μ x=k:=⟨_,x1,hI1,H1,rfl⟩;obtain ⟨x2,hI2,H2,hm2⟩:=(xK (rY _ hex)).1;have hν:ν a w=μ x2:=by simp only [ν]; rw [dif_pos hex,<-hm2]
 refine wp_mono (hr x2 hI2 ⟨_,_,_,H2⟩ P hT hG hm hc X a w H2 ts hk) ?_;rintro e a' w' ⟨⟨s',hs',H'⟩,hsm⟩;cases e with
 | normal=>
  obtain ⟨x',hw',hI',hlt⟩:=hs';have H'':=hw' X a' w' H';refine ⟨⟨⟨x',hI',H''⟩,hs0.trans (hsm.resolve_left (by simp))⟩,?_⟩;have hex':∃ k,∃ x,inv x/\Inv X (mk x) a' w'/\μ x=k:=⟨_,x',hI',H'',rfl⟩;have:ν a' w'<=μ x':=by simp only [ν]; rw [dif_pos hex']; exact (xK (rY _ hex')).2 _ ⟨x',hI',H'',rfl⟩
  omega
 | _=>exact KQ.from (a1:=a) ⟨⟨s',hs',H'⟩,hsm⟩ hs0
def tB {α β ρ:Type} {l:List α} {L:List α->Nat->β->Option ρ} {r:ρ} (mk:Nat->β->St) (b0:β) {c:Code} (h:L l 0 b0=some r) (h0:aX st (mk 0 b0))
  (hr:∀ i b,i<=l.length->L (l.drop i) i b=some r->rW (mk i b)->Wk E c (ap E Q (.lp (fun s=>i < l.length/\∃ b',aX s (mk (i+1) b')/\L (l.drop (i+1)) (i+1) b'=some r)::K)) (mk i b)):Wk E (.loop c) (ap E Q K) st:=by
 refine M6 (fun x:Nat × β=>mk x.1 x.2) (fun x=>x.1<=l.length/\L (l.drop x.1) x.1 x.2=some r) (fun x=>l.length - x.1) (0,b0) h0 ⟨cT _,by simpa using h⟩ ?_;rintro ⟨i,b⟩ ⟨h1,h2⟩ hreal;refine M8 (Gy ?_) (hr i b h1 h2 hreal);rintro s ⟨g1,b',g2,g3⟩;exact ⟨(i+1,b'),g2,⟨g1,g3⟩,by simp only; omega⟩
def oR {β ρ:Type} {L:Nat->Nat->β->Option ρ} {r:ρ} {n s:Nat} (mk:Nat->β->St) (b0:β) {c:Code} (h:L (n - s) s b0=some r) (h0:aX st (mk s b0))
  (hr:∀ i b,(i<=n∨i=s)->L (n - i) i b=some r->rW (mk i b)->Wk E c (ap E Q (.lp (fun s=>i < n/\∃ b',aX s (mk (i+1) b')/\L (n - (i+1)) (i+1) b'=some r)::K)) (mk i b)):Wk E (.loop c) (ap E Q K) st:=by
 refine M6 (fun x:Nat × β=>mk x.1 x.2) (fun x=>(x.1<=n∨x.1=s)/\L (n - x.1) x.1 x.2=some r) (fun x=>n - x.1) (s,b0) h0 ⟨.inr rfl,h⟩ ?_;rintro ⟨i,b⟩ ⟨h1,h2⟩ hreal;refine M8 (Gy ?_) (hr i b h1 h2 hreal);rintro s ⟨g1,b',g2,g3⟩;exact ⟨(i+1,b'),g2,⟨.inl g1,g3⟩,by simp only; omega⟩
def gl {β ρ:Type} {L:Nat->β->Option ρ} {r:ρ} {n:Nat} (mk:β->St) (b0:β) {c:Code} (h:L n b0=some r) (h0:aX st (mk b0))
  (hr:∀ n b,L n b=some r->rW (mk b)->Wk E c (ap E Q (.lp (fun s=>∃ n',n' < n/\∃ b',aX s (mk b')/\L n' b'=some r)::K)) (mk b)):Wk E (.loop c) (ap E Q K) st:=by
 refine M6 (fun x:Nat × β=>mk x.2) (fun x=>L x.1 x.2=some r) (fun x=>x.1) (n,b0) h0 h ?_;rintro ⟨n,b⟩ h1 hreal;refine M8 (Gy ?_) (hr n b h1 hreal);rintro s ⟨n',g1,b',g2,g3⟩;exact ⟨(n',b'),g2,g3,g1⟩
def aT {x y:Code} {ρ:Type} {r:ρ} {T0:Type} (mk:T0->St) {g:T0->Option ρ}
  (hx:(∀ s,∀ p0,aX s (mk p0)->g p0=some r->Wk E y (ap E Q K) s)->Wk E x (ap E Q (.sk y::K)) st)
  (hJ:∀ p0,g p0=some r->Wk E y (ap E Q K) (mk p0)):Wk E (.seq x y) (ap E Q K) st:=
 aL (hx fun s p0 hw h=>ll hw (hJ p0 h))
def Da {x y:Code} {ρ:Type} {r:ρ} {T0 T1:Type} (mk:T0->T1->St) {g:T0->T1->Option ρ}
  (hx:(∀ s,∀ p0 p1,aX s (mk p0 p1)->g p0 p1=some r->Wk E y (ap E Q K) s)->Wk E x (ap E Q (.sk y::K)) st)
  (hJ:∀ p0 p1,g p0 p1=some r->Wk E y (ap E Q K) (mk p0 p1)):Wk E (.seq x y) (ap E Q K) st:=
 aL (hx fun s p0 p1 hw h=>ll hw (hJ p0 p1 h))
def QQ {x y:Code} {ρ:Type} {r:ρ} {T0 T1 T2:Type} (mk:T0->T1->T2->St) {g:T0->T1->T2->Option ρ}
  (hx:(∀ s,∀ p0 p1 p2,aX s (mk p0 p1 p2)->g p0 p1 p2=some r->Wk E y (ap E Q K) s)->Wk E x (ap E Q (.sk y::K)) st)
  (hJ:∀ p0 p1 p2,g p0 p1 p2=some r->Wk E y (ap E Q K) (mk p0 p1 p2)):Wk E (.seq x y) (ap E Q K) st:=
 aL (hx fun s p0 p1 p2 hw h=>ll hw (hJ p0 p1 p2 h))
end
def SA {P:Program} {E:Env} (hT:TOk P E) (hG:GOk P E) (hmix:P.follows .mixedOrders=true) {f:FuncId} {fn:Func} {body:Code} (hf:DJ P f fn body)
  {pure:Bool} {cs:List C} {r:C} (hn:cs.length<=fn.ntmps)
  (hW:rW (zx [] cs fn.ntmps)->Wk E body (Nz E fn.results.toList pure r) (zx [] cs fn.ntmps)):Con P f [] pure cs r:=by
 intro w S m us hl hr hinj;left;have hname':¬ fn.name = "runtime.NumGoroutine" := by simpa using hf.name
 refine ⟨by simp [callFunc,hf.get,hname',hf.bd],?_⟩;have H:=Lb (n:=fn.ntmps) hl hn hr hinj;refine calls_of_wp hf.get hf.bd (wp_mono (hW ⟨_,_,_,m,H⟩ P hT hG hmix hf.ok _ _ _ ⟨m,H⟩ [] (Io _)) ?_);rintro e a' w' ⟨⟨s,⟨he,r0,hfin,hrok,hpure⟩,m',H'⟩,-⟩;have main:∃ u,(results fn a'.tmps).run P w'=.ok u w'/\Done (Ba w S (aG (R0 [] cs) m)) w' r0 u:=by
  unfold zH at hfin;split at hfin
  case h_2=>simp at hfin
  rename_i cs' hres;obtain ⟨us',f1,f2,f3⟩:=Jh hT H' hres;refine ⟨_,AW f1,?_⟩;split at hfin
  ·rename_i rs hpl;simp only [cb] at hfin;subst hfin;exact Db hT H' f2 f3 hpl
  ·split at hfin
   ·rename_i s1 kp hprep;simp only [cb] at hfin;subst hfin;exact Et hT H' f2 f3 hprep
   ·simp at hfin
 obtain ⟨u,hrun,hd⟩:=main;obtain ⟨mr,d,g1,g2,g3⟩:=hd.ex;have post:a'.defers=[]/\∃ v,(results fn a'.tmps).run P w'=.ok v w'/\∃ u,Ending.returned v=.returned u/\∃ mr d,rel w' (fun b=>((pure=false/\(S b∨aG (R0 [] cs) m b))∨w.heap.size<=b)/\¬ iK r mr b) L0 mr true d [] r u ∧
   (∀ q q' b,ak r q->ak r q'->blk (mr q)=some b->blk (mr q')=some b->q=q')/\(∀ b,iK r mr b->w.heap.size<=b∨aG (R0 [] cs) m b)/\FrK w (aG (R0 [] cs) m) w':=by
  refine ⟨H'.df,u,hrun,u,rfl,PT hrok ⟨mr,d,?_,g2,g3,⟨hd.fr.os,hd.fr.tape,hd.fr.output,hd.fr.drawn,hd.fr.size,hd.fr.block⟩⟩ (fun b h=>(kU h).elim)⟩;cases hp:pure with
  | true=>exact hpure hp w' _ _ mr d [] u g1
  | false=>exact av (fun b _ hs=>⟨⟨hs.1.imp (fun h=>⟨rfl,h⟩) id,hs.2⟩,rfl⟩) d (fun _ _ _ h=>h) (fun _ _ _ _ _ _=>rfl) (fun _ _ _=>rfl) g1
 rcases he with rfl|rfl
 ·exact post
 ·exact post
end Go.Abs
namespace Go.Abs
section
variable {E:Env} {ops:Array Oper} {st:St} {Z:St->Prop}
variable {Q:Exit->St->Prop} {K:List Fm}
def ZR:Option St->(St->Prop)->Prop
 | some s,K=>K s
 | none,_=>False
@[go_sem] theorem ZJ {s:St} {K:St->Prop}:ZR (some s) K=K s:=rfl
variable {d:Option Tmp} {ty:TypeId} {pos:String} {after:Array Edge} {op:Op} {l:List Oper} {tr:List St} {j:Nat} {want:Bool}
end
end Go.Abs
namespace Go.Abs
def aB (k:IntKind) (n:Int):List C:=[.val (.int k n)]
def abl (b:Bool):List C:=[.val (.bool b)]
def dS (s:ByteArray):List C:=[.val (.string s)]
def Zo {α:Type} (es:Nat) (row:α->List C) (l:List α):List C:=[.sl false none es none (l.map row)]
def aH (k:IntKind):C->Option Int
 | .val (.int k' n)=>if k'=k then some n else none
 | _=>none
def Di:C->Option Bool
 | .val (.bool b)=>some b
 | _=>none
def bW:C->Option ByteArray
 | .val (.string s)=>some s
 | _=>none
def bT {α:Type} (d:List C->Option α):List (List C)->Option (List α)
 | []=>some []
 | r::rs=>match d r,bT d rs with
  | some x,some xs=>some (x::xs)
  | _,_=>none
def aJ {α:Type} (es:Nat) (d:List C->Option α):C->Option (List α)
 | .sl _ _ es' _ rows=>if es'=es then bT d rows else none
 | .val (.slice none 0 0)=>some []
 | _=>none
def dJ {α:Type} (d:C->Option α):List C->Option α
 | [c]=>d c
 | _=>none
theorem iz (k:IntKind) (n:Int):aH k (.val (.int k n))=some n:=by simp [aH]
theorem iI (b:Bool):Di (.val (.bool b))=some b:=rfl
theorem iA (s:ByteArray):bW (.val (.string s))=some s:=rfl
def aP {α:Type} {d:List C->Option α} {row:α->List C} (h:∀ x,d (row x)=some x) (l:List α):bT d (l.map row)=some l:=by
 induction l with
 | nil=>rfl
 | cons x xs ih=>simp only [nq,bT,h,ih]
theorem mn {α:Type} (es:Nat) (d:List C->Option α) (o:Bool) (nl:Option Bool) (cap:Option Nat) (rows:List (List C)):aJ es d (.sl o nl es cap rows)=bT d rows:=by
 simp only [aJ,if_true]
theorem WK {α:Type} (es:Nat) (d:List C->Option α):aJ es d (.val (.slice none 0 0))=some []:=rfl
theorem Rs {α:Type} (d:List C->Option α):bT d []=some []:=rfl
def yV (k:IntKind) (n:Int):dJ (aH k) (aB k n)=some n:=by simp [dJ,aB,aH]
theorem BM (s:ByteArray):dJ bW (dS s)=some s:=rfl
def bz {k:IntKind} {c:C} {n:Int} (h:aH k c=some n):Le c (.val (.int k n)):=by
 unfold aH at h;split at h
 ·split at h
  ·rename_i hk; subst hk; simp only [cb] at h; subst h; exact Le.refl _
  ·simp at h
 ·simp at h
def SK {c:C} {b:Bool} (h:Di c=some b):Le c (.val (.bool b)):=by
 unfold Di at h;split at h
 ·simp only [cb] at h; subst h; exact Le.refl _
 ·simp at h
def gj {c:C} {s:ByteArray} (h:bW c=some s):Le c (.val (.string s)):=by
 unfold bW at h;split at h
 ·simp only [cb] at h; subst h; exact Le.refl _
 ·simp at h
def GU {α:Type} {d:List C->Option α} {row:α->List C} (hd:∀ r x,d r=some x->LeL r (row x)):∀ {rs:List (List C)} {l:List α},bT d rs=some l->dt rs (l.map row):=by
 intro rs
 induction rs with
 | nil=>intro l h; simp only [bT,cb] at h; subst h; exact dt.refl []
 | cons r rs ih=>
  intro l h;simp only [bT] at h;split at h
  ·rename_i x xs h1 h2;simp only [cb] at h;subst h;have t:=ih h2;refine ⟨by simp [t.len],?_⟩;intro i a b ha hb;cases i with
   | zero=>simp only [cu,cb,nq] at ha hb; subst ha; subst hb; exact hd _ _ h1
   | succ i=>exact t.get i a b (by simpa using ha) (by simpa using hb)
  ·simp at h
def ic {α:Type} {es:Nat} {d:List C->Option α} {row:α->List C} (hd:∀ r x,d r=some x->LeL r (row x)) {c:C} {l:List α} (h:aJ es d c=some l):Le c (.sl false none es none (l.map row)):=by
 unfold aJ at h;split at h
 ·split at h
  ·rename_i he; subst he; exact Le.sl (GU hd h)
  ·simp at h
 ·simp only [cb] at h; subst h; exact Le.nils
 ·simp at h
def SB {α:Type} {d:C->Option α} {row:α->C} (hd:∀ c x,d c=some x->Le c (row x)) {r:List C} {x:α} (h:dJ d r=some x):LeL r [row x]:=by
 unfold dJ at h;split at h
 ·exact LeL.cons (hd _ _ h) LeL.nil
 ·simp at h
def apx {α β:Type} (bytes:Nat) (a b:List α) (k:List α->Option β):Option β:=if (a.length+b.length) * (bytes+1)<=140737488355328 then k (a++b) else none
def jR {α β:Type} {bytes:Nat} {a b:List α} {k:List α->Option β} {r:β} (h:apx bytes a b k=some r):(a.length+b.length) * (bytes+1)<=140737488355328/\k (a++b)=some r:=by
 unfold apx at h;split at h
 ·rename_i hb; exact ⟨hb,h⟩
 ·simp at h
def YV {α β:Type} {bytes:Nat} {a b:List α} {k:List α->Option β} (h:(a.length+b.length) * (bytes+1)<=140737488355328):apx bytes a b k=k (a++b):=if_pos h
def dvx {β:Type} (b:Int) (k:Option β):Option β:=if b=0 then none else k
def Pm {β:Type} {b:Int} {k:Option β} {r:β} (h:dvx b k=some r):¬ b=0/\k=some r:=by
 unfold dvx at h;split at h
 ·simp at h
 ·rename_i hb; exact ⟨hb,h⟩
def shx {β:Type} (b:Int) (k:Option β):Option β:=if b < 0 then none else k
def Xp {β:Type} {b:Int} {k:Option β} {r:β} (h:shx b k=some r):¬ b < 0/\k=some r:=by
 unfold shx at h;split at h
 ·simp at h
 ·rename_i hb; exact ⟨hb,h⟩
def slx {α β:Type} (l:List α) (lo hi:Int) (k:List α->Option β):Option β:=if 0<=lo/\0<=hi/\lo.toNat<=hi.toNat/\hi.toNat<=l.length then k ((l.drop lo.toNat).take (hi.toNat - lo.toNat)) else none
def iT {α β:Type} {l:List α} {lo hi:Int} {k:List α->Option β} {r:β} (h:slx l lo hi k=some r):(0<=lo/\0<=hi/\lo.toNat<=hi.toNat/\hi.toNat<=l.length)/\k ((l.drop lo.toNat).take (hi.toNat - lo.toNat))=some r:=by
 unfold slx at h;split at h
 ·rename_i hb; exact ⟨hb,h⟩
 ·simp at h
def slt {α β:Type} (l:List α) (hi:Int) (k:List α->Option β):Option β:=if 0<=hi/\hi.toNat<=l.length then k (l.take hi.toNat) else none
def Q4 {α β:Type} {l:List α} {hi:Int} {k:List α->Option β} {r:β} (h:slt l hi k=some r):(0<=hi/\hi.toNat<=l.length)/\((hi.toNat=(l.take hi.toNat).length)=True)/\k (l.take hi.toNat)=some r:=by
 unfold slt at h;split at h
 ·rename_i hb; exact ⟨hb,by simp; omega,h⟩
 ·simp at h
def VN {a b:Nat} (h:(a=b)=True):(a < b+1)=True:=by
 have:a=b:=by rw [h]; trivial
 subst this;exact eq_true (cZ _)
def gxs {β:Type} (s:ByteArray) (i:Int) (k:UInt8->Option β):Option β:=if 0<=i then s[i.toNat]?.bind k else none
def Xc {β:Type} {s:ByteArray} {i:Int} {k:UInt8->Option β} {r:β} (h:gxs s i k=some r):∃ x,0<=i/\s[i.toNat]?=some x/\k x=some r:=by
 unfold gxs at h;split at h
 ·rename_i hb;simp only [ck] at h;obtain ⟨x,hx,h⟩:=h;exact ⟨x,hb,hx,h⟩
 ·simp at h
def sls {β:Type} (s:ByteArray) (lo hi:Int) (k:ByteArray->Option β):Option β:=if 0<=lo/\0<=hi/\lo.toNat<=hi.toNat/\hi.toNat<=s.size then k (s.extract lo.toNat hi.toNat) else none
def Xo {β:Type} {s:ByteArray} {lo hi:Int} {k:ByteArray->Option β} {r:β} (h:sls s lo hi k=some r):(0<=lo/\0<=hi/\lo.toNat<=hi.toNat/\hi.toNat<=s.size)/\k (s.extract lo.toNat hi.toNat)=some r:=by
 unfold sls at h;split at h
 ·rename_i hb; exact ⟨hb,h⟩
 ·simp at h
theorem U5 {α:Type} (row:α->List C) (l:List α) (n:Nat):(l.map row).drop n=(l.drop n).map row:=List.map_drop.symm
theorem US {α:Type} (row:α->List C) (l:List α) (n:Nat):(l.map row).take n=(l.take n).map row:=List.map_take.symm
def TL {α:Type} {row:α->List C} {l:List α} {i:Nat} {x y:α} {g:List C->List C} (hx:l[i]?=some x) (h:g (row x)=row y):(l.map row).modify i g=(l.set i y).map row:=by
 apply nN;intro k;rw [AN,cv,cv,hU];by_cases hk:i=k
 ·subst hk;have hlt:=(cd.1 hx).1;have he:l[i]=x:=by simpa [hlt] using hx
  simp [he,h,hlt]
 ·simp [hk]
end Go.Abs
namespace Go.Abs
structure aF {α:Type} (row:α->List C):Prop where
 frz:∀ x,(row x).map C.frz=row x
 ok:∀ x,(row x).all C.cellOk=true
 plain:∀ x,(row x).all plainCell=true
def aF.frzRows {α:Type} {row:α->List C} (h:aF row) (l:List α):Abs.frzRows (l.map row)=l.map row:=by
 simp only [Abs.frzRows,adE]
 congr 1
 funext x
 exact h.frz x
def aF.all {α:Type} {row:α->List C} (h:aF row) (l:List α):(l.map row).all (fun r=>r.all C.cellOk)=true:=by
 simp only [ac8,cn];intro x _;exact h.ok x
def aF.allPlain {α:Type} {row:α->List C} (h:aF row) (l:List α):(l.map row).all (fun r=>r.all plainCell)=true:=by
 simp only [ac8,cn];intro x _;exact h.plain x
theorem Ru:frzRows []=[]:=rfl
theorem Rm (r:List C) (rs:List (List C)):frzRows (r::rs)=r.map C.frz::frzRows rs:=rfl
theorem lW (k:IntKind):aF (aB k):=⟨fun _=>rfl,fun _=>rfl,fun _=>rfl⟩
theorem Fe:aF dS:=⟨fun _=>rfl,fun _=>rfl,fun _=>rfl⟩
theorem X8 (k:IntKind) (n:Int):aB k n=[.val (.int k n)]:=rfl
theorem Yj (b:Bool):abl b=[.val (.bool b)]:=rfl
theorem YL (s:ByteArray):dS s=[.val (.string s)]:=rfl
theorem XU {α:Type} (es:Nat) (row:α->List C) (l:List α):Zo es row l=[.sl false none es none (l.map row)]:=rfl
def jo (k:IntKind):∀ (r:List C) (x:Int),dJ (aH k) r=some x->LeL r (aB k x):=fun _ _ h=>SB (row:=fun n=>.val (.int k n)) (fun _ _ h=>bz h) h
def Gn:∀ (r:List C) (x:ByteArray),dJ bW r=some x->LeL r (dS x):=fun _ _ h=>SB (row:=fun n=>.val (.string n)) (fun _ _ h=>gj h) h
theorem IE {α:Type} (d:List C->Option α) (r:List C) (rs:List (List C)):bT d (r::rs)=match d r,bT d rs with
 | some x,some xs=>some (x::xs)
 | _,_=>none:=rfl
theorem Vy {α:Type} (l:List α) (i n:Nat) (y:α):(l.set i y).take n=(l.take n).set i y:=by
 apply nN;intro k;simp only [cW,hU,nC];by_cases h2:i=k
 ·subst h2;by_cases h1:i < n
  ·by_cases h3:i < l.length
   ·have h4:i < min n l.length:=by omega
    simp only [h1,h3,h4,if_true]
   ·have h4:¬ i < min n l.length:=by omega
    simp only [h1,h3,h4,if_true,if_false]
  ·have h4:¬ i < min n l.length:=by omega
   simp only [h1,h4,if_true,if_false]
 ·simp [h2]
def apn {α β:Type} (bytes:Nat) (b:List α) (k:Option β):Option β:=if b.length * (bytes+1)<=140737488355328 then k else none
def oE {α β:Type} {bytes:Nat} {b:List α} {k:Option β} {r:β} (h:apn bytes b k=some r):b.length * (bytes+1)<=140737488355328/\k=some r:=by
 unfold apn at h;split at h
 ·rename_i hb; exact ⟨hb,h⟩
 ·simp at h
def Vd {α β:Type} {bytes:Nat} {b:List α} {k:Option β} (h:b.length * (bytes+1)<=140737488355328):apn bytes b k=k:=if_pos h
def dt.nil:dt [] []:=dt.refl []
def dt.cons {a b:List C} {as bs:List (List C)} (h:LeL a b) (t:dt as bs):dt (a::as) (b::bs):=by
 refine ⟨by simp [t.len],?_⟩;intro i c c' h1 h2;cases i with
 | zero=>simp only [cu,cb] at h1 h2; subst h1; subst h2; exact h
 | succ i=>exact t.get i c c' (by simpa using h1) (by simpa using h2)
def dt.append {as bs as' bs':List (List C)} (h:dt as bs) (t:dt as' bs'):dt (as++as') (bs++bs'):=by
 refine ⟨by simp [h.len,t.len],?_⟩;intro i c c' h1 h2;by_cases hi:i < as.length
 ·rw [cJ hi] at h1;rw [cJ (by rw [h.len]; exact hi)] at h2;exact h.get i c c' h1 h2
 ·rw [cL (by omega)] at h1;rw [cL (by rw [h.len]; omega),h.len] at h2;exact t.get _ c c' h1 h2
def dt.mapAppend {α:Type} {row:α->List C} {as as':List (List C)} {l l':List α} (h:dt as (l.map row)) (t:dt as' (l'.map row)):dt (as++as') ((l++l').map row):=by
 rw [nt]; exact h.append t
def DY:∀ c∈([]:List C),bU c:=by simp
def CD {c:C} {cs:List C} (h:bU c) (t:∀ c∈cs,bU c):∀ c'∈c::cs,bU c':=by
 intro c' hc;rcases cF.1 hc with rfl|hc
 ·exact h
 ·exact t c' hc
def vq:∀ c∈([]:List C),bB c:=by simp
def iX {c:C} {cs:List C} (h:bB c) (t:∀ c∈cs,bB c):∀ c'∈c::cs,bB c':=by
 intro c' hc;rcases cF.1 hc with rfl|hc
 ·exact h
 ·exact t c' hc
def UK {α:Type} {row:α->List C} (h:∀ x,∀ c∈row x,bB c) (l:List α):∀ r∈l.map row,∀ c∈r,bB c:=by
 intro r hr;simp only [cE] at hr;obtain ⟨x,_,rfl⟩:=hr;exact h x
def UU (k:IntKind):∀ x,∀ c∈aB k x,bB c:=fun x=>iX (bB.val _) vq
def Vh:∀ x,∀ c∈dS x,bB c:=fun x=>iX (bB.val _) vq
@[go_sem] theorem aaq (E:Env) (ts:List C) (R:Nat->C) (t k:Nat) (vs:List ResultVar):wD E ⟨ts,R⟩ (.cell t k::vs)=match E.T k with
 | some ti=>match qg ⟨ts,R⟩ ti ((ts[t]?).getD .dead),wD E ⟨ts,R⟩ vs with
  | some c,some cs=>some (c::cs)
  | _,_=>none
 | none=>none:=by
 simp only [wD,NC];cases E.T k<;>rfl
theorem WH (c:C) (cs:List C):eY (c::cs)=match vC c,eY cs with
 | some c',some cs'=>some (c'::cs')
 | _,_=>none:=rfl
def Le.iref1 {es j:Nat} {cs cs':List C} (h:LeL cs cs'):Le (.iref es [cs] 0 j) (.iref es [cs'] 0 j):=by
 intro w S m m' p p' d u hr;cases d with
 | zero=>exact hr.elim
 | succ d=>
  obtain ⟨b,off,arr,elem,frz,g1,g2,g3,g4,g5⟩:=hr;refine ⟨b,off,arr,elem,frz,g1,g2,g3,?_,?_⟩
  ·intro row hrow;simp only [cO] at hrow;subst hrow;rw [h.len];exact g4 cs (by simp)
  ·intro i' j' row c' e1 e2;cases i' with
   | succ i'=>simp at e1
   | zero=>
    simp only [cu,cb] at e1;subst e1;have hlt:j' < cs.length:=by rw [<-h.len]; exact (cd.1 e2).1
    obtain ⟨u',f1,f2⟩:=g5 0 j' cs cs[j'] rfl (by simp [hlt]);exact ⟨u',f1,h.get j' cs[j'] c' (by simp [hlt]) e2 _ _ _ _ _ _ _ _ f2⟩
end Go.Abs
namespace Go.Abs
def W7 (E:Env) (o:Oper) (st:St):Bool:=
 match fB E o st with
 | some e=>(e.apply st).isSome
 | none=>false
theorem W9 {E:Env} {bar:Nat->Bool} {i:Nat} {o:Oper} {st:St}:okD E true bar i o st=(W7 E o st=true∨bar i=true):=by
 simp only [okD,W7,true_implies]
 congr 1
 refine propext ⟨?_,?_⟩
 ·rintro ⟨e,s,h1,h2⟩;rw [h1]; simp [h2]
 ·intro h;split at h
  ·rename_i e he;obtain ⟨s,hs⟩:=acF.1 h;exact ⟨e,s,he,hs⟩
  ·simp at h
def gE {b:Bool} {p:Prop} (h:b=true) (k:p):b=true/\p:=⟨h,k⟩
theorem Ps {α:Type} (x:α):(some x).isSome=true:=rfl
theorem Q5 {α:Type}:(none:Option α).isSome=false:=rfl
end Go.Abs
namespace Go.Abs
def Kk {α:Type} {row:α->List C} {l:List α} {i:Nat} {x y:α} {rx ry:List C} {g:List C->List C} (hx:l[i]?=some x) (e1:row x=rx) (e2:row y=ry) (h:g rx=ry):(l.map row).modify i g=(l.set i y).map row:=TL hx (by rw [e1,h,e2])
def RP {α:Type} {row:α->List C} {l:List α} {i:Nat} {x y0 y:α} {rx ry:List C} {g:List C->List C} (hx:l[i]?=some x) (e1:row y0=rx) (e2:row y=ry) (h:g rx=ry):((l.set i y0).map row).modify i g=(l.set i y).map row:=by
 rw [Kk (kq (y:=y0) hx) e1 e2 h]
 congr 1
 exact adv ..
theorem P3 {α:Type} (l:List α) (i:Nat) (f g:α->α):(l.modify i f).modify i g=l.modify i (fun x=>g (f x)):=by
 apply nN;intro k;simp only [n5];cases l[k]?<;>simp
 split<;>rfl
def zZ {c:C} (h:plainCell c=true):bU c:=by
 intro q hq;cases c with
 | sl own nl es cap rows=>
  cases own with
  | false=>cases q<;>simp [ak,C.at,C.kid,C.isOwn] at hq
  | true=>simp [plainCell,C.cellOk,C.isOwn] at h
 | _=>first|(simp [plainCell,C.cellOk] at h; done)|(cases q<;>simp [ak,C.at,C.kid,C.isOwn] at hq)
def aF.noOwn {α:Type} {row:α->List C} (h:aF row) (l:List α):∀ r∈l.map row,∀ c∈r,bU c:=by
 intro r hr c hc;obtain ⟨x,_,rfl⟩:=cE.1 hr;exact zZ (cn.1 (h.plain x) c hc)
def Bf {P:Program} {f:FuncId} {pure:Bool} {es:Nat} {rows:List (List C)} {r:C} (hnil:rows=[]->Con P f [] pure [.val (.slice none 0 0)] r)
  (hnn:Con P f [] pure [.sl false (some false) es none rows] r):Con P f [] pure [.sl false none es none rows] r:=by
 intro w S m us hl hr hinj;obtain ⟨u,d,hu,hrel⟩:=hr 0 _ rfl;have e1:∀ (cs:List C),aG (R0 [] cs) m=fun _=>False:=fun cs=>funext fun b=>propext ⟨fun h=>kU h,fun h=>h.elim⟩;have hinj':∀ (cs:List C),Inj (R0 [] cs) m:=by
  intro cs n p n' p' b h1;rw [Jc] at h1;exact (aM h1).elim
 cases d with
 | zero=>exact hrel.elim
 | succ d=>
  obtain ⟨a,k,h1,h2,h3,h4,hz,h5,h6,h7⟩:=hrel;by_cases ha:a=none
  ·subst ha;obtain rfl:=hz.2 rfl;have hrows:rows=[]:=by
    cases rows with
    | nil=>rfl
    | cons x xs=>simp at h2
   have:=hnil hrows w S m us (by simpa using hl) (by
    intro i c hc;cases i with
    | zero=>
     simp only [cu,cb] at hc;subst hc;refine ⟨u,1,hu,?_⟩;rw [h1,hrows];rfl
    | succ i=>simp at hc) (hinj' _)
   rw [e1] at this ⊢;exact this
  ·have:=hnn w S m us (by simpa using hl) (by
    intro i c hc;cases i with
    | zero=>
     simp only [cu,cb] at hc;subst hc;refine ⟨u,d+1,hu,?_⟩;refine ⟨a,k,h1,h2,h3,h4,⟨fun b hb=>?_,hz.2⟩,h5,h6,?_⟩
     ·simp only [cb] at hb;subst hb;simp [ha]
     ·rw [e1] at h7 ⊢;exact h7
    | succ i=>simp at hc) (hinj' _)
   rw [e1] at this ⊢;exact this
end Go.Abs
namespace Go.Abs
theorem MZ {P:Program} {f:FuncId} {fn:Func} {tS tR e:TypeId} {size:Nat} (hf:P.funcs[f]?=some fn) (hname:(fn.name == "runtime.NumGoroutine") = false)
  (hb:fn.body.isNone=true) (hn:Extern.findNext fn=none) (he:Extern.find fn=some (Extern.SlicesOverlaps.overlaps #[tS,tS] #[tR]))
  (ht:P.underlying tS=some (.slice e)) (hz0:(P.info? e).map (·.size)=some size):HX P f:=by
 have hz:∀ w,(Go.sizeOf e).run P w=.ok size w:=by
  intro w;obtain ⟨i,hi,rfl⟩:=cj.1 hz0;simp [Go.sizeOf,typeInfo,hi]
 intro w x y la ka lb kb h;rw [run_callFunc_extern hf hname hb hn he];obtain ⟨b1,o1,arr1,e1,b2,o2,arr2,e2,rfl,rfl,h3,h4,h5,h6⟩:=h;have key:(Extern.SlicesOverlaps.overlaps #[tS,tS] #[tR] #[.slice (some ⟨b1,o1,none⟩) la ka,.slice (some ⟨b2,o2,none⟩) lb kb]).run P w=.ok (.bool false) w:=
  Go.Lib.run_overlaps_apart w tS tR e ht size hz ⟨b1,o1,none⟩ ⟨b2,o2,none⟩ la ka lb kb h3 e1 e2 arr1.size arr2.size (by simp [World.shape?,h4]) (by simp [World.shape?,h5]) h6 (by simp [World.frozen?,h4]) (by simp [World.frozen?,h4])
 rw [key];rfl
def aF.allD {α:Type} {row:α->List C} (h:aF row) (l:List α):(l.map row).all (fun r=>r.all qe)=true:=by
 have:=h.allPlain l;rw [cn] at this ⊢;intro r hr;have:=this r hr;rw [cn] at this ⊢;intro c hc;simp [qe,this c hc]
def M5 (E:Env) (vs:List ResultVar) (pure:Bool) (r:C):Exit->St->Prop:=fun e s=>(e=.ret∨e=.normal)/\∃ r0,zH E vs s=some r0/\ROk r0 r/\(∀ q,ak r0 q->ak r q)/\(pure=true->bB r0)
def dR {E:Env} {vs:List ResultVar} {pure:Bool} {r:C} {s:St}:M5 E vs pure r .ret s=∃ r0,zH E vs s=some r0/\ROk r0 r/\(∀ q,ak r0 q->ak r q)/\(pure=true->bB r0):=by simp [M5]
def R9 {E:Env} {vs:List ResultVar} {pure:Bool} {r:C} {s:St}:M5 E vs pure r .normal s=∃ r0,zH E vs s=some r0/\ROk r0 r/\(∀ q,ak r0 q->ak r q)/\(pure=true->bB r0):=by simp [M5]
def PM {nl nl':Option Bool} {es es':Nat} {cap cap':Option Nat} {rows rows':List (List C)} (h:∀ row∈rows,∀ c∈row,bU c):∀ q,ak (.sl true nl es cap rows) q->ak (.sl true nl' es' cap' rows') q:=by
 intro q hq;cases q with
 | nil=>rfl
 | cons s q=>
  exfalso;simp only [ak,C.at,C.kid] at hq;cases hr:rows[s.1]? with
  | none=>simp [hr] at hq
  | some row=>
   simp only [hr,cc] at hq;cases hc:row[s.2]? with
   | none=>simp [hc] at hq
   | some c1=>
    simp only [hc,cc] at hq;exact h row (cg hr) c1 (cg hc) q hq
def Ro {w w':World} {S:Nat->Prop} {pure:Bool} {O:Nat->Prop} {F:Prop} {r0 r:C} {u:Value} (hok:ROk r0 r) (hkeep:∀ q,ak r0 q->ak r q)
  (h:∃ mr d,rel w' (fun b=>((pure=false/\S b)∨w.heap.size<=b)/\¬ iK r0 mr b) L0 mr true d [] r0 u ∧
   (∀ q q' b,ak r0 q->ak r0 q'->blk (mr q)=some b->blk (mr q')=some b->q=q') ∧
   (∀ b,iK r0 mr b->w.heap.size<=b∨O b)/\F) :
  ∃ mr d,rel w' (fun b=>((pure=false/\S b)∨w.heap.size<=b)/\¬ iK r mr b) L0 mr true d [] r u ∧
   (∀ q q' b,ak r q->ak r q'->blk (mr q)=some b->blk (mr q')=some b->q=q') ∧
   (∀ b,iK r mr b->w.heap.size<=b∨O b)/\F:=by
 obtain ⟨mr,d,h1,h2,h3,h4⟩:=h;have key:∀ q b,ak r q->blk (zG r0 mr [] q)=some b->ak r0 q/\blk (mr q)=some b:=by
  intro q b hq hb;rcases hok.ownAt hq with h|h
  ·rw [Ay h] at hb; exact ⟨h,hb⟩
  ·simp [zG,h,blk] at hb
 refine ⟨zG r0 mr [],d+1,?_,?_,?_,h4⟩
 ·refine Ng (p:=[]) (p':=[]) ?_ hok d (fun q hq=>by simp) (fun q b hq hnq _=>(hnq (hkeep q hq)).elim) h1;rintro b ⟨hb,hn⟩;exact ⟨hb,fun ⟨q,hq,e⟩=>hn ⟨q,key q b hq e⟩⟩
 ·intro q q' b hq hq' e e';obtain ⟨a1,a2⟩:=key q b hq e;obtain ⟨a3,a4⟩:=key q' b hq' e';exact h2 q q' b a1 a3 a2 a4
 ·rintro b ⟨q,hq,e⟩;exact h3 b ⟨q,key q b hq e⟩
def Jm {P:Program} {E:Env} (hT:TOk P E) (hG:GOk P E) (hmix:P.follows .mixedOrders=true) {f:FuncId} {fn:Func} {body:Code} (hf:DJ P f fn body)
  {own:List Bool} {pure:Bool} {cs:List C} {r:C} (hn:cs.length<=fn.ntmps)
  (hW:rW (zx own cs fn.ntmps)->W E body (M5 E fn.results.toList pure r) (zx own cs fn.ntmps)):Con P f own pure cs r:=by
 intro w S m us hl hr hinj;left;have hname':¬ fn.name = "runtime.NumGoroutine" := by simpa using hf.name
 refine ⟨by simp [callFunc,hf.get,hname',hf.bd],?_⟩;have H:=Lb (n:=fn.ntmps) hl hn hr hinj;refine calls_of_wp hf.get hf.bd (wp_mono (Zm (ts:=[]) hT hG hmix body hf.ok (Io _) (hW ⟨_,_,_,m,H⟩) ⟨m,H⟩) ?_);rintro e a' w' ⟨⟨s,⟨he,r0,hfin,hrok,hkeep,hpure⟩,m',H'⟩,-⟩;have main:∃ u,(results fn a'.tmps).run P w'=.ok u w'/\Done (Ba w S (aG (R0 own cs) m)) w' r0 u:=by
  unfold zH at hfin;split at hfin
  case h_2=>simp at hfin
  rename_i cs' hres;obtain ⟨us',f1,f2,f3⟩:=Jh hT H' hres;refine ⟨_,AW f1,?_⟩;split at hfin
  ·rename_i rs hpl;simp only [cb] at hfin;subst hfin;exact Db hT H' f2 f3 hpl
  ·split at hfin
   ·rename_i s1 kp hprep;simp only [cb] at hfin;subst hfin;exact Et hT H' f2 f3 hprep
   ·simp at hfin
 obtain ⟨u,hrun,hd⟩:=main;obtain ⟨mr,d,g1,g2,g3⟩:=hd.ex;have post:a'.defers=[]/\∃ v,(results fn a'.tmps).run P w'=.ok v w'/\∃ u,Ending.returned v=.returned u/\∃ mr d,rel w' (fun b=>((pure=false/\(S b∨aG (R0 own cs) m b))∨w.heap.size<=b)/\¬ iK r mr b) L0 mr true d [] r u ∧
   (∀ q q' b,ak r q->ak r q'->blk (mr q)=some b->blk (mr q')=some b->q=q')/\(∀ b,iK r mr b->w.heap.size<=b∨aG (R0 own cs) m b)/\FrK w (aG (R0 own cs) m) w':=by
  refine ⟨H'.df,u,hrun,u,rfl,Ro hrok hkeep ⟨mr,d,?_,g2,g3,⟨hd.fr.os,hd.fr.tape,hd.fr.output,hd.fr.drawn,hd.fr.size,hd.fr.block⟩⟩⟩;cases hp:pure with
  | true=>exact hpure hp w' _ _ mr d [] u g1
  | false=>exact av (fun b _ hs=>⟨⟨hs.1.imp (fun h=>⟨rfl,h⟩) id,hs.2⟩,rfl⟩) d (fun _ _ _ h=>h) (fun _ _ _ _ _ _=>rfl) (fun _ _ _=>rfl) g1
 rcases he with rfl|rfl
 ·exact post
 ·exact post
theorem YH {nl:Option Bool} {es:Nat} {cap cap':Option Nat} {rows:List (List C)} (q:aq):ak (.sl true nl es cap rows) q↔ak (.sl true nl es cap' rows) q:=by
 cases q<;>rfl
def I5 {P:Program} {f:FuncId} {own:List Bool} {pure:Bool} {nl:Option Bool} {es:Nat} {rows:List (List C)} {cs:List C} {r:C}
  (h:∀ k,rows.length<=k->k<=maxLen->Con P f (true::own) pure (.sl true nl es (some k) rows::cs) r):Con P f (true::own) pure (.sl true nl es none rows::cs) r:=by
 intro w S m us hl hr hinj;obtain ⟨u,d,hu,hrel⟩:=hr 0 _ rfl;cases d with
 | zero=>exact hrel.elim
 | succ d=>
  obtain ⟨a,k,h1,h2,h3,h4,hz,h5,h6,h7⟩:=hrel;have hR:∀ n q,ak (R0 (true::own) (.sl true nl es (some k) rows::cs) n) q↔ak (R0 (true::own) (.sl true nl es none rows::cs) n) q:=by
   intro n q;cases n with
   | zero=>exact YH q
   | succ n=>exact xY
  have e1:aG (R0 (true::own) (.sl true nl es (some k) rows::cs)) m=aG (R0 (true::own) (.sl true nl es none rows::cs)) m:=by
   funext b
   apply propext;constructor
   ·rintro ⟨n,p,g1,g2⟩; exact ⟨n,p,(hR n p).1 g1,g2⟩
   ·rintro ⟨n,p,g1,g2⟩; exact ⟨n,p,(hR n p).2 g1,g2⟩
  have:=h k h2 h3 w S m us (by simpa using hl) (by
   intro i c hc;rw [e1];cases i with
   | zero=>
    simp only [cu,cb] at hc;subst hc;exact ⟨u,d+1,hu,a,k,h1,h2,h3,fun c hc=>by simpa using hc,hz,h5,h6,h7⟩
   | succ i=>exact hr (i+1) c (by simpa using hc)) (fun n p n' p' b g1 g2 g3 g4=>hinj n p n' p' b ((hR n p).1 g1) ((hR n' p').1 g2) g3 g4)
  rw [e1] at this;exact this
def M0 (A B:List (List C)):frzRows (A++B)=frzRows A++frzRows B:=by simp [frzRows]
def EC (n es:Nat):frzRows (List.replicate n (List.replicate es C.dead))=List.replicate n (List.replicate es C.dead):=by simp [frzRows,C.frz]
def bJ (A:List (List C)):Prop:=frzRows A=A/\(A.all fun r=>r.all qe)=true
def fV {α:Type} {row:α->List C} (h:aF row) (l:List α):bJ (l.map row):=⟨h.frzRows l,h.allD l⟩
theorem jK {A B:List (List C)} (h1:bJ A) (h2:bJ B):bJ (A++B):=⟨by rw [M0,h1.1,h2.1],by rw [List.all_append,h1.2,h2.2]; rfl⟩
def Py {A:List (List C)} (h:bJ A) (n:Nat):bJ (A.take n):=by
 refine ⟨by have:=h.1; unfold frzRows at this ⊢; rw [xb,this],?_⟩;have:=h.2;rw [cn] at this ⊢;exact fun r hr=>this r (nB hr)
def PS {A:List (List C)} (h:bJ A) (n:Nat):bJ (A.drop n):=by
 refine ⟨by have:=h.1; unfold frzRows at this ⊢; rw [nQ,this],?_⟩;have:=h.2;rw [cn] at this ⊢;exact fun r hr=>this r (xw hr)
theorem C5 (n es:Nat):bJ (List.replicate n (List.replicate es C.dead)):=by
 refine ⟨EC n es,?_⟩;rw [cn];intro r hr;rw [xa hr,cn];intro c hc;rw [xa hc];rfl
def fT {A B:List (List C)} {n:Nat} (h1:bJ A) (h2:bJ B):bJ (aK A n B):=
 jK (jK (Py h1 n) h2) (PS h1 _)
def zK (n:Nat) (vs:List Value) (h:∀ v∈vs,v.oneCell'=true):bJ (List.replicate n (vs.map C.val)):=by
 refine ⟨by simp [frzRows,C.frz],?_⟩;rw [cn];intro r hr;rw [xa hr,cn];intro c hc;obtain ⟨v,hv,rfl⟩:=cE.1 hc;simp [qe,dN,Abs.plainCell,C.cellOk,C.isOwn,h v hv]
def Ky {A:List (List C)} {D r:List C} {i n:Nat} (hn:A.length=n) (hi:i<=n) :
  aK (aK (A++[D]) (i+1) (((A++[D]).drop i).take (n - i))) i [r]=A.take i++[r]++A.drop i:=by
 have e1:((A++[D]).drop i).take (n - i)=A.drop i:=by
  rw [acB,show i - A.length=0 by omega,nU,xt,nj (by simp; omega),show n - i - (A.drop i).length=0 by simp; omega];simp
 rw [e1];unfold aK;have hd:(A.drop i).length=n - i:=by simp [hn]
 have e2:(A++[D]).take (i+1)=A.take i++((A++[D]).drop i).take 1:=by
  rw [List.take_add]
  congr 1
  rw [xt,show i - A.length=0 by omega];simp
 have l1:(((A++[D]).drop i).take 1).length=1:=by simp [hn]; omega
 have l0:(A.take i).length=i:=by simp [hn]; omega
 have e3:(A++[D]).drop (i+1+(A.drop i).length)=[]:=by
  apply xd;simp [hn]; omega
 rw [e3,cS,e2];have e4:(A.take i++((A++[D]).drop i).take 1++A.drop i).take i=A.take i:=by
  rw [nr,xt,l0,xh,acO,cS,nj (by omega)]
 have e5:(A.take i++((A++[D]).drop i).take 1++A.drop i).drop (i+[r].length)=A.drop i:=by
  rw [acB,show (List.take i A++List.take 1 (List.drop i (A++[D]))).length=i+1 by rw [ni,l0,l1]];rw [xd (by rw [ni,l0,l1]; simp)];simp
 rw [e4,e5]
def Ny {A Z:List (List C)} {r:List C} {i n:Nat} (hn:A.length=n) (hi:i<=n) (hz:Z.length=n+1 - i) :
  aK (aK (A.take i++Z) i [r]) (i+1) (A.drop i)=A.take i++[r]++A.drop i:=by
 have l0:(A.take i).length=i:=by simp [hn]; omega
 have e1:aK (A.take i++Z) i [r]=A.take i++[r]++Z.drop 1:=by
  unfold aK;rw [xt,l0,xh,acO,cS,nj (by omega)]
  congr 1
  rw [acB,l0,xd (by simp [l0]),cK]
  congr 1
  simp
 rw [e1];unfold aK;have l2:(A.take i++[r]).length=i+1:=by simp [l0]
 rw [xt,l2,xh,acO,cS,nj (by omega)];have l3:(A.drop i).length=n - i:=by simp [hn]
 have l4:(A.take i++[r]++Z.drop 1).length=i+1+(n - i):=by rw [ni,l2,acK,hz]; omega
 have e5:(A.take i++[r]++Z.drop 1).drop (i+1+(A.drop i).length)=[]:=xd (by rw [l4,l3]; omega);rw [e5,cS]
def sA {α:Type} {row:α->List C} (hrow:aF row) {nl:Option Bool} {es:Nat} {cap:Option Nat} {rows:List (List C)} {l:List α} (e:rows=l.map row) :
  ∃ r0,some (C.sl true nl es cap rows)=some r0/\ROk r0 (.sl true none es none (l.map row))/\(∀ q,ak r0 q->ak (.sl true none es none (l.map row)) q):=by
 subst e;exact ⟨_,rfl,ROk.own (dt.refl _) (hrow.noOwn l),PM (hrow.noOwn l)⟩
end Go.Abs
namespace Go.Abs
theorem Xy (own:List Bool) (cs:List C) (n:Nat):R0 own cs n=if own.getD n false then (cs[n]?).getD .dead else .dead:=rfl
def Con.argsO {P:Program} {f:FuncId} {own:List Bool} {pure:Bool} {cs cs':List C} {r:C} (h:Con P f own pure cs' r) (hlen:cs'.length=cs.length)
  (hle:∀ (i:Nat) (c c':C),cs[i]?=some c->cs'[i]?=some c'->if own.getD i false=true then ROk c c'/\(∀ q,ak c q->ak c' q) else Le c c'):Con P f own pure cs r:=by
 intro w S m us hl hr hinj;have both:∀ i,i < cs.length->cs[i]?=some (cs[i]?.getD .dead)/\cs'[i]?=some (cs'[i]?.getD .dead):=by
  intro i hi;have hi':i < cs'.length:=by omega
  simp [hi,hi']
 obtain ⟨m',hm'⟩:∃ m':Nat->aq->Value,m'=fun i=>if own.getD i false then zG (cs[i]?.getD .dead) (m i) [] else m i:=⟨_,rfl⟩
 have key1:∀ n q b,ak (R0 own cs' n) q->blk (m' n q)=some b->ak (R0 own cs n) q/\blk (m n q)=some b:=by
  intro n q b hq hb;rw [Xy] at hq ⊢;rw [hm'] at hb;by_cases ho:own.getD n false=true
  ·simp only [ho,if_true] at hq hb ⊢;by_cases hn:n < cs.length
   ·obtain ⟨e1,e2⟩:=both n hn;have hh:=hle n _ _ e1 e2;rw [if_pos ho] at hh;rcases hh.1.ownAt hq with h1|h1
    ·rw [Ay h1] at hb; exact ⟨h1,hb⟩
    ·simp [zG,h1,blk] at hb
   ·have:cs'[n]?=none:=by simp; omega
    rw [this] at hq;exact (aM hq).elim
  ·simp only [ho] at hq;exact (aM hq).elim
 have key2:∀ n q b,ak (R0 own cs n) q->blk (m n q)=some b->ak (R0 own cs' n) q/\blk (m' n q)=some b:=by
  intro n q b hq hb;rw [Xy] at hq ⊢;rw [hm'];by_cases ho:own.getD n false=true
  ·simp only [ho,if_true] at hq ⊢;by_cases hn:n < cs.length
   ·obtain ⟨e1,e2⟩:=both n hn;have hh:=hle n _ _ e1 e2;rw [if_pos ho] at hh;exact ⟨hh.2 q hq,by rw [Ay hq]; exact hb⟩
   ·have:cs[n]?=none:=by simp; omega
    rw [this] at hq;exact (aM hq).elim
  ·simp only [ho] at hq;exact (aM hq).elim
 have eO:aG (R0 own cs') m'=aG (R0 own cs) m:=by
  funext b
  apply propext;constructor
  ·rintro ⟨n,p,g1,g2⟩; obtain ⟨f1,f2⟩:=key1 n p b g1 g2; exact ⟨n,p,f1,f2⟩
  ·rintro ⟨n,p,g1,g2⟩; obtain ⟨f1,f2⟩:=key2 n p b g1 g2; exact ⟨n,p,f1,f2⟩
 have:=h w S m' us (by rw [hl,hlen]) (by
  intro i c' hc;have hlt:i < cs.length:=by rw [<-hlen]; exact (cd.1 hc).1
  obtain ⟨e1,e2⟩:=both i hlt;obtain ⟨u,d,h1,h2⟩:=hr i _ e1;have hh:=hle i _ c' e1 hc;rw [eO];by_cases ho:own.getD i false=true
  ·rw [if_pos ho] at hh;rw [ho] at h2 ⊢;refine ⟨u,d+1,h1,Ng (m:=m i) (m':=m' i) (p:=[]) (p':=[]) (fun b hb=>hb) hh.1 d (fun q hq=>?_) (fun q b hq hnq _=>(hnq (hh.2 q hq)).elim) h2⟩;rw [hm'];simp only [ho,if_true,cK]
  ·rw [if_neg ho] at hh;have ho':own.getD i false=false:=by simpa using ho
   rw [ho'] at h2 ⊢;exact ⟨u,d,h1,hh w _ (m i) (m' i) [] [] d u h2⟩) (fun n p n' p' b g1 g2 g3 g4=>hinj n p n' p' b (key1 n p b g1 g3).1 (key1 n' p' b g2 g4).1 (key1 n p b g1 g3).2 (key1 n' p' b g2 g4).2)
 rw [eO] at this;exact this
def vH {α:Type} (es:Nat) (d:List C->Option α):C->Option (List α)
 | .sl true _ es' _ rows=>if es'=es/\(rows.all fun r=>r.all Abs.plainCell)=true then bT d rows else none
 | .val (.slice none 0 0)=>some []
 | _=>none
theorem Yn {α:Type} (es:Nat) (d:List C->Option α) (nl:Option Bool) (cap:Option Nat) (rows:List (List C)):vH es d (.sl true nl es cap rows)=if (rows.all fun r=>r.all Abs.plainCell)=true then bT d rows else none:=by
 simp only [vH,true_and]
theorem Xd {α:Type} (es:Nat) (d:List C->Option α):vH es d (.val (.slice none 0 0))=some []:=rfl
def pX {α:Type} {es:Nat} {d:List C->Option α} {row:α->List C} (hrow:aF row) (hd:∀ r x,d r=some x->LeL r (row x)) {c:C} {l:List α} (h:vH es d c=some l) :
  ROk c (.sl true none es none (l.map row))/\(∀ q,ak c q->ak (.sl true none es none (l.map row)) q):=by
 unfold vH at h;split at h
 ·rename_i nl es' cap rows;split at h
  ·rename_i hc;obtain ⟨rfl,hc⟩:=hc;refine ⟨ROk.own (GU hd h) (hrow.noOwn l),PM ?_⟩;intro r hr c hcm;rw [cn] at hc;exact zZ (cn.1 (hc r hr) c hcm)
  ·simp at h
 ·simp only [cb] at h;subst h;refine ⟨ROk.nil es,?_⟩;intro q hq;cases q<;>simp [ak,C.at,C.kid,C.isOwn] at hq
 ·simp at h
def mZ {own:List Bool}:∀ (i:Nat) (c c':C),([]:List C)[i]?=some c->([]:List C)[i]?=some c'->if own.getD i false=true then ROk c c'/\(∀ q,ak c q->ak c' q) else Le c c':=by simp
def jP {own:List Bool} {c0 c0':C} {cs cs':List C} (h:ROk c0 c0'/\(∀ q,ak c0 q->ak c0' q))
  (t:∀ (i:Nat) (c c':C),cs[i]?=some c->cs'[i]?=some c'->if own.getD i false=true then ROk c c'/\(∀ q,ak c q->ak c' q) else Le c c') :
  ∀ (i:Nat) (c c':C),(c0::cs)[i]?=some c->(c0'::cs')[i]?=some c'->if (true::own).getD i false=true then ROk c c'/\(∀ q,ak c q->ak c' q) else Le c c':=by
 intro i c c' h1 h2;cases i with
 | zero=>simp only [cu,cb] at h1 h2; subst h1; subst h2; simpa using h
 | succ i=>simpa using t i c c' (by simpa using h1) (by simpa using h2)
def qX {own:List Bool} {c0 c0':C} {cs cs':List C} (h:Le c0 c0')
  (t:∀ (i:Nat) (c c':C),cs[i]?=some c->cs'[i]?=some c'->if own.getD i false=true then ROk c c'/\(∀ q,ak c q->ak c' q) else Le c c') :
  ∀ (i:Nat) (c c':C),(c0::cs)[i]?=some c->(c0'::cs')[i]?=some c'->if (false::own).getD i false=true then ROk c c'/\(∀ q,ak c q->ak c' q) else Le c c':=by
 intro i c c' h1 h2;cases i with
 | zero=>simp only [cu,cb] at h1 h2; subst h1; subst h2; simpa using h
 | succ i=>simpa using t i c c' (by simpa using h1) (by simpa using h2)
theorem YE (k:Nat) (R:Nat->C) (n:Nat) (c:C):clr k (upd R n c)=if H0<=n/\n < H0+k then clr k R else upd (clr k R) n c:=by
 funext x
 split
 ·rename_i h;simp only [clr,upd];split
  ·rfl
  ·split
   ·rename_i h1 h2; subst h2; exact (h1 h).elim
   ·rfl
 ·rename_i h;simp only [clr,upd];by_cases hx:x=n
  ·subst hx; simp [h]
  ·simp [hx]
theorem Y1 (k:Nat):clr k RZ=RZ:=by funext x; simp [clr,RZ]
def Ia {α β:Type} (bytes:Nat) (l:List α) (i:Int) (v:List α) (k:List α->Option β):Option β:=
 if 0<=i/\i<=l.length/\v.length=1/\(l.length+1) * (bytes+1)<=140737488355328 then k (l.take i.toNat++v++l.drop i.toNat) else none
def Bv {α β:Type} {bytes:Nat} {l:List α} {i:Int} {v:List α} {k:List α->Option β} {r:β} (h:Ia bytes l i v k=some r) :
  ∃ (n:Nat) (x:α),i=(n:Int)/\v=[x]/\n<=l.length/\(l.length+1) * (bytes+1)<=140737488355328/\k (l.take n++[x]++l.drop n)=some r:=by
 unfold Ia at h;split at h
 ·rename_i hc;obtain ⟨h1,h2,h3,h4⟩:=hc
  match v,h3 with
  | [x],_=>exact ⟨i.toNat,x,by omega,rfl,by omega,h4,h⟩
 ·simp at h
def S6 {α β:Type} (l:List α) (i j:Int) (k:List α->Option β):Option β:=
 if 0<=i/\i<=j/\j<=l.length then k (l.take i.toNat++l.drop j.toNat) else none
def Vu {α β:Type} {l:List α} {i j:Int} {k:List α->Option β} {r:β} (h:S6 l i j k=some r) :
  ∃ (n m:Nat),i=(n:Int)/\j=(m:Int)/\n<=m/\m<=l.length/\k (l.take n++l.drop m)=some r:=by
 unfold S6 at h;split at h
 ·rename_i hc;obtain ⟨h1,h2,h3⟩:=hc;exact ⟨i.toNat,j.toNat,by omega,by omega,by omega,by omega,h⟩
 ·simp at h
def V1 {L:List (List C)} {i j:Nat} (Z:List (List C)) (hij:i<=j) (hj:j<=L.length) :
  (aK (aK L i (L.drop j)) (i+(L.length - j)) Z).take (i+(L.length - j))=L.take i++L.drop j:=by
 have l0:(L.take i).length=i:=by simp; omega
 have l1:(L.take i++L.drop j).length=i+(L.length - j):=by simp; omega
 have e1:(aK L i (L.drop j)).take (i+(L.length - j))=L.take i++L.drop j:=by
  unfold aK;rw [xt,l1,xh,acO,cS,nj (by omega)]
 have l2:((aK L i (L.drop j)).take (i+(L.length - j))).length=i+(L.length - j):=by rw [e1,l1]
 unfold aK at *;rw [nr,xt,l2,xh,acO,cS,nj (by omega),e1]
def J6 (a:Nat):(∀ c:Nat,c∈(none:Option Nat)->a<=c)=True:=by simp
def RN (a b:Nat):(∀ c:Nat,c∈(some b:Option Nat)->a<=c)=(a<=b):=by simp
theorem UO {α β:Type} (l:List α) (f:α->β) (x:β):List.take (l.length+1) (l.map f++[x])=l.map f++[x]:=nj (by simp)
end Go.Abs
namespace Go.Abs
def Sb {n:Nat} {f:Nat->C} {R:Nat->C} (t s d:Nat) {nl:Option Bool} {es:Nat} {cap:Option Nat} {rows:List (List C)} {len:Nat} (htn:t < n) (hne:d≠s) (hd:R d=.dead) (hs:R s=.sl true nl es cap rows)
  (ht:f t=.pal s [] 0 len none) (hlen:len=rows.length) :
  aX ⟨tab n f,R⟩ ⟨tab n (af (uF (fun k _=>k == s) f) t (.pal d [] 0 len none)),upd (upd R s .dead) d (.sl true none es none rows)⟩:=by
 rintro X a w ⟨m,H⟩;obtain ⟨u,dd,h1,h2⟩:=H.tmp t (f t) (by simp only [gm,htn,if_true]);rw [ht] at h2;have hv:Lv R m (.pal s [] 0 len none) u:=en ⟨dd,h2⟩;obtain ⟨M1,M2,M3⟩:=H.move (h:=d) (n:=s) (p:=[]) hd hne (by rw [C.at]; exact congrArg some hs) hv;have e1:(St.move ⟨tab n f,R⟩ s [] 0 len none d es rows)=⟨tab n (uF (fun k _=>k == s) f),upd (upd R s .dead) d (.sl true none es none rows)⟩:=by
  have e0:(fun (n':Nat) (p':aq)=>n' == s && kE [] p')=(fun (k:Nat) (_:aq)=>k == s):=by funext x y; simp [kE]
  have e2:(R s).turn (fun _=>C.dead) []=C.dead:=by rw [hs]; rfl
  simp only [St.move,CK,hlen,nU,xz,e0,e2]
 rw [e1] at M1 M2;refine ⟨_,⟨by rw [H.len]; simp [mO],?_,M1.root,M1.inj,M1.own,M1.fr,M1.df⟩⟩;intro t' c hc;rw [gm] at hc;split at hc
 case isFalse=>simp at hc
 rename_i hlt;simp only [cb] at hc;by_cases e:t'=t
 ·subst e;simp only [af,if_true] at hc;subst hc;refine ⟨u,1,h1,?_⟩;obtain ⟨nl',es',cap',rows',ad,k,a',k',g1,g2,g3,g4,g5,g6,g7,g8,g9⟩:=hv;simp only [C.at,cb,hs,C.sl.injEq,true_and] at g1;obtain ⟨rfl,rfl,rfl,rfl⟩:=g1;simp only [rel,Lv];refine ⟨none,es,none,rows,a',k',a',k',by simp [aC,C.at],?_,by omega,g4,g5,by omega,by simp,by simp,?_⟩
  ·simp only [il,if_true]; rw [g4,hlen]
  ·rcases g9 with g9|⟨b,off,rfl,rfl⟩
   ·exact .inl g9
   ·exact .inr ⟨_,_,rfl,by simp⟩
 ·simp only [af,e,if_false] at hc;exact M1.tmp t' c (by simp only [gm,hlt,if_true,hc])
theorem Yo (g:Nat->aq->Bool) (cs:List C):poi g (.agg cs)=if cs.any (C.ment g 2)=true then .dead else .agg cs:=rfl
theorem XL (g:Nat->aq->Bool) (cs:List C):poi g (.tup cs)=if cs.any (C.ment g 2)=true then .dead else .tup cs:=rfl
end Go.Abs
namespace Go.Abs
open Go.ChangeShapes Go.WideShapes Go.ChangeAt Go.RowKit
def oO (w:World) (cs:List Value) (r:List C):Prop:=r.length=cs.length/\∃ d,∀ (j:Nat) (c:C),r[j]?=some c->∃ u,cs[j]?=some u/\rel w (fun _=>True) L0 dm false d [] c u
def Sz (P:Program) {H:Type} (t:TypeId) (d:DataW H):Prop:=∀ n∈d.weights P t,n<=140737488351232
def Vg {P:Program} {H:Type} {e:TypeId}:∀ {ds:List (DataW H)} {i:Nat} {d:DataW H},ds[i]?=some d->∀ n∈d.weights P e,n∈DataW.weightsAll P e ds
 | d0::ds,0,d,h,n,hn=>by
  simp only [cu,cb] at h;subst h;simp only [DataW.weightsAll,cH];exact .inl hn
 | d0::ds,i+1,d,h,n,hn=>by
  simp only [nn] at h;simp only [DataW.weightsAll,cH];exact .inr (Vg h n hn)
def Gl {P:Program} {H:Type} {t t':TypeId} {fs:Array Field} {ds:List (DataW H)} (ht:P.underlying t=some (.struct fs)) (h:Sz P t (.agg ds)) {i:Nat} {d:DataW H} (hi:(fs.toList.map (·.type))[i]?=some t') (hd:ds[i]?=some d):Sz P t' d:=by
 intro n hn;refine h n ?_;simp only [DataW.weights,ht];exact DataW.weights_mem_each hi hd n hn
def Zf {P:Program} {H:Type} {ts:List TypeId} {ds:List (DataW H)} (h:(DataW.weightsEach P ts ds).all (·<=reachBytes)=true) {j:Nat} {t:TypeId} {d:DataW H} (ht:ts[j]?=some t) (hd:ds[j]?=some d):Sz P t d:=by
 intro n hn;have:=cn.1 h _ (DataW.weights_mem_each ht hd n hn);exact of_decide_eq_true this
def L9 (P:Program) (t:TypeId) {α:Type} (row:α->List C) (wf:α->Prop):Prop:=
 ∀ (H:Type) (enc:TypeId × Value->H) (w:World) (base:Nat) (spare:Nat->Bool) (held:Bool) (fuel:Nat) (cs:List Value) (x:DataW H × List MemPlace),
  DataW.trod enc P w base spare held fuel t cs=some x->Sz P t x.1->∃ y:α,wf y/\oO w cs (row y)
def FR {w:World} {c:C} {u:Value} {d:Nat} (h:rel w (fun _=>True) L0 dm false d [] c u):oO w [u] [c]:=by
 refine ⟨rfl,d,?_⟩;intro j c' hj;cases j with
 | zero=>simp only [cu,cb] at hj; subst hj; exact ⟨u,rfl,h⟩
 | succ j=>simp at hj
def Tp {w:World}:oO w [] []:=⟨rfl,0,by simp⟩
def OI {w:World} {cs cs':List Value} {r r':List C} (h:oO w cs r) (h':oO w cs' r'):oO w (cs++cs') (r++r'):=by
 obtain ⟨hl,d,h⟩:=h;obtain ⟨hl',d',h'⟩:=h';refine ⟨by simp [hl,hl'],max d d',?_⟩;intro j c hj;by_cases hlt:j < r.length
 ·rw [cJ hlt] at hj;obtain ⟨u,e1,e2⟩:=h j c hj;exact ⟨u,by rw [cJ (by omega)]; exact e1,aS _ _ (by omega) e2⟩
 ·rw [cL (by omega)] at hj;obtain ⟨u,e1,e2⟩:=h' _ c hj;exact ⟨u,by rw [cL (by omega),<-hl]; exact e1,aS _ _ (by omega) e2⟩
theorem D6 {P:Program} {t:TypeId} {k:IntKind} (ht:P.underlying t=some (.int k)):L9 P t (aB k) (fun n=>(Lit.int k n).wf=true):=by
 intro H enc w base spare held fuel cs x h _;obtain ⟨n,rfl,_,hw⟩:=DataW.trod_int ht h;exact ⟨n,hw,FR (d:=1) rfl⟩
def XK {P:Program} {e:TypeId} {α:Type} {row:α->List C} {wf:α->Prop} (he:L9 P e row wf) {H:Type} {enc:TypeId × Value->H} {w:World} {base:Nat} {spare:Nat->Bool} {held:Bool} {fuel:Nat} {css:Nat->List Value} :
  ∀ (n:Nat),(∀ i,i < n->∃ x,DataW.trod enc P w base spare held fuel e (css i)=some x/\Sz P e x.1)->∃ l:List α,l.length=n/\(∀ y∈l,wf y)/\∃ d,∀ (i:Nat) (y:α),l[i]?=some y ->
   (row y).length=(css i).length/\∀ (j:Nat) (c:C),(row y)[j]?=some c->∃ u,(css i)[j]?=some u/\rel w (fun _=>True) L0 dm false d [] c u:=by
 intro n
 induction n with
 | zero=>intro _; exact ⟨[],rfl,by simp,0,by simp⟩
 | succ n ih=>
  intro h;obtain ⟨l,e1,e2,d,e3⟩:=ih (fun i hi=>h i (by omega));obtain ⟨x,hx,hz⟩:=h n (by omega);obtain ⟨y,hy,hl,d',hr⟩:=he H enc w base spare held fuel _ x hx hz;refine ⟨l++[y],by simp [e1],?_,max d d',?_⟩
  ·intro z hz;rcases cH.1 hz with hz|hz
   ·exact e2 z hz
   ·rw [cO.1 hz]; exact hy
  ·intro i z hz;by_cases hlt:i < l.length
   ·rw [cJ hlt] at hz;obtain ⟨f1,f2⟩:=e3 i z hz;exact ⟨f1,fun j c hj=>let ⟨u,g1,g2⟩:=f2 j c hj; ⟨u,g1,aS _ _ (by omega) g2⟩⟩
   ·rw [cL (by omega)] at hz;have:i=n:=by
     have:=(cd.1 hz).1;simp at this;omega
    subst this;rw [e1] at hz;simp only [xh,cu,cb] at hz;subst hz;exact ⟨hl,fun j c hj=>let ⟨u,g1,g2⟩:=hr j c hj; ⟨u,g1,aS _ _ (by omega) g2⟩⟩
theorem QB (a:Addr) (n:Nat):(a.add n).off=a.off+n:=by
 unfold Addr.add;split
 ·rename_i h; rw [h]; rfl
 ·rfl
def Sm {P:Program} {t e:TypeId} {α:Type} {row:α->List C} {wf:α->Prop} {es:Nat} (ht:P.underlying t=some (.slice e)) (hes:P.cellsOf e=es) (hpos:0 < es) {b:Nat} (hby:P.bytesOf e=b) (he:L9 P e row wf) :
  L9 P t (Zo es row) (fun l=>l.length * b<=140737488351232/\∀ x∈l,wf x):=by
 intro H enc w base spare held fuel cs x h hz;rcases DataW.trod_slice ht h with ⟨rfl,_⟩|⟨a,len,cap,elems,rest,n,_,rfl,rfl,hb,hl,hc,hlen,hel,_,_⟩
 ·refine ⟨[],⟨by simp,by simp⟩,FR (d:=1) ?_⟩;exact ⟨none,0,rfl,cr _,cT _,by simp,⟨by simp,by simp⟩,by simp,by simp,.inl rfl⟩
 ·rw [hes] at hel;simp only [Sz,DataW.weights,ht,hby] at hz;have hcells:∀ i,i < len->∃ c x,w.cells? base (a.add (i * es)) es=some c/\DataW.trod enc P w base spare held n e c=some x/\Sz P e x.1:=by
   intro i hi;have h1:=hel i hi;have h2:elems[i]?=some elems[i]:=by simp [hlen,hi]
   rw [h2,ck] at h1;obtain ⟨c,f1,f2⟩:=h1;refine ⟨c,_,f1,f2,fun m hm=>hz m ?_⟩;have:=Vg (P:=P) (e:=e) (ds:=elems.map (·.1)) (i:=i) (d:=elems[i].1) (by rw [cv,h2]; rfl) m hm;simp only [cF,cH];exact .inr (.inl this)
  obtain ⟨css,hcss⟩:∃ css:Nat->List Value,css=fun i=>(w.cells? base (a.add (i * es)) es).getD []:=⟨_,rfl⟩;have hcs:∀ i,i < len->w.cells? base (a.add (i * es)) es=some (css i):=by
   intro i hi;obtain ⟨c,x,f1,f2,_⟩:=hcells i hi;simp [hcss,f1]
  obtain ⟨l,e1,e2,d,e3⟩:=XK he (css:=css) (H:=H) (enc:=enc) (w:=w) (base:=base) (spare:=spare) (held:=held) (fuel:=n) len (fun i hi=>by
   obtain ⟨c,x,f1,f2⟩:=hcells i hi;rw [hcs i hi] at f1;obtain rfl:=ng f1;exact ⟨x,f2⟩)
  refine ⟨l,⟨?_,e2⟩,FR (d:=d+1) ?_⟩
  ·have h0:=hz _ (List.mem_cons_self);have h1:l.length * b<=((elems.map (·.1)).length+(rest.map (·.1)).length) * b:=nv _ (by simp only [cy,e1,hlen]; omega);exact nu h1 h0
  refine ⟨some a,cap,by simp [e1],by simp [e1]; omega,hc,by simp,⟨by simp,by simp⟩,?_,by simp,?_⟩
  ·intro r hr;obtain ⟨y,hy,rfl⟩:=cE.1 hr;obtain ⟨i,hi⟩:=cC hy;have hlt:=(cd.1 hi).1;obtain ⟨f1,_⟩:=e3 i y hi;rw [f1];have:=hcs i (by omega);exact (World.cells?_some this).2.1
  ·by_cases h0:len=0
   ·refine .inr (.inl ⟨by simp,?_⟩);have:l=[]:=cQ (by omega);rw [this]; rfl
   ·have hcell:∀ i j,i < len->j < es->w.cell? ((a.add (i * es)).add j)=(css i)[j]?:=by
     intro i j hi hj;obtain ⟨g1,g2,g3⟩:=World.cells?_some (hcs i hi);exact g3 j hj
    have h00:=hcell 0 0 (by omega) hpos;have hsome:((css 0)[0]?).isSome=true:=by
     have:=(World.cells?_some (hcs 0 (by omega))).2.1;simp [this,hpos]
    rw [<-h00] at hsome;simp only [acI,Addr.add,if_true] at hsome;unfold World.cell? at hsome;split at hsome
    case h_2=>simp at hsome
    rename_i arr elem frz hheap;split at hsome
    case isTrue=>simp at hsome
    rename_i hspot;refine .inr (.inr ⟨a.block,a.off,arr,elem,frz,?_,hheap,fun _=>trivial,by simp,?_⟩)
    ·obtain ⟨ab,ao,asp⟩:=a;simp only [cb,Addr.mk.injEq,true_and];simpa using hspot
    ·intro i j r c' h1 h2;simp only [cv,cj] at h1;obtain ⟨y,hy,rfl⟩:=h1;have hlt:=(cd.1 hy).1;obtain ⟨f1,f2⟩:=e3 i y hy;obtain ⟨u,g1,g2⟩:=f2 j c' h2;refine ⟨u,?_,db g2⟩;have hj:j < es:=by
      have:=(cd.1 g1).1;rw [(World.cells?_some (hcs i (by omega))).2.1] at this;exact this
     have:=hcell i j (by omega) hj;rw [g1] at this;unfold World.cell? at this;have hblk:((a.add (i * es)).add j).block=a.block:=by unfold Addr.add; split<;>split<;>rfl
     rw [hblk,hheap] at this;simp only at this;split at this
     ·simp at this
     ·have hoff:((a.add (i * es)).add j).off=a.off+i * es+j:=by rw [QB,QB]
      rw [hoff] at this;exact this
end Go.Abs
namespace Go.Abs
open Go.ChangeShapes Go.WideShapes Go.ChangeAt Go.RowKit
def FrK.below {W W':World} (h:FrK W (fun _=>False) W'):Below W.heap.size W W':=⟨h.os,h.tape,h.output,h.size,fun b hb=>h.block b hb id⟩
def QR {P:Program} {f:FuncId} {fn:Func} {body:Code} {pure:Bool} {cs:List C} {us:List Value} {W:World} (hf:DJ P f fn body) (hcon:Con P f [] pure cs (.val (.bool true))) (hlen:us.length=cs.length)
  (hrel:∀ (i:Nat) (c:C),cs[i]?=some c->∃ u d,us[i]?=some u/\rel W (fun _=>True) L0 dm false d [] c u) :
  Calls P f us.toArray W fun e W'=>e=.returned (.bool true)/\FrK W (fun _=>False) W':=by
 have e1:aG (R0 [] cs) (fun _=>dm)=fun _=>False:=funext fun b=>propext ⟨fun h=>kU h,fun h=>h.elim⟩;have hd:=hcon W (fun _=>True) (fun _=>dm) us hlen (by
  intro i c hc;obtain ⟨u,d,h1,h2⟩:=hrel i c hc;refine ⟨u,d,h1,?_⟩;rw [e1];simp only [acL];exact av (fun b _ _=>⟨⟨trivial,id⟩,rfl⟩) d (fun _ _ _ h=>h) (fun h=>by simp at h) (fun h=>by simp at h) h2) (by
  intro n p n' p' b h1;rw [Jc] at h1;exact (aM h1).elim)
 have hname':¬ fn.name = "runtime.NumGoroutine" := by simpa using hf.name
 have henter:(callFunc f us.toArray).run P W=.ok (.enter f us.toArray) W:=by simp [callFunc,hf.get,hname',hf.bd]
 rcases hd with ⟨_,h⟩|⟨u,w',h,_⟩
 ·refine h.mono ?_;rintro e W' ⟨u,rfl,mr,d,h1,_,_,h4⟩;rw [e1] at h4;refine ⟨?_,h4⟩;cases d with
  | zero=>exact h1.elim
  | succ d=>
   have:u=.bool true:=h1;rw [this]
 ·rw [henter] at h;cases h
theorem G5 {H:Type} {enc:TypeId × Value->H} {P:Program} (hl:laidOutB P=true) {W W':World} (hb:Below W.heap.size W W'):∀ {ts:List TypeId} {vs:List Value} {ds:List (DataW H)} {ps:List MemPlace},
  (∀ t∈ts,P.readableRec t=true/\t < P.types.size)->DataW.TrodAll enc P W 0 (fun _=>true) true ts vs ds ps->(∀ x∈ps,x.block < W.heap.size)->DataW.TrodAll enc P W' 0 (fun b=>decide (b < W.heap.size)) true ts vs ds ps
 | [],[],[],_,_,h,_=>h
 | t::ts,v::vs,d::ds,ps,ht,h,hlt=>by
  obtain ⟨p,q,h1,h2,rfl⟩:=h;exact ⟨p,q,Below.trod hl (ht t (by simp)).1 (ht t (by simp)).2 h1 hb (fun x hx=>hlt x (by simp [hx])),G5 hl hb (fun t' h'=>ht t' (by simp [h'])) h2 (fun x hx=>hlt x (by simp [hx])),rfl⟩
theorem FrK.kept {W W':World} (h:FrK W (fun _=>False) W') (may:MemPlace->Prop):W.keptBut W' may:=by
 refine ⟨h.os,h.output,fun i hi=>?_⟩;rw [h.block i hi id];split
 ·rename_i c t fr c' t' fr' e1 e2;rw [e1] at e2;cases e2;exact ⟨rfl,rfl,rfl,fun _ _=>rfl⟩
 ·rename_i es cl es' cl' e1 e2;rw [e1] at e2;cases e2;exact .inr ⟨rfl,rfl⟩
 ·rfl
theorem WW {H:Type} {enc:TypeId × Value->H} {P:Program} {f:Func} {s:ChangeSpec} {W W':World} {args:Array Value} {ds gs:List (DataW H)} {before:List MemPlace} {tb:TypeId}
  (hl:laidOutB P=true) (hts:∀ t∈f.params.toList,P.readableRec t=true/\t < P.types.size) (hrt:f.resultTypes=#[tb]) (htb:P.underlying tb=some .bool)
  (hv:s.vars=[]) (hs:s.fn H (ds++gs)={ results:=[.lit (.bool true)],args:=ds++gs })
  (hW:DataW.Whole enc P f.params.toList s.vars false W args.toList ds gs before) (hfr:FrK W (fun _=>False) W'):s.post enc P f false true false false W args (.bool true) W':=by
 have hlt:=hW.lt;have hW':=hW;obtain ⟨p,q,hA,hV,rfl,_,_⟩:=hW;rw [hv] at hV;obtain ⟨rfl,rfl⟩:=trodVars_none hV;simp only [cS] at hs hlt hW';have hgs:(([]:List (DataW H))=[]):=rfl;refine ⟨ds,[],p,[],p,[],hW',?_,?_,?_,hfr.kept _,by simp⟩
 ·rw [cS,hs,hrt];exact trodAll_cons_mk (shut_bool htb _) trodAll_mk0
 ·rw [cS,hs];exact G5 hl hfr.below hts hA hlt
 ·rw [cS,hs,hv];rfl
def CB {w:World} {cs:List Value} {o s:Nat} {r rs:List C} (h:oO w ((cs.drop o).take s) r) (h':oO w (cs.drop (o+s)) rs):oO w (cs.drop o) (r++rs):=by
 have:=OI h h'
 rwa [<-acA,xD] at this
def Ud {w:World} {cs:List Value} {o:Nat} (h:cs.length<=o):oO w (cs.drop o) []:=by
 rw [xd h]; exact Tp
def Yf {w:World} {v:Value} {c:C} (hc:v.cells=#[v]) (h:oO w v.cells.toList [c]):∃ d,rel w (fun _=>True) L0 dm false d [] c v:=by
 obtain ⟨_,d,h⟩:=h;obtain ⟨u,h1,h2⟩:=h 0 c rfl;rw [hc] at h1;simp only [cu,cb] at h1;subst h1;exact ⟨d,h2⟩
def Wi {w:World} {us:List Value}:∀ (i:Nat) (c:C),([]:List C)[i]?=some c->∃ u d,us[i]?=some u/\rel w (fun _=>True) L0 dm false d [] c u:=by simp
def VM {w:World} {c0:C} {u0:Value} {cs:List C} {us:List Value} (h:∃ d,rel w (fun _=>True) L0 dm false d [] c0 u0) (t:∀ (i:Nat) (c:C),cs[i]?=some c->∃ u d,us[i]?=some u/\rel w (fun _=>True) L0 dm false d [] c u) :
  ∀ (i:Nat) (c:C),(c0::cs)[i]?=some c->∃ u d,(u0::us)[i]?=some u/\rel w (fun _=>True) L0 dm false d [] c u:=by
 intro i c hc;cases i with
 | zero=>
  simp only [cu,cb] at hc;subst hc;obtain ⟨d,h⟩:=h;exact ⟨u0,d,rfl,h⟩
 | succ i=>exact t i c (by simpa using hc)
end Go.Abs
namespace Go.Abs
attribute [go_sem] St.move VB XI Wx CK YJ gm XT YF WV
attribute [go_sem] Zn V2 W6 YI yx zm H0 List.getElem?_toArray Option.bind_some Option.bind_none List.map_cons List.map_nil
attribute [go_sem] kY uH Lg IC Lz LD unC Jd GA dB HZ jT
attribute [go_sem] E7 qQ LV qg Cl TS La Il vF sx BF IM
attribute [go_sem] qM Ef jQ sP rh oK ND mi St.fresh Ij K3 jN im sL
attribute [go_sem] C.oneC dN St.node C.at C.kid Bool.false_eq_true List.length_map List.getElem?_cons_zero List.getElem?_cons_succ List.drop_zero List.drop_succ_cons List.drop_nil
attribute [go_sem] List.take_succ_cons List.take_zero List.take_nil List.length_cons List.length_nil List.all_cons List.all_nil List.any_cons List.any_nil C.cellOk Value.oneCell' Bool.and_self
attribute [go_sem] Bool.and_true Bool.true_and Bool.or_false Bool.false_or j7 MC decide_true decide_false Bool.not_true Bool.not_false Bool.not_not false_implies
attribute [go_sem] true_implies true_and and_true and_self C.turn List.modify_cons List.getElem?_map Option.map_some Option.map_none if_true if_false C.frz
attribute [go_sem] List.nil_append List.cons_append List.append_nil List.set_cons_zero List.set_cons_succ Int.ofNat_lt Int.natCast_nonneg Int.toNat_natCast Option.getD_some Option.getD_none Nat.zero_add Nat.add_zero
attribute [go_sem] DL y4 D7 wV F0 St.drop List.contains_cons List.contains_nil List.elem_cons List.elem_nil
attribute [go_sem] Q3 vO yU qR vR adopt grown jA G3 tM EB lS AY
attribute [go_sem] Ee BT jW Dk oe kW List.replicate Option.isNone_some Option.isSome_some ne_eq not_true_eq_false not_false_eq_true
attribute [go_sem] Nat.succ_ne_self List.map_append List.length_append AN U5 US List.take_length List.isEmpty_cons iz iI iA mn
attribute [go_sem] WK Rs IE dJ undef Vy Array.size_empty List.size_toArray kE beq_self_eq_true Bool.and_false
attribute [go_sem] Bool.false_and Nat.lt_irrefl false_and and_false true_or or_true false_or or_false or_self Go.Abs.plainCell C.isOwn Ru
attribute [go_sem] Rm W9 W7 fB Ds gi O5 zl yy oJ SE.apply Ps Q5 Int.toNat_zero
attribute [go_sem] WR WH vC bo List.flatMap_cons List.flatMap_nil jE vV gZ j3 List.mapIdx_cons
attribute [go_sem] List.mapIdx_nil
attribute [go_sem] Jg jw gL C.ment XL Yo bo List.flatMap_cons List.flatMap_nil jE vV gZ j3 List.mapIdx_cons List.mapIdx_nil List.singleton_append Nat.succ_eq_add_one YE Y1 Bb Yn Xd
attribute [go_sem] P3
attribute [go_sem] mkX Pb
attribute [go_sem] gu D5 tf Ext.all
attribute [go_sem] Ly mh St.plug Bool.or_true Bool.true_or Nat.le_refl UO
attribute [go_sem] KW GP FA Tz
end Go.Abs
namespace Go.Abs
attribute [go_sem] List.length_set
section
variable {E:Env} {Q:Exit->St->Prop} {st:St} {K:List Fm}
instance {e:Exit}:Pop (ap E Q [] e st) (Q e st):=⟨WU⟩
instance {J:St->Prop}:Pop (ap E Q (.lp J::K) .normal st) (J st):=⟨Yr⟩
class HW (A:Prop) (B:outParam Prop):Prop where
 h:B->A
instance (priority:=low) (A:Prop):HW A A:=⟨id⟩
instance {A B D:Prop} [p:Pop A B] [q:HW B D]:HW A D:=⟨fun h=>p.pop (q.h h)⟩
theorem pp {A B:Prop} [p:HW A B] (h:B):A:=p.h h
end
class qn (c:C):Prop where
 h:bB c
class Bo (l:List C):Prop where
 h:∀ c∈l,bB c
instance (v:Value):qn (.val v):=⟨bB.val v⟩
instance (l:List C) [Bo l]:qn (.tup l):=⟨bB.tup Bo.h⟩
instance (l:List C) [Bo l]:qn (.agg l):=⟨bB.agg Bo.h⟩
instance:Bo []:=⟨vq⟩
instance (c:C) (l:List C) [qn c] [Bo l]:Bo (c::l):=⟨iX qn.h Bo.h⟩
class Fl {α:Type} (row:α->List C):Prop where
 h:∀ x,∀ c∈row x,bB c
instance (k:IntKind):Fl (aB k):=⟨UU k⟩
instance:Fl dS:=⟨Vh⟩
class UH (l:List (List C)):Prop where
 h:∀ row∈l,∀ c∈row,bB c
instance {α:Type} (row:α->List C) (l:List α) [h:Fl row]:UH (l.map row):=⟨UK h.h l⟩
instance (nl:Option Bool) (es:Nat) (cap:Option Nat) (rows:List (List C)) [h:UH rows]:qn (.sl true nl es cap rows):=⟨bB.sl h.h⟩
class yJ {α:Type} (row:α->List C):Prop where
 ok:aF row
class NoI (c:C):Prop where
 h:bU c
class KP (l:List C):Prop where
 h:∀ c∈l,bU c
class zt (l:List (List C)):Prop where
 h:∀ row∈l,∀ c∈row,bU c
instance (v:Value):NoI (.val v):=⟨bU.val v⟩
instance (nl:Option Bool) (es:Nat) (cap:Option Nat) (rows:List (List C)):NoI (.sl false nl es cap rows):=⟨bU.sl nl es cap rows⟩
instance:KP []:=⟨DY⟩
instance (c:C) (l:List C) [NoI c] [KP l]:KP (c::l):=⟨CD NoI.h KP.h⟩
instance:zt []:=⟨by simp⟩
instance (r:List C) (l:List (List C)) [KP r] [zt l]:zt (r::l):=⟨fun row hr=>by
 rcases cF.1 hr with rfl|hr
 ·exact KP.h
 ·exact zt.h row hr⟩
instance (a b:List (List C)) [zt a] [zt b]:zt (a++b):=⟨fun row hr=>by
 rcases cH.1 hr with hr|hr
 ·exact zt.h row hr
 ·exact zt.h row hr⟩
instance {α:Type} (row:α->List C) (l:List α) [h:yJ row]:zt (l.map row):=⟨h.ok.noOwn l⟩
class LeI (a b:C):Prop where
 h:Le a b
class iU (a b:List C):Prop where
 h:LeL a b
class wI (a b:List (List C)):Prop where
 h:dt a b
instance (priority:=high) (a:C):LeI a a:=⟨Le.refl a⟩
instance:iU [] []:=⟨LeL.nil⟩
instance (a b:C) (as bs:List C) [LeI a b] [iU as bs]:iU (a::as) (b::bs):=⟨LeL.cons LeI.h iU.h⟩
instance (priority:=high) (a:List (List C)):wI a a:=⟨dt.refl a⟩
instance (a b:List C) (as bs:List (List C)) [iU a b] [wI as bs]:wI (a::as) (b::bs):=⟨dt.cons iU.h wI.h⟩
instance (as bs cs ds:List (List C)) [h:wI as cs] [h2:wI bs ds]:wI (as++bs) (cs++ds):=⟨h.h.append h2.h⟩
instance (o o':Bool) (nl:Option Bool) (es:Nat) (cap:Option Nat) (rows rows':List (List C)) [h:wI rows rows']:LeI (.sl o nl es cap rows) (.sl o' none es none rows'):=⟨Le.sl h.h⟩
instance (o:Bool) (es:Nat):LeI (.val (.slice none 0 0)) (.sl o none es none []):=⟨Le.nils⟩
class gK (a b:C):Prop where
 h:ROk a b
class Rj (as bs:List C):Prop where
 len:bs.length=as.length
 h:∀ (i:Nat) (a b:C),as[i]?=some a->bs[i]?=some b->ROk a b
instance (priority:=high) (a:C):gK a a:=⟨ROk.refl a⟩
instance:Rj [] []:=⟨rfl,NK⟩
instance (a b:C) (as bs:List C) [h:gK a b] [t:Rj as bs]:Rj (a::as) (b::bs):=⟨by simp [t.len],KT h.h t.h⟩
instance (as bs:List C) [h:Rj as bs]:gK (.agg as) (.agg bs):=⟨ROk.agg h.len h.h⟩
instance (as bs:List C) [h:Rj as bs]:gK (.tup as) (.tup bs):=⟨ROk.tup h.len h.h⟩
instance (es:Nat):gK (.val (.slice none 0 0)) (.sl true none es none []):=⟨ROk.nil es⟩
instance (es:Nat):gK (.val (.slice none 0 0)) (.sl false none es none []):=⟨ROk.of _ Le.nils (bU.sl _ _ _ _)⟩
instance (o:Bool) (nl:Option Bool) (es:Nat) (cap:Option Nat) (rows rows':List (List C)) [h:wI rows rows']:gK (.sl o nl es cap rows) (.sl false none es none rows'):=⟨ROk.of _ (Le.sl h.h) (bU.sl _ _ _ _)⟩
instance (nl:Option Bool) (es:Nat) (cap:Option Nat) (rows rows':List (List C)) [h:wI rows rows'] [n:zt rows']:gK (.sl true nl es cap rows) (.sl true none es none rows'):=⟨ROk.own h.h n.h⟩
def aw:List (Nat × Nat × FnS)->Nat->Nat->Option FnS
 | [],_,_=>none
 | (d0,f0,fs)::l,d,f=>if d=d0/\f=f0 then some fs else aw l d f
def Pa:List (Nat × Bool)->Nat->Option Bool
 | [],_=>none
 | (d0,b)::l,d=>if d=d0 then some b else Pa l d
def GL (P:Program) (L:List (Nat × Nat × FnS)):Prop:=∀ d f fs,aw L d f=some fs->aA P f fs
def gn {P:Program}:GL P []:=fun d f fs h=>by cases h
def gc {P:Program} (d0:Nat) {f0:Nat} {fs0:FnS} {L:List (Nat × Nat × FnS)} (h0:aA P f0 fs0) (h:GL P L):GL P ((d0,f0,fs0)::L):=by
 intro d f fs hf;simp only [aw] at hf;split at hf
 ·rename_i hc;obtain ⟨rfl,rfl⟩:=hc;cases hf;exact h0
 ·exact h d f fs hf
@[reducible] def EE (P:Program) (G:Nat->Nat->Option FnS) (F:List (Nat × Bool)) (L:Nat->Nat->Option FnL):Env:={ T:=ey P,G:=G,F:=Pa F,L:=L }
theorem abR (P:Program) (G:Nat->Nat->Option FnS) (F:List (Nat × Bool)) (L:Nat->Nat->Option FnL):(EE P G F L).T=ey P:=rfl
theorem aaH (P:Program) (G:Nat->Nat->Option FnS) (F:List (Nat × Bool)) (L:Nat->Nat->Option FnL):(EE P G F L).G=G:=rfl
theorem aaE (P:Program) (G:Nat->Nat->Option FnS) (F:List (Nat × Bool)) (L:Nat->Nat->Option FnL):(EE P G F L).F=Pa F:=rfl
theorem aa8 (P:Program) (G:Nat->Nat->Option FnS) (F:List (Nat × Bool)) (L:Nat->Nat->Option FnL):(EE P G F L).L=L:=rfl
def noL:Nat->Nat->Option FnL:=fun _ _=>none
theorem Zl (d f:Nat):noL d f=none:=rfl
def AV:List (Nat × Nat × FnL)->Nat->Nat->Option FnL
 | [],_,_=>none
 | (d0,f0,fs)::l,d,f=>if d=d0/\f=f0 then some fs else AV l d f
def LL (P:Program) (L:List (Nat × Nat × FnL)):Prop:=∀ d f fs,AV L d f=some fs->wJ P f fs
def ln {P:Program}:LL P []:=fun d f fs h=>by cases h
def lc {P:Program} (d0:Nat) {f0:Nat} {fs0:FnL} {L:List (Nat × Nat × FnL)} (h0:wJ P f0 fs0) (h:LL P L):LL P ((d0,f0,fs0)::L):=by
 intro d f fs hf;simp only [AV] at hf;split at hf
 ·rename_i hc;obtain ⟨rfl,rfl⟩:=hc;cases hf;exact h0
 ·exact h d f fs hf
def BR:(Nat->C)->Nat->List C->Nat->C
 | f,_,[]=>f
 | f,k,c::cs=>BR (af f k c) (k+1) cs
def NG:∀ (cs:List C) (f:Nat->C) (k t:Nat),BR f k cs t=if k<=t/\t < k+cs.length then (cs[t - k]?).getD .dead else f t
 | [],f,k,t=>by simp [BR]; omega
 | c::cs,f,k,t=>by
  rw [BR,NG cs (af f k c) (k+1) t];simp only [cG,af];by_cases h1:t=k
  ·subst h1; rw [if_neg (by omega),if_pos rfl,if_pos (by omega)]; simp
  ·by_cases h2:k+1<=t/\t < k+1+cs.length
   ·rw [if_pos h2,if_pos (by omega),show t - k=(t - (k+1))+1 from by omega,nn]
   ·rw [if_neg h2,if_neg h1,if_neg (by omega)]
def Kj (cs:List C) (h:∀ t c,cs[t]?=some c->iW [] t c=c):gf [] cs=BR au 0 cs:=by
 funext t
 rw [NG];unfold gf;cases hc:cs[t]? with
 | none=>
  have:cs.length<=t:=xT.1 hc;rw [if_neg (by omega)]; rfl
 | some c=>
  have:=(cd.1 hc).1;rw [if_pos (by omega)];simp only [cU,h t c hc,nk,hc]
attribute [go_sem] KL O7 GW DM DO Pr TA Rp Lk GF I0 B0 F0 y4 D7 aw Pa AV abR aaH aaE aa8 Zl Env.Gs BR Ec zX Js dC O1 O6 AZ AE uC
def Je {P:Program} {f:FuncId} {fn:Func} {body:Code} (hf:P.funcs[f]?=some fn) (hb:fn.body=some body) (hname:(fn.name == "runtime.NumGoroutine") = false) (hok : jO body = true)
  {G:Nat->Nat->Option FnS} (hG:∀ d f fs,G d f=some fs->aA P f fs) (F:List (Nat × Bool)) (hmix:P.follows .mixedOrders=true) {pure:Bool} {cs:List C} {r:C} (hn:cs.length<=fn.ntmps)
  (hW:Wk (EE P G F noL) body (ap (EE P G F noL) (Nz (EE P G F noL) fn.results.toList pure r) []) ⟨tab fn.ntmps (BR au 0 cs),RZ⟩):Con P f [] pure cs r:=by
 refine SA (E:=EE P G F noL) (fun t ti h=>yW P G t ti h) ⟨fun d f fs h=>hG d f fs h,fun _ _ _ h=>by cases h⟩ hmix ⟨hf,hb,hname,hok⟩ hn fun _=>?_;rw [vu hn,XC,Kj cs (fun t c _=>by simp [iW])];exact Ph hW
def SI {P:Program} {f:FuncId} {fn:Func} {body:Code} (hf:P.funcs[f]?=some fn) (hb:fn.body=some body) (hname:(fn.name == "runtime.NumGoroutine") = false) (hok : jO body = true)
  {G:Nat->Nat->Option FnS} (hG:∀ d f fs,G d f=some fs->aA P f fs) {L:Nat->Nat->Option FnL} (hL:∀ d f fl,L d f=some fl->wJ P f fl) (F:List (Nat × Bool)) (hmix:P.follows .mixedOrders=true) {pure:Bool} {cs:List C} {r:C} (hn:cs.length<=fn.ntmps)
  (hW:Wk (EE P G F L) body (ap (EE P G F L) (Nz (EE P G F L) fn.results.toList pure r) []) ⟨tab fn.ntmps (BR au 0 cs),RZ⟩):Con P f [] pure cs r:=by
 refine SA (E:=EE P G F L) (fun t ti h=>yW P G t ti h) ⟨fun d f fs h=>hG d f fs h,fun d f fl h=>hL d f fl h⟩ hmix ⟨hf,hb,hname,hok⟩ hn fun _=>?_;rw [vu hn,XC,Kj cs (fun t c _=>by simp [iW])];exact Ph hW
def sw {A B D:Prop} (f:A->B->D) (b:B) (a:A):D:=f a b
def xn {R:Nat->C}:∀ k,RZ k=R k∨RZ k=.dead:=UP
def xc {R R':Nat->C} {d:Nat} {c:C} (h0:R d=c) (h:∀ k,R' k=R k∨R' k=.dead):∀ k,upd R' d c k=R k∨upd R' d c k=.dead:=TP h0 h
def rn {n:Nat} {f R':Nat->C}:∀ t,t < n->au t=.dead∨(au t=f t/\(au t).ment (fun k _=>dN (R' k)) 3=false):=Vb
def rc {n:Nat} {f g R':Nat->C} {d:Nat} {c:C} (h0:f d=c) (hm:c.ment (fun k _=>dN (R' k)) 3=false)
  (h:∀ t,t < n->g t=.dead∨(g t=f t/\(g t).ment (fun k _=>dN (R' k)) 3=false)):∀ t,t < n->af g d c t=.dead∨(af g d c t=f t/\(af g d c t).ment (fun k _=>dN (R' k)) 3=false):=TB h0 hm h
end Go.Abs
namespace Go.Abs
section
variable {X:Ctx} {m:Nat->aq->Value} {st:St} {a:Act} {w:World} {P:Program}
def QJ {w:World} {S S':Nat->Prop} {m:aq->Value} (hS:∀ b,S b->S' b) {nl:Option Bool} {es:Nat} {cap:Option Nat} {rows rows':List (List C)} (h:dt rows rows') (hn:∀ row∈rows',∀ c∈row,bU c) {d:Nat} {u:Value}
  (hO:∀ i j q b,ak (.sl true nl es cap rows) ((i,j)::q)->blk (m ((i,j)::q))=some b->S' b)
  (hr:rel w S L0 m true d [] (.sl true nl es cap rows) u):rel w S' L0 m true (d+1) [] (.sl true nl es cap rows') u:=by
 cases d with
 | zero=>exact hr.elim
 | succ d=>
  obtain ⟨a,k,h1,h2,h3,h4,hz,h5,h6,h7⟩:=hr;refine ⟨a,k,by rw [h.len]; exact h1,by rw [h.len]; exact h2,h3,h4,hz,?_,fun _=>h6 rfl,?_⟩
  ·intro row' hrow;obtain ⟨i,hi,e⟩:=acN hrow;have hlt:i < rows.length:=by rw [<-h.len]; exact hi
   have:=h.get i rows[i] row' (by simp [hlt]) (by simp [hi,e]);rw [this.len];exact h5 _ (nx hlt)
  ·rcases h7 with h7|h7|⟨b,off,arr,elem,frz,g1,g2,g3,g4,g5⟩
   ·exact .inl h7
   ·simp at h7
   ·refine .inr (.inr ⟨b,off,arr,elem,frz,g1,g2,fun h=>by simp at h,g4,?_⟩);intro i j row' c' e1 e2;have hlt:i < rows.length:=by rw [<-h.len]; exact (cd.1 e1).1
    have hrow:rows[i]?=some rows[i]:=by simp [hlt]
    have hle:=h.get i rows[i] row' hrow e1;have hltj:j < rows[i].length:=by rw [<-hle.len]; exact (cd.1 e2).1
    have hc:rows[i][j]?=some rows[i][j]:=by simp [hltj]
    obtain ⟨u',e3,e4⟩:=g5 i j _ _ hrow hc;have hnc:=hn row' (cg e1) c' (cg e2);refine ⟨u',e3,aS d (d+1) (xe _) (DU d hnc (hle.get j _ c' hc e2 _ _ _ m _ [] d u' (qq (S:=S) (S':=S') (m:=m) (m':=m) (p:=[]++[(i,j)]) (p':=[]) hS d ?_ e4)))⟩;intro _ q b' hq hb;refine hO i j q b' ?_ (by simpa using hb);simp only [ak,C.at,C.kid,hrow,cc,hc]; exact hq
def m8 {nl:Option Bool} {es:Nat} {cap:Option Nat} {rows:List (List C)} (hn:∀ row∈rows,∀ c∈row,bU c) {q:aq} (h:ak (.sl true nl es cap rows) q):q=[]:=by
 cases q with
 | nil=>rfl
 | cons s q=>
  exfalso;simp only [ak,C.at,C.kid] at h;cases hr:rows[s.1]? with
  | none=>simp [hr] at h
  | some row=>
   simp only [hr,cc] at h;cases hc:row[s.2]? with
   | none=>simp [hc] at h
   | some c=>
    simp only [hc,cc] at h;exact hn row (cg hr) c (cg hc) q h
def yd (n:Nat):Nat->aq->Bool:=fun k p=>k == n && !p.isEmpty
def ar.tell (H:ar X m st a w) {n:Nat} {nl:Option Bool} {es:Nat} {cap:Option Nat} {rows rows':List (List C)} (hR:st.roots n=.sl true nl es cap rows) (hle:dt rows rows') (hn:∀ row∈rows',∀ c∈row,bU c) :
  ar X m { tmps:=st.tmps.map (poi (yd n)),roots:=upd st.roots n (.sl true nl es cap rows') } a w:=by
 have hown:∀ k p,ak (upd st.roots n (.sl true nl es cap rows') k) p->ak (st.roots k) p/\(k=n->p=[]):=by
  intro k p ho;by_cases e:k=n
  ·subst e;rw [aC] at ho;have hp:=m8 hn ho;subst hp;refine ⟨?_,fun _=>rfl⟩;rw [hR]; rfl
  ·rw [aO e] at ho;exact ⟨ho,fun h=>absurd h e⟩
 have hS:∀ b,X.S st.roots m b->X.S (upd st.roots n (.sl true nl es cap rows')) m b:=by
  rintro b ⟨h1,h2⟩;refine ⟨h1,?_⟩;rintro ⟨k,p,ho,hb⟩;exact h2 ⟨k,p,(hown k p ho).1,hb⟩
 have hL:∀ v u,(∀ k p,v.place=some (k,p)->k=n->p=[])->Lv st.roots m v u->Lv (upd st.roots n (.sl true nl es cap rows')) m v u:=by
  intro v u hp hl;cases v with
  | pref k p i j=>
   obtain ⟨nl',es',cap',rows0,b,off,kk,g1,g2,g3⟩:=hl;by_cases e:k=n
   ·subst e;have:p=[]:=hp k p rfl rfl;subst this;rw [hR] at g1;simp only [C.at,cb,C.sl.injEq,true_and] at g1;obtain ⟨rfl,rfl,rfl,rfl⟩:=g1;exact ⟨nl,es,cap,rows',b,off,kk,by rw [aC]; rfl,by rw [hle.len]; exact g2,g3⟩
   ·exact ⟨nl',es',cap',rows0,b,off,kk,by rw [aO e]; exact g1,g2,g3⟩
  | pal k p lo len c=>
   obtain ⟨nl',es',cap',rows0,a0,kk,a',k',g1,g2,g3,g4⟩:=hl;by_cases e:k=n
   ·subst e;have:p=[]:=hp k p rfl rfl;subst this;rw [hR] at g1;simp only [C.at,cb,C.sl.injEq,true_and] at g1;obtain ⟨rfl,rfl,rfl,rfl⟩:=g1;exact ⟨nl,es,cap,rows',a0,kk,a',k',by rw [aC]; rfl,by rw [hle.len]; exact g2,by rw [hle.len]; exact g3,g4⟩
   ·exact ⟨nl',es',cap',rows0,a0,kk,a',k',by rw [aO e]; exact g1,g2,g3,g4⟩
  | _=>exact hl
 refine ⟨by simp [H.len],?_,?_,?_,?_,H.fr,H.df⟩
 ·intro t c hc;simp only [cv,cj] at hc;obtain ⟨c0,h0,rfl⟩:=hc;obtain ⟨u,d,h1,h2⟩:=H.tmp t c0 h0;rcases js (yd n) c0 with e|⟨e,hm⟩
  ·rw [e]; exact ⟨u,1,h1,trivial⟩
  ·rw [e];refine ⟨u,d,h1,av (fun b _ hb=>⟨hS b hb,rfl⟩) d (fun v uv ho hl=>?_) (fun h=>by simp at h) (fun h=>by simp at h) h2⟩;refine hL v uv ?_ hl;intro k p hpl hk;obtain ⟨k',p',e1,e2⟩:=ir d 3 c0 v hm ho;rw [hpl] at e1;simp only [cb,cz] at e1;obtain ⟨rfl,rfl⟩:=e1;subst hk;simpa [yd] using e2
 ·intro k;obtain ⟨u,d,hr⟩:=H.root k;by_cases e:k=n
  ·subst e;rw [hR] at hr;refine ⟨u,d+1,?_⟩;show rel w _ L0 (m k) true (d+1) [] (upd st.roots k (.sl true nl es cap rows') k) u;rw [aC];refine QJ hS hle hn (fun i j q b ho hb=>?_) hr;have ho':ak (st.roots k) ((i,j)::q):=by rw [hR]; exact ho
   refine ⟨(H.own _ _ b ho' hb).elim .inr (fun h=>.inl (X.kS b h)),?_⟩;rintro ⟨k',p',ho2,hb2⟩;obtain ⟨ho3,hp⟩:=hown k' p' ho2;obtain ⟨e1,e2⟩:=H.inj _ _ _ _ b ho3 ho' hb2 hb;rw [hp e1] at e2;cases e2
  ·refine ⟨u,d,?_⟩;show rel w _ L0 (m k) true d [] (upd st.roots n (.sl true nl es cap rows') k) u;rw [aO e];exact av (fun b _ hb=>⟨hS b hb,rfl⟩) d (fun _ _ _ h=>h) (fun _ _ _ _ _ _=>rfl) (fun _ _ _=>rfl) hr
 ·intro k p k' p' b h1 h2;exact H.inj k p k' p' b (hown k p h1).1 (hown k' p' h2).1
 ·intro k p b h1;exact H.own k p b (hown k p h1).1
end
def SG {α:Type} {row:α->List C} {l:List α} {i:Nat} {x:α} {rx ry:List C} {g:List C->List C} (hx:l[i]?=some x) (e1:row x=rx) (h:g rx=ry):(l.map row).modify i g=(l.map row).set i ry:=by
 apply nN;intro j;rw [n5,hU];by_cases e:i=j
 ·subst e;have hlt:=(cd.1 hx).1;have hxi:l[i]=x:=by rw [cq hlt] at hx; exact ng hx
  simp [hlt,hxi,e1,h]
 ·simp [e]
def Gh {α:Type} {row:α->List C} {l:List α} {i:Nat} {x:α} (ry:List C) (hx:l[i]?=some x):((l.map row).set i ry)[i]?=some ry:=by
 have hlt:=(cd.1 hx).1;simp [hlt]
def F4 {α:Type} {row:α->List C} {l:List α} {i:Nat} {x:α} {ry rz:List C} {g:List C->List C} (hx:l[i]?=some x) (h:g ry=rz):((l.map row).set i ry).modify i g=(l.map row).set i rz:=by
 apply nN;intro j;have hlt:=(cd.1 hx).1;rw [n5,hU,hU];by_cases e:i=j
 ·subst e; simp [hlt,h]
 ·simp [e]
instance over_le {α:Type} (row:α->List C) (l:List α) (i:Nat) (ry:List C) (y:α) [h:iU ry (row y)]:wI ((l.map row).set i ry) ((l.set i y).map row):=⟨by
 refine ⟨by simp,?_⟩;intro j r r' h1 h2;rw [hU] at h1;simp only [cv,hU] at h2;by_cases e:i=j
 ·subst e;by_cases hl:i < l.length
  ·simp only [cy,hl,if_true,cb,cx] at h1 h2;subst h1; subst h2; exact h.h
  ·simp [hl] at h1
 ·simp only [e,if_false,cv] at h1 h2;rw [h1] at h2;cases h2;exact LeL.refl _⟩
instance over_no {α:Type} (row:α->List C) [h:yJ row] (l:List α) (i:Nat) (rc:List C) [n:KP rc]:zt ((l.map row).set i rc):=⟨fun r hr=>by
 rcases ad7 hr with hr|rfl
 ·exact h.ok.noOwn l r hr
 ·exact n.h⟩
class qN (a b:C):Prop where
 h:∀ q,ak a q->ak b q
class LN (as bs:List C):Prop where
 h:∀ (i:Nat) (a:C) (q:aq),as[i]?=some a->ak a q->∃ b,bs[i]?=some b/\ak b q
instance (priority:=high) (a:C):qN a a:=⟨fun _ h=>h⟩
instance (bs:List C):LN [] bs:=⟨by simp⟩
instance (a b:C) (as bs:List C) [h:qN a b] [t:LN as bs]:LN (a::as) (b::bs):=⟨fun i c q e ho=>by
 cases i with
 | zero=>simp only [cu,cb] at e; subst e; exact ⟨b,rfl,h.h q ho⟩
 | succ i=>simpa using t.h i c q (by simpa using e) ho⟩
theorem X0 {as bs:List C} (t:LN as bs) {s:Nat × Nat} {q:aq} (h:Option.map C.isOwn ((if s.1=0 then as[s.2]? else none).bind (·.at q))=some true):Option.map C.isOwn ((if s.1=0 then bs[s.2]? else none).bind (·.at q))=some true:=by
 split at h
 ·rename_i e;rw [if_pos e];cases ha:as[s.2]? with
  | none=>rw [ha] at h; simp at h
  | some a=>
   rw [ha] at h;obtain ⟨b,hb,ho⟩:=t.h s.2 a q ha h;rw [hb]; exact ho
 ·simp at h
instance (as bs:List C) [t:LN as bs]:qN (.tup as) (.tup bs):=⟨fun q h=>by
 cases q with
 | nil=>simp [ak,C.at,C.isOwn] at h
 | cons s q=>exact X0 t h⟩
instance (nl nl':Option Bool) (es es':Nat) (cap cap':Option Nat) (rows rows':List (List C)) [n:zt rows]:qN (.sl true nl es cap rows) (.sl true nl' es' cap' rows'):=⟨fun q h=>by
 rw [m8 n.h h]; rfl⟩
class ME (a:C) (b:outParam C):Prop where
 le:Le a b
 no:bU b
class DQ (a:List C) (b:outParam (List C)):Prop where
 le:LeL a b
 no:∀ c∈b,bU c
class Mf (a:List (List C)) (b:outParam (List (List C))):Prop where
 le:dt a b
 no:∀ row∈b,∀ c∈row,bU c
instance (priority:=low) (a:C) [NoI a]:ME a a:=⟨Le.refl a,NoI.h⟩
instance (nl:Option Bool) (es:Nat) (cap:Option Nat) (rows:List (List C)):ME (.sl true nl es cap rows) (.sl false none es none rows):=⟨Le.sl (dt.refl rows),bU.sl _ _ _ _⟩
instance:DQ [] []:=⟨LeL.nil,DY⟩
instance (a b:C) (as bs:List C) [ME a b] [DQ as bs]:DQ (a::as) (b::bs):=⟨LeL.cons ME.le DQ.le,CD (ME.no a) (DQ.no as)⟩
instance:Mf [] []:=⟨dt.nil,by simp⟩
instance (a b:List C) (as bs:List (List C)) [DQ a b] [h:Mf as bs]:Mf (a::as) (b::bs):=⟨dt.cons DQ.le Mf.le,fun row hr=>by
 rcases cF.1 hr with rfl|hr
 ·exact DQ.no a
 ·exact h.no row hr⟩
theorem iZ (g:Nat->aq->Bool) (f:Nat->C) (d:Nat) (c:C):uF g (af f d c)=af (uF g f) d (poi g c):=by
 funext t
 simp only [uF,af];split<;>rfl
theorem gX (g:Nat->aq->Bool):uF g au=au:=rfl
def Rd {k n:Nat} {f f':Nat->C} {R:Nat->C} {nl:Option Bool} {es:Nat} {cap:Option Nat} {rows rows':List (List C)} (hR:R n=.sl true nl es cap rows) (hf:uF (yd n) f=f') [h:Mf rows rows'] :
  aX ⟨tab k f,R⟩ ⟨tab k f',upd R n (.sl true nl es cap rows')⟩:=by
 subst hf;rintro X a w ⟨m,H⟩;exact ⟨m,by simpa [CK] using H.tell hR h.le h.no⟩
def vP {k n:Nat} {f f':Nat->C} {R:Nat->C} {nl:Option Bool} {es:Nat} {cap:Option Nat} {rows rows':List (List C)} (told:List (List C)) (ht:told=rows') (hR:R n=.sl true nl es cap rows) (hf:uF (yd n) f=f') [hle:wI rows rows'] [hn:zt rows'] :
  aX ⟨tab k f,R⟩ ⟨tab k f',upd R n (.sl true nl es cap rows')⟩:=by
 subst hf;rintro X a w ⟨m,H⟩;exact ⟨m,by simpa [CK] using H.tell hR hle.h hn.h⟩
attribute [go_sem] yd List.isEmpty_nil
class M7 {α:Type} (f g:α->List C):Prop where
 h:∀ x,LeL (f x) (g x)
instance leRF_map {α:Type} (f g:α->List C) (l:List α) [h:M7 f g]:wI (l.map f) (l.map g):=⟨dt.map h.h l⟩
theorem WI {α:Type} (f g:α->List C) (l:List α) (i:Nat) (ry:List C) (y:α) [hF:M7 f g] [h:iU ry (g y)]:wI ((l.map f).set i ry) ((l.set i y).map g):=⟨by
 refine ⟨by simp,?_⟩;intro j r r' h1 h2;rw [hU] at h1;simp only [cv,hU] at h2;by_cases e:i=j
 ·subst e;by_cases hl:i < l.length
  ·simp only [cy,hl,if_true,cb,cx] at h1 h2;subst h1; subst h2; exact h.h
  ·simp [hl] at h1
 ·simp only [e,if_false,cv] at h1 h2;cases hx:l[j]? with
  | none=>rw [hx] at h1; cases h1
  | some x=>
   rw [hx] at h1 h2;cases h1; cases h2;exact hF.h x⟩
instance over_leF' {α:Type} (f g:α->List C) (l:List α) (i:Nat) (ry:List C) (y:α) [hF:M7 f g] [h:iU ry (g y)]:wI ((l.map f).set i ry) ((l.set i y).map g):=WI f g l i ry y
def mxR {α:Type} (f g:α->List C) (i:Nat) (l:List α):List (List C):=(l.take i).map f++(l.drop i).map g
section
variable {α:Type} {f g:α->List C} {i:Nat} {l:List α}
def E6:(mxR f g i l).length=l.length:=by simp [mxR]; omega
def XQ (h:l.length<=i):mxR f g i l=l.map f:=by simp [mxR,nj h,xd h]
def Ok {x:α} (hx:l[i]?=some x):mxR f g i l=(l.take i).map f++g x::(l.drop (i+1)).map g:=by
 have hlt:=(cd.1 hx).1;have hxi:=(cd.1 hx).2;unfold mxR;rw [xC hlt,nq,hxi]
def Lr {x:α} (hx:l[i]?=some x):((l.take i).map f).length=i:=by
 have hlt:=(cd.1 hx).1;simp; omega
theorem Nc {x:α} (hx:l[i]?=some x):(mxR f g i l)[i]?=some (g x):=by
 rw [Ok hx,cL (by rw [Lr hx]; exact cr _),Lr hx,xh]; rfl
def U7 {x:α} {rx ry:List C} {k:List C->List C} (hx:l[i]?=some x) (e1:g x=rx) (h:k rx=ry):(mxR f g i l).modify i k=(mxR f g i l).set i ry:=by
 apply nN;intro j;have hlt:i < (mxR f g i l).length:=by rw [E6]; exact (cd.1 hx).1
 rw [n5,hU];by_cases e:i=j
 ·subst e; rw [Nc hx]; simp [hlt,e1,h]
 ·simp [e]
theorem KU {x:α} (hx:l[i]?=some x) (y:α):(mxR f g i l).set i (f y)=mxR f g (i+1) (l.set i y):=by
 have hlt:=(cd.1 hx).1;rw [Ok hx,ad8 _ _ (by rw [Lr hx]; exact cr _),Lr hx,xh,ad9];unfold mxR;have e1:(l.set i y).take (i+1)=l.take i++[y]:=by
  rw [xE,hU];simp only [if_true,hlt,xQ];rw [aea (cr i)]
 have e2:(l.set i y).drop (i+1)=l.drop (i+1):=by
  rw [List.drop_set]; simp
 rw [e1,e2,nt,nr];rfl
def Ux (y:α):(l.map f).set i (f y)=(l.set i y).map f:=by rw [xW]
end
def NJ {α β:Type} (l:List α) (i:Nat) (k:Option β):Option β:=if l.length<=i then k else none
def On {α β:Type} {l:List α} {i:Nat} {k:Option β} {r:β} (h:NJ l i k=some r):l.length<=i/\k=some r:=by
 unfold NJ at h;split at h
 ·rename_i hl; exact ⟨hl,h⟩
 ·cases h
def XP {α β:Type} {l:List α} {i:Nat} {k:Option β} (h:l.length<=i):NJ l i k=k:=if_pos h
def Oe {k n:Nat} {f f':Nat->C} {R:Nat->C} {nl:Option Bool} {es:Nat} {cap:Option Nat} {rows rows':List (List C)} (hR:R n=.sl true nl es cap rows) (he:rows=rows') (hf:uF (yd n) f=f') :
  aX ⟨tab k f,R⟩ ⟨tab k f',upd R n (.sl true nl es cap rows')⟩:=by
 subst he hf;have hu:upd R n (.sl true nl es cap rows)=R:=by
  funext t; unfold upd; split
  ·rename_i e; rw [e,hR]
  ·rfl
 rw [hu];rintro X a w ⟨m,H⟩;refine ⟨m,⟨by rw [H.len]; simp [mO],?_,H.root,H.inj,H.own,H.fr,H.df⟩⟩;intro t c hc;rw [gm] at hc;split at hc
 case isFalse=>simp at hc
 rename_i hlt;simp only [cb] at hc;subst hc;obtain ⟨u,d,h1,h2⟩:=H.tmp t (f t) (by simp only [gm,hlt,if_true]);rcases js (yd n) (f t) with e|⟨e,_⟩
 ·exact ⟨u,1,h1,by simp only [uF]; rw [e]; trivial⟩
 ·exact ⟨u,d,h1,by simp only [uF]; rw [e]; exact h2⟩
def Uq {α:Type} {row:α->List C} {k n:Nat} {f f':Nat->C} {R:Nat->C} {nl:Option Bool} {es:Nat} {cap:Option Nat} {l:List α} {i:Nat} {rc:List C} (y:α) (hR:R n=.sl true nl es cap ((l.map row).set i rc)) (hz:row y=rc) (hf:uF (yd n) f=f') :
  aX ⟨tab k f,R⟩ ⟨tab k f',upd R n (.sl true nl es cap ((l.set i y).map row))⟩:=Oe hR (by rw [<-hz,Ux]) hf
def Uf {α:Type} {f0 g0:α->List C} {k n:Nat} {f f':Nat->C} {R:Nat->C} {nl:Option Bool} {es:Nat} {cap:Option Nat} {l:List α} {i:Nat} {x:α} {rc:List C} (y:α) (hx:l[i]?=some x) (hR:R n=.sl true nl es cap ((mxR f0 g0 i l).set i rc)) (hz:f0 y=rc) (hf:uF (yd n) f=f') :
  aX ⟨tab k f,R⟩ ⟨tab k f',upd R n (.sl true nl es cap (mxR f0 g0 (i+1) (l.set i y)))⟩:=Oe hR (by rw [<-hz,KU hx]) hf
def fn1 {A0:Type} (d0:C->Option A0) (f:A0->Option C):List C->Option C
 | [c0]=>(d0 c0).bind fun q0=>f q0
 | _=>none
def ok1 {P:Program} {k:FuncId} {pure:Bool} {A0:Type} {d0:C->Option A0} {f:A0->Option C} {t0:A0->C} (h:∀ q0 r,f q0=some r->Con P k [] pure [t0 q0] r) (l0:∀ {c x},d0 c=some x->Le c (t0 x)):aA P k ⟨[],pure,fn1 d0 f,false⟩:=by
 refine ⟨fun cs r hr=>?_,fun h=>by cases h⟩;simp only [fn1] at hr;split at hr
 ·simp only [ck] at hr;obtain ⟨q0,h0,hr⟩:=hr;exact (h q0 r hr).args (LeL.cons (l0 h0) (LeL.nil))
 ·cases hr
def fn2 {A0 A1:Type} (d0:C->Option A0) (d1:C->Option A1) (f:A0->A1->Option C):List C->Option C
 | [c0,c1]=>(d0 c0).bind fun q0=>(d1 c1).bind fun q1=>f q0 q1
 | _=>none
def ok2 {P:Program} {k:FuncId} {pure:Bool} {A0 A1:Type} {d0:C->Option A0} {d1:C->Option A1} {f:A0->A1->Option C} {t0:A0->C} {t1:A1->C} (h:∀ q0 q1 r,f q0 q1=some r->Con P k [] pure [t0 q0,t1 q1] r) (l0:∀ {c x},d0 c=some x->Le c (t0 x)) (l1:∀ {c x},d1 c=some x->Le c (t1 x)):aA P k ⟨[],pure,fn2 d0 d1 f,false⟩:=by
 refine ⟨fun cs r hr=>?_,fun h=>by cases h⟩;simp only [fn2] at hr;split at hr
 ·simp only [ck] at hr;obtain ⟨q0,h0,q1,h1,hr⟩:=hr;exact (h q0 q1 r hr).args (LeL.cons (l0 h0) (LeL.cons (l1 h1) (LeL.nil)))
 ·cases hr
def fn3 {A0 A1 A2:Type} (d0:C->Option A0) (d1:C->Option A1) (d2:C->Option A2) (f:A0->A1->A2->Option C):List C->Option C
 | [c0,c1,c2]=>(d0 c0).bind fun q0=>(d1 c1).bind fun q1=>(d2 c2).bind fun q2=>f q0 q1 q2
 | _=>none
def ok3 {P:Program} {k:FuncId} {pure:Bool} {A0 A1 A2:Type} {d0:C->Option A0} {d1:C->Option A1} {d2:C->Option A2} {f:A0->A1->A2->Option C} {t0:A0->C} {t1:A1->C} {t2:A2->C} (h:∀ q0 q1 q2 r,f q0 q1 q2=some r->Con P k [] pure [t0 q0,t1 q1,t2 q2] r) (l0:∀ {c x},d0 c=some x->Le c (t0 x)) (l1:∀ {c x},d1 c=some x->Le c (t1 x)) (l2:∀ {c x},d2 c=some x->Le c (t2 x)):aA P k ⟨[],pure,fn3 d0 d1 d2 f,false⟩:=by
 refine ⟨fun cs r hr=>?_,fun h=>by cases h⟩;simp only [fn3] at hr;split at hr
 ·simp only [ck] at hr;obtain ⟨q0,h0,q1,h1,q2,h2,hr⟩:=hr;exact (h q0 q1 q2 r hr).args (LeL.cons (l0 h0) (LeL.cons (l1 h1) (LeL.cons (l2 h2) (LeL.nil))))
 ·cases hr
def fn4 {A0 A1 A2 A3:Type} (d0:C->Option A0) (d1:C->Option A1) (d2:C->Option A2) (d3:C->Option A3) (f:A0->A1->A2->A3->Option C):List C->Option C
 | [c0,c1,c2,c3]=>(d0 c0).bind fun q0=>(d1 c1).bind fun q1=>(d2 c2).bind fun q2=>(d3 c3).bind fun q3=>f q0 q1 q2 q3
 | _=>none
def ok4 {P:Program} {k:FuncId} {pure:Bool} {A0 A1 A2 A3:Type} {d0:C->Option A0} {d1:C->Option A1} {d2:C->Option A2} {d3:C->Option A3} {f:A0->A1->A2->A3->Option C} {t0:A0->C} {t1:A1->C} {t2:A2->C} {t3:A3->C} (h:∀ q0 q1 q2 q3 r,f q0 q1 q2 q3=some r->Con P k [] pure [t0 q0,t1 q1,t2 q2,t3 q3] r) (l0:∀ {c x},d0 c=some x->Le c (t0 x)) (l1:∀ {c x},d1 c=some x->Le c (t1 x)) (l2:∀ {c x},d2 c=some x->Le c (t2 x)) (l3:∀ {c x},d3 c=some x->Le c (t3 x)):aA P k ⟨[],pure,fn4 d0 d1 d2 d3 f,false⟩:=by
 refine ⟨fun cs r hr=>?_,fun h=>by cases h⟩;simp only [fn4] at hr;split at hr
 ·simp only [ck] at hr;obtain ⟨q0,h0,q1,h1,q2,h2,q3,h3,hr⟩:=hr;exact (h q0 q1 q2 q3 r hr).args (LeL.cons (l0 h0) (LeL.cons (l1 h1) (LeL.cons (l2 h2) (LeL.cons (l3 h3) (LeL.nil)))))
 ·cases hr
def fn6 {A0 A1 A2 A3 A4 A5:Type} (d0:C->Option A0) (d1:C->Option A1) (d2:C->Option A2) (d3:C->Option A3) (d4:C->Option A4) (d5:C->Option A5) (f:A0->A1->A2->A3->A4->A5->Option C):List C->Option C
 | [c0,c1,c2,c3,c4,c5]=>(d0 c0).bind fun q0=>(d1 c1).bind fun q1=>(d2 c2).bind fun q2=>(d3 c3).bind fun q3=>(d4 c4).bind fun q4=>(d5 c5).bind fun q5=>f q0 q1 q2 q3 q4 q5
 | _=>none
def ok6 {P:Program} {k:FuncId} {pure:Bool} {A0 A1 A2 A3 A4 A5:Type} {d0:C->Option A0} {d1:C->Option A1} {d2:C->Option A2} {d3:C->Option A3} {d4:C->Option A4} {d5:C->Option A5} {f:A0->A1->A2->A3->A4->A5->Option C} {t0:A0->C} {t1:A1->C} {t2:A2->C} {t3:A3->C} {t4:A4->C} {t5:A5->C} (h:∀ q0 q1 q2 q3 q4 q5 r,f q0 q1 q2 q3 q4 q5=some r->Con P k [] pure [t0 q0,t1 q1,t2 q2,t3 q3,t4 q4,t5 q5] r) (l0:∀ {c x},d0 c=some x->Le c (t0 x)) (l1:∀ {c x},d1 c=some x->Le c (t1 x)) (l2:∀ {c x},d2 c=some x->Le c (t2 x)) (l3:∀ {c x},d3 c=some x->Le c (t3 x)) (l4:∀ {c x},d4 c=some x->Le c (t4 x)) (l5:∀ {c x},d5 c=some x->Le c (t5 x)):aA P k ⟨[],pure,fn6 d0 d1 d2 d3 d4 d5 f,false⟩:=by
 refine ⟨fun cs r hr=>?_,fun h=>by cases h⟩;simp only [fn6] at hr;split at hr
 ·simp only [ck] at hr;obtain ⟨q0,h0,q1,h1,q2,h2,q3,h3,q4,h4,q5,h5,hr⟩:=hr;exact (h q0 q1 q2 q3 q4 q5 r hr).args (LeL.cons (l0 h0) (LeL.cons (l1 h1) (LeL.cons (l2 h2) (LeL.cons (l3 h3) (LeL.cons (l4 h4) (LeL.cons (l5 h5) (LeL.nil)))))))
 ·cases hr
attribute [go_sem] fn1 fn2 fn3 fn4 fn6
end Go.Abs
namespace Go.Abs
def GS (n:Nat):C->C
 | .sl true _ _ (some 1) [_]=>.pref n [] 0 0
 | .sl true none _ none rows=>.pal n [] 0 rows.length none
 | _=>.dead
def zM:List Nat->List C->List C
 | n::ns,c::cs=>GS n c::zM ns cs
 | _,cs=>cs
def Ws (E:Env) (vs:List ResultVar) (k:Nat) (r:C) (ls:List C):Exit->St->Prop:=fun e s=>(e=.ret∨e=.normal)/\∃ s',aX s s'/\∃ cs rs,wD E s' vs=some cs/\eY cs=some rs/\Le (mL rs) r ∧
 ∀ (i:Nat) (c:C),ls[i]?=some c->s'.tmps[i]?=some (GS i c)/\s'.roots i=c
section
variable {X:Ctx} {m:Nat->aq->Value} {st:St} {a:Act} {w:World} {P:Program}
def UM {k:Nat} {cs:List C} {us:List Value} {S:Nat->Prop} {n:Nat} (hl:us.length=cs.length) (hn:cs.length<=n) (hone:∀ (i:Nat) (c:C),cs[i]?=some c->i < k->∃ x,dC c=some x)
  (hp:∀ (i:Nat) (c:C),cs[i]?=some c->k<=i->∃ u d,us[i]?=some u/\rel w (fun b=>S b/\¬ aG (Rl k cs) m b) L0 dm false d [] c u)
  (hr:∀ (i:Nat) (c:C),cs[i]?=some c->i < k->∃ u d,us[i]?=some u/\Hd c u (m i [])/\rel w (fun b=>S b/\¬ aG (Rl k cs) m b) L0 (m i) true d [] c (m i []))
  (hinj:Inj (Rl k cs) m) (f:Nat->C) (hf:∀ t,f t=if t < k/\t < cs.length then GS t ((cs[t]?).getD .dead) else (cs[t]?).getD .dead) :
  ar (Ba w S (aG (Rl k cs) m)) m ⟨tab n f,Rl k cs⟩ { tmps:=us.toArray++Array.replicate (n - us.toArray.size) undef,defers:=[] } w:=by
 have hS:∀ b,b < w.heap.size->(S b/\¬ aG (Rl k cs) m b)->Ctx.S (Ba w S (aG (Rl k cs) m)) (Rl k cs) m b/\w.heap[b]?=w.heap[b]?:=fun b _ hb=>⟨⟨.inl (.inl hb.1),hb.2⟩,rfl⟩;refine ⟨?_,?_,?_,hinj,?_,⟨rfl,rfl,rfl,cr _,cr _,fun _ _ _=>rfl⟩,rfl⟩
 ·simp only [mO,acJ,nO,ad6]; omega
 ·intro t c ht;rw [gm] at ht;split at ht
  case isFalse=>cases ht
  rename_i htn;simp only [cb] at ht;subst ht;rw [hf];by_cases hlt:t < cs.length
  ·have hc:cs[t]?=some cs[t]:=cq hlt;have hu:∀ u,us[t]?=some u->(us.toArray++Array.replicate (n - us.toArray.size) undef)[t]?=some u:=by
    intro u e1;rw [xg (by simp; omega)]; simpa using e1
   by_cases hk:t < k
   ·rw [if_pos ⟨hk,hlt⟩];obtain ⟨u,d,e1,e2,e3⟩:=hr t _ hc hk;obtain ⟨⟨es,x⟩,g2⟩:=hone t _ hc hk;simp only [Hd,g2] at e2;obtain ⟨nl,cap,rows,g3,g4⟩:=yg g2;rcases g4 with ⟨rfl,rfl,row,rfl⟩|⟨rfl,rfl,rfl⟩
    ·obtain ⟨b,off,rfl,e4⟩:=e2;refine ⟨_,1,hu _ e1,?_⟩;rw [hc,nk,g3];refine ⟨nl,es,some 1,[row],b,off,1,?_,e4,by simp⟩;simp [C.at,Rl,hk,hc,g3]
    ·rw [g3] at e3;obtain ⟨a1,k1,D,q1,q2,q3,q4,q5,q6,q7,q8⟩:=eb e3;refine ⟨u,1,hu _ e1,?_⟩;rw [hc,nk,g3];have hat:(Rl k cs t).at []=some (.sl true none es none rows):=by simp [C.at,Rl,hk,hc,g3]
     rcases e2 with e2|⟨a,a',e2,e4⟩
     ·refine ⟨none,es,none,rows,a1,k1,a1,k1,hat,q2,by omega,by rw [e2,q2],q3,by omega,(fun c h=>by cases h),fun _=>by omega,?_⟩;rcases q8 with q8|⟨b,off,_,_,q8,_⟩
      ·exact .inl q8
      ·exact .inr ⟨b,off,q8,by simpa using q8⟩
     ·rw [e4] at q2;simp only [Value.slice.injEq] at q2;obtain ⟨q9,q10,q11⟩:=q2;refine ⟨none,es,none,rows,a',0,a,0,hat,by rw [e4,q10],by omega,by rw [e2,q10],by omega,by omega,(fun c h=>by cases h),fun _=>rfl,.inl rfl⟩
   ·rw [if_neg (fun h=>hk h.1),hc];obtain ⟨u,d,e1,e2⟩:=hp t _ hc (by omega);exact ⟨u,d,hu u e1,av hS d (fun _ _ _ h=>h.elim) (fun h=>by simp at h) (fun h=>by simp at h) e2⟩
  ·rw [if_neg (fun h=>hlt h.2),aeb (by omega)];refine ⟨undef,1,?_,trivial⟩;rw [acH (by simp; omega)];simp only [nO,ac7];rw [if_pos (by omega)]
 ·intro i;by_cases hk:i < k
  ·cases hc:cs[i]? with
   | none=>exact ⟨undef,1,by simp only [Rl,hk,if_true,hc]; trivial⟩
   | some c=>
    obtain ⟨u,d,e1,e2,e3⟩:=hr i c hc hk;refine ⟨m i [],d,?_⟩;have eR:Rl k cs i=c:=by simp [Rl,hk,hc]
    show rel w (Ctx.S (Ba w S (aG (Rl k cs) m)) (Rl k cs) m) L0 (m i) true d [] (Rl k cs i) (m i []);rw [eR];exact av (m:=m i) (m':=m i) (p:=[]) (p':=[]) hS d (fun _ _ _ h=>h) (fun _ _ _ _ _ _=>rfl) (fun _ _ _=>rfl) e3
  ·exact ⟨undef,1,by simp only [Rl,hk,if_false]; trivial⟩
 ·intro i p b ho hb;exact .inr ⟨i,p,ho,hb⟩
def Yu (k:Nat):∀ (cs:List C),k<=cs.length->∀ j,AE (List.range' j k) cs RZ=fun n=>if j<=n/\n < j+k then (cs[n - j]?).getD .dead else .dead:=by
 induction k with
 | zero=>intro cs _ j; funext n; rw [if_neg (by omega)]; cases cs<;>rfl
 | succ k ih=>
  intro cs hk j;cases cs with
  | nil=>simp at hk
  | cons c cs=>
   simp only [cG] at hk;simp only [acx,AE];rw [ih cs (by omega) (j+1)]
   funext n
   by_cases e:n=j
   ·subst e; simp [upd]
   ·simp only [upd,e,if_false];by_cases h:j+1<=n/\n < j+1+k
    ·rw [if_pos h,if_pos (by omega),show n - j=(n - (j+1))+1 by omega,nn]
    ·rw [if_neg h,if_neg (by omega)]
def IF (k:Nat):∀ (cs:List C),k<=cs.length->∀ j t,(zM (List.range' j k) cs)[t]?=if t < k then some (GS (j+t) ((cs[t]?).getD .dead)) else cs[t]?:=by
 induction k with
 | zero=>intro cs _ j t; simp [zM]
 | succ k ih=>
  intro cs hk j t;cases cs with
  | nil=>simp at hk
  | cons c cs=>
   simp only [cG] at hk;simp only [acx,zM];cases t with
   | zero=>simp
   | succ t=>
    rw [nn,ih cs (by omega) (j+1) t];by_cases h:t < k
    ·rw [if_pos h,if_pos (by omega),show j+1+t=j+(t+1) by omega,nn]
    ·rw [if_neg h,if_neg (by omega),nn]
def Pp (k:Nat) (cs:List C) (h:k<=cs.length) (j:Nat):(zM (List.range' j k) cs).length=cs.length:=by
 apply Nat.le_antisymm
 ·apply xT.1;rw [IF k cs h,if_neg (by omega)]; simp
 ·apply Nat.le_of_not_lt;intro hlt;have h1:(zM (List.range' j k) cs)[(zM (List.range' j k) cs).length]?=none:=by simp
  rw [IF k cs h] at h1;split at h1
  ·cases h1
  ·rw [cq hlt] at h1; cases h1
def W0 {f:FuncId} {fn:Func} {body:Code} (hf:P.funcs[f]?=some fn) (hb:fn.body=some body) (hname:(fn.name == "runtime.NumGoroutine") = false) (hok : jO body = true) (k : Nat) (hkeep : kH (List.range' 0 k) body = true)
  {G:Nat->Nat->Option FnS} (hG:∀ d f fs,G d f=some fs->aA P f fs) {L:Nat->Nat->Option FnL} (hL:∀ d f fl,L d f=some fl->wJ P f fl) (F:List (Nat × Bool)) (hmix:P.follows .mixedOrders=true) {cs ls:List C} {r:C} (hn:cs.length<=fn.ntmps) (hk:k<=cs.length)
  (hone:∀ (i:Nat) (c:C),cs[i]?=some c->i < k->∃ x,dC c=some x) (hls:ls.map dC=(cs.take k).map dC)
  (hW:Wk (EE P G F L) body (ap (EE P G F L) (Ws (EE P G F L) fn.results.toList k r ls) []) ⟨tab fn.ntmps (BR au 0 (zM (List.range' 0 k) cs)),AE (List.range' 0 k) cs RZ⟩):mv P f k cs r ls:=by
 intro w S m us hl hp hr hinj;left;have hname':¬ fn.name = "runtime.NumGoroutine" := by simpa using hname
 refine ⟨by simp [callFunc,hf,hname',hb],?_⟩;have eR:AE (List.range' 0 k) cs RZ=Rl k cs:=by
  rw [Yu k cs hk 0]
  funext n
  unfold Rl;by_cases h:n < k
  ·rw [if_pos (by omega),if_pos h]; simp
  ·rw [if_neg (by omega),if_neg h]
 rw [eR] at hW;have H:=UM (n:=fn.ntmps) hl hn hone hp hr hinj (BR au 0 (zM (List.range' 0 k) cs)) (by
  intro t;rw [NG,Pp k cs hk 0];by_cases h:t < cs.length
  ·rw [if_pos ⟨by omega,by omega⟩,IF k cs hk 0];simp only [cU,cV,h,and_true];split
   ·rename_i h1; simp
   ·rename_i h1; rfl
  ·rw [if_neg (by omega),if_neg (by omega),aeb (by omega)]; rfl)
 have hGO:GOk P (EE P G F L):=⟨fun d f fs h=>hG d f fs h,fun d f fl h=>hL d f fl h⟩;have hTO:TOk P (EE P G F L):=fun t ti h=>yW P G t ti h;refine calls_of_wp hf hb (wp_mono (hW P hTO hGO hmix hok _ _ _ ⟨m,H⟩ (List.range' 0 k) hkeep) ?_);rintro e a' w' ⟨⟨s,⟨he,s',hwk,cs',rs,hres,hpl,hle,hend⟩,H1⟩,hsm⟩;have hsm':tv (List.range' 0 k) { tmps:=us.toArray++Array.replicate (fn.ntmps - us.toArray.size) undef,defers:=[] } a':=hsm.resolve_left (by rcases he with rfl|rfl<;>simp)
 obtain ⟨m',H'⟩:=hwk _ _ _ H1;obtain ⟨us',f1,f2,f3⟩:=Jh hTO H' hres;obtain ⟨⟨D,hrel⟩,hno⟩:=Mh hTO H' f2 f3 hpl;have hlsl:ls.length=k:=by have:=congrArg List.length hls; simpa [hk] using this
 have hRl:∀ i p,ak (Rl k ls i) p->∃ c,ls[i]?=some c/\i < k/\s'.roots i=c/\ak (s'.roots i) p:=by
  intro i p ho;unfold Rl at ho;split at ho
  ·rename_i hi;have hc:ls[i]?=some ls[i]:=cq (by omega);rw [hc] at ho;obtain ⟨_,e2⟩:=hend i _ hc;exact ⟨_,hc,hi,e2,by rw [e2]; exact ho⟩
  ·exact (aM ho).elim
 have hOw:∀ b,aG (Rl k ls) m' b->aG s'.roots m' b:=by
  rintro b ⟨i,p,ho,hb⟩;obtain ⟨c,_,_,_,h2⟩:=hRl i p ho;exact ⟨i,p,h2,hb⟩
 have hS:∀ b,b < w'.heap.size->Ctx.S (Ba w S (aG (Rl k cs) m)) s'.roots m' b->((S b∨aG (Rl k cs) m b∨w.heap.size<=b)/\¬ aG (Rl k ls) m' b)/\w'.heap[b]?=w'.heap[b]?:=by
  intro b _ hs;refine ⟨⟨?_,fun h=>hs.2 (hOw b h)⟩,rfl⟩;rcases hs.1 with h|h
  ·rcases h with h|h
   ·exact .inl h
   ·exact .inr (.inl h)
  ·exact .inr (.inr h)
 have hkey:∀ (i:Nat) (c:C),ls[i]?=some c->(m' i []=m i [])∨(∃ a a2 es,m i []=.slice a 0 0/\m' i []=.slice a2 0 0/\c=.sl true none es none []):=by
  intro i c hc;have hi:i < k:=by have:=(cd.1 hc).1; omega
  obtain ⟨e1,e2⟩:=hend i _ hc;have hci:cs[i]?=some cs[i]:=cq (by omega);obtain ⟨u,d0,g1,g2,g3⟩:=hr i _ hci hi;obtain ⟨⟨es,y⟩,q1⟩:=hone i _ hci hi;have q2:dC c=some (es,y):=by
   have:=congrArg (fun l=>l[i]?) hls;simp only [cv,hc,cx,xk hi,hci,cb] at this;rw [this,q1]
  simp only [Hd,q1] at g2;obtain ⟨uv,dv,k1,k2⟩:=H'.tmp i _ e1;have hs2:=hsm' i (by simp only [ac9]; omega);rw [k1,xg (by simp; omega)] at hs2;simp only [acX,g1,cb] at hs2;subst hs2;obtain ⟨nl,cap,rows,y1,y2⟩:=yg q2;rcases y2 with ⟨rfl,rfl,row,rfl⟩|⟨rfl,rfl,rfl⟩
  ·left;obtain ⟨b0,off0,rfl,g4⟩:=g2;rw [y1] at k2;obtain ⟨nl',es',cap',rows',b',off',kk,p1,p2,p3⟩:=lN ⟨dv,k2⟩;simp only [Value.pointer.injEq,cb,Addr.mk.injEq,acI,n9,and_true] at p3;obtain ⟨rfl,rfl⟩:=p3;obtain ⟨u0,dd,hr0⟩:=H'.root i;rw [e2,y1] at hr0;obtain ⟨a1,k2',D2,z1,z2,z3,z4,z5,_⟩:=eb hr0;have hk1:k2'=1:=z5 1 rfl;have p1':(s'.roots i).at []=some (.sl true nl' es' cap' rows'):=p1;rw [e2,y1] at p1';simp only [C.at,cb,C.sl.injEq,true_and] at p1';obtain ⟨rfl,rfl,rfl,rfl⟩:=p1';rw [p2] at z2;simp only [Value.slice.injEq] at z2;rw [p2,g4,z2.2.2,hk1]; rfl
  ·rw [y1] at k2;obtain ⟨nl',es',cap',rows',a,kk,a',k',f1,f2,f3,f4,f5,f6,f7,f8,f9⟩:=en ⟨dv,k2⟩;have f1':(s'.roots i).at []=some (.sl true nl' es' cap' rows'):=f1;rw [e2,y1] at f1';simp only [C.at,cb,C.sl.injEq,true_and] at f1';obtain ⟨rfl,rfl,rfl,rfl⟩:=f1';have hkk:=f8 rfl;rcases f9 with f9|⟨b,off,w1,w2⟩
   ·right;have hrl:rows=[]:=cQ (by omega);subst hrl;have hkk0:kk=0:=by omega
    rw [f9] at f4;rw [hkk0] at f2;rcases g2 with g2|⟨z,z',g2,g4⟩
    ·exact ⟨a',a,es,by rw [<-g2,f4]; rfl,f2,y1⟩
    ·exact ⟨z',a,es,g4,f2,y1⟩
   ·rcases g2 with g2|⟨z,z',g2,g4⟩
    ·left;rw [<-g2,f2,f4,w1,w2,show k'=kk by omega]; simp
    ·right;rw [f4] at g2;simp only [Value.slice.injEq] at g2;obtain ⟨_,g5,g6⟩:=g2;have hrl:rows=[]:=cQ g5;subst hrl;have hkk0:kk=0:=by omega
     rw [hkk0] at f2;exact ⟨z',a,es,g4,f2,y1⟩
 have hin:∀ i,i < k->∃ c,ls[i]?=some c:=fun i hi=>⟨_,cq (by omega)⟩;obtain ⟨mk,hmk⟩:∃ mk:Nat->aq->Value,mk=fun i p=>if p=[]/\i < k then m i [] else m' i p:=⟨_,rfl⟩
 have hblk:∀ i p,blk (mk i p)=blk (m' i p):=by
  intro i p;rw [hmk];simp only;split
  ·rename_i hp;obtain ⟨rfl,hi⟩:=hp;obtain ⟨c,hc⟩:=hin i hi;rcases hkey i c hc with h|⟨a,a2,es,h1,h2,_⟩
   ·rw [h]
   ·rw [h1,h2]; cases a<;>cases a2<;>rfl
  ·rfl
 have hOwn:aG (Rl k ls) mk=aG (Rl k ls) m':=by
  funext b
  apply propext;constructor
  ·rintro ⟨i,p,ho,hb⟩; exact ⟨i,p,ho,by rw [<-hblk]; exact hb⟩
  ·rintro ⟨i,p,ho,hb⟩; exact ⟨i,p,ho,by rw [hblk]; exact hb⟩
 have post:a'.defers=[]/\∃ v,(results fn a'.tmps).run P w'=.ok v w'/\∃ u,Ending.returned v=.returned u/\∃ mk:Nat->aq->Value,
   (∃ d,rel w' (fun b=>(S b∨aG (Rl k cs) m b∨w.heap.size<=b)/\¬ aG (Rl k ls) mk b) L0 dm false d [] r u) ∧
   (∀ (i:Nat) (c:C),ls[i]?=some c->mk i []=m i []/\∃ uu d,rel w' (fun b=>(S b∨aG (Rl k cs) m b∨w.heap.size<=b)/\¬ aG (Rl k ls) mk b) L0 (mk i) true d [] c uu) ∧
   Inj (Rl k ls) mk/\(∀ b,aG (Rl k ls) mk b->w.heap.size<=b∨aG (Rl k cs) m b)/\FrK w (aG (Rl k cs) m) w':=by
  refine ⟨H'.df,_,AW f1,_,rfl,mk,?_,?_,?_,?_,⟨H'.fr.os,H'.fr.tape,H'.fr.output,H'.fr.drawn,H'.fr.size,H'.fr.block⟩⟩
  ·have h1:=qq (S':=Ctx.S (Ba w S (aG (Rl k cs) m)) s'.roots m') (m':=dm) (p':=[]) (fun b h=>h) D (fun _ q b ho=>(hno q ho).elim) hrel;have h2:=hle _ _ _ dm _ [] _ _ h1;rw [hOwn];exact ⟨D,av hS D (fun _ _ _ h=>h) (fun h=>by simp at h) (fun h=>by simp at h) h2⟩
  ·intro i c hc;have hi:i < k:=by have:=(cd.1 hc).1; omega
   have hm0:mk i []=m i []:=by rw [hmk]; simp [hi]
   refine ⟨hm0,?_⟩;rw [hOwn];obtain ⟨e1,e2⟩:=hend i c hc;rcases hkey i c hc with h|⟨a,a2,es,h1,h2,h3⟩
   ·have hmi:mk i=m' i:=by
     funext p
     by_cases hp:p=[]
     ·subst hp; rw [hm0,h]
     ·rw [hmk]; simp [hp]
    obtain ⟨u0,dd,hr0⟩:=H'.root i;rw [e2] at hr0;rw [hmi];exact ⟨u0,dd,av hS dd (fun _ _ _ h=>h) (fun _ _ _ _ _ _=>rfl) (fun _ _ _=>rfl) hr0⟩
   ·rw [h3];exact ⟨_,1,mQ (a:=a) (k:=0) (by rw [hm0,h1]; rfl) (by simp) (by simp) (fun c h=>by cases h) ⟨(fun b h=>by cases h),fun _=>rfl⟩ (by simp) (.inl rfl)⟩
  ·intro i p i' p' b h1 h2 h3 h4;rw [hblk] at h3 h4;obtain ⟨_,_,_,_,g1⟩:=hRl i p h1;obtain ⟨_,_,_,_,g2⟩:=hRl i' p' h2;exact H'.inj _ _ _ _ b g1 g2 h3 h4
  ·intro b hb0;rw [hOwn] at hb0;obtain ⟨i,p,ho,hb⟩:=hb0;obtain ⟨_,_,_,_,g1⟩:=hRl i p ho;exact H'.own i p b g1 hb
 rcases he with rfl|rfl
 ·exact post
 ·exact post
structure uO (c c':C):Prop where
 ex:∃ es cap rows rows',c=.sl true none es cap rows/\c'=.sl true none es cap rows'/\dt rows rows'/\(∀ row∈rows,∀ x∈row,bU x)/\∀ row∈rows',∀ x∈row,bU x
def uO.own {c c':C} (h:uO c c') (q:aq):(ak c q↔q=[])/\(ak c' q↔q=[]):=by
 obtain ⟨es,cap,row,row',rfl,rfl,_,h1,h2⟩:=h.ex;have key:∀ (r:List (List C)),(∀ row∈r,∀ x∈row,bU x)->(ak (.sl true none es cap r) q↔q=[]):=by
  intro r hr;constructor
  ·intro ho; exact m8 (rows:=r) hr ho
  ·rintro rfl; rfl
 exact ⟨key row h1,key row' h2⟩
def UT {nl nl':Option Bool} {es:Nat} {cap:Option Nat} {rows rows':List (List C)} (h:rows.length=rows'.length) (hn:nl=nl'):dC (.sl true nl es cap rows)=dC (.sl true nl' es cap rows'):=by
 subst hn;cases cap with
 | none=>cases nl<;>simp [dC,h]
 | some n=>
  match rows,rows',h with
  | [],[],_=>rfl
  | [a],[b],_=>by_cases hn:n=1<;>simp [dC,hn]
  | a::b::r,a'::b'::r',_=>simp [dC]
theorem uO.one {c c':C} (h:uO c c'):dC c=dC c':=by
 obtain ⟨es,cap,row,row',rfl,rfl,hl,_⟩:=h.ex;exact UT hl.len.symm rfl
def uO.hd {c c':C} (h:uO c c') {u v:Value} (hd:Hd c u v):Hd c' u v:=by
 unfold Hd at hd ⊢; rw [<-h.one]; exact hd
def uO.rel {c c':C} (h:uO c c') {w:World} {S:Nat->Prop} {m:aq->Value} {d:Nat} {u:Value} (hr:Go.Abs.rel w S L0 m true d [] c u):Go.Abs.rel w S L0 m true (d+1) [] c' u:=by
 obtain ⟨es,cap,row,row',rfl,rfl,hle,h1,h2⟩:=h.ex;refine QJ (fun b h=>h) hle h2 ?_ hr;intro i j q b ho;have:=m8 (rows:=row) h1 ho;cases this
def mv.told {f:FuncId} {k:Nat} {cs cs' rest rest':List C} {r:C} {ls:List C} (h1:cs.length=k) (h2:cs'.length=k) (hv:∀ (i:Nat) (c c':C),cs[i]?=some c->cs'[i]?=some c'->uO c c') (hr:LeL rest rest') (h:mv P f k (cs'++rest') r ls):mv P f k (cs++rest) r ls:=by
 have eO:∀ m:Nat->aq->Value,aG (Rl k (cs++rest)) m=aG (Rl k (cs'++rest')) m:=by
  intro m;have key:∀ i q,ak (Rl k (cs++rest) i) q↔ak (Rl k (cs'++rest') i) q:=by
   intro i q;unfold Rl;by_cases hi:i < k
   ·rw [if_pos hi,if_pos hi,cJ (by omega),cJ (by omega),cq (by omega),cq (by omega)];have:=(hv i cs[i] cs'[i] (cq (by omega)) (cq (by omega))).own q;simp only [nk];rw [this.1,this.2]
   ·rw [if_neg hi,if_neg hi]
  funext b
  apply propext;constructor
  ·rintro ⟨i,q,ho,hb⟩; exact ⟨i,q,(key i q).1 ho,hb⟩
  ·rintro ⟨i,q,ho,hb⟩; exact ⟨i,q,(key i q).2 ho,hb⟩
 intro w S m us hl hp hrr hinj;rw [eO m] at *;refine h w S m us (by rw [hl]; simp [h1,h2,hr.len]) ?_ ?_ ?_
 ·intro i c' hi hk;rw [cL (by omega),h2] at hi;have hlt:=(cd.1 hi).1;rw [hr.len] at hlt;have hi0:(cs++rest)[i]?=some rest[i - k]:=by rw [cL (by omega),h1,cq hlt]
  obtain ⟨u,d,e1,e2⟩:=hp i _ hi0 hk;exact ⟨u,d,e1,hr.get (i - k) _ c' (cq hlt) hi _ _ _ dm _ [] _ _ e2⟩
 ·intro i c' hi hk;rw [cJ (by omega)] at hi;have hi0:cs[i]?=some cs[i]:=cq (by omega);obtain ⟨u,d,e1,e2,e3⟩:=hrr i cs[i] (by rw [cJ (by omega)]; exact hi0) hk;exact ⟨u,d+1,e1,(hv i _ _ hi0 hi).hd e2,(hv i _ _ hi0 hi).rel e3⟩
 ·intro i q i' q' b ho ho' hb hb';have key:∀ i q,ak (Rl k (cs'++rest') i) q->ak (Rl k (cs++rest) i) q:=by
   intro i q ho;unfold Rl at ho ⊢;by_cases hi:i < k
   ·rw [if_pos hi] at ho ⊢;rw [cJ (by omega),cq (by omega)] at ho ⊢;have:=(hv i cs[i] cs'[i] (cq (by omega)) (cq (by omega))).own q;simp only [nk] at ho ⊢;rw [this.1]; exact this.2.1 ho
   ·rw [if_neg hi] at ho; exact (aM ho).elim
  exact hinj i q i' q' b (key i q ho) (key i' q' ho') hb hb'
def C4 {α:Type} (es:Nat) (d:List C->Option α):C->Option (List α)
 | .sl true none es' none rows=>if es'=es/\rows.all (fun r=>r.all Abs.plainCell)=true then bT d rows else none
 | _=>none
def yT {α:Type} {es:Nat} {d:List C->Option α} {row:α->List C} (hrow:aF row) (hle:∀ r x,d r=some x->LeL r (row x)) {c:C} {l:List α} (h:C4 es d c=some l):uO c (.sl true none es none (l.map row)):=by
 unfold C4 at h;split at h
 ·rename_i es' rows;split at h
  ·rename_i hc;obtain ⟨rfl,hall⟩:=hc;refine ⟨⟨_,_,rows,l.map row,rfl,rfl,GU hle h,?_,?_⟩⟩
   ·intro r0 hr0 c hc; exact zZ (cn.1 (cn.1 hall r0 hr0) c hc)
   ·exact hrow.noOwn l
  ·cases h
 ·cases h
attribute [go_sem] C4 zM GS
def Tk (s:St) (j:Nat) (ls:List C):Prop:=∀ (i:Nat) (c:C),ls[i]?=some c->s.tmps[j+i]?=some (GS (j+i) c)/\s.roots (j+i)=c
def EY {s:St} {j:Nat}:Tk s j []:=by intro i c h; simp at h
def CJ {s:St} {j:Nat} {c:C} {ls:List C} (h1:s.tmps[j]?=some (GS j c)) (h2:s.roots j=c) (h:Tk s (j+1) ls):Tk s j (c::ls):=by
 intro i c' hi;cases i with
 | zero=>simp only [cu,cb] at hi; subst hi; exact ⟨h1,h2⟩
 | succ i=>
  have:=h i c' (by simpa using hi);rw [show j+(i+1)=j+1+i by omega]; exact this
def CI {E:Env} {vs:List ResultVar} {k:Nat} {r:C} {ls:List C} {e:Exit} {s:St} (he:e=.ret∨e=.normal) {s':St} (hw:aX s s') {cs rs:List C} (h1:wD E s' vs=some cs) (h2:eY cs=some rs) (h3:Le (mL rs) r) (h4:Tk s' 0 ls):Ws E vs k r ls e s:=
 ⟨he,s',hw,cs,rs,h1,h2,h3,fun i c hi=>by have:=h4 i c hi; simpa using this⟩
def Bm:∀ (i:Nat) (c c':C),([]:List C)[i]?=some c->([]:List C)[i]?=some c'->uO c c':=by intro i c c' h; simp at h
def y7 {a a':C} {as as':List C} (h:uO a a') (t:∀ (i:Nat) (c c':C),as[i]?=some c->as'[i]?=some c'->uO c c'):∀ (i:Nat) (c c':C),(a::as)[i]?=some c->(a'::as')[i]?=some c'->uO c c':=by
 intro i c c' h1 h2;cases i with
 | zero=>simp only [cu,cb] at h1 h2; subst h1; subst h2; exact h
 | succ i=>exact t i c c' (by simpa using h1) (by simpa using h2)
def zb {f:FuncId} {fn:Func} {body:Code} (hf:P.funcs[f]?=some fn) (hb:fn.body=some body) (hname:(fn.name == "runtime.NumGoroutine") = false) (hok : jO body = true) (k : Nat) (hkeep : kH (List.range' 0 k) body = true)
  {G:Nat->Nat->Option FnS} (hG:∀ d f fs,G d f=some fs->aA P f fs) {L:Nat->Nat->Option FnL} (hL:∀ d f fl,L d f=some fl->wJ P f fl) (F:List (Nat × Bool)) (hmix:P.follows .mixedOrders=true) {cs ls:List C} {r:C} (hn:cs.length<=fn.ntmps) (hk:k<=cs.length)
  (hone:(cs.take k).all (fun c=>(dC c).isSome)=true) (hls:ls.map dC=(cs.take k).map dC)
  (hW:Wk (EE P G F L) body (ap (EE P G F L) (Ws (EE P G F L) fn.results.toList k r ls) []) ⟨tab fn.ntmps (BR au 0 (zM (List.range' 0 k) cs)),AE (List.range' 0 k) cs RZ⟩):mv P f k cs r ls:=
 W0 hf hb hname hok k hkeep hG hL F hmix hn hk (by
  intro i c hc hi;have:c∈cs.take k:=cg (by rw [xk hi]; exact hc);exact acF.1 (cn.1 hone c this)) hls hW
attribute [go_sem] List.range'
def S7 (n es:Nat) (rows:List (List C)):C->C
 | .pref n' [] i j=>if n'=n then .iref es rows i j else .pref n' [] i j
 | c=>poi (fun n' _=>n' == n) c
def Nw (n es:Nat) (rows:List (List C)) (f:Nat->C):Nat->C:=fun t=>S7 n es rows (f t)
theorem NQ (n es:Nat) (rows:List (List C)) (f:Nat->C) (d:Nat) (c:C):Nw n es rows (af f d c)=af (Nw n es rows f) d (S7 n es rows c):=by
 funext t
 simp only [Nw,af];split<;>rfl
theorem Lq (n es:Nat) (rows:List (List C)):Nw n es rows au=au:=rfl
theorem Wp {k n:Nat} {f f':Nat->C} {R:Nat->C} {nl:Option Bool} {es:Nat} {cap:Option Nat} {rows:List (List C)} (hR:R n=.sl true nl es cap rows) (hne:(rows.length == 0)=false) (hf:Nw n es rows f=f') :
  aX ⟨tab k f,R⟩ ⟨tab k f',upd R n .dead⟩:=by
 rintro X a w ⟨m,H⟩;subst hf;have H1:=H.drop n;refine ⟨m,⟨by rw [H.len]; simp [mO],?_,H1.root,H1.inj,H1.own,H1.fr,H1.df⟩⟩;intro t c hc;rw [gm] at hc;split at hc
 case isFalse=>simp at hc
 rename_i hlt;simp only [cb] at hc;subst hc;have hd:∀ c',c'=poi (fun n' _=>n' == n) (f t)->∃ u d,a.tmps[t]?=some u/\rel w (X.S (upd R n .dead) m) (Lv (upd R n .dead) m) dm false d [] c' u:=by
  intro c' e;exact H1.tmp t c' (by simp only [St.drop,cv,gm,hlt,if_true,cx]; rw [e])
 unfold Nw S7;split
 ·rename_i n' i j hft;split
  ·rename_i e;subst e;obtain ⟨u,d,h1,h2⟩:=H.tmp t (f t) (by simp only [gm,hlt,if_true]);rw [hft] at h2;have hs:lS ⟨tab k f,R⟩ (.pref n' [] i j)=some (.iref es rows i j):=by
    simp only [lS,St.node,hR,C.at];rw [if_neg (by simpa using hne)]
   obtain ⟨d',hr⟩:=vj (N:=fun q=>q=n') H ⟨d,h2⟩ (by
    intro dd v q p ho hp;cases dd with
    | zero=>exact ho.elim
    | succ dd=>
     have:v=.pref n' [] i j:=ho;subst this;simp only [C.place,cb,cz] at hp;exact hp.1.symm) hs
   refine ⟨u,d',h1,av (fun b _ hb=>⟨?_,rfl⟩) d' (fun _ _ _ h=>h.elim) (fun h=>by simp at h) (fun h=>by simp at h) hr⟩;rcases hb with hb|⟨_,q,p,rfl,ho,hb⟩
   ·exact Vt hb
   ·exact H.loose ho hb
  ·rename_i e;refine hd _ ?_;rw [hft];simp [poi,C.ment,e]
 ·exact hd _ rfl
attribute [go_sem] S7 NQ Lq
def WX (n es:Nat) (rows:List (List C)):C->C
 | .pal n' [] lo len cap=>if n'=n then .sl false none es cap ((rows.drop lo).take len) else .pal n' [] lo len cap
 | c=>poi (fun n' _=>n' == n) c
def Ub (n es:Nat) (rows:List (List C)) (f:Nat->C):Nat->C:=fun t=>WX n es rows (f t)
theorem Uy (n es:Nat) (rows:List (List C)) (f:Nat->C) (d:Nat) (c:C):Ub n es rows (af f d c)=af (Ub n es rows f) d (WX n es rows c):=by
 funext t
 simp only [Ub,af];split<;>rfl
theorem Ua (n es:Nat) (rows:List (List C)):Ub n es rows au=au:=rfl
attribute [go_sem] WX Uy Ua
def Og {n:Nat} {f f':Nat->C} {R R':Nat->C} (t s:Nat) (p:aq) (d:Nat) {nl:Option Bool} {es:Nat} {cap:Option Nat} {rows:List (List C)} {len:Nat} (htn:t < n) (hne:d≠s) (hd:R d=.dead) (hs:(R s).at p=some (.sl true nl es cap rows))
  (ht:f t=.pal s p 0 len none) (hlen:len=rows.length) (hf:af (uF (fun k q=>k == s && kE p q) f) t (.pal d [] 0 len none)=f') (hr:upd (upd R s ((R s).turn (fun _=>.dead) p)) d (.sl true none es none rows)=R') :
  aX ⟨tab n f,R⟩ ⟨tab n f',R'⟩:=by
 subst hf hr;rintro X a w ⟨m,H⟩;obtain ⟨u,dd,h1,h2⟩:=H.tmp t (f t) (by simp only [gm,htn,if_true]);rw [ht] at h2;have hv:Lv R m (.pal s p 0 len none) u:=en ⟨dd,h2⟩;obtain ⟨M1,M2,M3⟩:=H.move (h:=d) (n:=s) (p:=p) hd hne hs hv;have e1:(St.move ⟨tab n f,R⟩ s p 0 len none d es rows)=⟨tab n (uF (fun k q=>k == s && kE p q) f),upd (upd R s ((R s).turn (fun _=>.dead) p)) d (.sl true none es none rows)⟩:=by
  simp only [St.move,CK,hlen,nU,xz]
 rw [e1] at M1 M2;refine ⟨_,⟨by rw [H.len]; simp [mO],?_,M1.root,M1.inj,M1.own,M1.fr,M1.df⟩⟩;intro t' c hc;rw [gm] at hc;split at hc
 case isFalse=>simp at hc
 rename_i hlt;simp only [cb] at hc;by_cases e:t'=t
 ·subst e;simp only [af,if_true] at hc;subst hc;refine ⟨u,1,h1,?_⟩;obtain ⟨nl',es',cap',rows',ad,k,a',k',g1,g2,g3,g4,g5,g6,g7,g8,g9⟩:=hv;rw [hs] at g1;simp only [cb,C.sl.injEq,true_and] at g1;obtain ⟨rfl,rfl,rfl,rfl⟩:=g1;simp only [rel,Lv];refine ⟨none,es,none,rows,a',k',a',k',by simp [aC,C.at],?_,by omega,g4,g5,by omega,by simp,by simp,?_⟩
  ·simp only [il,if_true]; rw [g4,hlen]
  ·rcases g9 with g9|⟨b,off,rfl,rfl⟩
   ·exact .inl g9
   ·exact .inr ⟨_,_,rfl,by simp⟩
 ·simp only [af,e,if_false] at hc;exact M1.tmp t' c (by simp only [gm,hlt,if_true,hc])
def Ap {P:Program} {f:FuncId} {fn:Func} {body:Code} (hf:P.funcs[f]?=some fn) (hb:fn.body=some body) (hname:(fn.name == "runtime.NumGoroutine") = false) (hok : jO body = true)
  {G:Nat->Nat->Option FnS} (hG:∀ d f fs,G d f=some fs->aA P f fs) {L:Nat->Nat->Option FnL} (hL:∀ d f fl,L d f=some fl->wJ P f fl) (F:List (Nat × Bool)) (hmix:P.follows .mixedOrders=true) {own:List Bool} {pure:Bool} {cs:List C} {r:C} (hn:cs.length<=fn.ntmps)
  (hW:Wk (EE P G F L) body (ap (EE P G F L) (M5 (EE P G F L) fn.results.toList pure r) []) ⟨tab fn.ntmps (gf own cs),R0 own cs⟩):Con P f own pure cs r:=by
 intro w S m us hl hr hinj;left;have hname':¬ fn.name = "runtime.NumGoroutine" := by simpa using hname
 refine ⟨by simp [callFunc,hf,hname',hb],?_⟩;have H:=Lb (n:=fn.ntmps) hl hn hr hinj;rw [vu hn] at H;have hGO:GOk P (EE P G F L):=⟨fun d f fs h=>hG d f fs h,fun d f fl h=>hL d f fl h⟩;have hTO:TOk P (EE P G F L):=fun t ti h=>yW P G t ti h;refine calls_of_wp hf hb (wp_mono (hW P hTO hGO hmix hok _ _ _ ⟨m,H⟩ [] (Io _)) ?_);rintro e a' w' ⟨⟨s,⟨he,r0,hfin,hrok,hkeep,hpure⟩,m',H'⟩,-⟩;have main:∃ u,(results fn a'.tmps).run P w'=.ok u w'/\Done (Ba w S (aG (R0 own cs) m)) w' r0 u:=by
  unfold zH at hfin;split at hfin
  case h_2=>simp at hfin
  rename_i cs' hres;obtain ⟨us',f1,f2,f3⟩:=Jh hTO H' hres;refine ⟨_,AW f1,?_⟩;split at hfin
  ·rename_i rs hpl;simp only [cb] at hfin;subst hfin;exact Db hTO H' f2 f3 hpl
  ·split at hfin
   ·rename_i s1 kp hprep;simp only [cb] at hfin;subst hfin;exact Et hTO H' f2 f3 hprep
   ·simp at hfin
 obtain ⟨u,hrun,hd⟩:=main;obtain ⟨mr,d,g1,g2,g3⟩:=hd.ex;have post:a'.defers=[]/\∃ v,(results fn a'.tmps).run P w'=.ok v w'/\∃ u,Ending.returned v=.returned u/\∃ mr d,rel w' (fun b=>((pure=false/\(S b∨aG (R0 own cs) m b))∨w.heap.size<=b)/\¬ iK r mr b) L0 mr true d [] r u ∧
   (∀ q q' b,ak r q->ak r q'->blk (mr q)=some b->blk (mr q')=some b->q=q')/\(∀ b,iK r mr b->w.heap.size<=b∨aG (R0 own cs) m b)/\FrK w (aG (R0 own cs) m) w':=by
  refine ⟨H'.df,u,hrun,u,rfl,Ro hrok hkeep ⟨mr,d,?_,g2,g3,⟨hd.fr.os,hd.fr.tape,hd.fr.output,hd.fr.drawn,hd.fr.size,hd.fr.block⟩⟩⟩;cases hp:pure with
  | true=>exact hpure hp w' _ _ mr d [] u g1
  | false=>exact av (fun b _ hs=>⟨⟨hs.1.imp (fun h=>⟨rfl,h⟩) id,hs.2⟩,rfl⟩) d (fun _ _ _ h=>h) (fun _ _ _ _ _ _=>rfl) (fun _ _ _=>rfl) g1
 rcases he with rfl|rfl
 ·exact post
 ·exact post
def tp {α:Type} (z:α) (k:Nat) (l:List α):List α:=l.take k++List.replicate (l.length - k) z
def Kx {α:Type} {z:α} {k:Nat} {l:List α} (h:k<=l.length):(tp z k l).take k=l.take k:=by
 show (l.take k++List.replicate (l.length - k) z).take k=l.take k;rw [adF (by rw [nC]; omega),List.take_take,ada]
def Np {α:Type} {z:α} {k:Nat} {l:List α} (h:k<=l.length):(tp z k l).length=l.length:=by
 show (l.take k++List.replicate (l.length - k) z).length=l.length;rw [ni,nC,xq]; omega
def PR {α:Type} {row:α->List C} {z:α} {rz:List C} {k:Nat} {l:List α} (h:k<=l.length) (hz:row z=rz):aK (l.map row) k (List.replicate (l.length - k) rz)=(tp z k l).map row:=by
 subst hz;show (l.map row).take k++List.replicate (l.length - k) (row z)++(l.map row).drop (k+(List.replicate (l.length - k) (row z)).length)=(l.take k++List.replicate (l.length - k) z).map row;rw [nt,xb,aec,aed (by simp; omega),cS]
def Zh (rz:List C) (k:Nat) (rows:List (List C)):List (List C):=rows.take k++List.replicate (rows.length - k) rz
def NH {α:Type} {row:α->List C} {rz:List C} {k:Nat} {l:List α} (h:k<=l.length):aK (l.map row) k (List.replicate (l.length - k) rz)=Zh rz k (l.map row):=by
 show (l.map row).take k++List.replicate (l.length - k) rz++(l.map row).drop (k+(List.replicate (l.length - k) rz).length)=(l.map row).take k++List.replicate ((l.map row).length - k) rz;rw [aed (by simp; omega),cS,cy]
def Fz {a b:List C} (h:LeL a b):∀ n:Nat,dt (List.replicate n a) (List.replicate n b)
 | 0=>dt.nil
 | n+1=>dt.cons h (Fz h n)
theorem Q1 {α:Type} {row:α->List C} {z:α} {rz:List C} {k:Nat} {l:List α} (h:LeL rz (row z)):wI (Zh rz k (l.map row)) ((tp z k l).map row):=⟨by
 show dt ((l.map row).take k++List.replicate ((l.map row).length - k) rz) ((l.take k++List.replicate (l.length - k) z).map row);rw [nt,xb,aec,cy];exact (dt.refl _).append (Fz h _)⟩
def E8 {α:Type} {l:List α} {lo n i:Nat} {x:α} (h:((l.drop lo).take n)[i]?=some x):l[lo+i]?=some x:=by
 rw [cW] at h;split at h
 ·rw [cX] at h; exact h
 ·cases h
def HN {α:Type} {l:List α} {lo n:Nat} {i:Int} (h:0<=i/\i < ((((l.drop lo).take n).length:Nat):Int)):i < (n:Int):=by
 have:=List.length_take_le n (l.drop lo); omega
theorem XO (g:Nat->aq->Bool) (f:Nat) (cs:List C):poi g (.clo f cs)=if (cs.any fun c=>c.ment g 2)=true then .dead else .clo f cs:=rfl
theorem Vo (g:Nat->aq->Bool) (k es:Nat) (rows:List (List C)) (i j:Nat):C.ment g (k+1) (.iref es rows i j)=false:=rfl
theorem Wj (g:Nat->aq->Bool) (k:Nat) (v:Value):C.ment g (k+1) (.val v)=false:=rfl
theorem UJ (g:Nat->aq->Bool) (k n:Nat) (p:aq) (i j:Nat):C.ment g (k+1) (.pref n p i j)=g n p:=rfl
theorem X4 (g:Nat->aq->Bool) (k:Nat) (o:Bool) (nl:Option Bool) (es:Nat) (cap:Option Nat) (rows:List (List C)):C.ment g (k+1) (.sl o nl es cap rows)=false:=rfl
attribute [go_sem] XO Vo Wj UJ X4
def IH {ρ α:Type} (p:ρ->List α) (l:List α) (o:Option ρ):Option ρ:=o.bind fun r=>if (p r).length=l.length then some r else none
def kA {ρ α:Type} {p:ρ->List α} {l:List α} {o:Option ρ} {r:ρ} (h:IH p l o=some r):o=some r/\(p r).length=l.length:=by
 unfold IH at h;obtain ⟨r',h1,h2⟩:=ck.1 h;split at h2
 ·cases h2; exact ⟨h1,by assumption⟩
 ·cases h2
end
end Go.Abs
namespace Go.Abs
section
variable {X:Ctx} {m:Nat->aq->Value} {st:St} {a:Act} {w:World} {P:Program}
def ar.nilO (H:ar X m st a w) {n:Nat} {q:aq} (es:Nat) (hq:(st.roots n).at q=some (.val (.slice none 0 0))) :
  ∃ m',ar X m' { st with roots:=upd st.roots n ((st.roots n).turn (fun _=>.sl true none es none []) q) } a w:=by
 obtain ⟨m',hm'⟩:∃ m':Nat->aq->Value,m'=fun n' p=>if n'=n/\p=q then .slice none 0 0 else m n' p:=⟨_,rfl⟩
 have M1:m' n q=.slice none 0 0:=by rw [hm']; simp
 have Mn:∀ n' p,¬ (n'=n/\p=q)->m' n' p=m n' p:=by intro n' p h; rw [hm']; simp [h]
 obtain ⟨R',hR'⟩:∃ R',R'=upd st.roots n ((st.roots n).turn (fun _=>.sl true none es none []) q):=⟨_,rfl⟩;have hown:∀ n' p b,ak (R' n') p->blk (m' n' p)=some b->ak (st.roots n') p/\blk (m n' p)=some b/\¬ (n'=n/\p=q):=by
  intro n' p b ho hb;by_cases e:n'=n
  ·subst e;rw [hR',aC] at ho;rcases ak.of_turn hq ho with ⟨r,rfl,h2⟩|⟨h1,h2⟩
   ·have:r=[]:=m8 (rows:=[]) (by simp) h2;subst this;rw [cS,M1] at hb;simp [blk] at hb
   ·have hne:¬ (n'=n'/\p=q):=fun h=>h1 [] (by simp [h.2]);rw [Mn _ _ hne] at hb;exact ⟨h2,hb,hne⟩
  ·rw [hR',aO e] at ho;have hne:¬ (n'=n/\p=q):=fun h=>e h.1;rw [Mn _ _ hne] at hb;exact ⟨ho,hb,hne⟩
 have hS:∀ b,X.S st.roots m b->X.S R' m' b:=by
  rintro b ⟨h1,h2⟩;refine ⟨h1,?_⟩;rintro ⟨n',p,ho,hb⟩;obtain ⟨g1,g2,_⟩:=hown n' p b ho hb;exact h2 ⟨n',p,g1,g2⟩
 have hnoq:∀ r,r≠[]->(st.roots n).at (q++r)=none:=by
  intro r hr;rw [C.at_append,hq];cases r with
  | nil=>exact (hr rfl).elim
  | cons x r=>rfl
 have hL:∀ v u,Lv st.roots m v u->Lv R' m' v u:=by
  intro v u hl;have key:∀ k p nl es' cap rows,(st.roots k).at p=some (.sl true nl es' cap rows)->¬ (k=n/\p=q)/\∃ rows',(R' k).at p=some (.sl true nl es' cap rows')/\rows'.length=rows.length:=by
   intro k p nl es' cap rows hk;by_cases e:k=n
   ·subst e;have hpq:∀ r,p≠q++r:=by
     rintro r rfl;by_cases hr:r=[]
     ·subst hr; rw [cS,hq] at hk; cases hk
     ·rw [hnoq r hr] at hk; cases hk
    obtain ⟨x',e1,_,e3⟩:=C.at_turn_off (fun _=>.sl true none es none []) q p (st.roots k) _ _ hq hpq hk;obtain ⟨rows',rfl,e4⟩:=e3 nl es' cap rows rfl;exact ⟨fun h=>hpq [] (by simp [h.2]),rows',by rw [hR',aC]; exact e1,e4⟩
   ·exact ⟨fun h=>e h.1,rows,by rw [hR',aO e]; exact hk,rfl⟩
  cases v with
  | pref k p i j=>
   obtain ⟨nl,es',cap,rows,b,off,kk,g1,g2,g3⟩:=hl;obtain ⟨hne,rows',g4,g5⟩:=key k p _ _ _ _ g1;exact ⟨nl,es',cap,rows',b,off,kk,g4,by rw [Mn _ _ hne,g5]; exact g2,g3⟩
  | pal k p lo len c=>
   obtain ⟨nl,es',cap,rows,a0,kk,a',k',g1,g2,g3,g4⟩:=hl;obtain ⟨hne,rows',g5,g6⟩:=key k p _ _ _ _ g1;exact ⟨nl,es',cap,rows',a0,kk,a',k',g5,by rw [Mn _ _ hne,g6]; exact g2,by rw [g6]; exact g3,g4⟩
  | _=>exact hl
 rw [<-hR'];refine ⟨m',⟨H.len,?_,?_,?_,?_,H.fr,H.df⟩⟩
 ·intro t c hc;obtain ⟨u,d,h1,h2⟩:=H.tmp t c hc;exact ⟨u,d,h1,av (fun b _ hb=>⟨hS b hb,rfl⟩) d (fun v u _ h=>hL v u h) (fun h=>by simp at h) (fun h=>by simp at h) h2⟩
 ·intro k;obtain ⟨u,d,hr⟩:=H.root k;by_cases e:k=n
  ·subst e;obtain ⟨d',hd'⟩:=AF (f:=fun _=>C.sl true none es none []) (m':=m' k) (S':=X.S R' m') (w':=w) (fun b _ hb=>⟨hS b hb,rfl⟩) q hr hq (fun _ _ _ _ _ _=>rfl) (by
    intro q1 ho hne;simp only [cK];exact Mn _ _ (fun h=>hne [] (by simp [h.2]))) (by
    intro u0 d0 h0;simp only [cK] at h0 ⊢;cases d0 with
    | zero=>exact h0.elim
    | succ d0=>
     have hu:u0=.slice none 0 0:=h0;subst hu;rw [<-M1];exact ⟨2,mQ (d:=1) (a:=none) (k:=0) (by rw [M1]; rfl) (by simp) (by simp [maxLen]) (by simp) ⟨by simp,by simp⟩ (by simp) (.inl rfl)⟩)
   exact ⟨u,d',by show rel w _ L0 (m' k) true d' [] (R' k) u; rw [show R' k=(st.roots k).turn (fun _=>.sl true none es none []) q from by rw [hR',aC]]; exact hd'⟩
  ·refine ⟨u,d,?_⟩;show rel w _ L0 (m' k) true d [] (R' k) u;rw [show R' k=st.roots k from by rw [hR',aO e]];exact av (fun b _ hb=>⟨hS b hb,rfl⟩) d (fun _ _ _ h=>h) (fun _ _ _ _ _ _=>rfl) (fun _ q0 _=>Mn _ _ (fun h=>e h.1)) hr
 ·intro k p k' p' b h1 h2 h3 h4;obtain ⟨g1,g2,_⟩:=hown k p b h1 h3;obtain ⟨g3,g4,_⟩:=hown k' p' b h2 h4;exact H.inj k p k' p' b g1 g3 g2 g4
 ·intro k p b h1 h2;obtain ⟨g1,g2,_⟩:=hown k p b h1 h2;exact H.own k p b g1 g2
def NX {k:Nat} {f:Nat->C} {R:Nat->C} (n:Nat) (q:aq) (es:Nat) {c':C} (hq:(R n).at q=some (.val (.slice none 0 0))) (hc:(R n).turn (fun _=>.sl true none es none []) q=c') :
  aX ⟨tab k f,R⟩ ⟨tab k f,upd R n c'⟩:=by
 subst hc;rintro X a w ⟨m,H⟩;exact H.nilO es hq
def ar.nilF (H:ar X m st a w) {n:Nat} {q:aq} (es:Nat) (hq:(st.roots n).at q=some (.val (.slice none 0 0))) :
  ∃ m',ar X m' { st with roots:=upd st.roots n ((st.roots n).turn (fun _=>.sl false none es none []) q) } a w:=by
 obtain ⟨m',hm'⟩:∃ m':Nat->aq->Value,m'=fun n' p=>if n'=n/\p=q then .slice none 0 0 else m n' p:=⟨_,rfl⟩
 have M1:m' n q=.slice none 0 0:=by rw [hm']; simp
 have Mn:∀ n' p,¬ (n'=n/\p=q)->m' n' p=m n' p:=by intro n' p h; rw [hm']; simp [h]
 obtain ⟨R',hR'⟩:∃ R',R'=upd st.roots n ((st.roots n).turn (fun _=>.sl false none es none []) q):=⟨_,rfl⟩;have hown:∀ n' p b,ak (R' n') p->blk (m' n' p)=some b->ak (st.roots n') p/\blk (m n' p)=some b/\¬ (n'=n/\p=q):=by
  intro n' p b ho hb;by_cases e:n'=n
  ·subst e;rw [hR',aC] at ho;rcases ak.of_turn hq ho with ⟨r,rfl,h2⟩|⟨h1,h2⟩
   ·exact absurd h2 (by cases r<;>simp [ak,C.at,C.kid,C.isOwn])
   ·have hne:¬ (n'=n'/\p=q):=fun h=>h1 [] (by simp [h.2]);rw [Mn _ _ hne] at hb;exact ⟨h2,hb,hne⟩
  ·rw [hR',aO e] at ho;have hne:¬ (n'=n/\p=q):=fun h=>e h.1;rw [Mn _ _ hne] at hb;exact ⟨ho,hb,hne⟩
 have hS:∀ b,X.S st.roots m b->X.S R' m' b:=by
  rintro b ⟨h1,h2⟩;refine ⟨h1,?_⟩;rintro ⟨n',p,ho,hb⟩;obtain ⟨g1,g2,_⟩:=hown n' p b ho hb;exact h2 ⟨n',p,g1,g2⟩
 have hnoq:∀ r,r≠[]->(st.roots n).at (q++r)=none:=by
  intro r hr;rw [C.at_append,hq];cases r with
  | nil=>exact (hr rfl).elim
  | cons x r=>rfl
 have hL:∀ v u,Lv st.roots m v u->Lv R' m' v u:=by
  intro v u hl;have key:∀ k p nl es' cap rows,(st.roots k).at p=some (.sl true nl es' cap rows)->¬ (k=n/\p=q)/\∃ rows',(R' k).at p=some (.sl true nl es' cap rows')/\rows'.length=rows.length:=by
   intro k p nl es' cap rows hk;by_cases e:k=n
   ·subst e;have hpq:∀ r,p≠q++r:=by
     rintro r rfl;by_cases hr:r=[]
     ·subst hr; rw [cS,hq] at hk; cases hk
     ·rw [hnoq r hr] at hk; cases hk
    obtain ⟨x',e1,_,e3⟩:=C.at_turn_off (fun _=>.sl false none es none []) q p (st.roots k) _ _ hq hpq hk;obtain ⟨rows',rfl,e4⟩:=e3 nl es' cap rows rfl;exact ⟨fun h=>hpq [] (by simp [h.2]),rows',by rw [hR',aC]; exact e1,e4⟩
   ·exact ⟨fun h=>e h.1,rows,by rw [hR',aO e]; exact hk,rfl⟩
  cases v with
  | pref k p i j=>
   obtain ⟨nl,es',cap,rows,b,off,kk,g1,g2,g3⟩:=hl;obtain ⟨hne,rows',g4,g5⟩:=key k p _ _ _ _ g1;exact ⟨nl,es',cap,rows',b,off,kk,g4,by rw [Mn _ _ hne,g5]; exact g2,g3⟩
  | pal k p lo len c=>
   obtain ⟨nl,es',cap,rows,a0,kk,a',k',g1,g2,g3,g4⟩:=hl;obtain ⟨hne,rows',g5,g6⟩:=key k p _ _ _ _ g1;exact ⟨nl,es',cap,rows',a0,kk,a',k',g5,by rw [Mn _ _ hne,g6]; exact g2,by rw [g6]; exact g3,g4⟩
  | _=>exact hl
 rw [<-hR'];refine ⟨m',⟨H.len,?_,?_,?_,?_,H.fr,H.df⟩⟩
 ·intro t c hc;obtain ⟨u,d,h1,h2⟩:=H.tmp t c hc;exact ⟨u,d,h1,av (fun b _ hb=>⟨hS b hb,rfl⟩) d (fun v u _ h=>hL v u h) (fun h=>by simp at h) (fun h=>by simp at h) h2⟩
 ·intro k;obtain ⟨u,d,hr⟩:=H.root k;by_cases e:k=n
  ·subst e;obtain ⟨d',hd'⟩:=AF (f:=fun _=>C.sl false none es none []) (m':=m' k) (S':=X.S R' m') (w':=w) (fun b _ hb=>⟨hS b hb,rfl⟩) q hr hq (fun _ _ _ _ _ _=>rfl) (by
    intro q1 ho hne;simp only [cK];exact Mn _ _ (fun h=>hne [] (by simp [h.2]))) (by
    intro u0 d0 h0;simp only [cK] at h0 ⊢;cases d0 with
    | zero=>exact h0.elim
    | succ d0=>
     have hu:u0=.slice none 0 0:=h0;subst hu;exact ⟨1,none,0,rfl,cr _,by decide,by simp,by simp,by simp,by simp,.inl rfl⟩)
   exact ⟨u,d',by show rel w _ L0 (m' k) true d' [] (R' k) u; rw [show R' k=(st.roots k).turn (fun _=>.sl false none es none []) q from by rw [hR',aC]]; exact hd'⟩
  ·refine ⟨u,d,?_⟩;show rel w _ L0 (m' k) true d [] (R' k) u;rw [show R' k=st.roots k from by rw [hR',aO e]];exact av (fun b _ hb=>⟨hS b hb,rfl⟩) d (fun _ _ _ h=>h) (fun _ _ _ _ _ _=>rfl) (fun _ q0 _=>Mn _ _ (fun h=>e h.1)) hr
 ·intro k p k' p' b h1 h2 h3 h4;obtain ⟨g1,g2,_⟩:=hown k p b h1 h3;obtain ⟨g3,g4,_⟩:=hown k' p' b h2 h4;exact H.inj k p k' p' b g1 g3 g2 g4
 ·intro k p b h1 h2;obtain ⟨g1,g2,_⟩:=hown k p b h1 h2;exact H.own k p b g1 g2
def D9 {k:Nat} {f:Nat->C} {R:Nat->C} (n:Nat) (q:aq) (es:Nat) {c':C} (hq:(R n).at q=some (.val (.slice none 0 0))) (hc:(R n).turn (fun _=>.sl false none es none []) q=c') :
  aX ⟨tab k f,R⟩ ⟨tab k f,upd R n c'⟩:=by
 subst hc;rintro X a w ⟨m,H⟩;exact H.nilF es hq
def Vf {w:World} {S S':Nat->Prop} {m:aq->Value} (hS:∀ b,S b->S' b) {nl:Option Bool} {es:Nat} {cap:Option Nat} {rows rows':List (List C)} (h:dt rows rows') (hn:∀ row∈rows',∀ c∈row,bU c) {d:Nat} {u:Value} {p0:aq}
  (hO:∀ i j q b,ak (.sl true nl es cap rows) ((i,j)::q)->blk (m (p0++(i,j)::q))=some b->S' b)
  (hr:rel w S L0 m true d p0 (.sl true nl es cap rows) u):rel w S' L0 m true (d+1) p0 (.sl true nl es cap rows') u:=by
 cases d with
 | zero=>exact hr.elim
 | succ d=>
  obtain ⟨a,k,h1,h2,h3,h4,hz,h5,h6,h7⟩:=hr;refine ⟨a,k,by rw [h.len]; exact h1,by rw [h.len]; exact h2,h3,h4,hz,?_,fun _=>h6 rfl,?_⟩
  ·intro row' hrow;obtain ⟨i,hi,e⟩:=acN hrow;have hlt:i < rows.length:=by rw [<-h.len]; exact hi
   have:=h.get i rows[i] row' (by simp [hlt]) (by simp [hi,e]);rw [this.len];exact h5 _ (nx hlt)
  ·rcases h7 with h7|h7|⟨b,off,arr,elem,frz,g1,g2,g3,g4,g5⟩
   ·exact .inl h7
   ·simp at h7
   ·refine .inr (.inr ⟨b,off,arr,elem,frz,g1,g2,fun h=>by simp at h,g4,?_⟩);intro i j row' c' e1 e2;have hlt:i < rows.length:=by rw [<-h.len]; exact (cd.1 e1).1
    have hrow:rows[i]?=some rows[i]:=by simp [hlt]
    have hle:=h.get i rows[i] row' hrow e1;have hltj:j < rows[i].length:=by rw [<-hle.len]; exact (cd.1 e2).1
    have hc:rows[i][j]?=some rows[i][j]:=by simp [hltj]
    obtain ⟨u',e3,e4⟩:=g5 i j _ _ hrow hc;have hnc:=hn row' (cg e1) c' (cg e2);refine ⟨u',e3,aS d (d+1) (xe _) (DU d hnc (hle.get j _ c' hc e2 _ _ _ m _ p0 d u' (qq (S:=S) (S':=S') (m:=m) (m':=m) (p:=p0++[(i,j)]) (p':=p0) hS d ?_ e4)))⟩;intro _ q b' hq hb;refine hO i j q b' ?_ (by simpa using hb);simp only [ak,C.at,C.kid,hrow,cc,hc]; exact hq
def ar.tellP (H:ar X m st a w) {n:Nat} {q:aq} {nl:Option Bool} {es:Nat} {cap:Option Nat} {rows rows':List (List C)} (hq:(st.roots n).at q=some (.sl true nl es cap rows)) (hle:dt rows rows') (hn:∀ row∈rows',∀ c∈row,bU c) :
  ar X m { tmps:=st.tmps.map (poi fun n' p'=>n' == n && kE q p'),roots:=upd st.roots n ((st.roots n).turn (fun _=>.sl true nl es cap rows') q) } a w:=by
 obtain ⟨R',hR'⟩:∃ R',R'=upd st.roots n ((st.roots n).turn (fun _=>.sl true nl es cap rows') q):=⟨_,rfl⟩;have hown:∀ k p,ak (R' k) p->ak (st.roots k) p/\(k=n->∀ r,p=q++r->r=[]):=by
  intro k p ho;by_cases e:k=n
  ·subst e;rw [hR',aC] at ho;rcases ak.of_turn hq ho with ⟨r,rfl,h2⟩|⟨h1,h2⟩
   ·have hr:=m8 hn h2;subst hr;refine ⟨?_,fun _ r hr=>by simpa using hr⟩;simp only [ak,cS,hq]; rfl
   ·exact ⟨h2,fun _ r hr=>absurd hr (h1 r)⟩
  ·rw [hR',aO e] at ho;exact ⟨ho,fun h=>absurd h e⟩
 have hS:∀ b,X.S st.roots m b->X.S R' m b:=by
  rintro b ⟨h1,h2⟩;refine ⟨h1,?_⟩;rintro ⟨k,p,ho,hb⟩;exact h2 ⟨k,p,(hown k p ho).1,hb⟩
 have hL:∀ v u,(∀ k p,v.place=some (k,p)->(k == n && kE q p)=false)->Lv st.roots m v u->Lv R' m v u:=by
  intro v u hp hl;have key:∀ k p nl' es' cap' rows0,(k == n && kE q p)=false->(st.roots k).at p=some (.sl true nl' es' cap' rows0)->∃ rows1,(R' k).at p=some (.sl true nl' es' cap' rows1)/\rows1.length=rows0.length:=by
   intro k p nl' es' cap' rows0 hf hk;by_cases e:k=n
   ·subst e;have hpq:∀ r,p≠q++r:=by
     rintro r rfl;rw [Ex] at hf;simp at hf
    obtain ⟨x',e1,_,e3⟩:=C.at_turn_off (fun _=>.sl true nl es cap rows') q p (st.roots k) _ _ hq hpq hk;obtain ⟨rows1,rfl,e4⟩:=e3 nl' es' cap' rows0 rfl;exact ⟨rows1,by rw [hR',aC]; exact e1,e4⟩
   ·exact ⟨rows0,by rw [hR',aO e]; exact hk,rfl⟩
  cases v with
  | pref k p i j=>
   obtain ⟨nl',es',cap',rows0,b,off,kk,g1,g2,g3⟩:=hl;obtain ⟨rows1,g4,g5⟩:=key k p _ _ _ _ (hp k p rfl) g1;exact ⟨nl',es',cap',rows1,b,off,kk,g4,by rw [g5]; exact g2,g3⟩
  | pal k p lo len c=>
   obtain ⟨nl',es',cap',rows0,a0,kk,a',k',g1,g2,g3,g4⟩:=hl;obtain ⟨rows1,g5,g6⟩:=key k p _ _ _ _ (hp k p rfl) g1;exact ⟨nl',es',cap',rows1,a0,kk,a',k',g5,by rw [g6]; exact g2,by rw [g6]; exact g3,g4⟩
  | _=>exact hl
 rw [<-hR'];refine ⟨by simp [H.len],?_,?_,?_,?_,H.fr,H.df⟩
 ·intro t c hc;simp only [cv,cj] at hc;obtain ⟨c0,h0,rfl⟩:=hc;obtain ⟨u,d,h1,h2⟩:=H.tmp t c0 h0;rcases js (fun n' p'=>n' == n && kE q p') c0 with e|⟨e,hm⟩
  ·rw [e]; exact ⟨u,1,h1,trivial⟩
  ·rw [e];refine ⟨u,d,h1,av (fun b _ hb=>⟨hS b hb,rfl⟩) d (fun v uv ho hl=>?_) (fun h=>by simp at h) (fun h=>by simp at h) h2⟩;refine hL v uv ?_ hl;intro k p hpl;obtain ⟨k',p',e1,e2⟩:=ir d 3 c0 v hm ho;rw [hpl] at e1;simp only [cb,cz] at e1;obtain ⟨rfl,rfl⟩:=e1;simpa using e2
 ·intro k;obtain ⟨u,d,hr⟩:=H.root k;by_cases e:k=n
  ·subst e;obtain ⟨d',hd'⟩:=AF (f:=fun _=>C.sl true nl es cap rows') (m':=m k) (S':=X.S R' m) (w':=w) (fun b _ hb=>⟨hS b hb,rfl⟩) q hr hq (fun _ _ _ _ _ _=>rfl) (fun _ _ _=>rfl) (by
    intro u0 d0 h0;simp only [cK] at h0 ⊢;refine ⟨d0+1,Vf hS hle hn (fun i j q' b ho hb=>?_) h0⟩;have ho':ak (st.roots k) (q++(i,j)::q'):=by
     unfold ak at ho ⊢;rw [C.at_append,hq]; exact ho
    refine ⟨(H.own _ _ b ho' hb).elim .inr (fun h=>.inl (X.kS b h)),?_⟩;rintro ⟨k',p',ho2,hb2⟩;obtain ⟨ho3,hp⟩:=hown k' p' ho2;obtain ⟨e1,e2⟩:=H.inj _ _ _ _ b ho3 ho' hb2 hb;cases hp e1 _ e2)
   exact ⟨u,d',by show rel w _ L0 (m k) true d' [] (R' k) u; rw [show R' k=(st.roots k).turn (fun _=>.sl true nl es cap rows') q from by rw [hR',aC]]; exact hd'⟩
  ·refine ⟨u,d,?_⟩;show rel w _ L0 (m k) true d [] (R' k) u;rw [show R' k=st.roots k from by rw [hR',aO e]];exact av (fun b _ hb=>⟨hS b hb,rfl⟩) d (fun _ _ _ h=>h) (fun _ _ _ _ _ _=>rfl) (fun _ _ _=>rfl) hr
 ·intro k p k' p' b h1 h2;exact H.inj k p k' p' b (hown k p h1).1 (hown k' p' h2).1
 ·intro k p b h1;exact H.own k p b (hown k p h1).1
def RM {α:Type} (row0 row:α->List C) [hrow:yJ row] [hF:M7 row0 row] {k:Nat} {f f':Nat->C} {R:Nat->C} (n:Nat) (q:aq) {nl:Option Bool} {es:Nat} {cap:Option Nat} (l:List α) {c':C} (hq:(R n).at q=some (.sl true nl es cap (l.map row0))) (hf:uF (fun n' p'=>n' == n && kE q p') f=f') (hc:(R n).turn (fun _=>.sl true nl es cap (l.map row)) q=c') :
  aX ⟨tab k f,R⟩ ⟨tab k f',upd R n c'⟩:=by
 subst hf; subst hc;rintro X a w ⟨m,H⟩;have:=H.tellP hq (dt.map hF.h l) (hrow.ok.noOwn l);exact ⟨m,by simpa [CK] using this⟩
def vT {k:IntKind} {c:C} {n:Int} (h:aH k c=some n):c=.val (.int k n):=by
 unfold aH at h;split at h
 ·split at h
  ·rename_i e; subst e; cases h; rfl
  ·cases h
 ·cases h
def YD {c:C} {n:Bool} (h:Di c=some n):c=.val (.bool n):=by
 unfold Di at h;split at h
 ·cases h; rfl
 ·cases h
def yY {c:C} {n:ByteArray} (h:bW c=some n):c=.val (.string n):=by
 unfold bW at h;split at h
 ·cases h; rfl
 ·cases h
def Md {α:Type} {d:List C->Option α} {row:α->List C} (hd:∀ r x,d r=some x->r=row x):∀ {rows:List (List C)} {l:List α},bT d rows=some l->rows=l.map row:=by
 intro rows
 induction rows with
 | nil=>intro l h; simp only [bT,cb] at h; subst h; rfl
 | cons r rows ih=>
  intro l h;rw [IE] at h;split at h
  ·rename_i x xs h1 h2;simp only [cb] at h;subst h;rw [nq,<-hd _ _ h1,<-ih h2]
  ·cases h
def exL {α:Type} (es:Nat) (d:List C->Option α):C->Option (List α)
 | .sl true none es' none rows=>if es'=es then bT d rows else none
 | _=>none
def YZ {α:Type} (es:Nat) (d:List C->Option α) (rows:List (List C)):exL es d (.sl true none es none rows)=bT d rows:=by simp only [exL,if_true]
def Vn {α:Type} {es:Nat} {d:List C->Option α} {row:α->List C} (hd:∀ r x,d r=some x->r=row x) {c:C} {l:List α} (h:exL es d c=some l):c=.sl true none es none (l.map row):=by
 unfold exL at h;split at h
 ·split at h
  ·rename_i e; subst e; rw [Md hd h]
  ·cases h
 ·cases h
def exF {α:Type} (es:Nat) (d:List C->Option α):C->Option (List α)
 | .sl false none es' none rows=>if es'=es then bT d rows else none
 | _=>none
def Uz {α:Type} (es:Nat) (d:List C->Option α) (rows:List (List C)):exF es d (.sl false none es none rows)=bT d rows:=by simp only [exF,if_true]
def Re {α:Type} {es:Nat} {d:List C->Option α} {row:α->List C} (hd:∀ r x,d r=some x->r=row x) {c:C} {l:List α} (h:exF es d c=some l):c=.sl false none es none (l.map row):=by
 unfold exF at h;split at h
 ·split at h
  ·rename_i e; subst e; rw [Md hd h]
  ·cases h
 ·cases h
def SM {α:Type} {d:C->Option α} {g:α->C} (hd:∀ c x,d c=some x->c=g x):∀ (r:List C) (x:α),dJ d r=some x->r=[g x]:=by
 intro r x h;unfold dJ at h;split at h
 ·rw [hd _ _ h]
 ·cases h
attribute [go_sem] exL exF
def Ve {α:Type} {row:α->List C} {l:List α} {r:List C}:(l.map row++[r])[l.length]?=some r:=by simp
def VU {α:Type} {row:α->List C} {l:List α} {r:List C} {g:List C->List C}:(l.map row++[r]).modify l.length g=l.map row++[g r]:=by
 apply nN;intro j;rw [AN];by_cases h1:j < l.length
 ·rw [if_neg (by omega),cJ (by simpa using h1),cJ (by simpa using h1)]
 ·by_cases h2:l.length=j
  ·subst h2; simp
  ·rw [if_neg h2,cL (by simpa using h1),cL (by simpa using h1)];obtain ⟨k,hk⟩:∃ k,j - l.length=k+1:=⟨j - l.length - 1,by omega⟩;simp [hk]
def oh {α:Type} {row:α->List C} {l:List α} {i:Nat} {y:α} {rc:List C} (h:row y=rc):(l.map row).set i rc=(l.set i y).map row:=by
 subst h;apply nN;intro j;simp only [cv,hU,cy];by_cases e:i=j
 ·subst e;by_cases h2:i < l.length<;>simp [h2]
 ·simp [e]
def VW {α:Type} {row:α->List C} {l:List α} {i:Nat} {x:α} {rc:List C} (hx:l[i]?=some x) (h:row x=rc):(l.map row).set i rc=l.map row:=by
 rw [oh h]
 congr 1
 apply nN;intro j;rw [hU];by_cases e:i=j
 ·subst e;have:=(cd.1 hx).1;rw [if_pos rfl,if_pos this,hx]
 ·rw [if_neg e]
def yX {k n:Nat} {f:Nat->C} {R:Nat->C} {c c':C} (hR:R n=c) (h:c=c'):aX ⟨tab k f,R⟩ ⟨tab k f,upd R n c'⟩:=by
 subst h;have hu:upd R n c=R:=by
  funext t; unfold upd; split
  ·rename_i e; rw [e,hR]
  ·rfl
 rw [hu];exact fun _ _ _ h=>h
def IA {f:FuncId} {fl:FnL} (hk:fl.k≠0) (hp:fl.pure=false) (h:∀ cs rest r ls,cs.length=fl.k->fl.fn cs rest=some (r,ls)->mv P f fl.k (cs++rest) r ls):wJ P f fl:=
 ⟨fun _=>h,fun _ h'=>by (rw [hp] at h'; cases h'),fun h'=>(hk h').elim⟩
attribute [go_sem] mL
end
end Go.Abs
