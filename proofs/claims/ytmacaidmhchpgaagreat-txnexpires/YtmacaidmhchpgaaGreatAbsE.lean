/- A library of readings of Go values with their ownership,and of walks on them. No statement of the program. -/
import Derived.Test.YtmacaidmhchpgaaGreatAbsD
import Derived.Lib.Overlaps
import Derived.WalkKit
import Derived.ProofKit
import Derived.OpenShut
import Derived.ReadAgain
import Derived.ChangeArms
import Derived.SizedLaws
import Derived.Carry
import Derived.LoopN
set_option linter.defProp false
set_option linter.unusedSimpArgs false
set_option linter.unusedVariables false
namespace Go.Abs
def qX (E:Env) (draw:Bool) (bar:Nat->Bool) (i:Nat) (o:Oper) (st:St):Option St:=
 match draw with
 | false=>exe E o st
 | true=>match fD E o st with
  | some e=>match e.apply st with
   | some s=>some s
   | none=>if bar i=true then exe E o st else none
  | none=>if bar i=true then exe E o st else none
def RX (E:Env) (draw:Bool) (gd:Nat->Option Tmp) (bar:Nat->Bool):Nat->List Oper->St->(St->Prop)->Prop
 | _,[],st,Z=>Z st
 | i,o::l,st,Z=>match o.guard with
  | none=>match qX E draw bar i o st with
   | some st'=>RX E draw gd bar (i+1) l st' Z
   | none=>False
  | some (j,want)=>match gd j with
   | some t=>match st.tmps[t]? with
    | some (.val (.bool b))=>if b=want then match qX E draw bar i o st with
      | some st'=>RX E draw gd bar (i+1) l st' Z
      | none=>False
     else RX E draw gd bar (i+1) l (st.put o.dst (.val undef)) Z
    | some (.val (.tuple _))=>RX E draw gd bar (i+1) l (st.put o.dst (.val undef)) Z
    | _=>False
   | none=>False
def kO (ops:Array Oper) (j:Nat):Option Tmp:=(ops[j]?).bind (·.dst)
def MB {E:Env} {ops:Array Oper}:∀ (l:List Oper) (i:Nat) (st:St) (Z:St->Prop),RX E false (kO ops) (jY ops) i l st Z->∃ st',rF E ops l st=some st'/\Z st':=by
 intro l
 induction l with
 | nil=>intro i st Z h; exact ⟨st,rfl,h⟩
 | cons o l ih=>
  intro i st Z h;have go:∀ s,eS E ops o st=some s->RX E false (kO ops) (jY ops) (i+1) l s Z->∃ st',rF E ops (o::l) st=some st'/\Z st':=by
   intro s hs hr;obtain ⟨s2,h1,h2⟩:=ih _ _ _ hr;exact ⟨s2,by simp [rF,hs,h1],h2⟩
  unfold RX at h;split at h
  ·rename_i hg;split at h
   ·rename_i s hs;exact go s (by simpa [eS,hg,qX] using hs) h
   ·exact h.elim
  ·rename_i j want hg;split at h
   case h_2=>exact h.elim
   rename_i t ht;simp only [kO] at ht;split at h
   ·rename_i b hb;split at h
    ·rename_i hbw;split at h
     ·rename_i s hs;exact go s (by simpa [eS,hg,ht,hb,hbw,qX] using hs) h
     ·exact h.elim
    ·rename_i hbw;exact go _ (by simp [eS,hg,ht,hb,hbw]) h
   ·rename_i vs hb;exact go _ (by simp [eS,hg,ht,hb]) h
   ·exact h.elim
def YT {E:Env} {ops:Array Oper}:∀ (l:List Oper) (i:Nat) (st:St) (Z:St->Prop),RX E true (kO ops) (jY ops) i l st Z->∃ st',wv E ops i l st=some st'/\Z st':=by
 intro l
 induction l with
 | nil=>intro i st Z h; exact ⟨st,rfl,h⟩
 | cons o l ih=>
  intro i st Z h;have go:∀ s,yq E ops i o st=some s->RX E true (kO ops) (jY ops) (i+1) l s Z->∃ st',wv E ops i (o::l) st=some st'/\Z st':=by
   intro s hs hr;obtain ⟨s2,h1,h2⟩:=ih _ _ _ hr;exact ⟨s2,by simp [wv,hs,h1],h2⟩
  have run:∀ s,(∀ x,fD E o st=x->mG E ops o st=x)->(∀ x,exe E o st=x->eS E ops o st=x)->qX E true (jY ops) i o st=some s->yq E ops i o st=some s:=by
   intro s h1 h2 hs;unfold yq bx;rw [h1 _ rfl];simp only [qX] at hs;split at hs
   ·rename_i e he;simp only [he];split at hs
    ·rename_i s0 hs0; simp only [hs0]; exact hs
    ·rename_i hs0;simp only [hs0];split at hs
     ·rename_i hb; rw [if_pos hb]; exact h2 _ hs
     ·simp at hs
   ·rename_i he;simp only [he];split at hs
    ·rename_i hb; rw [if_pos hb]; exact h2 _ hs
    ·simp at hs
  unfold RX at h;split at h
  ·rename_i hg;split at h
   ·rename_i s hs;exact go s (run s (fun x hx=>by simpa [mG,hg] using hx) (fun x hx=>by simpa [eS,hg] using hx) hs) h
   ·exact h.elim
  ·rename_i j want hg;split at h
   case h_2=>exact h.elim
   rename_i t ht;simp only [kO] at ht;have skip:mG E ops o st=some (.q o.dst (.val undef))->yq E ops i o st=some (st.put o.dst (.val undef)):=by
    intro hs; simp [yq,bx,hs,SE.apply]
   split at h
   ·rename_i b hb;split at h
    ·rename_i hbw;split at h
     ·rename_i s hs;exact go s (run s (fun x hx=>by simpa [mG,hg,ht,hb,hbw] using hx) (fun x hx=>by simpa [eS,hg,ht,hb,hbw] using hx) hs) h
     ·exact h.elim
    ·rename_i hbw;exact go _ (skip (by simp [mG,hg,ht,hb,hbw])) h
   ·rename_i vs hb;exact go _ (skip (by simp [mG,hg,ht,hb])) h
   ·exact h.elim
def Zy {E:Env} {ops:Array Oper}:∀ (l:List Oper) (i:Nat) (st st':St) (Z:St->Prop),rF E ops l st=some st'->Z st'->RX E false (kO ops) (jY ops) i l st Z:=by
 intro l
 induction l with
 | nil=>intro i st st' Z h hz; simp only [rF,acB] at h; subst h; exact hz
 | cons o l ih=>
  intro i st st' Z h hz;simp only [rF] at h;split at h
  case h_2=>simp at h
  rename_i s hs;have hr:=ih (i+1) s st' Z h hz;unfold eS at hs;rw [RX];split at hs
  ·rename_i hg;simp only [hg,qX,hs];exact hr
  ·rename_i j want hg;simp only [hg,kO];split at hs
   case h_2=>simp at hs
   rename_i t ht;simp only [ht];split at hs
   ·rename_i b hb;simp only [hb];split at hs
    ·rename_i hbw;simp only [hbw,if_true,qX,hs];exact hr
    ·rename_i hbw;simp only [hbw,if_false];simp only [acB] at hs;subst hs;exact hr
   ·rename_i vs hb;simp only [hb];simp only [acB] at hs;subst hs;exact hr
   ·simp at hs
def Yb {E:Env} {ops:Array Oper}:∀ (l:List Oper) (i:Nat) (st st':St) (Z:St->Prop),wv E ops i l st=some st'->Z st'->RX E true (kO ops) (jY ops) i l st Z:=by
 intro l
 induction l with
 | nil=>intro i st st' Z h hz; simp only [wv,acB] at h; subst h; exact hz
 | cons o l ih=>
  intro i st st' Z h hz;simp only [wv] at h;split at h
  case h_2=>simp at h
  rename_i s hs;have hr:=ih (i+1) s st' Z h hz;have body:(∀ x,fD E o st=x->mG E ops o st=x)->(∀ x,exe E o st=x->eS E ops o st=x)->qX E true (jY ops) i o st=some s:=by
   intro h1 h2;unfold yq bx at hs;rw [h1 _ rfl] at hs;rw [h2 _ rfl] at hs;simp only [qX];cases hb:fD E o st with
   | none=>simp only [hb] at hs ⊢; exact hs
   | some e=>
    simp only [hb] at hs ⊢;cases he:e.apply st with
    | none=>simp only [he] at hs ⊢; exact hs
    | some s1=>simp only [he] at hs ⊢; exact hs
  rw [RX];split
  ·rename_i hg;simp only [body (fun x hx=>by simpa [mG,hg] using hx) (fun x hx=>by simpa [eS,hg] using hx)];exact hr
  ·rename_i j want hg;have skip:∀ s':St,mG E ops o st=some (.q o.dst (.val undef))->s=st.put o.dst (.val undef):=by
    intro s' h1;simp only [yq,bx,h1,SE.apply,acB] at hs;exact hs.symm
   have dead:mG E ops o st=none->eS E ops o st=none->False:=by
    intro h1 h2;simp [yq,bx,h1,h2] at hs
   simp only [kO];cases ht:(ops[j]?).bind (·.dst) with
   | none=>exact dead (by simp [mG,hg,ht]) (by simp [eS,hg,ht])
   | some t=>
    simp only;split
    ·rename_i b hb;split
     ·rename_i hbw;simp only [body (fun x hx=>by simpa [mG,hg,ht,hb,hbw] using hx) (fun x hx=>by simpa [eS,hg,ht,hb,hbw] using hx)];exact hr
     ·rename_i hbw;have:=skip st (by simp [mG,hg,ht,hb,hbw]);rw [<-this];exact hr
    ·rename_i vs hb;have:=skip st (by simp [mG,hg,ht,hb]);rw [<-this];exact hr
    ·rename_i h1 h2;refine dead ?_ ?_
     ·simp only [mG,hg,ht];try split
     ·simp only [eS,hg,ht];try split
inductive Fm where
 | sq (y:Code)
 | bl (id:Nat)
 | lp (J:St->Prop)
 | sc
 | sk (y:Code)
def ap (E:Env) (Q:Exit->St->Prop):List Fm->Exit->St->Prop
 | [],e,s=>Q e s
 | .sq y::K,e,s=>match e with
  | .normal=>W E y (ap E Q K) s
  | e=>ap E Q K e s
 | .bl id::K,e,s=>match e with
  | .exit i=>if i=id then ap E Q K .normal s else ap E Q K (.exit i) s
  | e=>ap E Q K e s
 | .lp J::K,e,s=>match e with
  | .normal=>J s
  | e=>ap E Q K e s
 | .sc::K,e,s=>match e with
  | .goto _=>False
  | e=>ap E Q K e s
 | .sk y::K,e,s=>match e with
  | .normal=>Wk E y (ap E Q K) s
  | e=>ap E Q K e s
section
variable {E:Env} {Q:Exit->St->Prop} {K:List Fm} {st:St}
def JF {c:Code} (h:W E c (ap E Q []) st):W E c Q st:=h
@[go_sem] theorem acg:W E .skip (ap E Q K) st=ap E Q K .normal st:=rfl
@[go_sem] theorem acA {x y:Code}:W E (.seq x y) (ap E Q K) st=W E x (ap E Q (.sq y::K)) st:=by
 simp only [W]
 congr 1
@[go_sem] theorem ach {id:Nat}:W E (.exit id) (ap E Q K) st=ap E Q K (.exit id) st:=rfl
@[go_sem] theorem ab8 {id:Nat}:W E (.label id) (ap E Q K) st=ap E Q K .normal st:=rfl
@[go_sem] theorem acu:W E .ret (ap E Q K) st=ap E Q K .ret st:=rfl
@[go_sem] theorem ack {e:Exit}:ap E Q [] e st=Q e st:=rfl
@[go_sem] theorem acx {y:Code}:ap E Q (.sq y::K) .normal st=W E y (ap E Q K) st:=rfl
@[go_sem] theorem aas {y:Code}:ap E Q (.sq y::K) .ret st=ap E Q K .ret st:=rfl
@[go_sem] theorem ZX {y:Code} {i:Nat}:ap E Q (.sq y::K) (.exit i) st=ap E Q K (.exit i) st:=rfl
@[go_sem] theorem acw {id:Nat}:ap E Q (.bl id::K) .normal st=ap E Q K .normal st:=rfl
@[go_sem] theorem aav {id:Nat}:ap E Q (.bl id::K) .ret st=ap E Q K .ret st:=rfl
@[go_sem] theorem TQ {id i:Nat}:ap E Q (.bl id::K) (.exit i) st=if i=id then ap E Q K .normal st else ap E Q K (.exit i) st:=rfl
@[go_sem] theorem acs {J:St->Prop}:ap E Q (.lp J::K) .normal st=J st:=rfl
@[go_sem] theorem aaq {J:St->Prop}:ap E Q (.lp J::K) .ret st=ap E Q K .ret st:=rfl
@[go_sem] theorem ZU {J:St->Prop} {i:Nat}:ap E Q (.lp J::K) (.exit i) st=ap E Q K (.exit i) st:=rfl
@[go_sem] theorem acz {y:Code}:ap E Q (.sk y::K) .normal st=Wk E y (ap E Q K) st:=rfl
@[go_sem] theorem aat {y:Code}:ap E Q (.sk y::K) .ret st=ap E Q K .ret st:=rfl
@[go_sem] theorem Z5 {y:Code} {i:Nat}:ap E Q (.sk y::K) (.exit i) st=ap E Q K (.exit i) st:=rfl
@[go_sem] theorem acv:ap E Q (.sc::K) .normal st=ap E Q K .normal st:=rfl
@[go_sem] theorem aap:ap E Q (.sc::K) .ret st=ap E Q K .ret st:=rfl
@[go_sem] theorem ZL {i:Nat}:ap E Q (.sc::K) (.exit i) st=ap E Q K (.exit i) st:=rfl
@[go_sem] theorem Wz {id:Nat} {ops:Array Oper} {draw:Bool}:W E (.region id ops draw) (ap E Q K) st=RX E draw (kO ops) (jY ops) 0 ops.toList st (fun s=>(draw=true->BL ops s=true)/\ap E Q K .normal s):=by
 refine propext ⟨?_,fun h=>?_⟩
 ·rintro ⟨st',h1,h2⟩;cases draw with
  | true=>
   simp only [F5] at h1;split at h1
   case h_2=>simp at h1
   rename_i s hs;split at h1
   case isFalse=>simp at h1
   rename_i hf;simp only [acB] at h1;subst h1;exact Yb _ _ _ _ _ hs ⟨fun _=>hf,h2⟩
  | false=>exact Zy _ _ _ _ _ h1 ⟨fun h=>(by cases h),h2⟩
 ·cases draw with
  | true=>
   obtain ⟨s,h1,h2,h3⟩:=YT ops.toList 0 st _ h;exact ⟨s,by simp only [F5,h1,h2 rfl,if_true],h3⟩
  | false=>
   obtain ⟨s,h1,_,h3⟩:=MB ops.toList 0 st _ h;exact ⟨s,h1,h3⟩
def Zn {c:Operand} {x y:Code} {b:Bool} (hc:st.ev c=.val (.bool b)) (h1:b=true->W E x (ap E Q K) st) (h2:b=false->W E y (ap E Q K) st):W E (.cond c x y) (ap E Q K) st:=by
 simp only [W,hc];exact ⟨h1,h2⟩
section
variable {draw:Bool} {gd:Nat->Option Tmp} {bar:Nat->Bool} {i:Nat} {l:List Oper} {Z:St->Prop} {d:Option Tmp} {ty:TypeId} {pos:String} {after:Array Edge}
def mM {o:Oper} {c:C} (hg:o.guard=none) (hp:kW E o st=none) (h1:kP E o st=dZ o st (some c)) (h2:fD E o st=qSE o (some c)):RX E draw gd bar i (o::l) st Z=RX E draw gd bar (i+1) l (st.put o.dst c) Z:=by
 rw [RX,hg];simp only [qX,exe,hp,h1,h2];cases draw<;>simp [dZ,qSE,SE.apply]
def oC {o:Oper} (hg:o.guard=none) (hp:kW E o st=none) (ha:gh E o st=none) (h1:kP E o st=dZ o st none) (h2:fD E o st=qSE o none):RX E draw gd bar i (o::l) st Z=False:=by
 rw [RX,hg];simp only [qX,exe,hp,ha,h1,h2];cases draw<;>simp [dZ,qSE]
def Jf {o:Oper} {q:Option C} (hg:o.guard=none) (hp:kW E o st=none) (h1:kP E o st=dZ o st q) (h2:fD E o st=qSE o q):RX E draw gd bar i (o::l) st Z=match (generalizing:=false) q with
  | some c=>RX E draw gd bar (i+1) l (st.put o.dst c) Z
  | none=>match gh E o st with
   | some s=>(draw=true->bar i=true)/\RX E draw gd bar (i+1) l s Z
   | none=>False:=by
 cases q with
 | some c=>exact mM hg hp h1 h2
 | none=>
  rw [RX,hg];simp only [qX,exe,hp,h1,h2,qSE,dZ];cases draw with
  | false=>cases gh E o st<;>simp
  | true=>
   by_cases hb:bar i=true
   ·simp only [hb,if_true]; cases gh E o st<;>simp
   ·simp only [hb]; cases gh E o st<;>simp
@[go_sem] theorem acr:RX E draw gd bar i [] st Z=Z st:=rfl
def Lr {j:Nat} {want:Bool} {op:Op}:RX E draw gd bar i ({ dst:=d,op:=op,type:=ty,pos:=pos,after:=after,guard:=some (j,want) }::l) st Z =
  match gd j with
   | some t=>match st.ev (.tmp t) with
    | .val (.bool b)=>if b=want then RX E draw gd bar i ({ dst:=d,op:=op,type:=ty,pos:=pos,after:=after,guard:=none }::l) st Z else RX E draw gd bar (i+1) l (st.put d (.val undef)) Z
    | .val (.tuple _)=>RX E draw gd bar (i+1) l (st.put d (.val undef)) Z
    | _=>False
   | none=>False:=by
 rw [RX];simp only;cases hg:gd j with
 | none=>rfl
 | some t=>
  simp only [St.ev];have same:∀ o o':Oper,o.op=o'.op->o.dst=o'.dst->qX E draw bar i o st=qX E draw bar i o' st:=by
   rintro ⟨d1,o1,t1,p1,a1,g1⟩ ⟨d2,o2,t2,p2,a2,g2⟩ h1 h2;simp only at h1 h2;subst h1; subst h2;rfl
  cases ht:st.tmps[t]? with
  | none=>simp
  | some c=>
   cases c with
   | val v=>
    cases v<;>simp only [adr]
    rename_i b;split
    ·rw [RX];simp only;rw [same];all_goals rfl
    ·rfl
   | _=>simp
def w8 (gd:Nat->Option Tmp) (st:St) (j:Nat):Option (Option Bool):=
 match gd j with
 | some t=>match st.ev (.tmp t) with
  | .val (.bool b)=>some (some b)
  | .val (.tuple _)=>some none
  | _=>none
 | none=>none
@[go_sem] theorem ZA {j:Nat} {want:Bool} {op:Op} (h:w8 gd st j=some (some want)):RX E draw gd bar i ({ dst:=d,op:=op,type:=ty,pos:=pos,after:=after,guard:=some (j,want) }::l) st Z =
  RX E draw gd bar i ({ dst:=d,op:=op,type:=ty,pos:=pos,after:=after,guard:=none }::l) st Z:=by
 rw [Lr];unfold w8 at h;cases ht:gd j with
 | none=>simp [ht] at h
 | some t=>
  simp only [ht] at h ⊢;split at h<;>simp_all
@[go_sem] theorem YX {j:Nat} {want:Bool} {op:Op} (h:w8 gd st j=some (some (!want))):RX E draw gd bar i ({ dst:=d,op:=op,type:=ty,pos:=pos,after:=after,guard:=some (j,want) }::l) st Z =
  RX E draw gd bar (i+1) l (st.put d (.val undef)) Z:=by
 rw [Lr];unfold w8 at h;cases ht:gd j with
 | none=>simp [ht] at h
 | some t=>
  simp only [ht] at h ⊢;split at h<;>simp_all
@[go_sem] theorem Zj {j:Nat} {want:Bool} {op:Op} (h:w8 gd st j=some none):RX E draw gd bar i ({ dst:=d,op:=op,type:=ty,pos:=pos,after:=after,guard:=some (j,want) }::l) st Z =
  RX E draw gd bar (i+1) l (st.put d (.val undef)) Z:=by
 rw [Lr];unfold w8 at h;cases ht:gd j with
 | none=>simp [ht] at h
 | some t=>
  simp only [ht] at h ⊢;split at h<;>simp_all
def Ui (c a b:C):Option C:=
 match c with
 | .val (.bool t)=>some (if t then a else b)
 | _=>none
def KK (c:C) (k:Nat):Option C:=
 match c with
 | .tup cs=>cs[k]?
 | _=>none
def IY (c:C):Option C:=
 match c with
 | .pref n p i j=>some (.pref n p i j)
 | .iref es rows i j=>some (.iref es rows i j)
 | _=>none
@[go_sem] theorem ab3 {x:Operand}:RX E draw gd bar i ({ dst:=d,op:=.move x,type:=ty,pos:=pos,after:=after,guard:=none }::l) st Z=RX E draw gd bar (i+1) l (st.put d (st.ev x)) Z:=
 mM rfl rfl rfl rfl
@[go_sem] theorem aax {x:Operand}:RX E draw gd bar i ({ dst:=d,op:=.assign x,type:=ty,pos:=pos,after:=after,guard:=none }::l) st Z=RX E draw gd bar (i+1) l (st.put d (st.ev x)) Z:=
 mM rfl rfl rfl rfl
@[go_sem] theorem abZ {c a b:Operand}:RX E draw gd bar i ({ dst:=d,op:=.pick c a b,type:=ty,pos:=pos,after:=after,guard:=none }::l) st Z=match (Ui (st.ev c) (st.ev a) (st.ev b)) with
   | some c=>RX E draw gd bar (i+1) l (st.put d c) Z
   | none=>False:=by
 cases h:(Ui (st.ev c) (st.ev a) (st.ev b)) with
 | none=>exact oC rfl rfl rfl (congrArg (dZ _ st) h) (congrArg (qSE _) h)
 | some c=>exact mM rfl rfl (congrArg (dZ _ st) h) (congrArg (qSE _) h)
@[go_sem] theorem ab5 {t:TypeId} {x:Operand}:RX E draw gd bar i ({ dst:=d,op:=.load t x,type:=ty,pos:=pos,after:=after,guard:=none }::l) st Z=match ((E.T t).bind fun ti=>qP st ti (st.ev x)) with
   | some c=>RX E draw gd bar (i+1) l (st.put d c) Z
   | none=>False:=by
 cases h:((E.T t).bind fun ti=>qP st ti (st.ev x)) with
 | none=>exact oC rfl rfl rfl (congrArg (dZ _ st) h) (congrArg (qSE _) h)
 | some c=>exact mM rfl rfl (congrArg (dZ _ st) h) (congrArg (qSE _) h)
@[go_sem] theorem Zb {t:TypeId} {x:Operand} {f:Nat}:RX E draw gd bar i ({ dst:=d,op:=.fieldAddr t x f,type:=ty,pos:=pos,after:=after,guard:=none }::l) st Z=match ((E.T t).bind fun ti=>qv E ti f (st.ev x)) with
   | some c=>RX E draw gd bar (i+1) l (st.put d c) Z
   | none=>False:=by
 cases h:((E.T t).bind fun ti=>qv E ti f (st.ev x)) with
 | none=>exact oC rfl rfl rfl (congrArg (dZ _ st) h) (congrArg (qSE _) h)
 | some c=>exact mM rfl rfl (congrArg (dZ _ st) h) (congrArg (qSE _) h)
@[go_sem] theorem Zd {t:TypeId} {x ix:Operand}:RX E draw gd bar i ({ dst:=d,op:=.indexAddr t x ix,type:=ty,pos:=pos,after:=after,guard:=none }::l) st Z=match ((E.T t).bind fun ti=>kn st ti (st.ev x) (st.ev ix)) with
   | some c=>RX E draw gd bar (i+1) l (st.put d c) Z
   | none=>False:=by
 cases h:((E.T t).bind fun ti=>kn st ti (st.ev x) (st.ev ix)) with
 | none=>exact oC rfl rfl rfl (congrArg (dZ _ st) h) (congrArg (qSE _) h)
 | some c=>exact mM rfl rfl (congrArg (dZ _ st) h) (congrArg (qSE _) h)
@[go_sem] theorem aby {t:TypeId} {x ix:Operand}:RX E draw gd bar i ({ dst:=d,op:=.index t x ix,type:=ty,pos:=pos,after:=after,guard:=none }::l) st Z=match ((E.T t).bind fun ti=>FR E ti (st.ev x) (st.ev ix)) with
   | some c=>RX E draw gd bar (i+1) l (st.put d c) Z
   | none=>False:=by
 cases h:((E.T t).bind fun ti=>FR E ti (st.ev x) (st.ev ix)) with
 | none=>exact oC rfl rfl rfl (congrArg (dZ _ st) h) (congrArg (qSE _) h)
 | some c=>exact mM rfl rfl (congrArg (dZ _ st) h) (congrArg (qSE _) h)
@[go_sem] theorem aa9 {bop:BinOp} {t t':TypeId} {x y:Operand}:RX E draw gd bar i ({ dst:=d,op:=.binOp bop t x y t',type:=ty,pos:=pos,after:=after,guard:=none }::l) st Z=match (I7 (E.T t) bop (st.ev x) (st.ev y)) with
   | some c=>RX E draw gd bar (i+1) l (st.put d c) Z
   | none=>False:=by
 cases h:(I7 (E.T t) bop (st.ev x) (st.ev y)) with
 | none=>exact oC rfl rfl rfl (congrArg (dZ _ st) h) (congrArg (qSE _) h)
 | some c=>exact mM rfl rfl (congrArg (dZ _ st) h) (congrArg (qSE _) h)
@[go_sem] theorem ab1 {uop:UnOp} {t:TypeId} {x:Operand}:RX E draw gd bar i ({ dst:=d,op:=.unOp uop t x,type:=ty,pos:=pos,after:=after,guard:=none }::l) st Z=match (unC uop (st.ev x)) with
   | some c=>RX E draw gd bar (i+1) l (st.put d c) Z
   | none=>False:=by
 cases h:(unC uop (st.ev x)) with
 | none=>exact oC rfl rfl rfl (congrArg (dZ _ st) h) (congrArg (qSE _) h)
 | some c=>exact mM rfl rfl (congrArg (dZ _ st) h) (congrArg (qSE _) h)
@[go_sem] theorem aab {t t':TypeId} {x:Operand}:RX E draw gd bar i ({ dst:=d,op:=.convert t t' x,type:=ty,pos:=pos,after:=after,guard:=none }::l) st Z=match (match (if (E.T t).isSome then (E.T t').bind fun ti=>Jp ti (st.ev x) else none) with
   | some c=>some c
   | none=>KX E st t t' (st.ev x)) with
   | some c=>RX E draw gd bar (i+1) l (st.put d c) Z
   | none=>False:=by
 cases h:(match (if (E.T t).isSome then (E.T t').bind fun ti=>Jp ti (st.ev x) else none) with
   | some c=>some c
   | none=>KX E st t t' (st.ev x)) with
 | none=>exact oC rfl rfl rfl (congrArg (dZ _ st) h) (congrArg (qSE _) h)
 | some c=>exact mM rfl rfl (congrArg (dZ _ st) h) (congrArg (qSE _) h)
@[go_sem] theorem aah {x:Operand} {k:Nat}:RX E draw gd bar i ({ dst:=d,op:=.extract x k,type:=ty,pos:=pos,after:=after,guard:=none }::l) st Z=match (KK (st.ev x) k) with
   | some c=>RX E draw gd bar (i+1) l (st.put d c) Z
   | none=>False:=by
 cases h:(KK (st.ev x) k) with
 | none=>exact oC rfl rfl rfl (congrArg (dZ _ st) h) (congrArg (qSE _) h)
 | some c=>exact mM rfl rfl (congrArg (dZ _ st) h) (congrArg (qSE _) h)
@[go_sem] theorem aa4 {t:TypeId} {x:Operand} {lo hi mx:Option Operand}:RX E draw gd bar i ({ dst:=d,op:=.slice t x lo hi mx,type:=ty,pos:=pos,after:=after,guard:=none }::l) st Z=match ((E.T t).bind fun ti=>BE st ti (st.ev x) (lo.map st.ev) (hi.map st.ev) (mx.map st.ev)) with
   | some c=>RX E draw gd bar (i+1) l (st.put d c) Z
   | none=>match gh E { dst:=d,op:=.slice t x lo hi mx,type:=ty,pos:=pos,after:=after,guard:=none } st with
    | some s=>(draw=true->bar i=true)/\RX E draw gd bar (i+1) l s Z
    | none=>False:=
 Jf (o:={ dst:=d,op:=.slice t x lo hi mx,type:=ty,pos:=pos,after:=after,guard:=none }) rfl rfl rfl rfl
@[go_sem] theorem ZE {f:FuncId} {first caps:Array Operand}:RX E draw gd bar i ({ dst:=d,op:=.makeFunc (.func f) first caps,type:=ty,pos:=pos,after:=after,guard:=none }::l) st Z=match (if first.size=0/\f < B0 then some (C.clo f (caps.toList.map st.ev)) else if caps.size=0 then some (C.clo (f+B0) (first.toList.map st.ev)) else none) with
   | some c=>RX E draw gd bar (i+1) l (st.put d c) Z
   | none=>False:=by
 cases h:(if first.size=0/\f < B0 then some (C.clo f (caps.toList.map st.ev)) else if caps.size=0 then some (C.clo (f+B0) (first.toList.map st.ev)) else none) with
 | none=>exact oC rfl rfl rfl (congrArg (dZ _ st) h) (congrArg (qSE _) h)
 | some c=>exact mM rfl rfl (congrArg (dZ _ st) h) (congrArg (qSE _) h)
@[go_sem] theorem ZG {x:Operand}:RX E draw gd bar i ({ dst:=d,op:=.nilCheck x,type:=ty,pos:=pos,after:=after,guard:=none }::l) st Z=match (IY (st.ev x)) with
   | some c=>RX E draw gd bar (i+1) l (st.put d c) Z
   | none=>False:=by
 cases h:(IY (st.ev x)) with
 | none=>exact oC rfl rfl rfl (congrArg (dZ _ st) h) (congrArg (qSE _) h)
 | some c=>exact mM rfl rfl (congrArg (dZ _ st) h) (congrArg (qSE _) h)
@[go_sem] theorem aa8 {t:TypeId} {parts:Array (Nat × Operand)}:RX E draw gd bar i ({ dst:=d,op:=.build t parts,type:=ty,pos:=pos,after:=after,guard:=none }::l) st Z=match ((E.T t).bind fun ti=>Ib E ti (parts.toList.map fun x=>(x.1,st.ev x.2))) with
   | some c=>RX E draw gd bar (i+1) l (st.put d c) Z
   | none=>False:=by
 cases h:((E.T t).bind fun ti=>Ib E ti (parts.toList.map fun x=>(x.1,st.ev x.2))) with
 | none=>exact oC rfl rfl rfl (congrArg (dZ _ st) h) (congrArg (qSE _) h)
 | some c=>exact mM rfl rfl (congrArg (dZ _ st) h) (congrArg (qSE _) h)
end
end
end Go.Abs
namespace Go.Abs
section
variable {E:Env} {st:St} {draw:Bool} {gd:Nat->Option Tmp} {bar:Nat->Bool} {i:Nat} {l:List Oper} {Z:St->Prop} {d:Tmp} {ty:TypeId} {pos:String} {after:Array Edge}
def okD (E:Env) (draw:Bool) (bar:Nat->Bool) (i:Nat) (o:Oper) (st:St):Prop:=
 draw=true->(∃ e s,fD E o st=some e/\e.apply st=some s)∨bar i=true
def WI {o:Oper} {e:SE} {s:St} (h1:fD E o st=some e) (h2:e.apply st=some s):exe E o st=some s:=by
 obtain ⟨d1,o1,t1,p1,a1,g1⟩:=o;have:=Bb (E:=E) (ops:=#[]) (o:=⟨d1,o1,t1,p1,a1,none⟩) (st:=st) (st':=s);have h3:fD E ⟨d1,o1,t1,p1,a1,none⟩ st=some e:=h1;exact this (by simp [bx,mG,h3,h2])
def Fw {o:Oper} (hg:o.guard=none):RX E draw gd bar i (o::l) st Z=match exe E o st with
  | some s=>okD E draw bar i o st/\RX E draw gd bar (i+1) l s Z
  | none=>False:=by
 rw [RX,hg];simp only;cases draw with
 | false=>
  simp only [qX];cases exe E o st<;>simp [okD]
 | true=>
  simp only [qX];cases hb:fD E o st with
  | none=>
   simp only;cases hx:exe E o st with
   | none=>simp
   | some s=>
    by_cases hbar:bar i=true
    ·simp [hbar,okD]
    ·simp [hbar,okD,hb]
  | some e=>
   simp only;cases hap:e.apply st with
   | none=>
    simp only;cases hx:exe E o st with
    | none=>simp
    | some s=>
     by_cases hbar:bar i=true
     ·simp [hbar,okD]
     ·simp [hbar,okD,hb,hap]
   | some s=>
    simp only [WI hb hap];refine propext ⟨fun h=>⟨fun _=>.inl ⟨e,s,hb,hap⟩,h⟩,fun h=>h.2⟩
@[go_sem] theorem abI {t:TypeId}:RX E draw gd bar i ({ dst:=some d,op:=.alloc t,type:=ty,pos:=pos,after:=after,guard:=none }::l) st Z=match E.T t with
  | some ti=>(draw=true->dO (st.roots d)=true∨bar i=true)/\RX E draw gd bar (i+1) l (Ip d ti st) Z
  | none=>False:=by
 rw [Fw rfl];simp only [exe,kW,kP,gh];cases ht:E.T t with
 | none=>rfl
 | some ti=>
  simp only
  congr 1
  simp only [okD,fD,ht];refine propext (imp_congr_right fun _=>or_congr ⟨?_,?_⟩ af7)
  ·rintro ⟨e,s,h1,h2⟩;simp only [acB] at h1;subst h1;simp only [SE.apply] at h2;split at h2
   ·rename_i h; exact h
   ·simp at h2
  ·intro h;exact ⟨_,_,rfl,by simp only [SE.apply]; rw [h]⟩
@[go_sem] theorem acd {t:TypeId} {x:Operand}:RX E draw gd bar i ({ dst:=some d,op:=.box t x,type:=ty,pos:=pos,after:=after,guard:=none }::l) st Z=match E.T t with
  | some ti=>match KP d ti x st with
   | some s=>okD E draw bar i { dst:=some d,op:=.box t x,type:=ty,pos:=pos,after:=after,guard:=none } st/\RX E draw gd bar (i+1) l s Z
   | none=>False
  | none=>False:=by
 rw [Fw rfl];simp only [exe,kW,kP,gh];cases ht:E.T t with
 | none=>rfl
 | some ti=>simp only; cases KP d ti x st<;>rfl
@[go_sem] theorem YW {t:TypeId} {len:Nat} {parts:Array (Nat × Operand)}:RX E draw gd bar i ({ dst:=some d,op:=.buildSlice t len parts,type:=ty,pos:=pos,after:=after,guard:=none }::l) st Z=match E.T t with
  | some ti=>match jZ E d ti len parts.toList st with
   | some s=>okD E draw bar i { dst:=some d,op:=.buildSlice t len parts,type:=ty,pos:=pos,after:=after,guard:=none } st/\RX E draw gd bar (i+1) l s Z
   | none=>False
  | none=>False:=by
 rw [Fw rfl];simp only [exe,kW,kP,gh];cases ht:E.T t with
 | none=>rfl
 | some ti=>simp only; cases jZ E d ti len parts.toList st<;>rfl
def JA (E:Env) (t:TypeId) (x v:Operand) (st:St):Bool:=
 match C3 E { dst:=none,op:=.store t x v,type:=0,pos := "", after := #[], guard := none } t x v st with
 | some e=>(e.apply st).isSome
 | none=>false
@[go_sem] theorem abp {t:TypeId} {x v:Operand}:RX E draw gd bar i ({ dst:=none,op:=.store t x v,type:=ty,pos:=pos,after:=after,guard:=none }::l) st Z=match E.T t with
  | some ti=>match jQ ti (st.ev x) (st.ev v) st with
   | some s=>(draw=true->(bar i || JA E t x v st)=true)/\RX E draw gd bar (i+1) l s Z
   | none=>False
  | none=>False:=by
 rw [Fw rfl];simp only [exe,kW,kP,gh];cases ht:E.T t with
 | none=>rfl
 | some ti=>
  simp only;cases hs:jQ ti (st.ev x) (st.ev v) st with
  | none=>rfl
  | some s=>
   simp only [okD,fD]
   congr 1
   refine propext ⟨fun h hd=>?_,fun h hd=>?_⟩
   ·rcases h hd with ⟨e,s',h1,h2⟩|h
    ·have:JA E t x v st=true:=by
      unfold JA;have h1':C3 E { dst:=none,op:=.store t x v,type:=0,pos := "", after := #[], guard := none } t x v st = some e := h1;rw [h1'];simp [h2]
     simp [this]
    ·simp [h]
   ·have:=h hd;rw [adJ] at this;rcases this with h|h
    ·exact .inr h
    ·unfold JA at h;split at h
     ·rename_i e he;obtain ⟨s',hs'⟩:=aeM.1 h;exact .inl ⟨e,s',he,hs'⟩
     ·simp at h
def PL (E:Env) (d:Nat) (t tx:TypeId) (s x:Operand) (st:St):Option St:=
 match E.T t,E.T tx with
 | some ti,some tix=>match ti.kind with
  | .slice e es=>match (match tix.kind with
    | .slice e' es'=>if e=e'/\es=es' then (match (match E.F d with
      | some false=>(match E.T e with
       | some te=>wB d es te (st.ev s) (st.ev x) st
       | none=>none)
      | some true=>(match E.T e with
       | some te=>gA d es te tix (st.ev s) (st.ev x) st
       | none=>none)
      | none=>rb d es (st.ev s) (st.ev x) st) with
     | some s'=>some s'
     | none=>y9 E d ti s x st) else none
    | _=>none) with
   | some s'=>some s'
   | none=>match E.T e with
    | some te=>gA d es te tix (st.ev s) (st.ev x) st
    | none=>none
  | _=>none
 | _,_=>none
@[go_sem] theorem aar {s x:Operand} {t tx:TypeId}:RX E draw gd bar i ({ dst:=some d,op:=.call { callee:=.builtin .append,args:=#[s,x],argTypes:=#[t,tx] },type:=ty,pos:=pos,after:=after,guard:=none }::l) st Z=match PL E d t tx s x st with
  | some s=>(draw=true->bar i=true)/\RX E draw gd bar (i+1) l s Z
  | none=>False:=by
 rw [Fw rfl];have e:exe E { dst:=some d,op:=.call { callee:=.builtin .append,args:=#[s,x],argTypes:=#[t,tx] },type:=ty,pos:=pos,after:=after,guard:=none } st=PL E d t tx s x st:=by
  simp only [exe,kW,kP,gh,PL];cases ht:E.T t with
  | none=>rfl
  | some ti=>
   cases htx:E.T tx with
   | none=>rfl
   | some tix=>
    simp only;cases hk:ti.kind<;>cases hkx:tix.kind<;>(try simp only)<;>(try rfl)
    rename_i e es e' es';by_cases he:e=e'/\es=es'
    ·obtain ⟨rfl,rfl⟩:=he;simp only [and_self,if_true];cases E.F d with
     | some b=>
      cases b with
      | false=>
       simp only;cases E.T e with
       | none=>rfl
       | some te=>simp only; cases wB d es te (st.ev s) (st.ev x) st<;>rfl
      | true=>
       simp only;cases E.T e with
       | none=>rfl
       | some te=>simp only; cases gA d es te tix (st.ev s) (st.ev x) st<;>rfl
     | none=>simp only; cases rb d es (st.ev s) (st.ev x) st<;>rfl
    ·simp only [he,if_false];rfl
 rw [e];cases PL E d t tx s x st with
 | none=>rfl
 | some s=>
  simp only [okD,fD]
  congr 1
  simp
def IF:Builtin->Bool
 | .append=>false
 | .copy=>false
 | .cap=>false
 | _=>true
def GC {b:Builtin} {args:Array Operand} {tys:Array TypeId} (hb:IF b=true):RX E draw gd bar i ({ dst:=some d,op:=.call { callee:=.builtin b,args:=args,argTypes:=tys },type:=ty,pos:=pos,after:=after,guard:=none }::l) st Z =
  match lj ((tys[0]?).bind E.T) b (args.toList.map st.ev) with
   | some c=>RX E draw gd bar (i+1) l (st.put (some d) c) Z
   | none=>False:=by
 have h0:kW E { dst:=some d,op:=.call { callee:=.builtin b,args:=args,argTypes:=tys },type:=ty,pos:=pos,after:=after,guard:=none } st=none:=by
  cases b<;>first|rfl|simp [IF] at hb
 have h3:gh E { dst:=some d,op:=.call { callee:=.builtin b,args:=args,argTypes:=tys },type:=ty,pos:=pos,after:=after,guard:=none } st=none:=by
  cases b<;>first|rfl|simp [IF] at hb
 have h1:kP E { dst:=some d,op:=.call { callee:=.builtin b,args:=args,argTypes:=tys },type:=ty,pos:=pos,after:=after,guard:=none } st=dZ { dst:=some d,op:=.call { callee:=.builtin b,args:=args,argTypes:=tys },type:=ty,pos:=pos,after:=after,guard:=none } st (lj ((tys[0]?).bind E.T) b (args.toList.map st.ev)):=by
  cases b<;>first|rfl|simp [IF] at hb
 have h2:fD E { dst:=some d,op:=.call { callee:=.builtin b,args:=args,argTypes:=tys },type:=ty,pos:=pos,after:=after,guard:=none } st=qSE { dst:=some d,op:=.call { callee:=.builtin b,args:=args,argTypes:=tys },type:=ty,pos:=pos,after:=after,guard:=none } (lj ((tys[0]?).bind E.T) b (args.toList.map st.ev)):=by
  cases b<;>first|rfl|simp [IF] at hb
 cases h:lj ((tys[0]?).bind E.T) b (args.toList.map st.ev) with
 | none=>exact oC rfl h0 h3 (by rw [h1,h]) (by rw [h2,h])
 | some c=>exact mM rfl h0 (by rw [h1,h]) (by rw [h2,h])
@[go_sem] theorem acn {args:Array Operand} {tys:Array TypeId}:RX E draw gd bar i ({ dst:=some d,op:=.call { callee:=.builtin .len,args:=args,argTypes:=tys },type:=ty,pos:=pos,after:=after,guard:=none }::l) st Z =
  match lj ((tys[0]?).bind E.T) .len (args.toList.map st.ev) with
   | some c=>RX E draw gd bar (i+1) l (st.put (some d) c) Z
   | none=>False:=GC rfl
@[go_sem] theorem acp {args:Array Operand} {tys:Array TypeId}:RX E draw gd bar i ({ dst:=some d,op:=.call { callee:=.builtin .min,args:=args,argTypes:=tys },type:=ty,pos:=pos,after:=after,guard:=none }::l) st Z =
  match lj ((tys[0]?).bind E.T) .min (args.toList.map st.ev) with
   | some c=>RX E draw gd bar (i+1) l (st.put (some d) c) Z
   | none=>False:=GC rfl
@[go_sem] theorem aco {args:Array Operand} {tys:Array TypeId}:RX E draw gd bar i ({ dst:=some d,op:=.call { callee:=.builtin .max,args:=args,argTypes:=tys },type:=ty,pos:=pos,after:=after,guard:=none }::l) st Z =
  match lj ((tys[0]?).bind E.T) .max (args.toList.map st.ev) with
   | some c=>RX E draw gd bar (i+1) l (st.put (some d) c) Z
   | none=>False:=GC rfl
@[go_sem] theorem Q2 {x:Operand} {t:TypeId}:RX E draw gd bar i ({ dst:=some d,op:=.call { callee:=.builtin .cap,args:=#[x],argTypes:=#[t] },type:=ty,pos:=pos,after:=after,guard:=none }::l) st Z =
  match lj (E.T t) .cap [st.ev x] with
   | some c=>RX E draw gd bar (i+1) l (st.put (some d) c) Z
   | none=>match gh E { dst:=some d,op:=.call { callee:=.builtin .cap,args:=#[x],argTypes:=#[t] },type:=ty,pos:=pos,after:=after,guard:=none } st with
    | some s=>(draw=true->bar i=true)/\RX E draw gd bar (i+1) l s Z
    | none=>False:=
 Jf (o:={ dst:=some d,op:=.call { callee:=.builtin .cap,args:=#[x],argTypes:=#[t] },type:=ty,pos:=pos,after:=after,guard:=none }) rfl rfl rfl rfl
@[go_sem] theorem CY {x s:Operand} {t tx:TypeId} {d:Option Tmp}:RX E draw gd bar i ({ dst:=d,op:=.call { callee:=.builtin .copy,args:=#[s,x],argTypes:=#[t,tx] },type:=ty,pos:=pos,after:=after,guard:=none }::l) st Z =
  match gh E { dst:=d,op:=.call { callee:=.builtin .copy,args:=#[s,x],argTypes:=#[t,tx] },type:=ty,pos:=pos,after:=after,guard:=none } st with
   | some s=>(draw=true->bar i=true)/\RX E draw gd bar (i+1) l s Z
   | none=>False:=
 Jf (q:=none) (o:={ dst:=d,op:=.call { callee:=.builtin .copy,args:=#[s,x],argTypes:=#[t,tx] },type:=ty,pos:=pos,after:=after,guard:=none }) rfl rfl rfl rfl
@[go_sem] theorem RJ {x:Operand} {t:TypeId} {d:Option Tmp}:RX E draw gd bar i ({ dst:=d,op:=.call { callee:=.builtin .clear,args:=#[x],argTypes:=#[t] },type:=ty,pos:=pos,after:=after,guard:=none }::l) st Z =
  match gh E { dst:=d,op:=.call { callee:=.builtin .clear,args:=#[x],argTypes:=#[t] },type:=ty,pos:=pos,after:=after,guard:=none } st with
   | some s=>(draw=true->bar i=true)/\RX E draw gd bar (i+1) l s Z
   | none=>False:=
 Jf (q:=none) (o:={ dst:=d,op:=.call { callee:=.builtin .clear,args:=#[x],argTypes:=#[t] },type:=ty,pos:=pos,after:=after,guard:=none }) rfl rfl rfl rfl
@[go_sem] theorem Y1 {t:TypeId} {x c:Operand}:RX E draw gd bar i ({ dst:=some d,op:=.makeSlice t x c,type:=ty,pos:=pos,after:=after,guard:=none }::l) st Z =
  match mkX E d t (st.ev x) (st.ev c) st with
   | some s=>(draw=true->bar i=true)/\RX E draw gd bar (i+1) l s Z
   | none=>False:=
 Jf (q:=none) (o:={ dst:=some d,op:=.makeSlice t x c,type:=ty,pos:=pos,after:=after,guard:=none }) rfl rfl rfl rfl
@[go_sem] theorem ab4 {x:Operand} {args:Array Operand} {tys:Array TypeId}:RX E draw gd bar i ({ dst:=some d,op:=.call { callee:=.value x,args:=args,argTypes:=tys },type:=ty,pos:=pos,after:=after,guard:=none }::l) st Z =
  match st.ev x with
   | .clo f caps=>if d < H0 then match G8 E d (GB f) (Jk f (args.toList.map st.ev) caps) st with
     | some s=>okD E draw bar i { dst:=some d,op:=.call { callee:=.value x,args:=args,argTypes:=tys },type:=ty,pos:=pos,after:=after,guard:=none } st/\RX E draw gd bar (i+1) l s Z
     | none=>False
    else False
   | _=>False:=by
 rw [Fw rfl];simp only [exe,kW,kP,gh,Jt,gj];cases hx:st.ev x<;>simp only
 by_cases hd:d < H0
 ·simp only [hd,if_true];cases G8 E d (GB _) (Jk _ (List.map st.ev args.toList) _) st<;>rfl
 ·simp only [hd,if_false]
def W8 {o:Oper}:okD E false bar i o st:=fun h=>by simp at h
theorem V9 {o:Oper}:okD E false bar i o st=True:=eq_true W8
end
end Go.Abs
namespace Go.Abs
@[go_sem] theorem abM (ts:List C) (R:Nat->C) (d:Nat) (c:C):St.put ⟨ts,R⟩ (some d) c=⟨ts.set d c,R⟩:=rfl
@[go_sem] theorem abK (st:St) (c:C):st.put none c=st:=rfl
@[go_sem] theorem acm (ts:List C) (R:Nat->C) (t:Nat):St.ev ⟨ts,R⟩ (.tmp t)=(ts[t]?).getD .dead:=rfl
@[go_sem] theorem acf (st:St) (k:IntKind) (n:Int):st.ev (.const (.int k n))=.val (.int k n):=rfl
@[go_sem] theorem ab7 (st:St) (b:Bool):st.ev (.const (.bool b))=.val (.bool b):=rfl
@[go_sem] theorem aao (st:St) (b:ByteArray):st.ev (.const (.string b))=.val (.string b):=rfl
@[go_sem] theorem acb (st:St) (n k:Nat):st.ev (.const (.slice none n k))=.val (.slice none n k):=rfl
@[go_sem] theorem aci (st:St) (cs:Array Value):st.ev (.const (.agg cs))=.agg (cs.toList.map .val):=rfl
@[go_sem] theorem ab9 (st:St) (f:FuncId):st.ev (.func f)=.clo (Lj f) []:=rfl
@[go_sem] theorem ab0 (ops:Array Oper) (j:Nat):kO ops j=(ops[j]?).bind (·.dst):=rfl
@[go_sem] theorem aaw (gd:Nat->Option Tmp) (st:St) (j:Nat):w8 gd st j=match gd j with
 | some t=>match st.ev (.tmp t) with
  | .val (.bool b)=>some (some b)
  | .val (.tuple _)=>some none
  | _=>none
 | none=>none:=rfl
def RZ:Nat->C:=fun _=>.dead
@[go_sem] theorem XK (cs:List C):R0 [] cs=RZ:=by funext n; simp [R0,RZ]
@[go_sem] theorem acy (n:Nat):RZ n=.dead:=rfl
@[go_sem] theorem ab6 (R:Nat->C) (d:Nat) (a b:C):upd (upd R d a) d b=upd R d b:=by funext n; simp only [upd]; split<;>rfl
@[go_sem] theorem ace (d:Nat):upd RZ d .dead=RZ:=by funext n; simp [upd,RZ]
@[go_sem] theorem acj (R:Nat->C) (d:Nat) (a:C) (n:Nat):upd R d a n=if n=d then a else R n:=rfl
def aX.refl (s:St):aX s s:=fun _ _ _ h=>h
def aX.trans {s s' s'':St} (h1:aX s s') (h2:aX s' s''):aX s s'':=fun X a w h=>h2 X a w (h1 X a w h)
end Go.Abs
namespace Go.Abs
section
variable {E:Env} {st:St} {draw:Bool} {gd:Nat->Option Tmp} {bar:Nat->Bool} {i:Nat} {l:List Oper} {Z:St->Prop} {d:Option Tmp} {ty:TypeId} {pos:String} {after:Array Edge}
def jr {j:Nat} {want:Bool} {p:Prop} [inst:Decidable p] {op:Op} (h:w8 gd st j=some (some (decide p)))
  (h1:p->RX E draw gd bar i ({ dst:=d,op:=op,type:=ty,pos:=pos,after:=after,guard:=some (j,want) }::l) st Z)
  (h2:¬ p->RX E draw gd bar i ({ dst:=d,op:=op,type:=ty,pos:=pos,after:=after,guard:=some (j,want) }::l) st Z) :
  RX E draw gd bar i ({ dst:=d,op:=op,type:=ty,pos:=pos,after:=after,guard:=some (j,want) }::l) st Z:=by
 by_cases hp:p
 ·exact h1 hp
 ·exact h2 hp
variable {Q:Exit->St->Prop} {K:List Fm}
def Li {c:Operand} {x y:Code} (hc:st.ev c=.val (.bool true)) (h:W E x (ap E Q K) st):W E (.cond c x y) (ap E Q K) st:=by
 simp [W,hc,h]
def La {c:Operand} {x y:Code} (hc:st.ev c=.val (.bool false)) (h:W E y (ap E Q K) st):W E (.cond c x y) (ap E Q K) st:=by
 simp [W,hc,h]
def tf {c:Operand} {x y:Code} {p:Prop} [inst:Decidable p] (hc:st.ev c=.val (.bool (decide p))) (h1:p->W E x (ap E Q K) st) (h2:¬ p->W E y (ap E Q K) st):W E (.cond c x y) (ap E Q K) st:=
 Zn hc (fun h=>h1 (of_decide_eq_true h)) (fun h=>h2 (of_decide_eq_false h))
@[go_sem] theorem ZI (E:Env) (vs:List ResultVar) (ts:List C) (R:Nat->C):zJ E vs ⟨ts,R⟩=match wK E ⟨ts,R⟩ vs with
 | some cs=>match fa cs with
  | some rs=>some (mT rs)
  | none=>match jR (cs.flatMap bo).length H0 (cs.flatMap bo) .dead ⟨ts,R⟩ with
   | some (s1,_)=>some (mT (im s1.roots H0 cs))
   | none=>none
 | none=>none:=rfl
@[go_sem] theorem aaG (E:Env) (s:St):wK E s []=some []:=rfl
@[go_sem] theorem abj (E:Env) (ts:List C) (R:Nat->C) (t:Nat) (vs:List ResultVar):wK E ⟨ts,R⟩ (.tmp t::vs)=match wK E ⟨ts,R⟩ vs with
 | some cs=>some ((ts[t]?).getD .dead::cs)
 | none=>none:=by
 simp only [wK,Nw];cases wK E ⟨ts,R⟩ vs<;>rfl
@[go_sem] theorem aaj:fa []=some []:=rfl
@[go_sem] theorem aac (k:IntKind) (n:Int) (cs:List C):fa (.val (.int k n)::cs)=match fa cs with
 | some rs=>some (.val (.int k n)::rs)
 | none=>none:=by
 simp only [fa,vu,C.cellOk,Value.oneCell',if_true,C.frz];cases fa cs<;>rfl
@[go_sem] theorem ZH (b:Bool) (cs:List C):fa (.val (.bool b)::cs)=match fa cs with
 | some rs=>some (.val (.bool b)::rs)
 | none=>none:=by
 simp only [fa,vu,C.cellOk,Value.oneCell',if_true,C.frz];cases fa cs<;>rfl
@[go_sem] theorem YV (b:ByteArray) (cs:List C):fa (.val (.string b)::cs)=match fa cs with
 | some rs=>some (.val (.string b)::rs)
 | none=>none:=by
 simp only [fa,vu,C.cellOk,Value.oneCell',if_true,C.frz];cases fa cs<;>rfl
@[go_sem] theorem ZF (cs:List C):fa (.val (.slice none 0 0)::cs)=match fa cs with
 | some rs=>some (.val (.slice none 0 0)::rs)
 | none=>none:=by
 simp only [fa,vu,C.cellOk,Value.oneCell',if_true,C.frz];cases fa cs<;>rfl
@[go_sem] theorem aaB (c:C):mT [c]=c:=rfl
@[go_sem] theorem abJ (c c':C) (cs:List C):mT (c::c'::cs)=.tup (c::c'::cs):=rfl
end
end Go.Abs
namespace Go.Abs
def tab (n:Nat) (f:Nat->C):List C:=(List.range n).map f
def af (f:Nat->C) (d:Nat) (c:C):Nat->C:=fun t=>if t=d then c else f t
def au:Nat->C:=fun _=>.dead
def mS (n:Nat) (f:Nat->C):(tab n f).length=n:=by simp [tab]
theorem gv (n:Nat) (f:Nat->C) (t:Nat):(tab n f)[t]?=if t < n then some (f t) else none:=by
 simp only [tab,acK,List.getElem?_range'];by_cases h:t < n
 ·simp [h]
 ·simp [h]
theorem XT (f:Nat->C) (d:Nat) (c:C) (t:Nat):af f d c t=if t=d then c else f t:=rfl
theorem WK (t:Nat):au t=.dead:=rfl
theorem YA (n:Nat) (f:Nat->C) (d:Nat) (c:C):(tab n f).set d c=tab n (af f d c):=by
 apply adU;intro t;rw [adj,gv,gv,mS];by_cases h:d=t
 ·subst h;by_cases h2:d < n<;>simp [h2,af]
 ·have h':¬ t=d:=fun e=>h e.symm;simp only [h,h',if_false,af]
def YB (n:Nat) (f:Nat->C) (g:C->C):(tab n f).map g=tab n (fun t=>g (f t)):=by
 simp [tab,Function.comp_def]
def uN (g:Nat->aq->Bool) (f:Nat->C):Nat->C:=fun t=>poi g (f t)
theorem Yh (g:Nat->aq->Bool) (f:Nat->C) (t:Nat):uN g f t=poi g (f t):=rfl
theorem C5 (n:Nat) (f:Nat->C) (g:Nat->aq->Bool):(tab n f).map (poi g)=tab n (uN g f):=YB n f (poi g)
theorem YQ (g:Nat->aq->Bool) (v:Value):poi g (.val v)=.val v:=rfl
theorem Xi (g:Nat->aq->Bool):poi g .dead=.dead:=rfl
theorem Zf (g:Nat->aq->Bool) (o:Bool) (nl:Option Bool) (es:Nat) (cap:Option Nat) (rows:List (List C)):poi g (.sl o nl es cap rows)=.sl o nl es cap rows:=rfl
theorem Xm (g:Nat->aq->Bool) (es:Nat) (rows:List (List C)) (i j:Nat):poi g (.iref es rows i j)=.iref es rows i j:=rfl
theorem Xg (g:Nat->aq->Bool) (n:Nat) (p:aq) (i j:Nat):poi g (.pref n p i j)=if g n p=true then .dead else .pref n p i j:=rfl
theorem X3 (g:Nat->aq->Bool) (n:Nat) (p:aq) (lo len:Nat) (cap:Option Nat):poi g (.pal n p lo len cap)=if g n p=true then .dead else .pal n p lo len cap:=rfl
def gp (own:List Bool) (cs:List C):Nat->C:=fun t=>match cs[t]? with
 | some c=>ja own t c
 | none=>.dead
def vE {own:List Bool} {cs:List C} {n:Nat} (h:cs.length<=n):zS own cs n=⟨tab n (gp own cs),R0 own cs⟩:=by
 unfold zS
 congr 1
 apply adU;intro t;rw [gv];by_cases h1:t < cs.length
 ·rw [acN (by rw [lK]; exact h1),Gj];rw [if_pos (by omega)];simp [gp,h1]
 ·rw [acP (by rw [lK]; omega),lK];by_cases h2:t < n
  ·rw [if_pos h2];have:t - cs.length < n - cs.length:=by omega
   simp [this,gp,h1]
  ·rw [if_neg h2];simp; omega
end Go.Abs
namespace Go.Abs
def Le (c c':C):Prop:=∀ (w:World) (S:Nat->Prop) (m m':aq->Value) (p p':aq) (d:Nat) (u:Value),rel w S L0 m false d p c u->rel w S L0 m' false d p' c' u
def bV (c:C):Prop:=∀ q,¬ ak c q
structure LeL (cs cs':List C):Prop where
 len:cs'.length=cs.length
 get:∀ (i:Nat) (c c':C),cs[i]?=some c->cs'[i]?=some c'->Le c c'
structure dw (rs rs':List (List C)):Prop where
 len:rs'.length=rs.length
 get:∀ (i:Nat) (r r':List C),rs[i]?=some r->rs'[i]?=some r'->LeL r r'
def Le.refl (c:C):Le c c:=fun w S m m' p p' d u h=>db h
def LeL.refl (cs:List C):LeL cs cs:=⟨rfl,fun i c c' h h'=>by rw [h] at h'; simp only [acB] at h'; exact h' ▸ Le.refl c⟩
def dw.refl (rs:List (List C)):dw rs rs:=⟨rfl,fun i c c' h h'=>by rw [h] at h'; simp only [acB] at h'; exact h' ▸ LeL.refl c⟩
def LeL.nil:LeL [] []:=LeL.refl []
def LeL.cons {a b:C} {as bs:List C} (h:Le a b) (t:LeL as bs):LeL (a::as) (b::bs):=by
 refine ⟨by simp [t.len],?_⟩;intro i c c' h1 h2;cases i with
 | zero=>simp only [acI,acB] at h1 h2; subst h1; subst h2; exact h
 | succ i=>exact t.get i c c' (by simpa using h1) (by simpa using h2)
def dw.map {α:Type} {f g:α->List C} (h:∀ x,LeL (f x) (g x)) (l:List α):dw (l.map f) (l.map g):=by
 refine ⟨by simp,?_⟩;intro i r r' h1 h2;simp only [acK,acF] at h1 h2;obtain ⟨x,e1,rfl⟩:=h1;obtain ⟨y,e2,rfl⟩:=h2;rw [e1] at e2;simp only [acB] at e2;subst e2;exact h x
theorem Le.nils {o:Bool} {es:Nat}:Le (.val (.slice none 0 0)) (.sl o none es none []):=by
 intro w S m m' p p' d u h;cases d with
 | zero=>exact h.elim
 | succ d=>
  have hu:u=.slice none 0 0:=h;subst hu;exact ⟨none,0,rfl,acU _,by decide,by simp,by simp,by simp,by simp,.inl rfl⟩
def Le.sl {o o':Bool} {nl:Option Bool} {es:Nat} {cap:Option Nat} {rows rows':List (List C)} (h:dw rows rows'):Le (.sl o nl es cap rows) (.sl o' none es none rows'):=by
 intro w S m m' p p' d u hr;cases d with
 | zero=>exact hr.elim
 | succ d=>
  obtain ⟨a,k,h1,h2,h3,h4,hz,h5,h6,h7⟩:=hr;refine ⟨a,k,by rw [h.len]; exact h1,by rw [h.len]; exact h2,h3,by simp,⟨by simp,hz.2⟩,?_,by simp,?_⟩
  ·intro row hrow;obtain ⟨i,hi⟩:=adM.1 hrow;have hlt:i < rows.length:=by rw [<-h.len]; exact (acD.1 hi).1
   have hle:=h.get i rows[i] row (by simp [hlt]) hi;rw [hle.len];exact h5 _ (adF hlt)
  ·rcases h7 with h7|h7|⟨b,off,arr,elem,frz,g1,g2,g3,g4,g5⟩
   ·exact .inl h7
   ·refine .inr (.inl ⟨by simp,?_⟩);have:=h.len;rw [h7.2] at this;exact afh.1 this
   ·refine .inr (.inr ⟨b,off,arr,elem,frz,g1,g2,fun _=>g3 (by simp),by simp,?_⟩);intro i j row' c' e1 e2;have hlt:i < rows.length:=by rw [<-h.len]; exact (acD.1 e1).1
    have hle:=h.get i rows[i] row' (by simp [hlt]) e1;have hlt2:j < rows[i].length:=by rw [<-hle.len]; exact (acD.1 e2).1
    have hle2:=hle.get j rows[i][j] c' (by simp [hlt2]) e2;obtain ⟨u',f1,f2⟩:=g5 i j rows[i] rows[i][j] (by simp [hlt]) (by simp [hlt2]);refine ⟨u',f1,?_⟩;simp only [ads] at f2 ⊢;exact hle2 _ _ _ _ _ _ _ _ f2
def Le.agg {cs cs':List C} (h:LeL cs cs'):Le (.agg cs) (.agg cs'):=by
 intro w S m m' p p' d u hr;cases d with
 | zero=>exact hr.elim
 | succ d=>
  obtain ⟨arr,h1,h2,h3⟩:=hr;refine ⟨arr,h1,by rw [h.len]; exact h2,fun j c' e=>?_⟩;have hlt:j < cs.length:=by rw [<-h.len]; exact (acD.1 e).1
  obtain ⟨u',f1,f2⟩:=h3 j cs[j] (by simp [hlt]);exact ⟨u',f1,h.get j cs[j] c' (by simp [hlt]) e _ _ _ _ _ _ _ _ f2⟩
def Le.tup {cs cs':List C} (h:LeL cs cs'):Le (.tup cs) (.tup cs'):=by
 intro w S m m' p p' d u hr;cases d with
 | zero=>exact hr.elim
 | succ d=>
  obtain ⟨arr,h1,h2,h3⟩:=hr;refine ⟨arr,h1,by rw [h.len]; exact h2,fun j c' e=>?_⟩;have hlt:j < cs.length:=by rw [<-h.len]; exact (acD.1 e).1
  obtain ⟨u',f1,f2⟩:=h3 j cs[j] (by simp [hlt]);exact ⟨u',f1,h.get j cs[j] c' (by simp [hlt]) e _ _ _ _ _ _ _ _ f2⟩
def Le.clo {f:Nat} {cs cs':List C} (h:LeL cs cs'):Le (.clo f cs) (.clo f cs'):=by
 intro w S m m' p p' d u hr;cases d with
 | zero=>exact hr.elim
 | succ d=>
  obtain ⟨arr,h1,h2,h3⟩:=hr;refine ⟨arr,h1,by rw [h.len]; exact h2,fun j c' e=>?_⟩;have hlt:j < cs.length:=by rw [<-h.len]; exact (acD.1 e).1
  obtain ⟨u',f1,f2⟩:=h3 j cs[j] (by simp [hlt]);exact ⟨u',f1,h.get j cs[j] c' (by simp [hlt]) e _ _ _ _ _ _ _ _ f2⟩
def bV.val (v:Value):bV (.val v):=by
 intro q h; cases q<;>simp [ak,C.at,C.kid,C.isOwn] at h
def bV.sl (nl:Option Bool) (es:Nat) (cap:Option Nat) (rows:List (List C)):bV (.sl false nl es cap rows):=by
 intro q h; cases q<;>simp [ak,C.at,C.kid,C.isOwn] at h
def bV.agg {cs:List C} (h:∀ c∈cs,bV c):bV (.agg cs):=by
 intro q hq;cases q with
 | nil=>simp [ak,C.at,C.isOwn] at hq
 | cons s q=>
  simp only [ak,C.at,C.kid] at hq;split at hq
  ·cases hc:cs[s.2]? with
   | none=>rw [hc] at hq; simp at hq
   | some c=>rw [hc] at hq; exact h c (acE hc) q hq
  ·simp at hq
def bV.tup {cs:List C} (h:∀ c∈cs,bV c):bV (.tup cs):=by
 intro q hq;cases q with
 | nil=>simp [ak,C.at,C.isOwn] at hq
 | cons s q=>
  simp only [ak,C.at,C.kid] at hq;split at hq
  ·cases hc:cs[s.2]? with
   | none=>rw [hc] at hq; simp at hq
   | some c=>rw [hc] at hq; exact h c (acE hc) q hq
  ·simp at hq
def Ec {w:World} {S:Nat->Prop}:∀ (d:Nat) {m m':aq->Value} {p p':aq} {c:C} {u:Value},bV c->rel w S L0 m false d p c u->rel w S L0 m' true d p' c u:=by
 intro d
 induction d with
 | zero=>intro m m' p p' c u _ h; exact h.elim
 | succ d ih=>
  intro m m' p p' c u hn h;cases c with
  | dead=>trivial
  | val v=>exact h
  | sl own nl es cap rows=>
   have ho:own=false:=by
    cases own with
    | false=>rfl
    | true=>exact (hn [] (by simp [ak,C.at,C.isOwn])).elim
   subst ho;obtain ⟨a,k,h1,h2,h3,h4,hz,h5,h6,h7⟩:=h;refine ⟨a,k,h1,h2,h3,h4,hz,h5,by simp,?_⟩;rcases h7 with h7|h7|⟨b,off,arr,elem,frz,g1,g2,g3,g4,g5⟩
   ·exact .inl h7
   ·exact .inr (.inl ⟨by simp,h7.2⟩)
   ·refine .inr (.inr ⟨b,off,arr,elem,frz,g1,g2,fun _=>g3 (by simp),by simp,?_⟩);intro i j row c' e1 e2;obtain ⟨u',e3,e4⟩:=g5 i j row c' e1 e2;exact ⟨u',e3,db e4⟩
  | agg cs=>
   obtain ⟨arr,h1,h2,h3⟩:=h;refine ⟨arr,h1,h2,fun j c' e=>?_⟩;obtain ⟨u',e1,e2⟩:=h3 j c' e;refine ⟨u',e1,ih ?_ e2⟩;intro q hq;exact hn ((0,j)::q) (by simp only [ak,C.at,C.kid,if_true,e,acC]; exact hq)
  | tup cs=>
   obtain ⟨arr,h1,h2,h3⟩:=h;refine ⟨arr,h1,h2,fun j c' e=>?_⟩;obtain ⟨u',e1,e2⟩:=h3 j c' e;refine ⟨u',e1,ih ?_ e2⟩;intro q hq;exact hn ((0,j)::q) (by simp only [ak,C.at,C.kid,if_true,e,acC]; exact hq)
  | clo f cs=>
   obtain ⟨arr,h1,h2,h3⟩:=h;exact ⟨arr,h1,h2,fun j c' e=>let ⟨u',e1,e2⟩:=h3 j c' e; ⟨u',e1,db e2⟩⟩
  | iref es rows i j=>
   obtain ⟨b,off,arr,elem,frz,g1,g2,g3,g4,g5⟩:=h;exact ⟨b,off,arr,elem,frz,g1,g2,g3,g4,fun i j row c' e1 e2=>let ⟨u',e3,e4⟩:=g5 i j row c' e1 e2; ⟨u',e3,db e4⟩⟩
  | pref n p i j=>exact h
  | pal n p lo len cap=>exact h
def Jx (cs:List C):R0 [] cs=fun _=>.dead:=by funext n; simp [R0]
def k8 {cs:List C} {m:Nat->aq->Value} {b:Nat}:¬ aH (R0 [] cs) m b:=by
 rintro ⟨n,p,h1,h2⟩;rw [Jx] at h1;exact aM h1
def Con.args {P:Program} {f:FuncId} {pure:Bool} {cs cs':List C} {r:C} (h:Con P f [] pure cs' r) (hle:LeL cs cs'):Con P f [] pure cs r:=by
 intro w S m us hl hr hinj;have key:∀ (i:Nat) (c:C),cs'[i]?=some c->∃ u d,us[i]?=some u/\rel w (fun b=>S b/\¬ aH (R0 [] cs') m b) L0 (m i) (([]:List Bool).getD i false) d [] c u:=by
  intro i c' hc;have hlt:i < cs.length:=by rw [<-hle.len]; exact (acD.1 hc).1
  obtain ⟨u,d,h1,h2⟩:=hr i cs[i] (by simp [hlt]);refine ⟨u,d,h1,?_⟩;simp only [afn] at h2 ⊢;have h3:=hle.get i cs[i] c' (by simp [hlt]) hc w _ (m i) (m i) [] [] d u h2;exact av (fun b _ hb=>⟨⟨hb.1,k8⟩,rfl⟩) d (fun _ _ _ h=>h) (fun h=>by simp at h) (fun h=>by simp at h) h3
 have hinj':Inj (R0 [] cs') m:=by
  intro n p n' p' b h1;rw [Jx] at h1;exact (aM h1).elim
 have:=h w S m us (by rw [hl,hle.len]) key hinj';have e:∀ b,aH (R0 [] cs') m b↔aH (R0 [] cs) m b:=fun b=>⟨fun h=>(k8 h).elim,fun h=>(k8 h).elim⟩;have e2:aH (R0 [] cs') m=aH (R0 [] cs) m:=funext fun b=>propext (e b);rw [e2] at this;exact this
inductive ROk:C->C->Prop
 | refl (r:C):ROk r r
 | of (r:C) {r0:C} (h:Le r0 r) (hn:bV r):ROk r0 r
 | nil (es:Nat):ROk (.val (.slice none 0 0)) (.sl true none es none [])
 | own {nl:Option Bool} {es:Nat} {cap:Option Nat} {rows rows':List (List C)} (h:dw rows rows') (hn:∀ row∈rows',∀ c∈row,bV c):ROk (.sl true nl es cap rows) (.sl true none es none rows')
 | agg {as bs:List C} (hl:bs.length=as.length) (h:∀ (i:Nat) (a b:C),as[i]?=some a->bs[i]?=some b->ROk a b):ROk (.agg as) (.agg bs)
 | tup {as bs:List C} (hl:bs.length=as.length) (h:∀ (i:Nat) (a b:C),as[i]?=some a->bs[i]?=some b->ROk a b):ROk (.tup as) (.tup bs)
def Nf:∀ (i:Nat) (a b:C),([]:List C)[i]?=some a->([]:List C)[i]?=some b->ROk a b:=fun i a b h=>by simp at h
def Lh {a b:C} {as bs:List C} (h:ROk a b) (t:∀ (i:Nat) (a b:C),as[i]?=some a->bs[i]?=some b->ROk a b):∀ (i:Nat) (c d:C),(a::as)[i]?=some c->(b::bs)[i]?=some d->ROk c d:=by
 intro i c d h1 h2;cases i with
 | zero=>simp only [acI,acB] at h1 h2; subst h1; subst h2; exact h
 | succ i=>exact t i c d (by simpa using h1) (by simpa using h2)
def ROk.ownAt {c c':C} (h:ROk c c'):∀ {q:aq},ak c' q->ak c q∨c.at q=some (.val (.slice none 0 0)):=by
 induction h with
 | refl r=>intro q hq; exact .inl hq
 | of r hle hn=>intro q hq; exact (hn q hq).elim
 | nil es=>
  intro q hq;cases q with
  | nil=>exact .inr rfl
  | cons s q=>simp [ak,C.at,C.kid] at hq
 | own h hn=>
  rename_i nl es cap rows rows';intro q hq;cases q with
  | nil=>exact .inl rfl
  | cons s q=>
   simp only [ak,C.at,C.kid] at hq;cases hr:rows'[s.1]? with
   | none=>simp [hr] at hq
   | some row=>
    simp only [hr,acC] at hq;cases hc:row[s.2]? with
    | none=>simp [hc] at hq
    | some c1=>
     simp only [hc,acC] at hq;exact (hn row (acE hr) c1 (acE hc) q hq).elim
 | agg hl h ih=>
  rename_i cs ds;intro q hq;cases q with
  | nil=>simp [ak,C.at,C.isOwn] at hq
  | cons s q=>
   simp only [ak,C.at,C.kid] at hq;by_cases hs:s.1=0
   ·simp only [hs,if_true] at hq;cases hd:ds[s.2]? with
    | none=>simp [hd] at hq
    | some b=>
     simp only [hd,acC] at hq;have hlt:=(acD.1 hd).1;rw [hl] at hlt;have ha:cs[s.2]?=some cs[s.2]:=by simp [hlt]
     rcases ih s.2 _ _ ha hd hq with h1|h1
     ·left; simp only [ak,C.at,C.kid,hs,if_true,ha,acC]; exact h1
     ·right; simp only [C.at,C.kid,hs,if_true,ha,acC]; exact h1
   ·simp [hs] at hq
 | tup hl h ih=>
  rename_i cs ds;intro q hq;cases q with
  | nil=>simp [ak,C.at,C.isOwn] at hq
  | cons s q=>
   simp only [ak,C.at,C.kid] at hq;by_cases hs:s.1=0
   ·simp only [hs,if_true] at hq;cases hd:ds[s.2]? with
    | none=>simp [hd] at hq
    | some b=>
     simp only [hd,acC] at hq;have hlt:=(acD.1 hd).1;rw [hl] at hlt;have ha:cs[s.2]?=some cs[s.2]:=by simp [hlt]
     rcases ih s.2 _ _ ha hd hq with h1|h1
     ·left; simp only [ak,C.at,C.kid,hs,if_true,ha,acC]; exact h1
     ·right; simp only [C.at,C.kid,hs,if_true,ha,acC]; exact h1
   ·simp [hs] at hq
open Classical in
noncomputable def zu (c:C) (m:aq->Value) (p:aq) (q:aq):Value:=if c.at q=some (.val (.slice none 0 0)) then .slice none 0 0 else m (p++q)
open Classical in
theorem AM {c:C} {m:aq->Value} {p q:aq} (h:ak c q):zu c m p q=m (p++q):=by
 unfold zu;split
 ·rename_i e; rw [ak,e] at h; simp [C.isOwn] at h
 ·rfl
def ND {w:World} {S S':Nat->Prop} {m m':aq->Value} (hS:∀ b,S b->S' b) {c c':C} (h:ROk c c'):∀ (d:Nat) {p p':aq} {u:Value},
  (∀ q,ak c' q->m' (p'++q)=zu c m p q)->(∀ q b,ak c q->¬ ak c' q->blk (m (p++q))=some b->S' b) ->
  rel w S L0 m true d p c u->rel w S' L0 m' true (d+1) p' c' u:=by
 induction h with
 | refl r=>
  intro d p p' u hm _ hr;exact aT d (d+1) (aeL _) (av (fun b _ hb=>⟨hS b hb,rfl⟩) d (fun _ _ _ h=>h) (fun _ _ _ _ _ _=>rfl) (fun _ q hq=>by rw [hm q hq,AM hq]) hr)
 | of r hle hn=>
  intro d p p' u hm hO hr;have a1:=qR (S:=S) (S':=S') (m:=m) (m':=m) (p:=p) (p':=p) hS d (fun _ q b hq hb=>hO q b hq (hn q) hb) hr;exact aT d (d+1) (aeL _) (Ec d hn (hle _ _ _ m _ p d u a1))
 | nil es=>
  intro d p p' u hm hO hr;cases d with
  | zero=>exact hr.elim
  | succ d=>
   have hu:u=.slice none 0 0:=hr;refine ⟨none,0,hu,acU _,adt _,by simp,⟨by simp,by simp⟩,by simp,?_,.inl rfl⟩;intro _;have:=hm [] rfl;rw [adg] at this;rw [hu,this];simp [zu,C.at]
 | own h hn=>
  rename_i nl es cap rows rows';intro d p p' u hm hO hr;cases d with
  | zero=>exact hr.elim
  | succ d=>
   obtain ⟨a,k,h1,h2,h3,h4,hz,h5,h6,h7⟩:=hr;have hm0:m' p'=m p:=by
    have:=hm [] rfl;rw [AM (c:=.sl true nl es cap rows) (q:=[]) rfl] at this;simpa using this
   refine ⟨a,k,by rw [h.len]; exact h1,by rw [h.len]; exact h2,h3,by simp,⟨by simp,hz.2⟩,?_,fun _=>by rw [hm0]; exact h6 rfl,?_⟩
   ·intro row' hrow;obtain ⟨i,hi,e⟩:=afC hrow;have hlt:i < rows.length:=by rw [<-h.len]; exact hi
    have:=h.get i rows[i] row' (by simp [hlt]) (by simp [hi,e]);rw [this.len];exact h5 _ (adF hlt)
   ·rcases h7 with h7|h7|⟨b,off,arr,elem,frz,g1,g2,g3,g4,g5⟩
    ·exact .inl h7
    ·simp at h7
    ·refine .inr (.inr ⟨b,off,arr,elem,frz,g1,g2,fun h=>by simp at h,g4,?_⟩);intro i j row' c' e1 e2;have hlt:i < rows.length:=by rw [<-h.len]; exact (acD.1 e1).1
     have hrow:rows[i]?=some rows[i]:=by simp [hlt]
     have hle:=h.get i rows[i] row' hrow e1;have hltj:j < rows[i].length:=by rw [<-hle.len]; exact (acD.1 e2).1
     have hc:rows[i][j]?=some rows[i][j]:=by simp [hltj]
     obtain ⟨u',e3,e4⟩:=g5 i j _ _ hrow hc;have hnc:=hn row' (acE e1) c' (acE e2);refine ⟨u',e3,aT d (d+1) (aeL _) (Ec d hnc (hle.get j _ c' hc e2 _ _ _ m _ p d u' (qR (S:=S) (S':=S') (m:=m) (m':=m) (p:=p++[(i,j)]) (p':=p) hS d ?_ e4)))⟩;intro _ q b' hq hb;refine hO ((i,j)::q) b' ?_ ?_ (by simpa using hb)
     ·simp only [ak,C.at,C.kid,hrow,acC,hc]; exact hq
     ·simp only [ak,C.at,C.kid,e1,acC,e2]; exact hnc q
 | agg hl h ih=>
  rename_i cs ds;intro d p p' u hm hO hr;cases d with
  | zero=>exact hr.elim
  | succ d=>
   obtain ⟨arr,h1,h2,h3⟩:=hr;refine ⟨arr,h1,by rw [hl]; exact h2,fun j c' e=>?_⟩;have hlt:=(acD.1 e).1;rw [hl] at hlt;have ha:cs[j]?=some cs[j]:=by simp [hlt]
   obtain ⟨u',e1,e2⟩:=h3 j _ ha;refine ⟨u',e1,ih j _ _ ha e d ?_ ?_ e2⟩
   ·intro q hq;have:=hm ((0,j)::q) (by simp only [ak,C.at,C.kid,if_true,e,acC]; exact hq);have e3:(C.agg cs).at ((0,j)::q)=cs[j].at q:=by simp only [C.at,C.kid,if_true,ha,acC]
    unfold zu at this ⊢;rw [e3] at this;simpa using this
   ·intro q b hq hnq hb;refine hO ((0,j)::q) b (by simp only [ak,C.at,C.kid,if_true,ha,acC]; exact hq) ?_ (by simpa using hb);simp only [ak,C.at,C.kid,if_true,e,acC]; exact hnq
 | tup hl h ih=>
  rename_i cs ds;intro d p p' u hm hO hr;cases d with
  | zero=>exact hr.elim
  | succ d=>
   obtain ⟨arr,h1,h2,h3⟩:=hr;refine ⟨arr,h1,by rw [hl]; exact h2,fun j c' e=>?_⟩;have hlt:=(acD.1 e).1;rw [hl] at hlt;have ha:cs[j]?=some cs[j]:=by simp [hlt]
   obtain ⟨u',e1,e2⟩:=h3 j _ ha;refine ⟨u',e1,ih j _ _ ha e d ?_ ?_ e2⟩
   ·intro q hq;have:=hm ((0,j)::q) (by simp only [ak,C.at,C.kid,if_true,e,acC]; exact hq);have e3:(C.tup cs).at ((0,j)::q)=cs[j].at q:=by simp only [C.at,C.kid,if_true,ha,acC]
    unfold zu at this ⊢;rw [e3] at this;simpa using this
   ·intro q b hq hnq hb;refine hO ((0,j)::q) b (by simp only [ak,C.at,C.kid,if_true,ha,acC]; exact hq) ?_ (by simpa using hb);simp only [ak,C.at,C.kid,if_true,e,acC]; exact hnq
def RC {w w':World} {S:Nat->Prop} {pure:Bool} {O:Nat->Prop} {F:Prop} {r0 r:C} {u:Value} (hok:ROk r0 r)
  (h:∃ mr d,rel w' (fun b=>((pure=false/\S b)∨w.heap.size<=b)/\¬ iT r0 mr b) L0 mr true d [] r0 u ∧
   (∀ q q' b,ak r0 q->ak r0 q'->blk (mr q)=some b->blk (mr q')=some b->q=q') ∧
   (∀ b,iT r0 mr b->w.heap.size<=b∨O b)/\F) (hO:∀ b,O b->(pure=false/\S b)∨w.heap.size<=b) :
  ∃ mr d,rel w' (fun b=>((pure=false/\S b)∨w.heap.size<=b)/\¬ iT r mr b) L0 mr true d [] r u ∧
   (∀ q q' b,ak r q->ak r q'->blk (mr q)=some b->blk (mr q')=some b->q=q') ∧
   (∀ b,iT r mr b->w.heap.size<=b∨O b)/\F:=by
 obtain ⟨mr,d,h1,h2,h3,h4⟩:=h;have key:∀ q b,ak r q->blk (zu r0 mr [] q)=some b->ak r0 q/\blk (mr q)=some b:=by
  intro q b hq hb;rcases hok.ownAt hq with h|h
  ·rw [AM h] at hb; exact ⟨h,hb⟩
  ·simp [zu,h,blk] at hb
 refine ⟨zu r0 mr [],d+1,?_,?_,?_,h4⟩
 ·refine ND (p:=[]) (p':=[]) ?_ hok d (fun q hq=>by simp) ?_ h1
  ·rintro b ⟨hb,hn⟩;exact ⟨hb,fun ⟨q,hq,e⟩=>hn ⟨q,key q b hq e⟩⟩
  ·intro q b hq hnq hb;simp only [acV] at hb;refine ⟨?_,?_⟩
   ·rcases h3 b ⟨q,hq,hb⟩ with h|h
    ·exact .inr h
    ·exact hO b h
   ·rintro ⟨q',hq',e⟩;obtain ⟨e1,e2⟩:=key q' b hq' e;obtain rfl:=h2 q q' b hq e1 hb e2;exact hnq hq'
 ·intro q q' b hq hq' e e';obtain ⟨a1,a2⟩:=key q b hq e;obtain ⟨a3,a4⟩:=key q' b hq' e';exact h2 q q' b a1 a3 a2 a4
 ·rintro b ⟨q,hq,e⟩;exact h3 b ⟨q,key q b hq e⟩
def GS.mono {P:Program} {f:FuncId} {us:List Value} {w:World} {Q Q':Value->World->Prop} (h:GS P f us w Q) (hq:∀ u w',Q u w'->Q' u w'):GS P f us w Q':=by
 rcases h with ⟨h1,h2⟩|⟨u,w',h1,h2⟩
 ·exact .inl ⟨h1,h2.mono fun e w' ⟨u,e1,e2⟩=>⟨u,e1,hq u w' e2⟩⟩
 ·exact .inr ⟨u,w',h1,hq u w' h2⟩
def Con.res {P:Program} {f:FuncId} {pure:Bool} {cs:List C} {r0 r:C} (h:Con P f [] pure cs r0) (hok:ROk r0 r):Con P f [] pure cs r:=by
 intro w S m us hl hr hinj;exact (h w S m us hl hr hinj).mono fun u w' hq=>RC hok hq (fun b h=>(k8 h).elim)
def NM (E:Env) (vs:List ResultVar) (pure:Bool) (r:C):Exit->St->Prop:=fun e s=>(e=.ret∨e=.normal)/\∃ r0,zJ E vs s=some r0/\ROk r0 r/\(pure=true->bB r0)
theorem WQ {E:Env} {vs:List ResultVar} {pure:Bool} {r:C} {s:St}:NM E vs pure r .ret s=∃ r0,zJ E vs s=some r0/\ROk r0 r/\(pure=true->bB r0):=by simp [NM]
structure D7 (P:Program) (f:FuncId) (fn:Func) (body:Code):Prop where
 get:P.funcs[f]?=some fn
 bd:fn.body=some body
 name:(fn.name == "runtime.NumGoroutine") = false
 ok:jG body=true
def bB.val (v:Value):bB (.val v):=by
 intro w S S' m d p u h;cases d with
 | zero=>exact h.elim
 | succ d=>exact h
def bB.agg {cs:List C} (h:∀ c∈cs,bB c):bB (.agg cs):=by
 intro w S S' m d p u hr;cases d with
 | zero=>exact hr.elim
 | succ d=>
  obtain ⟨arr,h1,h2,h3⟩:=hr;exact ⟨arr,h1,h2,fun j c' e=>let ⟨u',e1,e2⟩:=h3 j c' e; ⟨u',e1,h c' (acE e) _ _ _ _ _ _ _ e2⟩⟩
def bB.tup {cs:List C} (h:∀ c∈cs,bB c):bB (.tup cs):=by
 intro w S S' m d p u hr;cases d with
 | zero=>exact hr.elim
 | succ d=>
  obtain ⟨arr,h1,h2,h3⟩:=hr;exact ⟨arr,h1,h2,fun j c' e=>let ⟨u',e1,e2⟩:=h3 j c' e; ⟨u',e1,h c' (acE e) _ _ _ _ _ _ _ e2⟩⟩
def bB.sl {nl:Option Bool} {es:Nat} {cap:Option Nat} {rows:List (List C)} (h:∀ row∈rows,∀ c∈row,bB c):bB (.sl true nl es cap rows):=by
 intro w S S' m d p u hr;cases d with
 | zero=>exact hr.elim
 | succ d=>
  obtain ⟨a,k,h1,h2,h3,h4,hz,h5,h6,h7⟩:=hr;refine ⟨a,k,h1,h2,h3,h4,hz,h5,h6,?_⟩;rcases h7 with h7|h7|⟨b,off,arr,elem,frz,g1,g2,g3,g4,g5⟩
  ·exact .inl h7
  ·exact .inr (.inl h7)
  ·refine .inr (.inr ⟨b,off,arr,elem,frz,g1,g2,fun e=>by simp at e,g4,fun i j row c' e1 e2=>?_⟩);obtain ⟨u',e3,e4⟩:=g5 i j row c' e1 e2;exact ⟨u',e3,h row (acE e1) c' (acE e2) _ _ _ _ _ _ _ e4⟩
def sG.len {s:St} (h:sG s) {t:Nat} {o:Bool} {nl:Option Bool} {es:Nat} {cap:Option Nat} {rows:List (List C)} (ht:s.tmps[t]?=some (.sl o nl es cap rows)):rows.length<=maxLen:=by
 obtain ⟨X,a,w,m,H⟩:=h;obtain ⟨u,d,h1,h2⟩:=H.tmp t _ ht;cases d with
 | zero=>exact h2.elim
 | succ d=>obtain ⟨a,k,h1,h2,h3,_⟩:=h2; omega
def sG.lenR {s:St} (h:sG s) {n:Nat} {o:Bool} {nl:Option Bool} {es:Nat} {cap:Option Nat} {rows:List (List C)} (ht:s.roots n=.sl o nl es cap rows):rows.length<=maxLen:=by
 obtain ⟨X,a,w,m,H⟩:=h;obtain ⟨u,d,h2⟩:=H.root n;rw [ht] at h2;cases d with
 | zero=>exact h2.elim
 | succ d=>obtain ⟨a,k,h1,h2,h3,_⟩:=h2; omega
end Go.Abs
namespace Go.Abs
def TB {n:Nat} {f g:Nat->C} {R R':Nat->C} (hr:∀ k,R' k=R k∨R' k=.dead)
  (ht:∀ t,t < n->g t=.dead∨(g t=f t/\(g t).ment (fun k _=>dO (R' k)) 3=false)):aX ⟨tab n f,R⟩ ⟨tab n g,R'⟩:=by
 rintro X a w ⟨m,H⟩;have hown:∀ k p,ak (R' k) p->ak (R k) p/\R' k=R k:=by
  intro k p ho;rcases hr k with h|h
  ·exact ⟨by rw [<-h]; exact ho,h⟩
  ·rw [h] at ho; exact (aM ho).elim
 have hS:∀ b,b < w.heap.size->X.S R m b->X.S R' m b/\w.heap[b]?=w.heap[b]?:=by
  intro b _ hs;exact ⟨⟨hs.1,fun ⟨k,p,h1,h2⟩=>hs.2 ⟨k,p,(hown k p h1).1,h2⟩⟩,rfl⟩
 refine ⟨m,⟨by rw [H.len]; simp [mS],?_,?_,?_,?_,H.fr,H.df⟩⟩
 ·intro t c hc;rw [gv] at hc;split at hc
  case isFalse=>simp at hc
  rename_i hlt;simp only [acB] at hc;subst hc;have hsz:t < a.tmps.size:=by rw [H.len]; simp [mS,hlt]
  rcases ht t hlt with h|⟨h,hm⟩
  ·exact ⟨a.tmps[t],1,by simp [hsz],by rw [h]; trivial⟩
  ·obtain ⟨u,d,h1,h2⟩:=H.tmp t (f t) (by simp only [gv,hlt,if_true]);refine ⟨u,d,h1,?_⟩;rw [h];rw [h] at hm;refine av hS d ?_ (fun h=>by simp at h) (fun h=>by simp at h) h2;intro v uv ho hl;obtain ⟨k,p,e1,e2⟩:=iC d 3 (f t) v hm ho;refine kG e1 rfl ?_ hl;intro nl es cap rows he;rcases hr k with h'|h'
   ·exact ⟨cap,rows,by simp only [h']; exact he,rfl⟩
   ·rw [h'] at e2; simp [dO] at e2
 ·intro k;rcases hr k with h|h
  ·obtain ⟨u,d,h1⟩:=H.root k;refine ⟨u,d,?_⟩;simp only [h];refine av hS d (fun _ _ _ h=>h) (fun _ q b ho hb hlt=>rfl) (fun _ q ho=>rfl) h1
  ·exact ⟨undef,1,by simp only [h]; trivial⟩
 ·intro k p k' p' b h1 h2 h3 h4;exact H.inj k p k' p' b (hown k p h1).1 (hown k' p' h2).1 h3 h4
 ·intro k p b h1 h2;exact H.own k p b (hown k p h1).1 h2
theorem Vn {n:Nat} {f R':Nat->C}:∀ t,t < n->au t=.dead∨(au t=f t/\(au t).ment (fun k _=>dO (R' k)) 3=false):=fun _ _=>.inl rfl
def TM {n:Nat} {f g R':Nat->C} {d:Nat} {c:C} (h0:f d=c) (hm:c.ment (fun k _=>dO (R' k)) 3=false)
  (h:∀ t,t < n->g t=.dead∨(g t=f t/\(g t).ment (fun k _=>dO (R' k)) 3=false)):∀ t,t < n->af g d c t=.dead∨(af g d c t=f t/\(af g d c t).ment (fun k _=>dO (R' k)) 3=false):=by
 intro t ht;simp only [af];split
 ·rename_i e; subst e; exact .inr ⟨h0.symm,hm⟩
 ·exact h t ht
theorem UY {R:Nat->C}:∀ k,RZ k=R k∨RZ k=.dead:=fun _=>.inr rfl
def Ts {R R':Nat->C} {d:Nat} {c:C} (h0:R d=c) (h:∀ k,R' k=R k∨R' k=.dead):∀ k,upd R' d c k=R k∨upd R' d c k=.dead:=by
 intro k;simp only [upd];split
 ·rename_i e; subst e; exact .inl h0.symm
 ·exact h k
def j6 {n:Nat} {f:Nat->C} {R:Nat->C} (t d es:Nat) (hd:R d=.dead) (ht:f t=.val (.slice none 0 0)) :
  aX ⟨tab n f,R⟩ ⟨tab n (af f t (.pal d [] 0 0 none)),upd R d (.sl true none es none [])⟩:=by
 rintro X a w ⟨m,H⟩;obtain ⟨H1,_⟩:=H.adopt (d:=d) hd es none;refine ⟨_,⟨by rw [H.len]; simp [mS],?_,H1.root,H1.inj,H1.own,H1.fr,H1.df⟩⟩;intro t' c hc;rw [gv] at hc;split at hc
 case isFalse=>simp at hc
 rename_i hlt;simp only [acB] at hc;by_cases e:t'=t
 ·subst e;simp only [af,if_true] at hc;subst hc;obtain ⟨u,dd,h1,h2⟩:=H.tmp t' (f t') (by simp only [gv,hlt,if_true]);rw [ht] at h2;have hu:u=.slice none 0 0:=by
   cases dd with
   | zero=>exact h2.elim
   | succ dd=>exact h2
  subst hu;refine ⟨_,1,h1,?_⟩;simp only [rel,Lv];refine ⟨none,es,none,[],none,0,none,0,by simp [aC,C.at],by simp [br],by simp,rfl,by omega,by omega,by simp,by simp,.inl rfl⟩
 ·simp only [af,e,if_false] at hc;exact H1.tmp t' c (by simp only [adopt,gv,hlt,if_true,hc])
end Go.Abs
namespace Go.Abs
def lW {n:Int} (h1:-9223372036854775808<=n) (h2:n<=9223372036854775807):IntKind.i64.wrap n=n:=
 Td ⟨h1,h2⟩
theorem dX {i n:Nat} (h:i < n) (hn:n<=maxLen):IntKind.i64.wrap ((i:Int)+1)=((i+1:Nat):Int):=by
 unfold maxLen at hn;rw [lW (by omega) (by omega)];rfl
def gx {α β:Type} (l:List α) (i:Int) (k:α->Option β):Option β:=if 0<=i/\i < l.length then l[i.toNat]?.bind k else none
def aI {α β:Type} {l:List α} {i:Int} {k:α->Option β} {r:β} (h:gx l i k=some r):∃ x,(0<=i/\i < l.length)/\l[i.toNat]?=some x/\k x=some r:=by
 unfold gx at h;split at h
 ·rename_i hb;simp only [acG] at h;obtain ⟨x,hx,h⟩:=h;exact ⟨x,hb,hx,h⟩
 ·simp at h
theorem aN {α β:Type} {l:List α} {i:Nat} {k:α->Option β} {x:α} (h:l[i]?=some x):gx l (i:Int) k=k x:=by
 have hlt:=(acD.1 h).1;unfold gx;rw [if_pos ⟨by omega,by omega⟩,acX,h];rfl
def kq {α:Type} (l:List α) (i:Nat) (h:i<=l.length):(∃ x,i < l.length/\l[i]?=some x/\l.drop i=x::l.drop (i+1))∨(¬ i < l.length/\i=l.length/\l.drop i=[]):=by
 by_cases hi:i < l.length
 ·exact .inl ⟨l[i],hi,by simp [hi],adQ hi⟩
 ·exact .inr ⟨hi,by omega,adN (by omega)⟩
def jq (n i:Nat):(i < n/\n - i=n - (i+1)+1)∨(¬ i < n/\n - i=0):=by
 by_cases h:i < n
 ·exact .inl ⟨h,by omega⟩
 ·exact .inr ⟨h,by omega⟩
def kz {α:Type} {l:List α} {i:Nat} {x y:α} (h:l[i]?=some x):(l.set i y)[i]?=some y:=by
 have hlt:=(acD.1 h).1;simp [hlt]
section
variable {E:Env} {Q:Exit->St->Prop} {K:List Fm} {st:St}
def GZ {J J':St->Prop} (h:∀ s,J s->J' s) (e:Exit) (s:St):ap E Q (.lp J::K) e s->ap E Q (.lp J'::K) e s:=by
 cases e with
 | normal=>exact h s
 | _=>exact id
variable {draw:Bool} {gd:Nat->Option Tmp} {bar:Nat->Bool} {i:Nat} {l:List Oper} {Z:St->Prop} {o:List Oper}
def Pn {j:Nat} {want:Bool} {b:Bool} {d:Option Tmp} {ty:TypeId} {pos:String} {after:Array Edge} {op:Op} (_:w8 gd st j=some (some b))
  (h1:b=true->RX E draw gd bar i ({ dst:=d,op:=op,type:=ty,pos:=pos,after:=after,guard:=some (j,want) }::l) st Z)
  (h2:b=false->RX E draw gd bar i ({ dst:=d,op:=op,type:=ty,pos:=pos,after:=after,guard:=some (j,want) }::l) st Z) :
  RX E draw gd bar i ({ dst:=d,op:=op,type:=ty,pos:=pos,after:=after,guard:=some (j,want) }::l) st Z:=by
 cases hb:b
 ·exact h2 hb
 ·exact h1 hb
def lE {j:Nat} {want:Bool} {b:Bool} {d:Option Tmp} {ty:TypeId} {pos:String} {after:Array Edge} {op:Op} (_:w8 gd st j=some (some (!b)))
  (h1:b=false->RX E draw gd bar i ({ dst:=d,op:=op,type:=ty,pos:=pos,after:=after,guard:=some (j,want) }::l) st Z)
  (h2:b=true->RX E draw gd bar i ({ dst:=d,op:=op,type:=ty,pos:=pos,after:=after,guard:=some (j,want) }::l) st Z) :
  RX E draw gd bar i ({ dst:=d,op:=op,type:=ty,pos:=pos,after:=after,guard:=some (j,want) }::l) st Z:=by
 cases hb:b
 ·exact h1 hb
 ·exact h2 hb
def sG.lenT {n:Nat} {f:Nat->C} {R:Nat->C} (h:sG ⟨tab n f,R⟩) (t:Nat) {o:Bool} {nl:Option Bool} {es:Nat} {cap:Option Nat} {rows:List (List C)} (hlt:t < n) (ht:f t=.sl o nl es cap rows):rows.length<=maxLen:=
 h.len (t:=t) (o:=o) (nl:=nl) (es:=es) (cap:=cap) (by simp only [gv,hlt,if_true,ht])
def sG.lenX {n:Nat} {f:Nat->C} {R:Nat->C} (h:sG ⟨tab n f,R⟩) (k:Nat) {o:Bool} {nl:Option Bool} {es:Nat} {cap:Option Nat} {rows:List (List C)} (ht:R k=.sl o nl es cap rows):rows.length<=maxLen:=
 h.lenR (n:=k) ht
def sG.cell {n:Nat} {f:Nat->C} {R:Nat->C} (h:sG ⟨tab n f,R⟩) (k j:Nat) {o o':Bool} {nl nl':Option Bool} {es es':Nat} {cap cap':Option Nat} {row:List C} {rows:List (List C)} (ht:R k=.sl o nl es cap [row]) (hj:row[j]?=some (.sl o' nl' es' cap' rows)):rows.length<=maxLen:=by
 obtain ⟨X,a,w,m,H⟩:=h;obtain ⟨u,d,h2⟩:=H.root k;rw [show (St.mk (tab n f) R).roots k=R k from rfl,ht] at h2;cases d with
 | zero=>exact h2.elim
 | succ d=>
  obtain ⟨a1,k1,h1,h2,h3,h4,hz,h5,h6,h7⟩:=h2;have hk:k1≠0:=by simp at h2; omega
  rcases h7 with h7|h7|⟨b,off,arr,elem,frz,g1,g2,g3,g4,g5⟩
  ·exact absurd h7 hk
  ·simp at h7
  ·obtain ⟨u',_,e2⟩:=g5 0 j row _ rfl hj;cases d with
   | zero=>exact e2.elim
   | succ d=>obtain ⟨a2,k2,e1,e2,e3,_⟩:=e2; omega
end
end Go.Abs
namespace Go.Abs
section
variable {E:Env} {Q:Exit->St->Prop} {K:List Fm} {st:St}
def Q5 {c:Code} (h:Wk E c (ap E Q []) st):Wk E c Q st:=h
def mi {c:Code} {Q:Exit->St->Prop} {st':St} (hw:aX st st') (h:Wk E c Q st'):Wk E c Q st:=fun P hT hG hm hc X a w H ts hk=>h P hT hG hm hc X a w (hw X a w H) ts hk
def aK {x y:Code} (h:Wk E x (ap E Q (.sk y::K)) st):Wk E (.seq x y) (ap E Q K) st:=by
 intro P hT hG hm hc X a w H ts hk;simp only [jG,acM] at hc;simp only [kU,acM] at hk;refine wp_seq (wp_mono (h P hT hG hm hc.1 X a w H ts hk.1) ?_);rintro e a' w' ⟨⟨s,hs,H'⟩,hsm⟩;cases e with
 | normal=>exact wp_mono (hs P hT hG hm hc.2 X a' w' H' ts hk.2) fun e a2 w2 h2=>h2.from (hsm.resolve_left (by simp))
 | _=>exact ⟨⟨s,hs,H'⟩,hsm⟩
def aS {id:Nat} {c:Code} (h:Wk E c (ap E Q (.bl id::K)) st):Wk E (.block id c) (ap E Q K) st:=by
 intro P hT hG hm hc X a w H ts hk;refine wp_block (wp_mono (h P hT hG hm hc X a w H ts hk) ?_);rintro e a' w' ⟨⟨s,hs,H'⟩,hsm⟩;cases e with
 | exit i=>
  simp only [ap] at hs;simp only [Exit.inBlock];have hsm':=hsm.resolve_left (by simp);split at hs
  ·rename_i hi; rw [if_pos hi]; exact .mk' hs H' hsm'
  ·rename_i hi; rw [if_neg hi]; exact .mk' hs H' hsm'
 | _=>exact ⟨⟨s,hs,H'⟩,hsm⟩
def W2 {c:Code} (h:Wk E c (ap E Q (.sc::K)) st):Wk E (.scope c) (ap E Q K) st:=by
 intro P hT hG hm hc X a w H ts hk;refine wp_scope_straight (wp_mono (h P hT hG hm hc X a w H ts hk) ?_);rintro e a' w' ⟨⟨s,hs,H'⟩,hsm⟩;cases e with
 | goto l=>exact hs.elim
 | _=>exact ⟨⟨s,hs,H'⟩,hsm⟩
def OC {id:Nat} {ops:Array Oper} {draw:Bool} (h:RX E draw (kO ops) (jY ops) 0 ops.toList st (fun s=>(draw=true->BL ops s=true)/\ap E Q K .normal s)):Wk E (.region id ops draw) (ap E Q K) st:=
 FL (by rw [Wz]; exact h)
def ic {id:Nat} {ops:Array Oper} (h:∀ Z:St->Prop,(∀ s,ap E Q K .normal s->Z s)->RX E false (kO ops) (jY ops) 0 ops.toList st Z):Wk E (.region id ops false) (ap E Q K) st:=
 OC (h _ fun s hs=>⟨fun h=>(by cases h),hs⟩)
def ki {id:Nat} {ops:Array Oper} (h:∀ Z:St->Prop,(∀ s,BL ops s=true->ap E Q K .normal s->Z s)->RX E true (kO ops) (jY ops) 0 ops.toList st Z):Wk E (.region id ops true) (ap E Q K) st:=
 OC (h _ fun s hf hs=>⟨fun _=>hf,hs⟩)
def YU {y:Code} (h:Wk E y (ap E Q K) st):ap E Q (.sk y::K) .normal st:=h
def Ss {y:Code} (h:ap E Q K .ret st):ap E Q (.sk y::K) .ret st:=h
def PQ {y:Code} {i:Nat} (h:ap E Q K (.exit i) st):ap E Q (.sk y::K) (.exit i) st:=h
def Yi {id:Nat} (h:ap E Q K .normal st):ap E Q (.bl id::K) .normal st:=h
def SI {id:Nat} (h:ap E Q K .ret st):ap E Q (.bl id::K) .ret st:=h
def UC {id:Nat} (h:ap E Q K .normal st):ap E Q (.bl id::K) (.exit id) st:=by rw [TQ,if_pos rfl]; exact h
def YP {J:St->Prop} (h:J st):ap E Q (.lp J::K) .normal st:=h
def Sn {J:St->Prop} (h:ap E Q K .ret st):ap E Q (.lp J::K) .ret st:=h
def P8 {J:St->Prop} {i:Nat} (h:ap E Q K (.exit i) st):ap E Q (.lp J::K) (.exit i) st:=h
def R5 (h:ap E Q K .ret st):ap E Q (.sc::K) .ret st:=h
def Xk {e:Exit} (h:Q e st):ap E Q [] e st:=h
class Pop (A:Prop) (B:outParam Prop):Prop where
 pop:B->A
instance {y:Code}:Pop (ap E Q (.sk y::K) .normal st) (Wk E y (ap E Q K) st):=⟨YU⟩
instance {y:Code}:Pop (ap E Q (.sk y::K) .ret st) (ap E Q K .ret st):=⟨Ss⟩
instance {y:Code} {i:Nat}:Pop (ap E Q (.sk y::K) (.exit i) st) (ap E Q K (.exit i) st):=⟨PQ⟩
instance {id:Nat}:Pop (ap E Q (.bl id::K) .normal st) (ap E Q K .normal st):=⟨Yi⟩
instance {id:Nat}:Pop (ap E Q (.bl id::K) .ret st) (ap E Q K .ret st):=⟨SI⟩
instance {id:Nat}:Pop (ap E Q (.bl id::K) (.exit id) st) (ap E Q K .normal st):=⟨UC⟩
instance {J:St->Prop}:Pop (ap E Q (.lp J::K) .ret st) (ap E Q K .ret st):=⟨Sn⟩
instance {J:St->Prop} {i:Nat}:Pop (ap E Q (.lp J::K) (.exit i) st) (ap E Q K (.exit i) st):=⟨P8⟩
instance:Pop (ap E Q (.sc::K) .ret st) (ap E Q K .ret st):=⟨R5⟩
def aW (h:ap E Q K .normal st):Wk E .skip (ap E Q K) st:=FL h
def Xr {id:Nat} (h:ap E Q K .normal st):Wk E (.label id) (ap E Q K) st:=FL h
def fT {id:Nat} (h:ap E Q K (.exit id) st):Wk E (.exit id) (ap E Q K) st:=FL h
def fb (h:ap E Q K .ret st):Wk E .ret (ap E Q K) st:=FL h
def CZ {Q:Exit->St->Prop} {c:Operand} {x y:Code} {b:Bool} (hc:st.ev c=.val (.bool b)) (h1:b=true->Wk E x Q st) (h2:b=false->Wk E y Q st):Wk E (.cond c x y) Q st:=by
 intro P hT hG hm hco X a w H ts hk;simp only [jG,acM] at hco;simp only [kU,acM] at hk;have H0:=H;obtain ⟨m,HM⟩:=H;have hr:=bm HM c;rw [hc] at hr;have hv:=hr.of_val;cases b with
 | true=>exact wp_cond_true hv (h1 rfl P hT hG hm hco.1 X a w H0 ts hk.1)
 | false=>exact wp_cond_false hv (h2 rfl P hT hG hm hco.2 X a w H0 ts hk.2)
def VR {c:Operand} {x y:Code} (hc:st.ev c=.val (.bool true)) (h:Wk E x (ap E Q K) st):Wk E (.cond c x y) (ap E Q K) st:=CZ hc (fun _=>h) (fun h=>by cases h)
def US {c:Operand} {x y:Code} (hc:st.ev c=.val (.bool false)) (h:Wk E y (ap E Q K) st):Wk E (.cond c x y) (ap E Q K) st:=CZ hc (fun h=>by cases h) (fun _=>h)
def od {c:Operand} {x y:Code} {p:Prop} [inst:Decidable p] (hc:st.ev c=.val (.bool (decide p))) (h1:p->Wk E x (ap E Q K) st) (h2:¬ p->Wk E y (ap E Q K) st):Wk E (.cond c x y) (ap E Q K) st:=
 CZ hc (fun h=>h1 (of_decide_eq_true h)) (fun h=>h2 (of_decide_eq_false h))
def I1 {c:Operand} {x y:Code} {p:Prop} [inst:Decidable p] (hc:st.ev c=.val (.bool (!decide p))) (h1:¬ p->Wk E x (ap E Q K) st) (h2:p->Wk E y (ap E Q K) st):Wk E (.cond c x y) (ap E Q K) st:=
 CZ hc (fun h=>h1 (by simpa using h)) (fun h=>h2 (by simpa using h))
def oO {c:Operand} {x y:Code} {b:Bool} (hc:st.ev c=.val (.bool b)) (h1:b=true->Wk E x (ap E Q K) st) (h2:b=false->Wk E y (ap E Q K) st):Wk E (.cond c x y) (ap E Q K) st:=CZ hc h1 h2
def qc {c:Operand} {x y:Code} {b:Bool} (hc:st.ev c=.val (.bool (!b))) (h1:b=false->Wk E x (ap E Q K) st) (h2:b=true->Wk E y (ap E Q K) st):Wk E (.cond c x y) (ap E Q K) st:=
 CZ hc (fun h=>h1 (by simpa using h)) (fun h=>h2 (by simpa using h))
def gr {c:Code} {Q:Exit->St->Prop} (h:sG st->Wk E c Q st):Wk E c Q st:=fun P hT hG hm hc X a w H ts hk=>h ⟨X,a,w,H⟩ P hT hG hm hc X a w H ts hk
def N1 {c:Code} {Q Q':Exit->St->Prop} (hq:∀ e s,Q e s->Q' e s) (h:Wk E c Q st):Wk E c Q' st:=
 fun P hT hG hm hc X a w H ts hk=>wp_mono (h P hT hG hm hc X a w H ts hk) fun e a' w' ⟨⟨s,hs,H'⟩,hsm⟩=>⟨⟨s,hq e s hs,H'⟩,hsm⟩
def Nz {α:Type} (mk:α->St) (inv:α->Prop) (μ:α->Nat) (x0:α) {c:Code} (h0:aX st (mk x0)) (hi:inv x0)
  (hr:∀ x,inv x->sG (mk x)->Wk E c (ap E Q (.lp (fun s=>∃ x',aX s (mk x')/\inv x'/\μ x' < μ x)::K)) (mk x)):Wk E (.loop c) (ap E Q K) st:=by
 classical
 intro P hT hG hm hc X a0 w H ts hk
 let J:Act->World->Prop:=fun a w=>(∃ x,inv x/\Inv X (mk x) a w)/\tC ts a0 a
 let ν:Act->World->Nat:=fun a w=>if h:∃ k,∃ x,inv x/\Inv X (mk x) a w/\μ x=k then Classical.choose (sp _ h) else 0
 refine wp_loop J ν ⟨⟨x0,hi,h0 X a0 w H⟩,.refl _ _⟩ ?_;rintro a w ⟨⟨x1,hI1,H1⟩,hs0⟩;have hex:∃ k,∃ x,inv x/\Inv X (mk x) a w/\μ x=k:=⟨_,x1,hI1,H1,rfl⟩;obtain ⟨x2,hI2,H2,hm2⟩:=(aeu (sp _ hex)).1;have hν:ν a w=μ x2:=by simp only [ν]; rw [dif_pos hex,<-hm2]
 refine wp_mono (hr x2 hI2 ⟨_,_,_,H2⟩ P hT hG hm hc X a w H2 ts hk) ?_;rintro e a' w' ⟨⟨s',hs',H'⟩,hsm⟩;cases e with
 | normal=>
  obtain ⟨x',hw',hI',hlt⟩:=hs';have H'':=hw' X a' w' H';refine ⟨⟨⟨x',hI',H''⟩,hs0.trans (hsm.resolve_left (by simp))⟩,?_⟩;have hex':∃ k,∃ x,inv x/\Inv X (mk x) a' w'/\μ x=k:=⟨_,x',hI',H'',rfl⟩;have:ν a' w'<=μ x':=by simp only [ν]; rw [dif_pos hex']; exact (aeu (sp _ hex')).2 _ ⟨x',hI',H'',rfl⟩
  omega
 | _=>exact KQ.from (a1:=a) ⟨⟨s',hs',H'⟩,hsm⟩ hs0
def pA {α β ρ:Type} {l:List α} {L:List α->Nat->β->Option ρ} {r:ρ} (mk:Nat->β->St) (b0:β) {c:Code} (h:L l 0 b0=some r) (h0:aX st (mk 0 b0))
  (hr:∀ i b,i<=l.length->L (l.drop i) i b=some r->sG (mk i b)->Wk E c (ap E Q (.lp (fun s=>i < l.length/\∃ b',aX s (mk (i+1) b')/\L (l.drop (i+1)) (i+1) b'=some r)::K)) (mk i b)):Wk E (.loop c) (ap E Q K) st:=by
 refine Nz (fun x:Nat × β=>mk x.1 x.2) (fun x=>x.1<=l.length/\L (l.drop x.1) x.1 x.2=some r) (fun x=>l.length - x.1) (0,b0) h0 ⟨adt _,by simpa using h⟩ ?_;rintro ⟨i,b⟩ ⟨h1,h2⟩ hreal;refine N1 (GZ ?_) (hr i b h1 h2 hreal);rintro s ⟨g1,b',g2,g3⟩;exact ⟨(i+1,b'),g2,⟨g1,g3⟩,by simp only; omega⟩
def oY {β ρ:Type} {L:Nat->Nat->β->Option ρ} {r:ρ} {n s:Nat} (mk:Nat->β->St) (b0:β) {c:Code} (h:L (n - s) s b0=some r) (h0:aX st (mk s b0))
  (hr:∀ i b,(i<=n∨i=s)->L (n - i) i b=some r->sG (mk i b)->Wk E c (ap E Q (.lp (fun s=>i < n/\∃ b',aX s (mk (i+1) b')/\L (n - (i+1)) (i+1) b'=some r)::K)) (mk i b)):Wk E (.loop c) (ap E Q K) st:=by
 refine Nz (fun x:Nat × β=>mk x.1 x.2) (fun x=>(x.1<=n∨x.1=s)/\L (n - x.1) x.1 x.2=some r) (fun x=>n - x.1) (s,b0) h0 ⟨.inr rfl,h⟩ ?_;rintro ⟨i,b⟩ ⟨h1,h2⟩ hreal;refine N1 (GZ ?_) (hr i b h1 h2 hreal);rintro s ⟨g1,b',g2,g3⟩;exact ⟨(i+1,b'),g2,⟨.inl g1,g3⟩,by simp only; omega⟩
def il {β ρ:Type} {L:Nat->β->Option ρ} {r:ρ} {n:Nat} (mk:β->St) (b0:β) {c:Code} (h:L n b0=some r) (h0:aX st (mk b0))
  (hr:∀ n b,L n b=some r->sG (mk b)->Wk E c (ap E Q (.lp (fun s=>∃ n',n' < n/\∃ b',aX s (mk b')/\L n' b'=some r)::K)) (mk b)):Wk E (.loop c) (ap E Q K) st:=by
 refine Nz (fun x:Nat × β=>mk x.2) (fun x=>L x.1 x.2=some r) (fun x=>x.1) (n,b0) h0 h ?_;rintro ⟨n,b⟩ h1 hreal;refine N1 (GZ ?_) (hr n b h1 hreal);rintro s ⟨n',g1,b',g2,g3⟩;exact ⟨(n',b'),g2,g3,g1⟩
def aQ {x y:Code} {ρ:Type} {r:ρ} {T0:Type} (mk:T0->St) {g:T0->Option ρ}
  (hx:(∀ s,∀ p0,aX s (mk p0)->g p0=some r->Wk E y (ap E Q K) s)->Wk E x (ap E Q (.sk y::K)) st)
  (hJ:∀ p0,g p0=some r->Wk E y (ap E Q K) (mk p0)):Wk E (.seq x y) (ap E Q K) st:=
 aK (hx fun s p0 hw h=>mi hw (hJ p0 h))
def Dw {x y:Code} {ρ:Type} {r:ρ} {T0 T1:Type} (mk:T0->T1->St) {g:T0->T1->Option ρ}
  (hx:(∀ s,∀ p0 p1,aX s (mk p0 p1)->g p0 p1=some r->Wk E y (ap E Q K) s)->Wk E x (ap E Q (.sk y::K)) st)
  (hJ:∀ p0 p1,g p0 p1=some r->Wk E y (ap E Q K) (mk p0 p1)):Wk E (.seq x y) (ap E Q K) st:=
 aK (hx fun s p0 p1 hw h=>mi hw (hJ p0 p1 h))
end
def SQ {P:Program} {E:Env} (hT:TOk P E) (hG:GOk P E) (hmix:P.follows .mixedOrders=true) {f:FuncId} {fn:Func} {body:Code} (hf:D7 P f fn body)
  {pure:Bool} {cs:List C} {r:C} (hn:cs.length<=fn.ntmps)
  (hW:sG (zS [] cs fn.ntmps)->Wk E body (NM E fn.results.toList pure r) (zS [] cs fn.ntmps)):Con P f [] pure cs r:=by
 intro w S m us hl hr hinj;left;have hname':¬ fn.name = "runtime.NumGoroutine" := by simpa using hf.name
 refine ⟨by simp [callFunc,hf.get,hname',hf.bd],?_⟩;have H:=Lq (n:=fn.ntmps) hl hn hr hinj;refine calls_of_wp hf.get hf.bd (wp_mono (hW ⟨_,_,_,m,H⟩ P hT hG hmix hf.ok _ _ _ ⟨m,H⟩ [] (H8 _)) ?_);rintro e a' w' ⟨⟨s,⟨he,r0,hfin,hrok,hpure⟩,m',H'⟩,-⟩;have main:∃ u,(results fn a'.tmps).run P w'=.ok u w'/\Done (Bd w S (aH (R0 [] cs) m)) w' r0 u:=by
  unfold zJ at hfin;split at hfin
  case h_2=>simp at hfin
  rename_i cs' hres;obtain ⟨us',f1,f2,f3⟩:=Js hT H' hres;refine ⟨_,Bj f1,?_⟩;split at hfin
  ·rename_i rs hpl;simp only [acB] at hfin;subst hfin;exact DK hT H' f2 f3 hpl
  ·split at hfin
   ·rename_i s1 kp hprep;simp only [acB] at hfin;subst hfin;exact E8 hT H' f2 f3 hprep
   ·simp at hfin
 obtain ⟨u,hrun,hd⟩:=main;obtain ⟨mr,d,g1,g2,g3⟩:=hd.ex;have post:a'.defers=[]/\∃ v,(results fn a'.tmps).run P w'=.ok v w'/\∃ u,Ending.returned v=.returned u/\∃ mr d,rel w' (fun b=>((pure=false/\(S b∨aH (R0 [] cs) m b))∨w.heap.size<=b)/\¬ iT r mr b) L0 mr true d [] r u ∧
   (∀ q q' b,ak r q->ak r q'->blk (mr q)=some b->blk (mr q')=some b->q=q')/\(∀ b,iT r mr b->w.heap.size<=b∨aH (R0 [] cs) m b)/\FrK w (aH (R0 [] cs) m) w':=by
  refine ⟨H'.df,u,hrun,u,rfl,RC hrok ⟨mr,d,?_,g2,g3,⟨hd.fr.os,hd.fr.tape,hd.fr.output,hd.fr.drawn,hd.fr.size,hd.fr.block⟩⟩ (fun b h=>(k8 h).elim)⟩;cases hp:pure with
  | true=>exact hpure hp w' _ _ mr d [] u g1
  | false=>exact av (fun b _ hs=>⟨⟨hs.1.imp (fun h=>⟨rfl,h⟩) id,hs.2⟩,rfl⟩) d (fun _ _ _ h=>h) (fun _ _ _ _ _ _=>rfl) (fun _ _ _=>rfl) g1
 rcases he with rfl|rfl
 ·exact post
 ·exact post
end Go.Abs
namespace Go.Abs
section
variable {E:Env} {ops:Array Oper} {st:St} {Z:St->Prop}
variable {Q:Exit->St->Prop} {K:List Fm}
def ZY:Option St->(St->Prop)->Prop
 | some s,K=>K s
 | none,_=>False
@[go_sem] theorem Z6 {s:St} {K:St->Prop}:ZY (some s) K=K s:=rfl
variable {d:Option Tmp} {ty:TypeId} {pos:String} {after:Array Edge} {op:Op} {l:List Oper} {tr:List St} {j:Nat} {want:Bool}
end
end Go.Abs
namespace Go.Abs
def ay (k:IntKind) (n:Int):List C:=[.val (.int k n)]
def abD (b:Bool):List C:=[.val (.bool b)]
def dT (s:ByteArray):List C:=[.val (.string s)]
def Y9 {α:Type} (es:Nat) (row:α->List C) (l:List α):List C:=[.sl false none es none (l.map row)]
def aG (k:IntKind):C->Option Int
 | .val (.int k' n)=>if k'=k then some n else none
 | _=>none
def DM:C->Option Bool
 | .val (.bool b)=>some b
 | _=>none
def bW:C->Option ByteArray
 | .val (.string s)=>some s
 | _=>none
def bR {α:Type} (d:List C->Option α):List (List C)->Option (List α)
 | []=>some []
 | r::rs=>match d r,bR d rs with
  | some x,some xs=>some (x::xs)
  | _,_=>none
def aJ {α:Type} (es:Nat) (d:List C->Option α):C->Option (List α)
 | .sl _ _ es' _ rows=>if es'=es then bR d rows else none
 | .val (.slice none 0 0)=>some []
 | _=>none
def du {α:Type} (d:C->Option α):List C->Option α
 | [c]=>d c
 | _=>none
theorem iJ (k:IntKind) (n:Int):aG k (.val (.int k n))=some n:=by simp [aG]
theorem iN (b:Bool):DM (.val (.bool b))=some b:=rfl
theorem iL (s:ByteArray):bW (.val (.string s))=some s:=rfl
def aP {α:Type} {d:List C->Option α} {row:α->List C} (h:∀ x,d (row x)=some x) (l:List α):bR d (l.map row)=some l:=by
 induction l with
 | nil=>rfl
 | cons x xs ih=>simp only [adP,bR,h,ih]
theorem mB {α:Type} (es:Nat) (d:List C->Option α) (o:Bool) (nl:Option Bool) (cap:Option Nat) (rows:List (List C)):aJ es d (.sl o nl es cap rows)=bR d rows:=by
 simp only [aJ,if_true]
theorem Xw {α:Type} (es:Nat) (d:List C->Option α):aJ es d (.val (.slice none 0 0))=some []:=rfl
theorem R4 {α:Type} (d:List C->Option α):bR d []=some []:=rfl
def y8 (k:IntKind) (n:Int):du (aG k) (ay k n)=some n:=by simp [du,ay,aG]
theorem B1 (s:ByteArray):du bW (dT s)=some s:=rfl
def bz {k:IntKind} {c:C} {n:Int} (h:aG k c=some n):Le c (.val (.int k n)):=by
 unfold aG at h;split at h
 ·split at h
  ·rename_i hk; subst hk; simp only [acB] at h; subst h; exact Le.refl _
  ·simp at h
 ·simp at h
def Tl {c:C} {b:Bool} (h:DM c=some b):Le c (.val (.bool b)):=by
 unfold DM at h;split at h
 ·simp only [acB] at h; subst h; exact Le.refl _
 ·simp at h
def gw {c:C} {s:ByteArray} (h:bW c=some s):Le c (.val (.string s)):=by
 unfold bW at h;split at h
 ·simp only [acB] at h; subst h; exact Le.refl _
 ·simp at h
def Gk {α:Type} {d:List C->Option α} {row:α->List C} (hd:∀ r x,d r=some x->LeL r (row x)):∀ {rs:List (List C)} {l:List α},bR d rs=some l->dw rs (l.map row):=by
 intro rs
 induction rs with
 | nil=>intro l h; simp only [bR,acB] at h; subst h; exact dw.refl []
 | cons r rs ih=>
  intro l h;simp only [bR] at h;split at h
  ·rename_i x xs h1 h2;simp only [acB] at h;subst h;have t:=ih h2;refine ⟨by simp [t.len],?_⟩;intro i a b ha hb;cases i with
   | zero=>simp only [acI,acB,adP] at ha hb; subst ha; subst hb; exact hd _ _ h1
   | succ i=>exact t.get i a b (by simpa using ha) (by simpa using hb)
  ·simp at h
def iq {α:Type} {es:Nat} {d:List C->Option α} {row:α->List C} (hd:∀ r x,d r=some x->LeL r (row x)) {c:C} {l:List α} (h:aJ es d c=some l):Le c (.sl false none es none (l.map row)):=by
 unfold aJ at h;split at h
 ·split at h
  ·rename_i he; subst he; exact Le.sl (Gk hd h)
  ·simp at h
 ·simp only [acB] at h; subst h; exact Le.nils
 ·simp at h
def SR {α:Type} {d:C->Option α} {row:α->C} (hd:∀ c x,d c=some x->Le c (row x)) {r:List C} {x:α} (h:du d r=some x):LeL r [row x]:=by
 unfold du at h;split at h
 ·exact LeL.cons (hd _ _ h) LeL.nil
 ·simp at h
def apx {α β:Type} (bytes:Nat) (a b:List α) (k:List α->Option β):Option β:=if (a.length+b.length) * (bytes+1)<=140737488355328 then k (a++b) else none
def dE {α β:Type} {bytes:Nat} {a b:List α} {k:List α->Option β} {r:β} (h:apx bytes a b k=some r):(a.length+b.length) * (bytes+1)<=140737488355328/\k (a++b)=some r:=by
 unfold apx at h;split at h
 ·rename_i hb; exact ⟨hb,h⟩
 ·simp at h
def Zs {α β:Type} {bytes:Nat} {a b:List α} {k:List α->Option β} (h:(a.length+b.length) * (bytes+1)<=140737488355328):apx bytes a b k=k (a++b):=if_pos h
def dvx {β:Type} (b:Int) (k:Option β):Option β:=if b=0 then none else k
def PA {β:Type} {b:Int} {k:Option β} {r:β} (h:dvx b k=some r):¬ b=0/\k=some r:=by
 unfold dvx at h;split at h
 ·simp at h
 ·rename_i hb; exact ⟨hb,h⟩
def shx {β:Type} (b:Int) (k:Option β):Option β:=if b < 0 then none else k
def WZ {β:Type} {b:Int} {k:Option β} {r:β} (h:shx b k=some r):¬ b < 0/\k=some r:=by
 unfold shx at h;split at h
 ·simp at h
 ·rename_i hb; exact ⟨hb,h⟩
def slx {α β:Type} (l:List α) (lo hi:Int) (k:List α->Option β):Option β:=if 0<=lo/\0<=hi/\lo.toNat<=hi.toNat/\hi.toNat<=l.length then k ((l.drop lo.toNat).take (hi.toNat - lo.toNat)) else none
def jb {α β:Type} {l:List α} {lo hi:Int} {k:List α->Option β} {r:β} (h:slx l lo hi k=some r):(0<=lo/\0<=hi/\lo.toNat<=hi.toNat/\hi.toNat<=l.length)/\k ((l.drop lo.toNat).take (hi.toNat - lo.toNat))=some r:=by
 unfold slx at h;split at h
 ·rename_i hb; exact ⟨hb,h⟩
 ·simp at h
def slt {α β:Type} (l:List α) (hi:Int) (k:List α->Option β):Option β:=if 0<=hi/\hi.toNat<=l.length then k (l.take hi.toNat) else none
def Qa {α β:Type} {l:List α} {hi:Int} {k:List α->Option β} {r:β} (h:slt l hi k=some r):(0<=hi/\hi.toNat<=l.length)/\((hi.toNat=(l.take hi.toNat).length)=True)/\k (l.take hi.toNat)=some r:=by
 unfold slt at h;split at h
 ·rename_i hb; exact ⟨hb,by simp; omega,h⟩
 ·simp at h
def IL {a b:Nat} (h:(a=b)=True):(a < b+1)=True:=by
 have:a=b:=by rw [h]; trivial
 subst this;exact eq_true (adk _)
def gxs {β:Type} (s:ByteArray) (i:Int) (k:UInt8->Option β):Option β:=if 0<=i then s[i.toNat]?.bind k else none
def WV {β:Type} {s:ByteArray} {i:Int} {k:UInt8->Option β} {r:β} (h:gxs s i k=some r):∃ x,0<=i/\s[i.toNat]?=some x/\k x=some r:=by
 unfold gxs at h;split at h
 ·rename_i hb;simp only [acG] at h;obtain ⟨x,hx,h⟩:=h;exact ⟨x,hb,hx,h⟩
 ·simp at h
def sls {β:Type} (s:ByteArray) (lo hi:Int) (k:ByteArray->Option β):Option β:=if 0<=lo/\0<=hi/\lo.toNat<=hi.toNat/\hi.toNat<=s.size then k (s.extract lo.toNat hi.toNat) else none
def Xa {β:Type} {s:ByteArray} {lo hi:Int} {k:ByteArray->Option β} {r:β} (h:sls s lo hi k=some r):(0<=lo/\0<=hi/\lo.toNat<=hi.toNat/\hi.toNat<=s.size)/\k (s.extract lo.toNat hi.toNat)=some r:=by
 unfold sls at h;split at h
 ·rename_i hb; exact ⟨hb,h⟩
 ·simp at h
theorem Ve {α:Type} (row:α->List C) (l:List α) (n:Nat):(l.map row).drop n=(l.drop n).map row:=List.map_drop.symm
theorem U8 {α:Type} (row:α->List C) (l:List α) (n:Nat):(l.map row).take n=(l.take n).map row:=List.map_take.symm
def Ul {α:Type} {row:α->List C} {l:List α} {i:Nat} {x y:α} {g:List C->List C} (hx:l[i]?=some x) (h:g (row x)=row y):(l.map row).modify i g=(l.set i y).map row:=by
 apply adU;intro k;rw [AQ,acK,acK,adj];by_cases hk:i=k
 ·subst hk;have hlt:=(acD.1 hx).1;have he:l[i]=x:=by simpa [hlt] using hx
  simp [he,h,hlt]
 ·simp [hk]
end Go.Abs
namespace Go.Abs
structure aF {α:Type} (row:α->List C):Prop where
 frz:∀ x,(row x).map C.frz=row x
 ok:∀ x,(row x).all C.cellOk=true
 plain:∀ x,(row x).all plainCell=true
def aF.frzRows {α:Type} {row:α->List C} (h:aF row) (l:List α):Abs.frzRows (l.map row)=l.map row:=by
 simp only [Abs.frzRows,agn]
 congr 1
 funext x
 exact h.frz x
def aF.all {α:Type} {row:α->List C} (h:aF row) (l:List α):(l.map row).all (fun r=>r.all C.cellOk)=true:=by
 simp only [afZ,acJ];intro x _;exact h.ok x
def aF.allPlain {α:Type} {row:α->List C} (h:aF row) (l:List α):(l.map row).all (fun r=>r.all plainCell)=true:=by
 simp only [afZ,acJ];intro x _;exact h.plain x
theorem RU:frzRows []=[]:=rfl
theorem Qv (r:List C) (rs:List (List C)):frzRows (r::rs)=r.map C.frz::frzRows rs:=rfl
theorem mA (k:IntKind):aF (ay k):=⟨fun _=>rfl,fun _=>rfl,fun _=>rfl⟩
theorem FP:aF dT:=⟨fun _=>rfl,fun _=>rfl,fun _=>rfl⟩
theorem YC (k:IntKind) (n:Int):ay k n=[.val (.int k n)]:=rfl
theorem Yg (b:Bool):abD b=[.val (.bool b)]:=rfl
theorem X1 (s:ByteArray):dT s=[.val (.string s)]:=rfl
theorem Yd {α:Type} (es:Nat) (row:α->List C) (l:List α):Y9 es row l=[.sl false none es none (l.map row)]:=rfl
def jw (k:IntKind):∀ (r:List C) (x:Int),du (aG k) r=some x->LeL r (ay k x):=fun _ _ h=>SR (row:=fun n=>.val (.int k n)) (fun _ _ h=>bz h) h
def G9:∀ (r:List C) (x:ByteArray),du bW r=some x->LeL r (dT x):=fun _ _ h=>SR (row:=fun n=>.val (.string n)) (fun _ _ h=>gw h) h
theorem Je {α:Type} (d:List C->Option α) (r:List C) (rs:List (List C)):bR d (r::rs)=match d r,bR d rs with
 | some x,some xs=>some (x::xs)
 | _,_=>none:=rfl
theorem VI {α:Type} (l:List α) (i n:Nat) (y:α):(l.set i y).take n=(l.take n).set i y:=by
 apply adU;intro k;simp only [ada,adj,adG];by_cases h2:i=k
 ·subst h2;by_cases h1:i < n
  ·by_cases h3:i < l.length
   ·have h4:i < min n l.length:=by omega
    simp only [h1,h3,h4,if_true]
   ·have h4:¬ i < min n l.length:=by omega
    simp only [h1,h3,h4,if_true,if_false]
  ·have h4:¬ i < min n l.length:=by omega
   simp only [h1,h4,if_true,if_false]
 ·simp [h2]
def apn {α β:Type} (bytes:Nat) (b:List α) (k:Option β):Option β:=if b.length * (bytes+1)<=140737488355328 then k else none
def pk {α β:Type} {bytes:Nat} {b:List α} {k:Option β} {r:β} (h:apn bytes b k=some r):b.length * (bytes+1)<=140737488355328/\k=some r:=by
 unfold apn at h;split at h
 ·rename_i hb; exact ⟨hb,h⟩
 ·simp at h
def Vy {α β:Type} {bytes:Nat} {b:List α} {k:Option β} (h:b.length * (bytes+1)<=140737488355328):apn bytes b k=k:=if_pos h
def dw.nil:dw [] []:=dw.refl []
def dw.cons {a b:List C} {as bs:List (List C)} (h:LeL a b) (t:dw as bs):dw (a::as) (b::bs):=by
 refine ⟨by simp [t.len],?_⟩;intro i c c' h1 h2;cases i with
 | zero=>simp only [acI,acB] at h1 h2; subst h1; subst h2; exact h
 | succ i=>exact t.get i c c' (by simpa using h1) (by simpa using h2)
def dw.append {as bs as' bs':List (List C)} (h:dw as bs) (t:dw as' bs'):dw (as++as') (bs++bs'):=by
 refine ⟨by simp [h.len,t.len],?_⟩;intro i c c' h1 h2;by_cases hi:i < as.length
 ·rw [acN hi] at h1;rw [acN (by rw [h.len]; exact hi)] at h2;exact h.get i c c' h1 h2
 ·rw [acP (by omega)] at h1;rw [acP (by rw [h.len]; omega),h.len] at h2;exact t.get _ c c' h1 h2
def dw.mapAppend {α:Type} {row:α->List C} {as as':List (List C)} {l l':List α} (h:dw as (l.map row)) (t:dw as' (l'.map row)):dw (as++as') ((l++l').map row):=by
 rw [ac2]; exact h.append t
def D5:∀ c∈([]:List C),bV c:=by simp
def CR {c:C} {cs:List C} (h:bV c) (t:∀ c∈cs,bV c):∀ c'∈c::cs,bV c':=by
 intro c' hc;rcases ac6.1 hc with rfl|hc
 ·exact h
 ·exact t c' hc
def vQ:∀ c∈([]:List C),bB c:=by simp
def jg {c:C} {cs:List C} (h:bB c) (t:∀ c∈cs,bB c):∀ c'∈c::cs,bB c':=by
 intro c' hc;rcases ac6.1 hc with rfl|hc
 ·exact h
 ·exact t c' hc
def U7 {α:Type} {row:α->List C} (h:∀ x,∀ c∈row x,bB c) (l:List α):∀ r∈l.map row,∀ c∈r,bB c:=by
 intro r hr;simp only [ade] at hr;obtain ⟨x,_,rfl⟩:=hr;exact h x
def UT (k:IntKind):∀ x,∀ c∈ay k x,bB c:=fun x=>jg (bB.val _) vQ
def Wc:∀ x,∀ c∈dT x,bB c:=fun x=>jg (bB.val _) vQ
@[go_sem] theorem aau (E:Env) (ts:List C) (R:Nat->C) (t k:Nat) (vs:List ResultVar):wK E ⟨ts,R⟩ (.cell t k::vs)=match E.T k with
 | some ti=>match qP ⟨ts,R⟩ ti ((ts[t]?).getD .dead),wK E ⟨ts,R⟩ vs with
  | some c,some cs=>some (c::cs)
  | _,_=>none
 | none=>none:=by
 simp only [wK,Nw];cases E.T k<;>rfl
theorem W9 (c:C) (cs:List C):fa (c::cs)=match vu c,fa cs with
 | some c',some cs'=>some (c'::cs')
 | _,_=>none:=rfl
def Le.iref1 {es j:Nat} {cs cs':List C} (h:LeL cs cs'):Le (.iref es [cs] 0 j) (.iref es [cs'] 0 j):=by
 intro w S m m' p p' d u hr;cases d with
 | zero=>exact hr.elim
 | succ d=>
  obtain ⟨b,off,arr,elem,frz,g1,g2,g3,g4,g5⟩:=hr;refine ⟨b,off,arr,elem,frz,g1,g2,g3,?_,?_⟩
  ·intro row hrow;simp only [acW] at hrow;subst hrow;rw [h.len];exact g4 cs (by simp)
  ·intro i' j' row c' e1 e2;cases i' with
   | succ i'=>simp at e1
   | zero=>
    simp only [acI,acB] at e1;subst e1;have hlt:j' < cs.length:=by rw [<-h.len]; exact (acD.1 e2).1
    obtain ⟨u',f1,f2⟩:=g5 0 j' cs cs[j'] rfl (by simp [hlt]);exact ⟨u',f1,h.get j' cs[j'] c' (by simp [hlt]) e2 _ _ _ _ _ _ _ _ f2⟩
end Go.Abs
namespace Go.Abs
def Xs (E:Env) (o:Oper) (st:St):Bool:=
 match fD E o st with
 | some e=>(e.apply st).isSome
 | none=>false
theorem Xt {E:Env} {bar:Nat->Bool} {i:Nat} {o:Oper} {st:St}:okD E true bar i o st=(Xs E o st=true∨bar i=true):=by
 simp only [okD,Xs,true_implies]
 congr 1
 refine propext ⟨?_,?_⟩
 ·rintro ⟨e,s,h1,h2⟩;rw [h1]; simp [h2]
 ·intro h;split at h
  ·rename_i e he;obtain ⟨s,hs⟩:=aeM.1 h;exact ⟨e,s,he,hs⟩
  ·simp at h
def eL {b:Bool} {p:Prop} (h:b=true) (k:p):b=true/\p:=⟨h,k⟩
theorem Qn {α:Type} (x:α):(some x).isSome=true:=rfl
theorem QJ {α:Type}:(none:Option α).isSome=false:=rfl
end Go.Abs
namespace Go.Abs
def wX {α:Type} {row:α->List C} {l:List α} {i:Nat} {x y:α} {rx ry:List C} {g:List C->List C} (hx:l[i]?=some x) (e1:row x=rx) (e2:row y=ry) (h:g rx=ry):(l.map row).modify i g=(l.set i y).map row:=Ul hx (by rw [e1,h,e2])
def R7 {α:Type} {row:α->List C} {l:List α} {i:Nat} {x y0 y:α} {rx ry:List C} {g:List C->List C} (hx:l[i]?=some x) (e1:row y0=rx) (e2:row y=ry) (h:g rx=ry):((l.set i y0).map row).modify i g=(l.set i y).map row:=by
 rw [wX (kz (y:=y0) hx) e1 e2 h]
 congr 1
 exact agl ..
theorem Ry {α:Type} (l:List α) (i:Nat) (f g:α->α):(l.modify i f).modify i g=l.modify i (fun x=>g (f x)):=by
 apply adU;intro k;simp only [adT];cases l[k]?<;>simp
 split<;>rfl
def zD {c:C} (h:plainCell c=true):bV c:=by
 intro q hq;cases c with
 | sl own nl es cap rows=>
  cases own with
  | false=>cases q<;>simp [ak,C.at,C.kid,C.isOwn] at hq
  | true=>simp [plainCell,C.cellOk,C.isOwn] at h
 | _=>first|(simp [plainCell,C.cellOk] at h; done)|(cases q<;>simp [ak,C.at,C.kid,C.isOwn] at hq)
def aF.noOwn {α:Type} {row:α->List C} (h:aF row) (l:List α):∀ r∈l.map row,∀ c∈r,bV c:=by
 intro r hr c hc;obtain ⟨x,_,rfl⟩:=ade.1 hr;exact zD (acJ.1 (h.plain x) c hc)
def BS {P:Program} {f:FuncId} {pure:Bool} {es:Nat} {rows:List (List C)} {r:C} (hnil:rows=[]->Con P f [] pure [.val (.slice none 0 0)] r)
  (hnn:Con P f [] pure [.sl false (some false) es none rows] r):Con P f [] pure [.sl false none es none rows] r:=by
 intro w S m us hl hr hinj;obtain ⟨u,d,hu,hrel⟩:=hr 0 _ rfl;have e1:∀ (cs:List C),aH (R0 [] cs) m=fun _=>False:=fun cs=>funext fun b=>propext ⟨fun h=>k8 h,fun h=>h.elim⟩;have hinj':∀ (cs:List C),Inj (R0 [] cs) m:=by
  intro cs n p n' p' b h1;rw [Jx] at h1;exact (aM h1).elim
 cases d with
 | zero=>exact hrel.elim
 | succ d=>
  obtain ⟨a,k,h1,h2,h3,h4,hz,h5,h6,h7⟩:=hrel;by_cases ha:a=none
  ·subst ha;obtain rfl:=hz.2 rfl;have hrows:rows=[]:=by
    cases rows with
    | nil=>rfl
    | cons x xs=>simp at h2
   have:=hnil hrows w S m us (by simpa using hl) (by
    intro i c hc;cases i with
    | zero=>
     simp only [acI,acB] at hc;subst hc;refine ⟨u,1,hu,?_⟩;rw [h1,hrows];rfl
    | succ i=>simp at hc) (hinj' _)
   rw [e1] at this ⊢;exact this
  ·have:=hnn w S m us (by simpa using hl) (by
    intro i c hc;cases i with
    | zero=>
     simp only [acI,acB] at hc;subst hc;refine ⟨u,d+1,hu,?_⟩;refine ⟨a,k,h1,h2,h3,h4,⟨fun b hb=>?_,hz.2⟩,h5,h6,?_⟩
     ·simp only [acB] at hb;subst hb;simp [ha]
     ·rw [e1] at h7 ⊢;exact h7
    | succ i=>simp at hc) (hinj' _)
   rw [e1] at this ⊢;exact this
end Go.Abs
namespace Go.Abs
theorem NV {P:Program} {f:FuncId} {fn:Func} {tS tR e:TypeId} {size:Nat} (hf:P.funcs[f]?=some fn) (hname:(fn.name == "runtime.NumGoroutine") = false)
  (hb:fn.body.isNone=true) (hn:Extern.findNext fn=none) (he:Extern.find fn=some (Extern.SlicesOverlaps.overlaps #[tS,tS] #[tR]))
  (ht:P.underlying tS=some (.slice e)) (hz0:(P.info? e).map (·.size)=some size):I6 P f:=by
 have hz:∀ w,(Go.sizeOf e).run P w=.ok size w:=by
  intro w;obtain ⟨i,hi,rfl⟩:=acF.1 hz0;simp [Go.sizeOf,typeInfo,hi]
 intro w x y la ka lb kb h;rw [run_callFunc_extern hf hname hb hn he];obtain ⟨b1,o1,arr1,e1,b2,o2,arr2,e2,rfl,rfl,h3,h4,h5,h6⟩:=h;have key:(Extern.SlicesOverlaps.overlaps #[tS,tS] #[tR] #[.slice (some ⟨b1,o1,none⟩) la ka,.slice (some ⟨b2,o2,none⟩) lb kb]).run P w=.ok (.bool false) w:=
  Go.Lib.run_overlaps_apart w tS tR e ht size hz ⟨b1,o1,none⟩ ⟨b2,o2,none⟩ la ka lb kb h3 e1 e2 arr1.size arr2.size (by simp [World.shape?,h4]) (by simp [World.shape?,h5]) h6 (by simp [World.frozen?,h4]) (by simp [World.frozen?,h4])
 rw [key];rfl
def aF.allD {α:Type} {row:α->List C} (h:aF row) (l:List α):(l.map row).all (fun r=>r.all qz)=true:=by
 have:=h.allPlain l;rw [acJ] at this ⊢;intro r hr;have:=this r hr;rw [acJ] at this ⊢;intro c hc;simp [qz,this c hc]
def NS (E:Env) (vs:List ResultVar) (pure:Bool) (r:C):Exit->St->Prop:=fun e s=>(e=.ret∨e=.normal)/\∃ r0,zJ E vs s=some r0/\ROk r0 r/\(∀ q,ak r0 q->ak r q)/\(pure=true->bB r0)
def dS {E:Env} {vs:List ResultVar} {pure:Bool} {r:C} {s:St}:NS E vs pure r .ret s=∃ r0,zJ E vs s=some r0/\ROk r0 r/\(∀ q,ak r0 q->ak r q)/\(pure=true->bB r0):=by simp [NS]
def E9 {E:Env} {vs:List ResultVar} {pure:Bool} {r:C} {s:St}:NS E vs pure r .normal s=∃ r0,zJ E vs s=some r0/\ROk r0 r/\(∀ q,ak r0 q->ak r q)/\(pure=true->bB r0):=by simp [NS]
def P9 {nl nl':Option Bool} {es es':Nat} {cap cap':Option Nat} {rows rows':List (List C)} (h:∀ row∈rows,∀ c∈row,bV c):∀ q,ak (.sl true nl es cap rows) q->ak (.sl true nl' es' cap' rows') q:=by
 intro q hq;cases q with
 | nil=>rfl
 | cons s q=>
  exfalso;simp only [ak,C.at,C.kid] at hq;cases hr:rows[s.1]? with
  | none=>simp [hr] at hq
  | some row=>
   simp only [hr,acC] at hq;cases hc:row[s.2]? with
   | none=>simp [hc] at hq
   | some c1=>
    simp only [hc,acC] at hq;exact h row (acE hr) c1 (acE hc) q hq
def Rt {w w':World} {S:Nat->Prop} {pure:Bool} {O:Nat->Prop} {F:Prop} {r0 r:C} {u:Value} (hok:ROk r0 r) (hkeep:∀ q,ak r0 q->ak r q)
  (h:∃ mr d,rel w' (fun b=>((pure=false/\S b)∨w.heap.size<=b)/\¬ iT r0 mr b) L0 mr true d [] r0 u ∧
   (∀ q q' b,ak r0 q->ak r0 q'->blk (mr q)=some b->blk (mr q')=some b->q=q') ∧
   (∀ b,iT r0 mr b->w.heap.size<=b∨O b)/\F) :
  ∃ mr d,rel w' (fun b=>((pure=false/\S b)∨w.heap.size<=b)/\¬ iT r mr b) L0 mr true d [] r u ∧
   (∀ q q' b,ak r q->ak r q'->blk (mr q)=some b->blk (mr q')=some b->q=q') ∧
   (∀ b,iT r mr b->w.heap.size<=b∨O b)/\F:=by
 obtain ⟨mr,d,h1,h2,h3,h4⟩:=h;have key:∀ q b,ak r q->blk (zu r0 mr [] q)=some b->ak r0 q/\blk (mr q)=some b:=by
  intro q b hq hb;rcases hok.ownAt hq with h|h
  ·rw [AM h] at hb; exact ⟨h,hb⟩
  ·simp [zu,h,blk] at hb
 refine ⟨zu r0 mr [],d+1,?_,?_,?_,h4⟩
 ·refine ND (p:=[]) (p':=[]) ?_ hok d (fun q hq=>by simp) (fun q b hq hnq _=>(hnq (hkeep q hq)).elim) h1;rintro b ⟨hb,hn⟩;exact ⟨hb,fun ⟨q,hq,e⟩=>hn ⟨q,key q b hq e⟩⟩
 ·intro q q' b hq hq' e e';obtain ⟨a1,a2⟩:=key q b hq e;obtain ⟨a3,a4⟩:=key q' b hq' e';exact h2 q q' b a1 a3 a2 a4
 ·rintro b ⟨q,hq,e⟩;exact h3 b ⟨q,key q b hq e⟩
def JE {P:Program} {E:Env} (hT:TOk P E) (hG:GOk P E) (hmix:P.follows .mixedOrders=true) {f:FuncId} {fn:Func} {body:Code} (hf:D7 P f fn body)
  {own:List Bool} {pure:Bool} {cs:List C} {r:C} (hn:cs.length<=fn.ntmps)
  (hW:sG (zS own cs fn.ntmps)->W E body (NS E fn.results.toList pure r) (zS own cs fn.ntmps)):Con P f own pure cs r:=by
 intro w S m us hl hr hinj;left;have hname':¬ fn.name = "runtime.NumGoroutine" := by simpa using hf.name
 refine ⟨by simp [callFunc,hf.get,hname',hf.bd],?_⟩;have H:=Lq (n:=fn.ntmps) hl hn hr hinj;refine calls_of_wp hf.get hf.bd (wp_mono (Zg (ts:=[]) hT hG hmix body hf.ok (H8 _) (hW ⟨_,_,_,m,H⟩) ⟨m,H⟩) ?_);rintro e a' w' ⟨⟨s,⟨he,r0,hfin,hrok,hkeep,hpure⟩,m',H'⟩,-⟩;have main:∃ u,(results fn a'.tmps).run P w'=.ok u w'/\Done (Bd w S (aH (R0 own cs) m)) w' r0 u:=by
  unfold zJ at hfin;split at hfin
  case h_2=>simp at hfin
  rename_i cs' hres;obtain ⟨us',f1,f2,f3⟩:=Js hT H' hres;refine ⟨_,Bj f1,?_⟩;split at hfin
  ·rename_i rs hpl;simp only [acB] at hfin;subst hfin;exact DK hT H' f2 f3 hpl
  ·split at hfin
   ·rename_i s1 kp hprep;simp only [acB] at hfin;subst hfin;exact E8 hT H' f2 f3 hprep
   ·simp at hfin
 obtain ⟨u,hrun,hd⟩:=main;obtain ⟨mr,d,g1,g2,g3⟩:=hd.ex;have post:a'.defers=[]/\∃ v,(results fn a'.tmps).run P w'=.ok v w'/\∃ u,Ending.returned v=.returned u/\∃ mr d,rel w' (fun b=>((pure=false/\(S b∨aH (R0 own cs) m b))∨w.heap.size<=b)/\¬ iT r mr b) L0 mr true d [] r u ∧
   (∀ q q' b,ak r q->ak r q'->blk (mr q)=some b->blk (mr q')=some b->q=q')/\(∀ b,iT r mr b->w.heap.size<=b∨aH (R0 own cs) m b)/\FrK w (aH (R0 own cs) m) w':=by
  refine ⟨H'.df,u,hrun,u,rfl,Rt hrok hkeep ⟨mr,d,?_,g2,g3,⟨hd.fr.os,hd.fr.tape,hd.fr.output,hd.fr.drawn,hd.fr.size,hd.fr.block⟩⟩⟩;cases hp:pure with
  | true=>exact hpure hp w' _ _ mr d [] u g1
  | false=>exact av (fun b _ hs=>⟨⟨hs.1.imp (fun h=>⟨rfl,h⟩) id,hs.2⟩,rfl⟩) d (fun _ _ _ h=>h) (fun _ _ _ _ _ _=>rfl) (fun _ _ _=>rfl) g1
 rcases he with rfl|rfl
 ·exact post
 ·exact post
theorem Yj {nl:Option Bool} {es:Nat} {cap cap':Option Nat} {rows:List (List C)} (q:aq):ak (.sl true nl es cap rows) q↔ak (.sl true nl es cap' rows) q:=by
 cases q<;>rfl
def JI {P:Program} {f:FuncId} {own:List Bool} {pure:Bool} {nl:Option Bool} {es:Nat} {rows:List (List C)} {cs:List C} {r:C}
  (h:∀ k,rows.length<=k->k<=maxLen->Con P f (true::own) pure (.sl true nl es (some k) rows::cs) r):Con P f (true::own) pure (.sl true nl es none rows::cs) r:=by
 intro w S m us hl hr hinj;obtain ⟨u,d,hu,hrel⟩:=hr 0 _ rfl;cases d with
 | zero=>exact hrel.elim
 | succ d=>
  obtain ⟨a,k,h1,h2,h3,h4,hz,h5,h6,h7⟩:=hrel;have hR:∀ n q,ak (R0 (true::own) (.sl true nl es (some k) rows::cs) n) q↔ak (R0 (true::own) (.sl true nl es none rows::cs) n) q:=by
   intro n q;cases n with
   | zero=>exact Yj q
   | succ n=>exact af7
  have e1:aH (R0 (true::own) (.sl true nl es (some k) rows::cs)) m=aH (R0 (true::own) (.sl true nl es none rows::cs)) m:=by
   funext b
   apply propext;constructor
   ·rintro ⟨n,p,g1,g2⟩; exact ⟨n,p,(hR n p).1 g1,g2⟩
   ·rintro ⟨n,p,g1,g2⟩; exact ⟨n,p,(hR n p).2 g1,g2⟩
  have:=h k h2 h3 w S m us (by simpa using hl) (by
   intro i c hc;rw [e1];cases i with
   | zero=>
    simp only [acI,acB] at hc;subst hc;exact ⟨u,d+1,hu,a,k,h1,h2,h3,fun c hc=>by simpa using hc,hz,h5,h6,h7⟩
   | succ i=>exact hr (i+1) c (by simpa using hc)) (fun n p n' p' b g1 g2 g3 g4=>hinj n p n' p' b ((hR n p).1 g1) ((hR n' p').1 g2) g3 g4)
  rw [e1] at this;exact this
def NJ (A B:List (List C)):frzRows (A++B)=frzRows A++frzRows B:=by simp [frzRows]
def ES (n es:Nat):frzRows (List.replicate n (List.replicate es C.dead))=List.replicate n (List.replicate es C.dead):=by simp [frzRows,C.frz]
def bK (A:List (List C)):Prop:=frzRows A=A/\(A.all fun r=>r.all qz)=true
def ga {α:Type} {row:α->List C} (h:aF row) (l:List α):bK (l.map row):=⟨h.frzRows l,h.allD l⟩
theorem jP {A B:List (List C)} (h1:bK A) (h2:bK B):bK (A++B):=⟨by rw [NJ,h1.1,h2.1],by rw [List.all_append,h1.2,h2.2]; rfl⟩
def Qt {A:List (List C)} (h:bK A) (n:Nat):bK (A.take n):=by
 refine ⟨by have:=h.1; unfold frzRows at this ⊢; rw [ael,this],?_⟩;have:=h.2;rw [acJ] at this ⊢;exact fun r hr=>this r (adC hr)
def QF {A:List (List C)} (h:bK A) (n:Nat):bK (A.drop n):=by
 refine ⟨by have:=h.1; unfold frzRows at this ⊢; rw [aea,this],?_⟩;have:=h.2;rw [acJ] at this ⊢;exact fun r hr=>this r (aeb hr)
theorem Di (n es:Nat):bK (List.replicate n (List.replicate es C.dead)):=by
 refine ⟨ES n es,?_⟩;rw [acJ];intro r hr;rw [adH hr,acJ];intro c hc;rw [adH hc];rfl
def fY {A B:List (List C)} {n:Nat} (h1:bK A) (h2:bK B):bK (aL A n B):=
 jP (jP (Qt h1 n) h2) (QF h1 _)
def zB (n:Nat) (vs:List Value) (h:∀ v∈vs,v.oneCell'=true):bK (List.replicate n (vs.map C.val)):=by
 refine ⟨by simp [frzRows,C.frz],?_⟩;rw [acJ];intro r hr;rw [adH hr,acJ];intro c hc;obtain ⟨v,hv,rfl⟩:=ade.1 hc;simp [qz,dO,Abs.plainCell,C.cellOk,C.isOwn,h v hv]
def KU {A:List (List C)} {D r:List C} {i n:Nat} (hn:A.length=n) (hi:i<=n) :
  aL (aL (A++[D]) (i+1) (((A++[D]).drop i).take (n - i))) i [r]=A.take i++[r]++A.drop i:=by
 have e1:((A++[D]).drop i).take (n - i)=A.drop i:=by
  rw [aeT,show i - A.length=0 by omega,ad4,aej,ac3 (by simp; omega),show n - i - (A.drop i).length=0 by simp; omega];simp
 rw [e1];unfold aL;have hd:(A.drop i).length=n - i:=by simp [hn]
 have e2:(A++[D]).take (i+1)=A.take i++((A++[D]).drop i).take 1:=by
  rw [List.take_add]
  congr 1
  rw [aej,show i - A.length=0 by omega];simp
 have l1:(((A++[D]).drop i).take 1).length=1:=by simp [hn]; omega
 have l0:(A.take i).length=i:=by simp [hn]; omega
 have e3:(A++[D]).drop (i+1+(A.drop i).length)=[]:=by
  apply adN;simp [hn]; omega
 rw [e3,adg,e2];have e4:(A.take i++((A++[D]).drop i).take 1++A.drop i).take i=A.take i:=by
  rw [adv,aej,l0,aeE,aff,adg,ac3 (by omega)]
 have e5:(A.take i++((A++[D]).drop i).take 1++A.drop i).drop (i+[r].length)=A.drop i:=by
  rw [aeT,show (List.take i A++List.take 1 (List.drop i (A++[D]))).length=i+1 by rw [adi,l0,l1]];rw [adN (by rw [adi,l0,l1]; simp)];simp
 rw [e4,e5]
def NU {A Z:List (List C)} {r:List C} {i n:Nat} (hn:A.length=n) (hi:i<=n) (hz:Z.length=n+1 - i) :
  aL (aL (A.take i++Z) i [r]) (i+1) (A.drop i)=A.take i++[r]++A.drop i:=by
 have l0:(A.take i).length=i:=by simp [hn]; omega
 have e1:aL (A.take i++Z) i [r]=A.take i++[r]++Z.drop 1:=by
  unfold aL;rw [aej,l0,aeE,aff,adg,ac3 (by omega)]
  congr 1
  rw [aeT,l0,adN (by simp [l0]),acV]
  congr 1
  simp
 rw [e1];unfold aL;have l2:(A.take i++[r]).length=i+1:=by simp [l0]
 rw [aej,l2,aeE,aff,adg,ac3 (by omega)];have l3:(A.drop i).length=n - i:=by simp [hn]
 have l4:(A.take i++[r]++Z.drop 1).length=i+1+(n - i):=by rw [adi,l2,ae3,hz]; omega
 have e5:(A.take i++[r]++Z.drop 1).drop (i+1+(A.drop i).length)=[]:=adN (by rw [l4,l3]; omega);rw [e5,adg]
def su {α:Type} {row:α->List C} (hrow:aF row) {nl:Option Bool} {es:Nat} {cap:Option Nat} {rows:List (List C)} {l:List α} (e:rows=l.map row) :
  ∃ r0,some (C.sl true nl es cap rows)=some r0/\ROk r0 (.sl true none es none (l.map row))/\(∀ q,ak r0 q->ak (.sl true none es none (l.map row)) q):=by
 subst e;exact ⟨_,rfl,ROk.own (dw.refl _) (hrow.noOwn l),P9 (hrow.noOwn l)⟩
end Go.Abs
namespace Go.Abs
theorem XG (own:List Bool) (cs:List C) (n:Nat):R0 own cs n=if own.getD n false then (cs[n]?).getD .dead else .dead:=rfl
def Con.argsO {P:Program} {f:FuncId} {own:List Bool} {pure:Bool} {cs cs':List C} {r:C} (h:Con P f own pure cs' r) (hlen:cs'.length=cs.length)
  (hle:∀ (i:Nat) (c c':C),cs[i]?=some c->cs'[i]?=some c'->if own.getD i false=true then ROk c c'/\(∀ q,ak c q->ak c' q) else Le c c'):Con P f own pure cs r:=by
 intro w S m us hl hr hinj;have both:∀ i,i < cs.length->cs[i]?=some (cs[i]?.getD .dead)/\cs'[i]?=some (cs'[i]?.getD .dead):=by
  intro i hi;have hi':i < cs'.length:=by omega
  simp [hi,hi']
 obtain ⟨m',hm'⟩:∃ m':Nat->aq->Value,m'=fun i=>if own.getD i false then zu (cs[i]?.getD .dead) (m i) [] else m i:=⟨_,rfl⟩
 have key1:∀ n q b,ak (R0 own cs' n) q->blk (m' n q)=some b->ak (R0 own cs n) q/\blk (m n q)=some b:=by
  intro n q b hq hb;rw [XG] at hq ⊢;rw [hm'] at hb;by_cases ho:own.getD n false=true
  ·simp only [ho,if_true] at hq hb ⊢;by_cases hn:n < cs.length
   ·obtain ⟨e1,e2⟩:=both n hn;have hh:=hle n _ _ e1 e2;rw [if_pos ho] at hh;rcases hh.1.ownAt hq with h1|h1
    ·rw [AM h1] at hb; exact ⟨h1,hb⟩
    ·simp [zu,h1,blk] at hb
   ·have:cs'[n]?=none:=by simp; omega
    rw [this] at hq;exact (aM hq).elim
  ·simp only [ho] at hq;exact (aM hq).elim
 have key2:∀ n q b,ak (R0 own cs n) q->blk (m n q)=some b->ak (R0 own cs' n) q/\blk (m' n q)=some b:=by
  intro n q b hq hb;rw [XG] at hq ⊢;rw [hm'];by_cases ho:own.getD n false=true
  ·simp only [ho,if_true] at hq ⊢;by_cases hn:n < cs.length
   ·obtain ⟨e1,e2⟩:=both n hn;have hh:=hle n _ _ e1 e2;rw [if_pos ho] at hh;exact ⟨hh.2 q hq,by rw [AM hq]; exact hb⟩
   ·have:cs[n]?=none:=by simp; omega
    rw [this] at hq;exact (aM hq).elim
  ·simp only [ho] at hq;exact (aM hq).elim
 have eO:aH (R0 own cs') m'=aH (R0 own cs) m:=by
  funext b
  apply propext;constructor
  ·rintro ⟨n,p,g1,g2⟩; obtain ⟨f1,f2⟩:=key1 n p b g1 g2; exact ⟨n,p,f1,f2⟩
  ·rintro ⟨n,p,g1,g2⟩; obtain ⟨f1,f2⟩:=key2 n p b g1 g2; exact ⟨n,p,f1,f2⟩
 have:=h w S m' us (by rw [hl,hlen]) (by
  intro i c' hc;have hlt:i < cs.length:=by rw [<-hlen]; exact (acD.1 hc).1
  obtain ⟨e1,e2⟩:=both i hlt;obtain ⟨u,d,h1,h2⟩:=hr i _ e1;have hh:=hle i _ c' e1 hc;rw [eO];by_cases ho:own.getD i false=true
  ·rw [if_pos ho] at hh;rw [ho] at h2 ⊢;refine ⟨u,d+1,h1,ND (m:=m i) (m':=m' i) (p:=[]) (p':=[]) (fun b hb=>hb) hh.1 d (fun q hq=>?_) (fun q b hq hnq _=>(hnq (hh.2 q hq)).elim) h2⟩;rw [hm'];simp only [ho,if_true,acV]
  ·rw [if_neg ho] at hh;have ho':own.getD i false=false:=by simpa using ho
   rw [ho'] at h2 ⊢;exact ⟨u,d,h1,hh w _ (m i) (m' i) [] [] d u h2⟩) (fun n p n' p' b g1 g2 g3 g4=>hinj n p n' p' b (key1 n p b g1 g3).1 (key1 n' p' b g2 g4).1 (key1 n p b g1 g3).2 (key1 n' p' b g2 g4).2)
 rw [eO] at this;exact this
def vO {α:Type} (es:Nat) (d:List C->Option α):C->Option (List α)
 | .sl true _ es' _ rows=>if es'=es/\(rows.all fun r=>r.all Abs.plainCell)=true then bR d rows else none
 | .val (.slice none 0 0)=>some []
 | _=>none
theorem YK {α:Type} (es:Nat) (d:List C->Option α) (nl:Option Bool) (cap:Option Nat) (rows:List (List C)):vO es d (.sl true nl es cap rows)=if (rows.all fun r=>r.all Abs.plainCell)=true then bR d rows else none:=by
 simp only [vO,true_and]
theorem Ww {α:Type} (es:Nat) (d:List C->Option α):vO es d (.val (.slice none 0 0))=some []:=rfl
def qi {α:Type} {es:Nat} {d:List C->Option α} {row:α->List C} (hrow:aF row) (hd:∀ r x,d r=some x->LeL r (row x)) {c:C} {l:List α} (h:vO es d c=some l) :
  ROk c (.sl true none es none (l.map row))/\(∀ q,ak c q->ak (.sl true none es none (l.map row)) q):=by
 unfold vO at h;split at h
 ·rename_i nl es' cap rows;split at h
  ·rename_i hc;obtain ⟨rfl,hc⟩:=hc;refine ⟨ROk.own (Gk hd h) (hrow.noOwn l),P9 ?_⟩;intro r hr c hcm;rw [acJ] at hc;exact zD (acJ.1 (hc r hr) c hcm)
  ·simp at h
 ·simp only [acB] at h;subst h;refine ⟨ROk.nil es,?_⟩;intro q hq;cases q<;>simp [ak,C.at,C.kid,C.isOwn] at hq
 ·simp at h
def oa {own:List Bool}:∀ (i:Nat) (c c':C),([]:List C)[i]?=some c->([]:List C)[i]?=some c'->if own.getD i false=true then ROk c c'/\(∀ q,ak c q->ak c' q) else Le c c':=by simp
def jy {own:List Bool} {c0 c0':C} {cs cs':List C} (h:ROk c0 c0'/\(∀ q,ak c0 q->ak c0' q))
  (t:∀ (i:Nat) (c c':C),cs[i]?=some c->cs'[i]?=some c'->if own.getD i false=true then ROk c c'/\(∀ q,ak c q->ak c' q) else Le c c') :
  ∀ (i:Nat) (c c':C),(c0::cs)[i]?=some c->(c0'::cs')[i]?=some c'->if (true::own).getD i false=true then ROk c c'/\(∀ q,ak c q->ak c' q) else Le c c':=by
 intro i c c' h1 h2;cases i with
 | zero=>simp only [acI,acB] at h1 h2; subst h1; subst h2; simpa using h
 | succ i=>simpa using t i c c' (by simpa using h1) (by simpa using h2)
def re {own:List Bool} {c0 c0':C} {cs cs':List C} (h:Le c0 c0')
  (t:∀ (i:Nat) (c c':C),cs[i]?=some c->cs'[i]?=some c'->if own.getD i false=true then ROk c c'/\(∀ q,ak c q->ak c' q) else Le c c') :
  ∀ (i:Nat) (c c':C),(c0::cs)[i]?=some c->(c0'::cs')[i]?=some c'->if (false::own).getD i false=true then ROk c c'/\(∀ q,ak c q->ak c' q) else Le c c':=by
 intro i c c' h1 h2;cases i with
 | zero=>simp only [acI,acB] at h1 h2; subst h1; subst h2; simpa using h
 | succ i=>simpa using t i c c' (by simpa using h1) (by simpa using h2)
theorem XR (k:Nat) (R:Nat->C) (n:Nat) (c:C):clr k (upd R n c)=if H0<=n/\n < H0+k then clr k R else upd (clr k R) n c:=by
 funext x
 split
 ·rename_i h;simp only [clr,upd];split
  ·rfl
  ·split
   ·rename_i h1 h2; subst h2; exact (h1 h).elim
   ·rfl
 ·rename_i h;simp only [clr,upd];by_cases hx:x=n
  ·subst hx; simp [h]
  ·simp [hx]
theorem Za (k:Nat):clr k RZ=RZ:=by funext x; simp [clr,RZ]
def I0 {α β:Type} (bytes:Nat) (l:List α) (i:Int) (v:List α) (k:List α->Option β):Option β:=
 if 0<=i/\i<=l.length/\v.length=1/\(l.length+1) * (bytes+1)<=140737488355328 then k (l.take i.toNat++v++l.drop i.toNat) else none
def BZ {α β:Type} {bytes:Nat} {l:List α} {i:Int} {v:List α} {k:List α->Option β} {r:β} (h:I0 bytes l i v k=some r) :
  ∃ (n:Nat) (x:α),i=(n:Int)/\v=[x]/\n<=l.length/\(l.length+1) * (bytes+1)<=140737488355328/\k (l.take n++[x]++l.drop n)=some r:=by
 unfold I0 at h;split at h
 ·rename_i hc;obtain ⟨h1,h2,h3,h4⟩:=hc
  match v,h3 with
  | [x],_=>exact ⟨i.toNat,x,by omega,rfl,by omega,h4,h⟩
 ·simp at h
def Uh {α β:Type} (l:List α) (i j:Int) (k:List α->Option β):Option β:=
 if 0<=i/\i<=j/\j<=l.length then k (l.take i.toNat++l.drop j.toNat) else none
def U3 {α β:Type} {l:List α} {i j:Int} {k:List α->Option β} {r:β} (h:Uh l i j k=some r) :
  ∃ (n m:Nat),i=(n:Int)/\j=(m:Int)/\n<=m/\m<=l.length/\k (l.take n++l.drop m)=some r:=by
 unfold Uh at h;split at h
 ·rename_i hc;obtain ⟨h1,h2,h3⟩:=hc;exact ⟨i.toNat,j.toNat,by omega,by omega,by omega,by omega,h⟩
 ·simp at h
def WS {L:List (List C)} {i j:Nat} (Z:List (List C)) (hij:i<=j) (hj:j<=L.length) :
  (aL (aL L i (L.drop j)) (i+(L.length - j)) Z).take (i+(L.length - j))=L.take i++L.drop j:=by
 have l0:(L.take i).length=i:=by simp; omega
 have l1:(L.take i++L.drop j).length=i+(L.length - j):=by simp; omega
 have e1:(aL L i (L.drop j)).take (i+(L.length - j))=L.take i++L.drop j:=by
  unfold aL;rw [aej,l1,aeE,aff,adg,ac3 (by omega)]
 have l2:((aL L i (L.drop j)).take (i+(L.length - j))).length=i+(L.length - j):=by rw [e1,l1]
 unfold aL at *;rw [adv,aej,l2,aeE,aff,adg,ac3 (by omega),e1]
def Ky (a:Nat):(∀ c:Nat,c∈(none:Option Nat)->a<=c)=True:=by simp
def Sc (a b:Nat):(∀ c:Nat,c∈(some b:Option Nat)->a<=c)=(a<=b):=by simp
theorem UZ {α β:Type} (l:List α) (f:α->β) (x:β):List.take (l.length+1) (l.map f++[x])=l.map f++[x]:=ac3 (by simp)
end Go.Abs
namespace Go.Abs
def Sb {n:Nat} {f:Nat->C} {R:Nat->C} (t s d:Nat) {nl:Option Bool} {es:Nat} {cap:Option Nat} {rows:List (List C)} {len:Nat} (htn:t < n) (hne:d≠s) (hd:R d=.dead) (hs:R s=.sl true nl es cap rows)
  (ht:f t=.pal s [] 0 len none) (hlen:len=rows.length) :
  aX ⟨tab n f,R⟩ ⟨tab n (af (uN (fun k _=>k == s) f) t (.pal d [] 0 len none)),upd (upd R s .dead) d (.sl true none es none rows)⟩:=by
 rintro X a w ⟨m,H⟩;obtain ⟨u,dd,h1,h2⟩:=H.tmp t (f t) (by simp only [gv,htn,if_true]);rw [ht] at h2;have hv:Lv R m (.pal s [] 0 len none) u:=ek ⟨dd,h2⟩;obtain ⟨M1,M2,M3⟩:=H.move (h:=d) (n:=s) (p:=[]) hd hne (by rw [C.at]; exact congrArg some hs) hv;have e1:(St.move ⟨tab n f,R⟩ s [] 0 len none d es rows)=⟨tab n (uN (fun k _=>k == s) f),upd (upd R s .dead) d (.sl true none es none rows)⟩:=by
  have e0:(fun (n':Nat) (p':aq)=>n' == s && kQ [] p')=(fun (k:Nat) (_:aq)=>k == s):=by funext x y; simp [kQ]
  have e2:(R s).turn (fun _=>C.dead) []=C.dead:=by rw [hs]; rfl
  simp only [St.move,C5,hlen,ad4,aex,e0,e2]
 rw [e1] at M1 M2;refine ⟨_,⟨by rw [H.len]; simp [mS],?_,M1.root,M1.inj,M1.own,M1.fr,M1.df⟩⟩;intro t' c hc;rw [gv] at hc;split at hc
 case isFalse=>simp at hc
 rename_i hlt;simp only [acB] at hc;by_cases e:t'=t
 ·subst e;simp only [af,if_true] at hc;subst hc;refine ⟨u,1,h1,?_⟩;obtain ⟨nl',es',cap',rows',ad,k,a',k',g1,g2,g3,g4,g5,g6,g7,g8,g9⟩:=hv;simp only [C.at,acB,hs,C.sl.injEq,true_and] at g1;obtain ⟨rfl,rfl,rfl,rfl⟩:=g1;simp only [rel,Lv];refine ⟨none,es,none,rows,a',k',a',k',by simp [aC,C.at],?_,by omega,g4,g5,by omega,by simp,by simp,?_⟩
  ·simp only [iw,if_true]; rw [g4,hlen]
  ·rcases g9 with g9|⟨b,off,rfl,rfl⟩
   ·exact .inl g9
   ·exact .inr ⟨_,_,rfl,by simp⟩
 ·simp only [af,e,if_false] at hc;exact M1.tmp t' c (by simp only [gv,hlt,if_true,hc])
theorem X4 (g:Nat->aq->Bool) (cs:List C):poi g (.agg cs)=if cs.any (C.ment g 2)=true then .dead else .agg cs:=rfl
theorem YL (g:Nat->aq->Bool) (cs:List C):poi g (.tup cs)=if cs.any (C.ment g 2)=true then .dead else .tup cs:=rfl
end Go.Abs
namespace Go.Abs
open Go.ChangeShapes Go.WideShapes Go.ChangeAt Go.RowKit
def oU (w:World) (cs:List Value) (r:List C):Prop:=r.length=cs.length/\∃ d,∀ (j:Nat) (c:C),r[j]?=some c->∃ u,cs[j]?=some u/\rel w (fun _=>True) L0 dm false d [] c u
def Sz (P:Program) {H:Type} (t:TypeId) (d:DataW H):Prop:=∀ n∈d.weights P t,n<=140737488351232
def UO {P:Program} {H:Type} {e:TypeId}:∀ {ds:List (DataW H)} {i:Nat} {d:DataW H},ds[i]?=some d->∀ n∈d.weights P e,n∈DataW.weightsAll P e ds
 | d0::ds,0,d,h,n,hn=>by
  simp only [acI,acB] at h;subst h;simp only [DataW.weightsAll,acZ];exact .inl hn
 | d0::ds,i+1,d,h,n,hn=>by
  simp only [ac8] at h;simp only [DataW.weightsAll,acZ];exact .inr (UO h n hn)
def Hp {P:Program} {H:Type} {t t':TypeId} {fs:Array Field} {ds:List (DataW H)} (ht:P.underlying t=some (.struct fs)) (h:Sz P t (.agg ds)) {i:Nat} {d:DataW H} (hi:(fs.toList.map (·.type))[i]?=some t') (hd:ds[i]?=some d):Sz P t' d:=by
 intro n hn;refine h n ?_;simp only [DataW.weights,ht];exact DataW.weights_mem_each hi hd n hn
def VQ {P:Program} {H:Type} {ts:List TypeId} {ds:List (DataW H)} (h:(DataW.weightsEach P ts ds).all (·<=reachBytes)=true) {j:Nat} {t:TypeId} {d:DataW H} (ht:ts[j]?=some t) (hd:ds[j]?=some d):Sz P t d:=by
 intro n hn;have:=acJ.1 h _ (DataW.weights_mem_each ht hd n hn);exact of_decide_eq_true this
def MD (P:Program) (t:TypeId) {α:Type} (row:α->List C) (wf:α->Prop):Prop:=
 ∀ (H:Type) (enc:TypeId × Value->H) (w:World) (base:Nat) (spare:Nat->Bool) (held:Bool) (fuel:Nat) (cs:List Value) (x:DataW H × List MemPlace),
  DataW.trod enc P w base spare held fuel t cs=some x->Sz P t x.1->∃ y:α,wf y/\oU w cs (row y)
def G5 {w:World} {c:C} {u:Value} {d:Nat} (h:rel w (fun _=>True) L0 dm false d [] c u):oU w [u] [c]:=by
 refine ⟨rfl,d,?_⟩;intro j c' hj;cases j with
 | zero=>simp only [acI,acB] at hj; subst hj; exact ⟨u,rfl,h⟩
 | succ j=>simp at hj
def UA {w:World}:oU w [] []:=⟨rfl,0,by simp⟩
def Pl {w:World} {cs cs':List Value} {r r':List C} (h:oU w cs r) (h':oU w cs' r'):oU w (cs++cs') (r++r'):=by
 obtain ⟨hl,d,h⟩:=h;obtain ⟨hl',d',h'⟩:=h';refine ⟨by simp [hl,hl'],max d d',?_⟩;intro j c hj;by_cases hlt:j < r.length
 ·rw [acN hlt] at hj;obtain ⟨u,e1,e2⟩:=h j c hj;exact ⟨u,by rw [acN (by omega)]; exact e1,aT _ _ (by omega) e2⟩
 ·rw [acP (by omega)] at hj;obtain ⟨u,e1,e2⟩:=h' _ c hj;exact ⟨u,by rw [acP (by omega),<-hl]; exact e1,aT _ _ (by omega) e2⟩
theorem BF {P:Program} {t:TypeId} {k:IntKind} (ht:P.underlying t=some (.int k)):MD P t (ay k) (fun n=>(Lit.int k n).wf=true):=by
 intro H enc w base spare held fuel cs x h _;obtain ⟨n,rfl,_,hw⟩:=DataW.trod_int ht h;exact ⟨n,hw,G5 (d:=1) rfl⟩
def YR {P:Program} {e:TypeId} {α:Type} {row:α->List C} {wf:α->Prop} (he:MD P e row wf) {H:Type} {enc:TypeId × Value->H} {w:World} {base:Nat} {spare:Nat->Bool} {held:Bool} {fuel:Nat} {css:Nat->List Value} :
  ∀ (n:Nat),(∀ i,i < n->∃ x,DataW.trod enc P w base spare held fuel e (css i)=some x/\Sz P e x.1)->∃ l:List α,l.length=n/\(∀ y∈l,wf y)/\∃ d,∀ (i:Nat) (y:α),l[i]?=some y ->
   (row y).length=(css i).length/\∀ (j:Nat) (c:C),(row y)[j]?=some c->∃ u,(css i)[j]?=some u/\rel w (fun _=>True) L0 dm false d [] c u:=by
 intro n
 induction n with
 | zero=>intro _; exact ⟨[],rfl,by simp,0,by simp⟩
 | succ n ih=>
  intro h;obtain ⟨l,e1,e2,d,e3⟩:=ih (fun i hi=>h i (by omega));obtain ⟨x,hx,hz⟩:=h n (by omega);obtain ⟨y,hy,hl,d',hr⟩:=he H enc w base spare held fuel _ x hx hz;refine ⟨l++[y],by simp [e1],?_,max d d',?_⟩
  ·intro z hz;rcases acZ.1 hz with hz|hz
   ·exact e2 z hz
   ·rw [acW.1 hz]; exact hy
  ·intro i z hz;by_cases hlt:i < l.length
   ·rw [acN hlt] at hz;obtain ⟨f1,f2⟩:=e3 i z hz;exact ⟨f1,fun j c hj=>let ⟨u,g1,g2⟩:=f2 j c hj; ⟨u,g1,aT _ _ (by omega) g2⟩⟩
   ·rw [acP (by omega)] at hz;have:i=n:=by
     have:=(acD.1 hz).1;simp at this;omega
    subst this;rw [e1] at hz;simp only [aeE,acI,acB] at hz;subst hz;exact ⟨hl,fun j c hj=>let ⟨u,g1,g2⟩:=hr j c hj; ⟨u,g1,aT _ _ (by omega) g2⟩⟩
theorem QE (a:Addr) (n:Nat):(a.add n).off=a.off+n:=by
 unfold Addr.add;split
 ·rename_i h; rw [h]; rfl
 ·rfl
def Sh {P:Program} {t e:TypeId} {α:Type} {row:α->List C} {wf:α->Prop} {es:Nat} (ht:P.underlying t=some (.slice e)) (hes:P.cellsOf e=es) (hpos:0 < es) {b:Nat} (hby:P.bytesOf e=b) (he:MD P e row wf) :
  MD P t (Y9 es row) (fun l=>l.length * b<=140737488351232/\∀ x∈l,wf x):=by
 intro H enc w base spare held fuel cs x h hz;rcases DataW.trod_slice ht h with ⟨rfl,_⟩|⟨a,len,cap,elems,rest,n,_,rfl,rfl,hb,hl,hc,hlen,hel,_,_⟩
 ·refine ⟨[],⟨by simp,by simp⟩,G5 (d:=1) ?_⟩;exact ⟨none,0,rfl,acU _,adt _,by simp,⟨by simp,by simp⟩,by simp,by simp,.inl rfl⟩
 ·rw [hes] at hel;simp only [Sz,DataW.weights,ht,hby] at hz;have hcells:∀ i,i < len->∃ c x,w.cells? base (a.add (i * es)) es=some c/\DataW.trod enc P w base spare held n e c=some x/\Sz P e x.1:=by
   intro i hi;have h1:=hel i hi;have h2:elems[i]?=some elems[i]:=by simp [hlen,hi]
   rw [h2,acG] at h1;obtain ⟨c,f1,f2⟩:=h1;refine ⟨c,_,f1,f2,fun m hm=>hz m ?_⟩;have:=UO (P:=P) (e:=e) (ds:=elems.map (·.1)) (i:=i) (d:=elems[i].1) (by rw [acK,h2]; rfl) m hm;simp only [ac6,acZ];exact .inr (.inl this)
  obtain ⟨css,hcss⟩:∃ css:Nat->List Value,css=fun i=>(w.cells? base (a.add (i * es)) es).getD []:=⟨_,rfl⟩;have hcs:∀ i,i < len->w.cells? base (a.add (i * es)) es=some (css i):=by
   intro i hi;obtain ⟨c,x,f1,f2,_⟩:=hcells i hi;simp [hcss,f1]
  obtain ⟨l,e1,e2,d,e3⟩:=YR he (css:=css) (H:=H) (enc:=enc) (w:=w) (base:=base) (spare:=spare) (held:=held) (fuel:=n) len (fun i hi=>by
   obtain ⟨c,x,f1,f2⟩:=hcells i hi;rw [hcs i hi] at f1;obtain rfl:=adp f1;exact ⟨x,f2⟩)
  refine ⟨l,⟨?_,e2⟩,G5 (d:=d+1) ?_⟩
  ·have h0:=hz _ (List.mem_cons_self);have h1:l.length * b<=((elems.map (·.1)).length+(rest.map (·.1)).length) * b:=adq _ (by simp only [acL,e1,hlen]; omega);exact adW h1 h0
  refine ⟨some a,cap,by simp [e1],by simp [e1]; omega,hc,by simp,⟨by simp,by simp⟩,?_,by simp,?_⟩
  ·intro r hr;obtain ⟨y,hy,rfl⟩:=ade.1 hr;obtain ⟨i,hi⟩:=acR hy;have hlt:=(acD.1 hi).1;obtain ⟨f1,_⟩:=e3 i y hi;rw [f1];have:=hcs i (by omega);exact (World.cells?_some this).2.1
  ·by_cases h0:len=0
   ·refine .inr (.inl ⟨by simp,?_⟩);have:l=[]:=acQ (by omega);rw [this]; rfl
   ·have hcell:∀ i j,i < len->j < es->w.cell? ((a.add (i * es)).add j)=(css i)[j]?:=by
     intro i j hi hj;obtain ⟨g1,g2,g3⟩:=World.cells?_some (hcs i hi);exact g3 j hj
    have h00:=hcell 0 0 (by omega) hpos;have hsome:((css 0)[0]?).isSome=true:=by
     have:=(World.cells?_some (hcs 0 (by omega))).2.1;simp [this,hpos]
    rw [<-h00] at hsome;simp only [afs,Addr.add,if_true] at hsome;unfold World.cell? at hsome;split at hsome
    case h_2=>simp at hsome
    rename_i arr elem frz hheap;split at hsome
    case isTrue=>simp at hsome
    rename_i hspot;refine .inr (.inr ⟨a.block,a.off,arr,elem,frz,?_,hheap,fun _=>trivial,by simp,?_⟩)
    ·obtain ⟨ab,ao,asp⟩:=a;simp only [acB,Addr.mk.injEq,true_and];simpa using hspot
    ·intro i j r c' h1 h2;simp only [acK,acF] at h1;obtain ⟨y,hy,rfl⟩:=h1;have hlt:=(acD.1 hy).1;obtain ⟨f1,f2⟩:=e3 i y hy;obtain ⟨u,g1,g2⟩:=f2 j c' h2;refine ⟨u,?_,db g2⟩;have hj:j < es:=by
      have:=(acD.1 g1).1;rw [(World.cells?_some (hcs i (by omega))).2.1] at this;exact this
     have:=hcell i j (by omega) hj;rw [g1] at this;unfold World.cell? at this;have hblk:((a.add (i * es)).add j).block=a.block:=by unfold Addr.add; split<;>split<;>rfl
     rw [hblk,hheap] at this;simp only at this;split at this
     ·simp at this
     ·have hoff:((a.add (i * es)).add j).off=a.off+i * es+j:=by rw [QE,QE]
      rw [hoff] at this;exact this
end Go.Abs
namespace Go.Abs
open Go.ChangeShapes Go.WideShapes Go.ChangeAt Go.RowKit
def FrK.below {W W':World} (h:FrK W (fun _=>False) W'):Below W.heap.size W W':=⟨h.os,h.tape,h.output,h.size,fun b hb=>h.block b hb id⟩
def QO {P:Program} {f:FuncId} {fn:Func} {body:Code} {pure:Bool} {cs:List C} {us:List Value} {W:World} (hf:D7 P f fn body) (hcon:Con P f [] pure cs (.val (.bool true))) (hlen:us.length=cs.length)
  (hrel:∀ (i:Nat) (c:C),cs[i]?=some c->∃ u d,us[i]?=some u/\rel W (fun _=>True) L0 dm false d [] c u) :
  Calls P f us.toArray W fun e W'=>e=.returned (.bool true)/\FrK W (fun _=>False) W':=by
 have e1:aH (R0 [] cs) (fun _=>dm)=fun _=>False:=funext fun b=>propext ⟨fun h=>k8 h,fun h=>h.elim⟩;have hd:=hcon W (fun _=>True) (fun _=>dm) us hlen (by
  intro i c hc;obtain ⟨u,d,h1,h2⟩:=hrel i c hc;refine ⟨u,d,h1,?_⟩;rw [e1];simp only [afn];exact av (fun b _ _=>⟨⟨trivial,id⟩,rfl⟩) d (fun _ _ _ h=>h) (fun h=>by simp at h) (fun h=>by simp at h) h2) (by
  intro n p n' p' b h1;rw [Jx] at h1;exact (aM h1).elim)
 have hname':¬ fn.name = "runtime.NumGoroutine" := by simpa using hf.name
 have henter:(callFunc f us.toArray).run P W=.ok (.enter f us.toArray) W:=by simp [callFunc,hf.get,hname',hf.bd]
 rcases hd with ⟨_,h⟩|⟨u,w',h,_⟩
 ·refine h.mono ?_;rintro e W' ⟨u,rfl,mr,d,h1,_,_,h4⟩;rw [e1] at h4;refine ⟨?_,h4⟩;cases d with
  | zero=>exact h1.elim
  | succ d=>
   have:u=.bool true:=h1;rw [this]
 ·rw [henter] at h;cases h
theorem HF {H:Type} {enc:TypeId × Value->H} {P:Program} (hl:laidOutB P=true) {W W':World} (hb:Below W.heap.size W W'):∀ {ts:List TypeId} {vs:List Value} {ds:List (DataW H)} {ps:List MemPlace},
  (∀ t∈ts,P.readableRec t=true/\t < P.types.size)->DataW.TrodAll enc P W 0 (fun _=>true) true ts vs ds ps->(∀ x∈ps,x.block < W.heap.size)->DataW.TrodAll enc P W' 0 (fun b=>decide (b < W.heap.size)) true ts vs ds ps
 | [],[],[],_,_,h,_=>h
 | t::ts,v::vs,d::ds,ps,ht,h,hlt=>by
  obtain ⟨p,q,h1,h2,rfl⟩:=h;exact ⟨p,q,Below.trod hl (ht t (by simp)).1 (ht t (by simp)).2 h1 hb (fun x hx=>hlt x (by simp [hx])),HF hl hb (fun t' h'=>ht t' (by simp [h'])) h2 (fun x hx=>hlt x (by simp [hx])),rfl⟩
theorem FrK.kept {W W':World} (h:FrK W (fun _=>False) W') (may:MemPlace->Prop):W.keptBut W' may:=by
 refine ⟨h.os,h.output,fun i hi=>?_⟩;rw [h.block i hi id];split
 ·rename_i c t fr c' t' fr' e1 e2;rw [e1] at e2;cases e2;exact ⟨rfl,rfl,rfl,fun _ _=>rfl⟩
 ·rename_i es cl es' cl' e1 e2;rw [e1] at e2;cases e2;exact .inr ⟨rfl,rfl⟩
 ·rfl
theorem Wm {H:Type} {enc:TypeId × Value->H} {P:Program} {f:Func} {s:ChangeSpec} {W W':World} {args:Array Value} {ds gs:List (DataW H)} {before:List MemPlace} {tb:TypeId}
  (hl:laidOutB P=true) (hts:∀ t∈f.params.toList,P.readableRec t=true/\t < P.types.size) (hrt:f.resultTypes=#[tb]) (htb:P.underlying tb=some .bool)
  (hv:s.vars=[]) (hs:s.fn H (ds++gs)={ results:=[.lit (.bool true)],args:=ds++gs })
  (hW:DataW.Whole enc P f.params.toList s.vars false W args.toList ds gs before) (hfr:FrK W (fun _=>False) W'):s.post enc P f false true false false W args (.bool true) W':=by
 have hlt:=hW.lt;have hW':=hW;obtain ⟨p,q,hA,hV,rfl,_,_⟩:=hW;rw [hv] at hV;obtain ⟨rfl,rfl⟩:=trodVars_none hV;simp only [adg] at hs hlt hW';have hgs:(([]:List (DataW H))=[]):=rfl;refine ⟨ds,[],p,[],p,[],hW',?_,?_,?_,hfr.kept _,by simp⟩
 ·rw [adg,hs,hrt];exact trodAll_cons_mk (shut_bool htb _) trodAll_mk0
 ·rw [adg,hs];exact HF hl hfr.below hts hA hlt
 ·rw [adg,hs,hv];rfl
def CJ {w:World} {cs:List Value} {o s:Nat} {r rs:List C} (h:oU w ((cs.drop o).take s) r) (h':oU w (cs.drop (o+s)) rs):oU w (cs.drop o) (r++rs):=by
 have:=Pl h h'
 rwa [<-ae0,ad7] at this
def Uq {w:World} {cs:List Value} {o:Nat} (h:cs.length<=o):oU w (cs.drop o) []:=by
 rw [adN h]; exact UA
def Th {w:World} {v:Value} {c:C} (hc:v.cells=#[v]) (h:oU w v.cells.toList [c]):∃ d,rel w (fun _=>True) L0 dm false d [] c v:=by
 obtain ⟨_,d,h⟩:=h;obtain ⟨u,h1,h2⟩:=h 0 c rfl;rw [hc] at h1;simp only [acI,acB] at h1;subst h1;exact ⟨d,h2⟩
def Wq {w:World} {us:List Value}:∀ (i:Nat) (c:C),([]:List C)[i]?=some c->∃ u d,us[i]?=some u/\rel w (fun _=>True) L0 dm false d [] c u:=by simp
def OA {w:World} {c0:C} {u0:Value} {cs:List C} {us:List Value} (h:∃ d,rel w (fun _=>True) L0 dm false d [] c0 u0) (t:∀ (i:Nat) (c:C),cs[i]?=some c->∃ u d,us[i]?=some u/\rel w (fun _=>True) L0 dm false d [] c u) :
  ∀ (i:Nat) (c:C),(c0::cs)[i]?=some c->∃ u d,(u0::us)[i]?=some u/\rel w (fun _=>True) L0 dm false d [] c u:=by
 intro i c hc;cases i with
 | zero=>
  simp only [acI,acB] at hc;subst hc;obtain ⟨d,h⟩:=h;exact ⟨u0,d,rfl,h⟩
 | succ i=>exact t i c (by simpa using hc)
end Go.Abs
namespace Go.Abs
attribute [go_sem] St.move V9 XT WK C5 YA gv Yh YQ Xi
attribute [go_sem] Zf Xm Xg X3 yu zl H0 List.getElem?_toArray Option.bind_some Option.bind_none List.map_cons List.map_nil
attribute [go_sem] lj uQ KI I7 Mv Na unC Jp GF dF Ie kn
attribute [go_sem] FR qv MS qP CF Ui KK IY vq sn BE Ib
attribute [go_sem] qC D4 jZ sy rf o7 N4 mC St.fresh Ip KP jQ iE se
attribute [go_sem] C.oneC dO St.node C.at C.kid Bool.false_eq_true List.length_map List.getElem?_cons_zero List.getElem?_cons_succ List.drop_zero List.drop_succ_cons List.drop_nil
attribute [go_sem] List.take_succ_cons List.take_zero List.take_nil List.length_cons List.length_nil List.all_cons List.all_nil List.any_cons List.any_nil C.cellOk Value.oneCell' Bool.and_self
attribute [go_sem] Bool.and_true Bool.true_and Bool.or_false Bool.false_or km Mz decide_true decide_false Bool.not_true Bool.not_false Bool.not_not false_implies
attribute [go_sem] true_implies true_and and_true and_self C.turn List.modify_cons List.getElem?_map Option.map_some Option.map_none if_true if_false C.frz
attribute [go_sem] List.nil_append List.cons_append List.append_nil List.set_cons_zero List.set_cons_succ Int.ofNat_lt Int.natCast_nonneg Int.toNat_natCast Option.getD_some Option.getD_none Nat.zero_add Nat.add_zero
attribute [go_sem] Ey yX D6 ye Hb St.drop List.contains_cons List.contains_nil List.elem_cons List.elem_nil
attribute [go_sem] PL wB y9 rb vY adopt grown jA G8 tu E1 mq A7
attribute [go_sem] Ep Ce kd C8 oo k7 List.replicate Option.isNone_some Option.isSome_some ne_eq not_true_eq_false not_false_eq_true
attribute [go_sem] Nat.succ_ne_self List.map_append List.length_append AQ Ve U8 List.take_length List.isEmpty_cons iJ iN iL mB
attribute [go_sem] Xw R4 Je du undef VI Array.size_empty List.size_toArray kQ beq_self_eq_true Bool.and_false
attribute [go_sem] Bool.false_and Nat.lt_irrefl false_and and_false true_or or_true false_or or_false or_self Go.Abs.plainCell C.isOwn RU
attribute [go_sem] Qv Xt Xs fD Dt gj Pp zr yB pc SE.apply Qn QJ Int.toNat_zero
attribute [go_sem] WQ W9 vu bo List.flatMap_cons List.flatMap_nil jR wo im j8 List.mapIdx_cons
attribute [go_sem] List.mapIdx_nil
attribute [go_sem] Jv jB gL C.ment YL X4 bo List.flatMap_cons List.flatMap_nil jR wo im j8 List.mapIdx_cons List.mapIdx_nil List.singleton_append Nat.succ_eq_add_one XR Za AZ YK Ww
attribute [go_sem] Ry
attribute [go_sem] mkX Ps
attribute [go_sem] gA Ei tk Ext.all
attribute [go_sem] LO mw St.plug Bool.or_true Bool.true_or Nat.le_refl UZ
attribute [go_sem] KX GK FZ Tx
end Go.Abs
namespace Go.Abs
attribute [go_sem] List.length_set
section
variable {E:Env} {Q:Exit->St->Prop} {st:St} {K:List Fm}
instance {e:Exit}:Pop (ap E Q [] e st) (Q e st):=⟨Xk⟩
instance {J:St->Prop}:Pop (ap E Q (.lp J::K) .normal st) (J st):=⟨YP⟩
class IJ (A:Prop) (B:outParam Prop):Prop where
 h:B->A
instance (priority:=low) (A:Prop):IJ A A:=⟨id⟩
instance {A B D:Prop} [p:Pop A B] [q:IJ B D]:IJ A D:=⟨fun h=>p.pop (q.h h)⟩
theorem pp {A B:Prop} [p:IJ A B] (h:B):A:=p.h h
end
class qT (c:C):Prop where
 h:bB c
class Bn (l:List C):Prop where
 h:∀ c∈l,bB c
instance (v:Value):qT (.val v):=⟨bB.val v⟩
instance (l:List C) [Bn l]:qT (.tup l):=⟨bB.tup Bn.h⟩
instance (l:List C) [Bn l]:qT (.agg l):=⟨bB.agg Bn.h⟩
instance:Bn []:=⟨vQ⟩
instance (c:C) (l:List C) [qT c] [Bn l]:Bn (c::l):=⟨jg qT.h Bn.h⟩
class FE {α:Type} (row:α->List C):Prop where
 h:∀ x,∀ c∈row x,bB c
instance (k:IntKind):FE (ay k):=⟨UT k⟩
instance:FE dT:=⟨Wc⟩
class U2 (l:List (List C)):Prop where
 h:∀ row∈l,∀ c∈row,bB c
instance {α:Type} (row:α->List C) (l:List α) [h:FE row]:U2 (l.map row):=⟨U7 h.h l⟩
instance (nl:Option Bool) (es:Nat) (cap:Option Nat) (rows:List (List C)) [h:U2 rows]:qT (.sl true nl es cap rows):=⟨bB.sl h.h⟩
class yN {α:Type} (row:α->List C):Prop where
 ok:aF row
class NoI (c:C):Prop where
 h:bV c
class Ln (l:List C):Prop where
 h:∀ c∈l,bV c
class zV (l:List (List C)):Prop where
 h:∀ row∈l,∀ c∈row,bV c
instance (v:Value):NoI (.val v):=⟨bV.val v⟩
instance (nl:Option Bool) (es:Nat) (cap:Option Nat) (rows:List (List C)):NoI (.sl false nl es cap rows):=⟨bV.sl nl es cap rows⟩
instance:Ln []:=⟨D5⟩
instance (c:C) (l:List C) [NoI c] [Ln l]:Ln (c::l):=⟨CR NoI.h Ln.h⟩
instance:zV []:=⟨by simp⟩
instance (r:List C) (l:List (List C)) [Ln r] [zV l]:zV (r::l):=⟨fun row hr=>by
 rcases ac6.1 hr with rfl|hr
 ·exact Ln.h
 ·exact zV.h row hr⟩
instance (a b:List (List C)) [zV a] [zV b]:zV (a++b):=⟨fun row hr=>by
 rcases acZ.1 hr with hr|hr
 ·exact zV.h row hr
 ·exact zV.h row hr⟩
instance {α:Type} (row:α->List C) (l:List α) [h:yN row]:zV (l.map row):=⟨h.ok.noOwn l⟩
class LeI (a b:C):Prop where
 h:Le a b
class iV (a b:List C):Prop where
 h:LeL a b
class wH (a b:List (List C)):Prop where
 h:dw a b
instance (priority:=high) (a:C):LeI a a:=⟨Le.refl a⟩
instance:iV [] []:=⟨LeL.nil⟩
instance (a b:C) (as bs:List C) [LeI a b] [iV as bs]:iV (a::as) (b::bs):=⟨LeL.cons LeI.h iV.h⟩
instance (priority:=high) (a:List (List C)):wH a a:=⟨dw.refl a⟩
instance (a b:List C) (as bs:List (List C)) [iV a b] [wH as bs]:wH (a::as) (b::bs):=⟨dw.cons iV.h wH.h⟩
instance (as bs cs ds:List (List C)) [h:wH as cs] [h2:wH bs ds]:wH (as++bs) (cs++ds):=⟨h.h.append h2.h⟩
instance (o o':Bool) (nl:Option Bool) (es:Nat) (cap:Option Nat) (rows rows':List (List C)) [h:wH rows rows']:LeI (.sl o nl es cap rows) (.sl o' none es none rows'):=⟨Le.sl h.h⟩
instance (o:Bool) (es:Nat):LeI (.val (.slice none 0 0)) (.sl o none es none []):=⟨Le.nils⟩
class gT (a b:C):Prop where
 h:ROk a b
class PO (as bs:List C):Prop where
 len:bs.length=as.length
 h:∀ (i:Nat) (a b:C),as[i]?=some a->bs[i]?=some b->ROk a b
instance (priority:=high) (a:C):gT a a:=⟨ROk.refl a⟩
instance:PO [] []:=⟨rfl,Nf⟩
instance (a b:C) (as bs:List C) [h:gT a b] [t:PO as bs]:PO (a::as) (b::bs):=⟨by simp [t.len],Lh h.h t.h⟩
instance (as bs:List C) [h:PO as bs]:gT (.agg as) (.agg bs):=⟨ROk.agg h.len h.h⟩
instance (as bs:List C) [h:PO as bs]:gT (.tup as) (.tup bs):=⟨ROk.tup h.len h.h⟩
instance (es:Nat):gT (.val (.slice none 0 0)) (.sl true none es none []):=⟨ROk.nil es⟩
instance (es:Nat):gT (.val (.slice none 0 0)) (.sl false none es none []):=⟨ROk.of _ Le.nils (bV.sl _ _ _ _)⟩
instance (o:Bool) (nl:Option Bool) (es:Nat) (cap:Option Nat) (rows rows':List (List C)) [h:wH rows rows']:gT (.sl o nl es cap rows) (.sl false none es none rows'):=⟨ROk.of _ (Le.sl h.h) (bV.sl _ _ _ _)⟩
instance (nl:Option Bool) (es:Nat) (cap:Option Nat) (rows rows':List (List C)) [h:wH rows rows'] [n:zV rows']:gT (.sl true nl es cap rows) (.sl true none es none rows'):=⟨ROk.own h.h n.h⟩
def aw:List (Nat × Nat × FnS)->Nat->Nat->Option FnS
 | [],_,_=>none
 | (d0,f0,fs)::l,d,f=>if d=d0/\f=f0 then some fs else aw l d f
def Pt:List (Nat × Bool)->Nat->Option Bool
 | [],_=>none
 | (d0,b)::l,d=>if d=d0 then some b else Pt l d
def GL (P:Program) (L:List (Nat × Nat × FnS)):Prop:=∀ d f fs,aw L d f=some fs->aA P f fs
def gn {P:Program}:GL P []:=fun d f fs h=>by cases h
def gc {P:Program} (d0:Nat) {f0:Nat} {fs0:FnS} {L:List (Nat × Nat × FnS)} (h0:aA P f0 fs0) (h:GL P L):GL P ((d0,f0,fs0)::L):=by
 intro d f fs hf;simp only [aw] at hf;split at hf
 ·rename_i hc;obtain ⟨rfl,rfl⟩:=hc;cases hf;exact h0
 ·exact h d f fs hf
@[reducible] def EE (P:Program) (G:Nat->Nat->Option FnS) (F:List (Nat × Bool)) (L:Nat->Nat->Option FnL):Env:={ T:=eB P,G:=G,F:=Pt F,L:=L }
theorem aa0 (P:Program) (G:Nat->Nat->Option FnS) (F:List (Nat × Bool)) (L:Nat->Nat->Option FnL):(EE P G F L).T=eB P:=rfl
theorem abt (P:Program) (G:Nat->Nat->Option FnS) (F:List (Nat × Bool)) (L:Nat->Nat->Option FnL):(EE P G F L).G=G:=rfl
theorem abH (P:Program) (G:Nat->Nat->Option FnS) (F:List (Nat × Bool)) (L:Nat->Nat->Option FnL):(EE P G F L).F=Pt F:=rfl
theorem abo (P:Program) (G:Nat->Nat->Option FnS) (F:List (Nat × Bool)) (L:Nat->Nat->Option FnL):(EE P G F L).L=L:=rfl
def noL:Nat->Nat->Option FnL:=fun _ _=>none
theorem Zk (d f:Nat):noL d f=none:=rfl
def Bc:List (Nat × Nat × FnL)->Nat->Nat->Option FnL
 | [],_,_=>none
 | (d0,f0,fs)::l,d,f=>if d=d0/\f=f0 then some fs else Bc l d f
def LL (P:Program) (L:List (Nat × Nat × FnL)):Prop:=∀ d f fs,Bc L d f=some fs->wQ P f fs
def ln {P:Program}:LL P []:=fun d f fs h=>by cases h
def lc {P:Program} (d0:Nat) {f0:Nat} {fs0:FnL} {L:List (Nat × Nat × FnL)} (h0:wQ P f0 fs0) (h:LL P L):LL P ((d0,f0,fs0)::L):=by
 intro d f fs hf;simp only [Bc] at hf;split at hf
 ·rename_i hc;obtain ⟨rfl,rfl⟩:=hc;cases hf;exact h0
 ·exact h d f fs hf
def Cc:(Nat->C)->Nat->List C->Nat->C
 | f,_,[]=>f
 | f,k,c::cs=>Cc (af f k c) (k+1) cs
def NL:∀ (cs:List C) (f:Nat->C) (k t:Nat),Cc f k cs t=if k<=t/\t < k+cs.length then (cs[t - k]?).getD .dead else f t
 | [],f,k,t=>by simp [Cc]; omega
 | c::cs,f,k,t=>by
  rw [Cc,NL cs (af f k c) (k+1) t];simp only [acT,af];by_cases h1:t=k
  ·subst h1; rw [if_neg (by omega),if_pos rfl,if_pos (by omega)]; simp
  ·by_cases h2:k+1<=t/\t < k+1+cs.length
   ·rw [if_pos h2,if_pos (by omega),show t - k=(t - (k+1))+1 from by omega,ac8]
   ·rw [if_neg h2,if_neg h1,if_neg (by omega)]
def KA (cs:List C) (h:∀ t c,cs[t]?=some c->ja [] t c=c):gp [] cs=Cc au 0 cs:=by
 funext t
 rw [NL];unfold gp;cases hc:cs[t]? with
 | none=>
  have:cs.length<=t:=aeK.1 hc;rw [if_neg (by omega)]; rfl
 | some c=>
  have:=(acD.1 hc).1;rw [if_pos (by omega)];simp only [adn,h t c hc,adr,hc]
attribute [go_sem] Lj Pz Hl D9 Ej PF Uc Qg KT GB Jk B0 Hb yX D6 aw Pt Bc aa0 abt abH abo Zk Env.Gs Cc Ex zR JG dI Py Pr Bl Ax uE
def JM {P:Program} {f:FuncId} {fn:Func} {body:Code} (hf:P.funcs[f]?=some fn) (hb:fn.body=some body) (hname:(fn.name == "runtime.NumGoroutine") = false) (hok : jG body = true)
  {G:Nat->Nat->Option FnS} (hG:∀ d f fs,G d f=some fs->aA P f fs) (F:List (Nat × Bool)) (hmix:P.follows .mixedOrders=true) {pure:Bool} {cs:List C} {r:C} (hn:cs.length<=fn.ntmps)
  (hW:Wk (EE P G F noL) body (ap (EE P G F noL) (NM (EE P G F noL) fn.results.toList pure r) []) ⟨tab fn.ntmps (Cc au 0 cs),RZ⟩):Con P f [] pure cs r:=by
 refine SQ (E:=EE P G F noL) (fun t ti h=>yY P G t ti h) ⟨fun d f fs h=>hG d f fs h,fun _ _ _ h=>by cases h⟩ hmix ⟨hf,hb,hname,hok⟩ hn fun _=>?_;rw [vE hn,XK,KA cs (fun t c _=>by simp [ja])];exact Q5 hW
def SX {P:Program} {f:FuncId} {fn:Func} {body:Code} (hf:P.funcs[f]?=some fn) (hb:fn.body=some body) (hname:(fn.name == "runtime.NumGoroutine") = false) (hok : jG body = true)
  {G:Nat->Nat->Option FnS} (hG:∀ d f fs,G d f=some fs->aA P f fs) {L:Nat->Nat->Option FnL} (hL:∀ d f fl,L d f=some fl->wQ P f fl) (F:List (Nat × Bool)) (hmix:P.follows .mixedOrders=true) {pure:Bool} {cs:List C} {r:C} (hn:cs.length<=fn.ntmps)
  (hW:Wk (EE P G F L) body (ap (EE P G F L) (NM (EE P G F L) fn.results.toList pure r) []) ⟨tab fn.ntmps (Cc au 0 cs),RZ⟩):Con P f [] pure cs r:=by
 refine SQ (E:=EE P G F L) (fun t ti h=>yY P G t ti h) ⟨fun d f fs h=>hG d f fs h,fun d f fl h=>hL d f fl h⟩ hmix ⟨hf,hb,hname,hok⟩ hn fun _=>?_;rw [vE hn,XK,KA cs (fun t c _=>by simp [ja])];exact Q5 hW
def sw {A B D:Prop} (f:A->B->D) (b:B) (a:A):D:=f a b
def xn {R:Nat->C}:∀ k,RZ k=R k∨RZ k=.dead:=UY
def xc {R R':Nat->C} {d:Nat} {c:C} (h0:R d=c) (h:∀ k,R' k=R k∨R' k=.dead):∀ k,upd R' d c k=R k∨upd R' d c k=.dead:=Ts h0 h
def rn {n:Nat} {f R':Nat->C}:∀ t,t < n->au t=.dead∨(au t=f t/\(au t).ment (fun k _=>dO (R' k)) 3=false):=Vn
def rc {n:Nat} {f g R':Nat->C} {d:Nat} {c:C} (h0:f d=c) (hm:c.ment (fun k _=>dO (R' k)) 3=false)
  (h:∀ t,t < n->g t=.dead∨(g t=f t/\(g t).ment (fun k _=>dO (R' k)) 3=false)):∀ t,t < n->af g d c t=.dead∨(af g d c t=f t/\(af g d c t).ment (fun k _=>dO (R' k)) 3=false):=TM h0 hm h
end Go.Abs
namespace Go.Abs
section
variable {X:Ctx} {m:Nat->aq->Value} {st:St} {a:Act} {w:World} {P:Program}
def RE {w:World} {S S':Nat->Prop} {m:aq->Value} (hS:∀ b,S b->S' b) {nl:Option Bool} {es:Nat} {cap:Option Nat} {rows rows':List (List C)} (h:dw rows rows') (hn:∀ row∈rows',∀ c∈row,bV c) {d:Nat} {u:Value}
  (hO:∀ i j q b,ak (.sl true nl es cap rows) ((i,j)::q)->blk (m ((i,j)::q))=some b->S' b)
  (hr:rel w S L0 m true d [] (.sl true nl es cap rows) u):rel w S' L0 m true (d+1) [] (.sl true nl es cap rows') u:=by
 cases d with
 | zero=>exact hr.elim
 | succ d=>
  obtain ⟨a,k,h1,h2,h3,h4,hz,h5,h6,h7⟩:=hr;refine ⟨a,k,by rw [h.len]; exact h1,by rw [h.len]; exact h2,h3,h4,hz,?_,fun _=>h6 rfl,?_⟩
  ·intro row' hrow;obtain ⟨i,hi,e⟩:=afC hrow;have hlt:i < rows.length:=by rw [<-h.len]; exact hi
   have:=h.get i rows[i] row' (by simp [hlt]) (by simp [hi,e]);rw [this.len];exact h5 _ (adF hlt)
  ·rcases h7 with h7|h7|⟨b,off,arr,elem,frz,g1,g2,g3,g4,g5⟩
   ·exact .inl h7
   ·simp at h7
   ·refine .inr (.inr ⟨b,off,arr,elem,frz,g1,g2,fun h=>by simp at h,g4,?_⟩);intro i j row' c' e1 e2;have hlt:i < rows.length:=by rw [<-h.len]; exact (acD.1 e1).1
    have hrow:rows[i]?=some rows[i]:=by simp [hlt]
    have hle:=h.get i rows[i] row' hrow e1;have hltj:j < rows[i].length:=by rw [<-hle.len]; exact (acD.1 e2).1
    have hc:rows[i][j]?=some rows[i][j]:=by simp [hltj]
    obtain ⟨u',e3,e4⟩:=g5 i j _ _ hrow hc;have hnc:=hn row' (acE e1) c' (acE e2);refine ⟨u',e3,aT d (d+1) (aeL _) (Ec d hnc (hle.get j _ c' hc e2 _ _ _ m _ [] d u' (qR (S:=S) (S':=S') (m:=m) (m':=m) (p:=[]++[(i,j)]) (p':=[]) hS d ?_ e4)))⟩;intro _ q b' hq hb;refine hO i j q b' ?_ (by simpa using hb);simp only [ak,C.at,C.kid,hrow,acC,hc]; exact hq
def oc {nl:Option Bool} {es:Nat} {cap:Option Nat} {rows:List (List C)} (hn:∀ row∈rows,∀ c∈row,bV c) {q:aq} (h:ak (.sl true nl es cap rows) q):q=[]:=by
 cases q with
 | nil=>rfl
 | cons s q=>
  exfalso;simp only [ak,C.at,C.kid] at h;cases hr:rows[s.1]? with
  | none=>simp [hr] at h
  | some row=>
   simp only [hr,acC] at h;cases hc:row[s.2]? with
   | none=>simp [hc] at h
   | some c=>
    simp only [hc,acC] at h;exact hn row (acE hr) c (acE hc) q h
def w7 (n:Nat):Nat->aq->Bool:=fun k p=>k == n && !p.isEmpty
def ar.tell (H:ar X m st a w) {n:Nat} {nl:Option Bool} {es:Nat} {cap:Option Nat} {rows rows':List (List C)} (hR:st.roots n=.sl true nl es cap rows) (hle:dw rows rows') (hn:∀ row∈rows',∀ c∈row,bV c) :
  ar X m { tmps:=st.tmps.map (poi (w7 n)),roots:=upd st.roots n (.sl true nl es cap rows') } a w:=by
 have hown:∀ k p,ak (upd st.roots n (.sl true nl es cap rows') k) p->ak (st.roots k) p/\(k=n->p=[]):=by
  intro k p ho;by_cases e:k=n
  ·subst e;rw [aC] at ho;have hp:=oc hn ho;subst hp;refine ⟨?_,fun _=>rfl⟩;rw [hR]; rfl
  ·rw [aO e] at ho;exact ⟨ho,fun h=>absurd h e⟩
 have hS:∀ b,X.S st.roots m b->X.S (upd st.roots n (.sl true nl es cap rows')) m b:=by
  rintro b ⟨h1,h2⟩;refine ⟨h1,?_⟩;rintro ⟨k,p,ho,hb⟩;exact h2 ⟨k,p,(hown k p ho).1,hb⟩
 have hL:∀ v u,(∀ k p,v.place=some (k,p)->k=n->p=[])->Lv st.roots m v u->Lv (upd st.roots n (.sl true nl es cap rows')) m v u:=by
  intro v u hp hl;cases v with
  | pref k p i j=>
   obtain ⟨nl',es',cap',rows0,b,off,kk,g1,g2,g3⟩:=hl;by_cases e:k=n
   ·subst e;have:p=[]:=hp k p rfl rfl;subst this;rw [hR] at g1;simp only [C.at,acB,C.sl.injEq,true_and] at g1;obtain ⟨rfl,rfl,rfl,rfl⟩:=g1;exact ⟨nl,es,cap,rows',b,off,kk,by rw [aC]; rfl,by rw [hle.len]; exact g2,g3⟩
   ·exact ⟨nl',es',cap',rows0,b,off,kk,by rw [aO e]; exact g1,g2,g3⟩
  | pal k p lo len c=>
   obtain ⟨nl',es',cap',rows0,a0,kk,a',k',g1,g2,g3,g4⟩:=hl;by_cases e:k=n
   ·subst e;have:p=[]:=hp k p rfl rfl;subst this;rw [hR] at g1;simp only [C.at,acB,C.sl.injEq,true_and] at g1;obtain ⟨rfl,rfl,rfl,rfl⟩:=g1;exact ⟨nl,es,cap,rows',a0,kk,a',k',by rw [aC]; rfl,by rw [hle.len]; exact g2,by rw [hle.len]; exact g3,g4⟩
   ·exact ⟨nl',es',cap',rows0,a0,kk,a',k',by rw [aO e]; exact g1,g2,g3,g4⟩
  | _=>exact hl
 refine ⟨by simp [H.len],?_,?_,?_,?_,H.fr,H.df⟩
 ·intro t c hc;simp only [acK,acF] at hc;obtain ⟨c0,h0,rfl⟩:=hc;obtain ⟨u,d,h1,h2⟩:=H.tmp t c0 h0;rcases jW (w7 n) c0 with e|⟨e,hm⟩
  ·rw [e]; exact ⟨u,1,h1,trivial⟩
  ·rw [e];refine ⟨u,d,h1,av (fun b _ hb=>⟨hS b hb,rfl⟩) d (fun v uv ho hl=>?_) (fun h=>by simp at h) (fun h=>by simp at h) h2⟩;refine hL v uv ?_ hl;intro k p hpl hk;obtain ⟨k',p',e1,e2⟩:=iC d 3 c0 v hm ho;rw [hpl] at e1;simp only [acB,acY] at e1;obtain ⟨rfl,rfl⟩:=e1;subst hk;simpa [w7] using e2
 ·intro k;obtain ⟨u,d,hr⟩:=H.root k;by_cases e:k=n
  ·subst e;rw [hR] at hr;refine ⟨u,d+1,?_⟩;show rel w _ L0 (m k) true (d+1) [] (upd st.roots k (.sl true nl es cap rows') k) u;rw [aC];refine RE hS hle hn (fun i j q b ho hb=>?_) hr;have ho':ak (st.roots k) ((i,j)::q):=by rw [hR]; exact ho
   refine ⟨(H.own _ _ b ho' hb).elim .inr (fun h=>.inl (X.kS b h)),?_⟩;rintro ⟨k',p',ho2,hb2⟩;obtain ⟨ho3,hp⟩:=hown k' p' ho2;obtain ⟨e1,e2⟩:=H.inj _ _ _ _ b ho3 ho' hb2 hb;rw [hp e1] at e2;cases e2
  ·refine ⟨u,d,?_⟩;show rel w _ L0 (m k) true d [] (upd st.roots n (.sl true nl es cap rows') k) u;rw [aO e];exact av (fun b _ hb=>⟨hS b hb,rfl⟩) d (fun _ _ _ h=>h) (fun _ _ _ _ _ _=>rfl) (fun _ _ _=>rfl) hr
 ·intro k p k' p' b h1 h2;exact H.inj k p k' p' b (hown k p h1).1 (hown k' p' h2).1
 ·intro k p b h1;exact H.own k p b (hown k p h1).1
end
def Fk {α:Type} {row:α->List C} {l:List α} {i:Nat} {x:α} {rx ry:List C} {g:List C->List C} (hx:l[i]?=some x) (e1:row x=rx) (h:g rx=ry):(l.map row).modify i g=(l.map row).set i ry:=by
 apply adU;intro j;rw [adT,adj];by_cases e:i=j
 ·subst e;have hlt:=(acD.1 hx).1;have hxi:l[i]=x:=by rw [acH hlt] at hx; exact adp hx
  simp [hlt,hxi,e1,h]
 ·simp [e]
def yO {α:Type} {row:α->List C} {l:List α} {i:Nat} {x:α} (ry:List C) (hx:l[i]?=some x):((l.map row).set i ry)[i]?=some ry:=by
 have hlt:=(acD.1 hx).1;simp [hlt]
def yF {α:Type} {row:α->List C} {l:List α} {i:Nat} {x:α} {ry rz:List C} {g:List C->List C} (hx:l[i]?=some x) (h:g ry=rz):((l.map row).set i ry).modify i g=(l.map row).set i rz:=by
 apply adU;intro j;have hlt:=(acD.1 hx).1;rw [adT,adj,adj];by_cases e:i=j
 ·subst e; simp [hlt,h]
 ·simp [e]
instance over_le {α:Type} (row:α->List C) (l:List α) (i:Nat) (ry:List C) (y:α) [h:iV ry (row y)]:wH ((l.map row).set i ry) ((l.set i y).map row):=⟨by
 refine ⟨by simp,?_⟩;intro j r r' h1 h2;rw [adj] at h1;simp only [acK,adj] at h2;by_cases e:i=j
 ·subst e;by_cases hl:i < l.length
  ·simp only [acL,hl,if_true,acB,acS] at h1 h2;subst h1; subst h2; exact h.h
  ·simp [hl] at h1
 ·simp only [e,if_false,acK] at h1 h2;rw [h1] at h2;cases h2;exact LeL.refl _⟩
instance over_no {α:Type} (row:α->List C) [h:yN row] (l:List α) (i:Nat) (rc:List C) [n:Ln rc]:zV ((l.map row).set i rc):=⟨fun r hr=>by
 rcases afT hr with hr|rfl
 ·exact h.ok.noOwn l r hr
 ·exact n.h⟩
class qW (a b:C):Prop where
 h:∀ q,ak a q->ak b q
class MX (as bs:List C):Prop where
 h:∀ (i:Nat) (a:C) (q:aq),as[i]?=some a->ak a q->∃ b,bs[i]?=some b/\ak b q
instance (priority:=high) (a:C):qW a a:=⟨fun _ h=>h⟩
instance (bs:List C):MX [] bs:=⟨by simp⟩
instance (a b:C) (as bs:List C) [h:qW a b] [t:MX as bs]:MX (a::as) (b::bs):=⟨fun i c q e ho=>by
 cases i with
 | zero=>simp only [acI,acB] at e; subst e; exact ⟨b,rfl,h.h q ho⟩
 | succ i=>simpa using t.h i c q (by simpa using e) ho⟩
theorem XS {as bs:List C} (t:MX as bs) {s:Nat × Nat} {q:aq} (h:Option.map C.isOwn ((if s.1=0 then as[s.2]? else none).bind (·.at q))=some true):Option.map C.isOwn ((if s.1=0 then bs[s.2]? else none).bind (·.at q))=some true:=by
 split at h
 ·rename_i e;rw [if_pos e];cases ha:as[s.2]? with
  | none=>rw [ha] at h; simp at h
  | some a=>
   rw [ha] at h;obtain ⟨b,hb,ho⟩:=t.h s.2 a q ha h;rw [hb]; exact ho
 ·simp at h
instance (as bs:List C) [t:MX as bs]:qW (.tup as) (.tup bs):=⟨fun q h=>by
 cases q with
 | nil=>simp [ak,C.at,C.isOwn] at h
 | cons s q=>exact XS t h⟩
instance (nl nl':Option Bool) (es es':Nat) (cap cap':Option Nat) (rows rows':List (List C)) [n:zV rows]:qW (.sl true nl es cap rows) (.sl true nl' es' cap' rows'):=⟨fun q h=>by
 rw [oc n.h h]; rfl⟩
class Nb (a:C) (b:outParam C):Prop where
 le:Le a b
 no:bV b
class Ea (a:List C) (b:outParam (List C)):Prop where
 le:LeL a b
 no:∀ c∈b,bV c
class M6 (a:List (List C)) (b:outParam (List (List C))):Prop where
 le:dw a b
 no:∀ row∈b,∀ c∈row,bV c
instance (priority:=low) (a:C) [NoI a]:Nb a a:=⟨Le.refl a,NoI.h⟩
instance (nl:Option Bool) (es:Nat) (cap:Option Nat) (rows:List (List C)):Nb (.sl true nl es cap rows) (.sl false none es none rows):=⟨Le.sl (dw.refl rows),bV.sl _ _ _ _⟩
instance:Ea [] []:=⟨LeL.nil,D5⟩
instance (a b:C) (as bs:List C) [Nb a b] [Ea as bs]:Ea (a::as) (b::bs):=⟨LeL.cons Nb.le Ea.le,CR (Nb.no a) (Ea.no as)⟩
instance:M6 [] []:=⟨dw.nil,by simp⟩
instance (a b:List C) (as bs:List (List C)) [Ea a b] [h:M6 as bs]:M6 (a::as) (b::bs):=⟨dw.cons Ea.le M6.le,fun row hr=>by
 rcases ac6.1 hr with rfl|hr
 ·exact Ea.no a
 ·exact h.no row hr⟩
theorem je (g:Nat->aq->Bool) (f:Nat->C) (d:Nat) (c:C):uN g (af f d c)=af (uN g f) d (poi g c):=by
 funext t
 simp only [uN,af];split<;>rfl
theorem gZ (g:Nat->aq->Bool):uN g au=au:=rfl
def PE {k n:Nat} {f f':Nat->C} {R:Nat->C} {nl:Option Bool} {es:Nat} {cap:Option Nat} {rows rows':List (List C)} (hR:R n=.sl true nl es cap rows) (hf:uN (w7 n) f=f') [h:M6 rows rows'] :
  aX ⟨tab k f,R⟩ ⟨tab k f',upd R n (.sl true nl es cap rows')⟩:=by
 subst hf;rintro X a w ⟨m,H⟩;exact ⟨m,by simpa [C5] using H.tell hR h.le h.no⟩
def vR {k n:Nat} {f f':Nat->C} {R:Nat->C} {nl:Option Bool} {es:Nat} {cap:Option Nat} {rows rows':List (List C)} (told:List (List C)) (ht:told=rows') (hR:R n=.sl true nl es cap rows) (hf:uN (w7 n) f=f') [hle:wH rows rows'] [hn:zV rows'] :
  aX ⟨tab k f,R⟩ ⟨tab k f',upd R n (.sl true nl es cap rows')⟩:=by
 subst hf;rintro X a w ⟨m,H⟩;exact ⟨m,by simpa [C5] using H.tell hR hle.h hn.h⟩
attribute [go_sem] w7 List.isEmpty_nil
class NT {α:Type} (f g:α->List C):Prop where
 h:∀ x,LeL (f x) (g x)
instance leRF_map {α:Type} (f g:α->List C) (l:List α) [h:NT f g]:wH (l.map f) (l.map g):=⟨dw.map h.h l⟩
theorem WJ {α:Type} (f g:α->List C) (l:List α) (i:Nat) (ry:List C) (y:α) [hF:NT f g] [h:iV ry (g y)]:wH ((l.map f).set i ry) ((l.set i y).map g):=⟨by
 refine ⟨by simp,?_⟩;intro j r r' h1 h2;rw [adj] at h1;simp only [acK,adj] at h2;by_cases e:i=j
 ·subst e;by_cases hl:i < l.length
  ·simp only [acL,hl,if_true,acB,acS] at h1 h2;subst h1; subst h2; exact h.h
  ·simp [hl] at h1
 ·simp only [e,if_false,acK] at h1 h2;cases hx:l[j]? with
  | none=>rw [hx] at h1; cases h1
  | some x=>
   rw [hx] at h1 h2;cases h1; cases h2;exact hF.h x⟩
instance over_leF' {α:Type} (f g:α->List C) (l:List α) (i:Nat) (ry:List C) (y:α) [hF:NT f g] [h:iV ry (g y)]:wH ((l.map f).set i ry) ((l.set i y).map g):=WJ f g l i ry y
def mxR {α:Type} (f g:α->List C) (i:Nat) (l:List α):List (List C):=(l.take i).map f++(l.drop i).map g
section
variable {α:Type} {f g:α->List C} {i:Nat} {l:List α}
def eK:(mxR f g i l).length=l.length:=by simp [mxR]; omega
def Yy (h:l.length<=i):mxR f g i l=l.map f:=by simp [mxR,ac3 h,adN h]
def Ow {x:α} (hx:l[i]?=some x):mxR f g i l=(l.take i).map f++g x::(l.drop (i+1)).map g:=by
 have hlt:=(acD.1 hx).1;have hxi:=(acD.1 hx).2;unfold mxR;rw [adQ hlt,adP,hxi]
def L7 {x:α} (hx:l[i]?=some x):((l.take i).map f).length=i:=by
 have hlt:=(acD.1 hx).1;simp; omega
theorem Nm {x:α} (hx:l[i]?=some x):(mxR f g i l)[i]?=some (g x):=by
 rw [Ow hx,acP (by rw [L7 hx]; exact acU _),L7 hx,aeE]; rfl
def UR {x:α} {rx ry:List C} {k:List C->List C} (hx:l[i]?=some x) (e1:g x=rx) (h:k rx=ry):(mxR f g i l).modify i k=(mxR f g i l).set i ry:=by
 apply adU;intro j;have hlt:i < (mxR f g i l).length:=by rw [eK]; exact (acD.1 hx).1
 rw [adT,adj];by_cases e:i=j
 ·subst e; rw [Nm hx]; simp [hlt,e1,h]
 ·simp [e]
theorem K5 {x:α} (hx:l[i]?=some x) (y:α):(mxR f g i l).set i (f y)=mxR f g (i+1) (l.set i y):=by
 have hlt:=(acD.1 hx).1;rw [Ow hx,af8 _ _ (by rw [L7 hx]; exact acU _),L7 hx,aeE,ago];unfold mxR;have e1:(l.set i y).take (i+1)=l.take i++[y]:=by
  rw [aeo,adj];simp only [if_true,hlt,aeI];rw [agj (acU i)]
 have e2:(l.set i y).drop (i+1)=l.drop (i+1):=by
  rw [List.drop_set]; simp
 rw [e1,e2,ac2,adv];rfl
def Vp (y:α):(l.map f).set i (f y)=(l.set i y).map f:=by rw [afe]
end
def Nn {α β:Type} (l:List α) (i:Nat) (k:Option β):Option β:=if l.length<=i then k else none
def Oa {α β:Type} {l:List α} {i:Nat} {k:Option β} {r:β} (h:Nn l i k=some r):l.length<=i/\k=some r:=by
 unfold Nn at h;split at h
 ·rename_i hl; exact ⟨hl,h⟩
 ·cases h
def XZ {α β:Type} {l:List α} {i:Nat} {k:Option β} (h:l.length<=i):Nn l i k=k:=if_pos h
def Ol {k n:Nat} {f f':Nat->C} {R:Nat->C} {nl:Option Bool} {es:Nat} {cap:Option Nat} {rows rows':List (List C)} (hR:R n=.sl true nl es cap rows) (he:rows=rows') (hf:uN (w7 n) f=f') :
  aX ⟨tab k f,R⟩ ⟨tab k f',upd R n (.sl true nl es cap rows')⟩:=by
 subst he hf;have hu:upd R n (.sl true nl es cap rows)=R:=by
  funext t; unfold upd; split
  ·rename_i e; rw [e,hR]
  ·rfl
 rw [hu];rintro X a w ⟨m,H⟩;refine ⟨m,⟨by rw [H.len]; simp [mS],?_,H.root,H.inj,H.own,H.fr,H.df⟩⟩;intro t c hc;rw [gv] at hc;split at hc
 case isFalse=>simp at hc
 rename_i hlt;simp only [acB] at hc;subst hc;obtain ⟨u,d,h1,h2⟩:=H.tmp t (f t) (by simp only [gv,hlt,if_true]);rcases jW (w7 n) (f t) with e|⟨e,_⟩
 ·exact ⟨u,1,h1,by simp only [uN]; rw [e]; trivial⟩
 ·exact ⟨u,d,h1,by simp only [uN]; rw [e]; exact h2⟩
def UB {α:Type} {row:α->List C} {k n:Nat} {f f':Nat->C} {R:Nat->C} {nl:Option Bool} {es:Nat} {cap:Option Nat} {l:List α} {i:Nat} {rc:List C} (y:α) (hR:R n=.sl true nl es cap ((l.map row).set i rc)) (hz:row y=rc) (hf:uN (w7 n) f=f') :
  aX ⟨tab k f,R⟩ ⟨tab k f',upd R n (.sl true nl es cap ((l.set i y).map row))⟩:=Ol hR (by rw [<-hz,Vp]) hf
def TY {α:Type} {f0 g0:α->List C} {k n:Nat} {f f':Nat->C} {R:Nat->C} {nl:Option Bool} {es:Nat} {cap:Option Nat} {l:List α} {i:Nat} {x:α} {rc:List C} (y:α) (hx:l[i]?=some x) (hR:R n=.sl true nl es cap ((mxR f0 g0 i l).set i rc)) (hz:f0 y=rc) (hf:uN (w7 n) f=f') :
  aX ⟨tab k f,R⟩ ⟨tab k f',upd R n (.sl true nl es cap (mxR f0 g0 (i+1) (l.set i y)))⟩:=Ol hR (by rw [<-hz,K5 hx]) hf
def fn1 {A0:Type} (d0:C->Option A0) (f:A0->Option C):List C->Option C
 | [c0]=>(d0 c0).bind fun q0=>f q0
 | _=>none
def ok1 {P:Program} {k:FuncId} {pure:Bool} {A0:Type} {d0:C->Option A0} {f:A0->Option C} {t0:A0->C} (h:∀ q0 r,f q0=some r->Con P k [] pure [t0 q0] r) (l0:∀ {c x},d0 c=some x->Le c (t0 x)):aA P k ⟨[],pure,fn1 d0 f,false⟩:=by
 refine ⟨fun cs r hr=>?_,fun h=>by cases h⟩;simp only [fn1] at hr;split at hr
 ·simp only [acG] at hr;obtain ⟨q0,h0,hr⟩:=hr;exact (h q0 r hr).args (LeL.cons (l0 h0) (LeL.nil))
 ·cases hr
def fn2 {A0 A1:Type} (d0:C->Option A0) (d1:C->Option A1) (f:A0->A1->Option C):List C->Option C
 | [c0,c1]=>(d0 c0).bind fun q0=>(d1 c1).bind fun q1=>f q0 q1
 | _=>none
def ok2 {P:Program} {k:FuncId} {pure:Bool} {A0 A1:Type} {d0:C->Option A0} {d1:C->Option A1} {f:A0->A1->Option C} {t0:A0->C} {t1:A1->C} (h:∀ q0 q1 r,f q0 q1=some r->Con P k [] pure [t0 q0,t1 q1] r) (l0:∀ {c x},d0 c=some x->Le c (t0 x)) (l1:∀ {c x},d1 c=some x->Le c (t1 x)):aA P k ⟨[],pure,fn2 d0 d1 f,false⟩:=by
 refine ⟨fun cs r hr=>?_,fun h=>by cases h⟩;simp only [fn2] at hr;split at hr
 ·simp only [acG] at hr;obtain ⟨q0,h0,q1,h1,hr⟩:=hr;exact (h q0 q1 r hr).args (LeL.cons (l0 h0) (LeL.cons (l1 h1) (LeL.nil)))
 ·cases hr
def fn3 {A0 A1 A2:Type} (d0:C->Option A0) (d1:C->Option A1) (d2:C->Option A2) (f:A0->A1->A2->Option C):List C->Option C
 | [c0,c1,c2]=>(d0 c0).bind fun q0=>(d1 c1).bind fun q1=>(d2 c2).bind fun q2=>f q0 q1 q2
 | _=>none
def ok3 {P:Program} {k:FuncId} {pure:Bool} {A0 A1 A2:Type} {d0:C->Option A0} {d1:C->Option A1} {d2:C->Option A2} {f:A0->A1->A2->Option C} {t0:A0->C} {t1:A1->C} {t2:A2->C} (h:∀ q0 q1 q2 r,f q0 q1 q2=some r->Con P k [] pure [t0 q0,t1 q1,t2 q2] r) (l0:∀ {c x},d0 c=some x->Le c (t0 x)) (l1:∀ {c x},d1 c=some x->Le c (t1 x)) (l2:∀ {c x},d2 c=some x->Le c (t2 x)):aA P k ⟨[],pure,fn3 d0 d1 d2 f,false⟩:=by
 refine ⟨fun cs r hr=>?_,fun h=>by cases h⟩;simp only [fn3] at hr;split at hr
 ·simp only [acG] at hr;obtain ⟨q0,h0,q1,h1,q2,h2,hr⟩:=hr;exact (h q0 q1 q2 r hr).args (LeL.cons (l0 h0) (LeL.cons (l1 h1) (LeL.cons (l2 h2) (LeL.nil))))
 ·cases hr
def fn4 {A0 A1 A2 A3:Type} (d0:C->Option A0) (d1:C->Option A1) (d2:C->Option A2) (d3:C->Option A3) (f:A0->A1->A2->A3->Option C):List C->Option C
 | [c0,c1,c2,c3]=>(d0 c0).bind fun q0=>(d1 c1).bind fun q1=>(d2 c2).bind fun q2=>(d3 c3).bind fun q3=>f q0 q1 q2 q3
 | _=>none
def ok4 {P:Program} {k:FuncId} {pure:Bool} {A0 A1 A2 A3:Type} {d0:C->Option A0} {d1:C->Option A1} {d2:C->Option A2} {d3:C->Option A3} {f:A0->A1->A2->A3->Option C} {t0:A0->C} {t1:A1->C} {t2:A2->C} {t3:A3->C} (h:∀ q0 q1 q2 q3 r,f q0 q1 q2 q3=some r->Con P k [] pure [t0 q0,t1 q1,t2 q2,t3 q3] r) (l0:∀ {c x},d0 c=some x->Le c (t0 x)) (l1:∀ {c x},d1 c=some x->Le c (t1 x)) (l2:∀ {c x},d2 c=some x->Le c (t2 x)) (l3:∀ {c x},d3 c=some x->Le c (t3 x)):aA P k ⟨[],pure,fn4 d0 d1 d2 d3 f,false⟩:=by
 refine ⟨fun cs r hr=>?_,fun h=>by cases h⟩;simp only [fn4] at hr;split at hr
 ·simp only [acG] at hr;obtain ⟨q0,h0,q1,h1,q2,h2,q3,h3,hr⟩:=hr;exact (h q0 q1 q2 q3 r hr).args (LeL.cons (l0 h0) (LeL.cons (l1 h1) (LeL.cons (l2 h2) (LeL.cons (l3 h3) (LeL.nil)))))
 ·cases hr
def fn6 {A0 A1 A2 A3 A4 A5:Type} (d0:C->Option A0) (d1:C->Option A1) (d2:C->Option A2) (d3:C->Option A3) (d4:C->Option A4) (d5:C->Option A5) (f:A0->A1->A2->A3->A4->A5->Option C):List C->Option C
 | [c0,c1,c2,c3,c4,c5]=>(d0 c0).bind fun q0=>(d1 c1).bind fun q1=>(d2 c2).bind fun q2=>(d3 c3).bind fun q3=>(d4 c4).bind fun q4=>(d5 c5).bind fun q5=>f q0 q1 q2 q3 q4 q5
 | _=>none
def ok6 {P:Program} {k:FuncId} {pure:Bool} {A0 A1 A2 A3 A4 A5:Type} {d0:C->Option A0} {d1:C->Option A1} {d2:C->Option A2} {d3:C->Option A3} {d4:C->Option A4} {d5:C->Option A5} {f:A0->A1->A2->A3->A4->A5->Option C} {t0:A0->C} {t1:A1->C} {t2:A2->C} {t3:A3->C} {t4:A4->C} {t5:A5->C} (h:∀ q0 q1 q2 q3 q4 q5 r,f q0 q1 q2 q3 q4 q5=some r->Con P k [] pure [t0 q0,t1 q1,t2 q2,t3 q3,t4 q4,t5 q5] r) (l0:∀ {c x},d0 c=some x->Le c (t0 x)) (l1:∀ {c x},d1 c=some x->Le c (t1 x)) (l2:∀ {c x},d2 c=some x->Le c (t2 x)) (l3:∀ {c x},d3 c=some x->Le c (t3 x)) (l4:∀ {c x},d4 c=some x->Le c (t4 x)) (l5:∀ {c x},d5 c=some x->Le c (t5 x)):aA P k ⟨[],pure,fn6 d0 d1 d2 d3 d4 d5 f,false⟩:=by
 refine ⟨fun cs r hr=>?_,fun h=>by cases h⟩;simp only [fn6] at hr;split at hr
 ·simp only [acG] at hr;obtain ⟨q0,h0,q1,h1,q2,h2,q3,h3,q4,h4,q5,h5,hr⟩:=hr;exact (h q0 q1 q2 q3 q4 q5 r hr).args (LeL.cons (l0 h0) (LeL.cons (l1 h1) (LeL.cons (l2 h2) (LeL.cons (l3 h3) (LeL.cons (l4 h4) (LeL.cons (l5 h5) (LeL.nil)))))))
 ·cases hr
attribute [go_sem] fn1 fn2 fn3 fn4 fn6
end Go.Abs
namespace Go.Abs
def GM (n:Nat):C->C
 | .sl true _ _ (some 1) [_]=>.pref n [] 0 0
 | .sl true none _ none rows=>.pal n [] 0 rows.length none
 | _=>.dead
def zX:List Nat->List C->List C
 | n::ns,c::cs=>GM n c::zX ns cs
 | _,cs=>cs
def Xc (E:Env) (vs:List ResultVar) (k:Nat) (r:C) (ls:List C):Exit->St->Prop:=fun e s=>(e=.ret∨e=.normal)/\∃ s',aX s s'/\∃ cs rs,wK E s' vs=some cs/\fa cs=some rs/\Le (mT rs) r ∧
 ∀ (i:Nat) (c:C),ls[i]?=some c->s'.tmps[i]?=some (GM i c)/\s'.roots i=c
section
variable {X:Ctx} {m:Nat->aq->Value} {st:St} {a:Act} {w:World} {P:Program}
def V0 {k:Nat} {cs:List C} {us:List Value} {S:Nat->Prop} {n:Nat} (hl:us.length=cs.length) (hn:cs.length<=n) (hone:∀ (i:Nat) (c:C),cs[i]?=some c->i < k->∃ x,dI c=some x)
  (hp:∀ (i:Nat) (c:C),cs[i]?=some c->k<=i->∃ u d,us[i]?=some u/\rel w (fun b=>S b/\¬ aH (Rl k cs) m b) L0 dm false d [] c u)
  (hr:∀ (i:Nat) (c:C),cs[i]?=some c->i < k->∃ u d,us[i]?=some u/\Hd c u (m i [])/\rel w (fun b=>S b/\¬ aH (Rl k cs) m b) L0 (m i) true d [] c (m i []))
  (hinj:Inj (Rl k cs) m) (f:Nat->C) (hf:∀ t,f t=if t < k/\t < cs.length then GM t ((cs[t]?).getD .dead) else (cs[t]?).getD .dead) :
  ar (Bd w S (aH (Rl k cs) m)) m ⟨tab n f,Rl k cs⟩ { tmps:=us.toArray++Array.replicate (n - us.toArray.size) undef,defers:=[] } w:=by
 have hS:∀ b,b < w.heap.size->(S b/\¬ aH (Rl k cs) m b)->Ctx.S (Bd w S (aH (Rl k cs) m)) (Rl k cs) m b/\w.heap[b]?=w.heap[b]?:=fun b _ hb=>⟨⟨.inl (.inl hb.1),hb.2⟩,rfl⟩;refine ⟨?_,?_,?_,hinj,?_,⟨rfl,rfl,rfl,acU _,acU _,fun _ _ _=>rfl⟩,rfl⟩
 ·simp only [mS,aeY,adV,agf]; omega
 ·intro t c ht;rw [gv] at ht;split at ht
  case isFalse=>cases ht
  rename_i htn;simp only [acB] at ht;subst ht;rw [hf];by_cases hlt:t < cs.length
  ·have hc:cs[t]?=some cs[t]:=acH hlt;have hu:∀ u,us[t]?=some u->(us.toArray++Array.replicate (n - us.toArray.size) undef)[t]?=some u:=by
    intro u e1;rw [adI (by simp; omega)]; simpa using e1
   by_cases hk:t < k
   ·rw [if_pos ⟨hk,hlt⟩];obtain ⟨u,d,e1,e2,e3⟩:=hr t _ hc hk;obtain ⟨⟨es,x⟩,g2⟩:=hone t _ hc hk;simp only [Hd,g2] at e2;obtain ⟨nl,cap,rows,g3,g4⟩:=wY g2;rcases g4 with ⟨rfl,rfl,row,rfl⟩|⟨rfl,rfl,rfl⟩
    ·obtain ⟨b,off,rfl,e4⟩:=e2;refine ⟨_,1,hu _ e1,?_⟩;rw [hc,adr,g3];refine ⟨nl,es,some 1,[row],b,off,1,?_,e4,by simp⟩;simp [C.at,Rl,hk,hc,g3]
    ·rw [g3] at e3;obtain ⟨a1,k1,D,q1,q2,q3,q4,q5,q6,q7,q8⟩:=eh e3;refine ⟨u,1,hu _ e1,?_⟩;rw [hc,adr,g3];have hat:(Rl k cs t).at []=some (.sl true none es none rows):=by simp [C.at,Rl,hk,hc,g3]
     rcases e2 with e2|⟨a,a',e2,e4⟩
     ·refine ⟨none,es,none,rows,a1,k1,a1,k1,hat,q2,by omega,by rw [e2,q2],q3,by omega,(fun c h=>by cases h),fun _=>by omega,?_⟩;rcases q8 with q8|⟨b,off,_,_,q8,_⟩
      ·exact .inl q8
      ·exact .inr ⟨b,off,q8,by simpa using q8⟩
     ·rw [e4] at q2;simp only [Value.slice.injEq] at q2;obtain ⟨q9,q10,q11⟩:=q2;refine ⟨none,es,none,rows,a',0,a,0,hat,by rw [e4,q10],by omega,by rw [e2,q10],by omega,by omega,(fun c h=>by cases h),fun _=>rfl,.inl rfl⟩
   ·rw [if_neg (fun h=>hk h.1),hc];obtain ⟨u,d,e1,e2⟩:=hp t _ hc (by omega);exact ⟨u,d,hu u e1,av hS d (fun _ _ _ h=>h.elim) (fun h=>by simp at h) (fun h=>by simp at h) e2⟩
  ·rw [if_neg (fun h=>hlt h.2),af9 (by omega)];refine ⟨undef,1,?_,trivial⟩;rw [aeB (by simp; omega)];simp only [adV,aeS];rw [if_pos (by omega)]
 ·intro i;by_cases hk:i < k
  ·cases hc:cs[i]? with
   | none=>exact ⟨undef,1,by simp only [Rl,hk,if_true,hc]; trivial⟩
   | some c=>
    obtain ⟨u,d,e1,e2,e3⟩:=hr i c hc hk;refine ⟨m i [],d,?_⟩;have eR:Rl k cs i=c:=by simp [Rl,hk,hc]
    show rel w (Ctx.S (Bd w S (aH (Rl k cs) m)) (Rl k cs) m) L0 (m i) true d [] (Rl k cs i) (m i []);rw [eR];exact av (m:=m i) (m':=m i) (p:=[]) (p':=[]) hS d (fun _ _ _ h=>h) (fun _ _ _ _ _ _=>rfl) (fun _ _ _=>rfl) e3
  ·exact ⟨undef,1,by simp only [Rl,hk,if_false]; trivial⟩
 ·intro i p b ho hb;exact .inr ⟨i,p,ho,hb⟩
def YD (k:Nat):∀ (cs:List C),k<=cs.length->∀ j,Ax (List.range' j k) cs RZ=fun n=>if j<=n/\n < j+k then (cs[n - j]?).getD .dead else .dead:=by
 induction k with
 | zero=>intro cs _ j; funext n; rw [if_neg (by omega)]; cases cs<;>rfl
 | succ k ih=>
  intro cs hk j;cases cs with
  | nil=>simp at hk
  | cons c cs=>
   simp only [acT] at hk;simp only [aeR,Ax];rw [ih cs (by omega) (j+1)]
   funext n
   by_cases e:n=j
   ·subst e; simp [upd]
   ·simp only [upd,e,if_false];by_cases h:j+1<=n/\n < j+1+k
    ·rw [if_pos h,if_pos (by omega),show n - j=(n - (j+1))+1 by omega,ac8]
    ·rw [if_neg h,if_neg (by omega)]
def I3 (k:Nat):∀ (cs:List C),k<=cs.length->∀ j t,(zX (List.range' j k) cs)[t]?=if t < k then some (GM (j+t) ((cs[t]?).getD .dead)) else cs[t]?:=by
 induction k with
 | zero=>intro cs _ j t; simp [zX]
 | succ k ih=>
  intro cs hk j t;cases cs with
  | nil=>simp at hk
  | cons c cs=>
   simp only [acT] at hk;simp only [aeR,zX];cases t with
   | zero=>simp
   | succ t=>
    rw [ac8,ih cs (by omega) (j+1) t];by_cases h:t < k
    ·rw [if_pos h,if_pos (by omega),show j+1+t=j+(t+1) by omega,ac8]
    ·rw [if_neg h,if_neg (by omega),ac8]
def Qz (k:Nat) (cs:List C) (h:k<=cs.length) (j:Nat):(zX (List.range' j k) cs).length=cs.length:=by
 apply Nat.le_antisymm
 ·apply aeK.1;rw [I3 k cs h,if_neg (by omega)]; simp
 ·apply Nat.le_of_not_lt;intro hlt;have h1:(zX (List.range' j k) cs)[(zX (List.range' j k) cs).length]?=none:=by simp
  rw [I3 k cs h] at h1;split at h1
  ·cases h1
  ·rw [acH hlt] at h1; cases h1
def WX {f:FuncId} {fn:Func} {body:Code} (hf:P.funcs[f]?=some fn) (hb:fn.body=some body) (hname:(fn.name == "runtime.NumGoroutine") = false) (hok : jG body = true) (k : Nat) (hkeep : kU (List.range' 0 k) body = true)
  {G:Nat->Nat->Option FnS} (hG:∀ d f fs,G d f=some fs->aA P f fs) {L:Nat->Nat->Option FnL} (hL:∀ d f fl,L d f=some fl->wQ P f fl) (F:List (Nat × Bool)) (hmix:P.follows .mixedOrders=true) {cs ls:List C} {r:C} (hn:cs.length<=fn.ntmps) (hk:k<=cs.length)
  (hone:∀ (i:Nat) (c:C),cs[i]?=some c->i < k->∃ x,dI c=some x) (hls:ls.map dI=(cs.take k).map dI)
  (hW:Wk (EE P G F L) body (ap (EE P G F L) (Xc (EE P G F L) fn.results.toList k r ls) []) ⟨tab fn.ntmps (Cc au 0 (zX (List.range' 0 k) cs)),Ax (List.range' 0 k) cs RZ⟩):mI P f k cs r ls:=by
 intro w S m us hl hp hr hinj;left;have hname':¬ fn.name = "runtime.NumGoroutine" := by simpa using hname
 refine ⟨by simp [callFunc,hf,hname',hb],?_⟩;have eR:Ax (List.range' 0 k) cs RZ=Rl k cs:=by
  rw [YD k cs hk 0]
  funext n
  unfold Rl;by_cases h:n < k
  ·rw [if_pos (by omega),if_pos h]; simp
  ·rw [if_neg (by omega),if_neg h]
 rw [eR] at hW;have H:=V0 (n:=fn.ntmps) hl hn hone hp hr hinj (Cc au 0 (zX (List.range' 0 k) cs)) (by
  intro t;rw [NL,Qz k cs hk 0];by_cases h:t < cs.length
  ·rw [if_pos ⟨by omega,by omega⟩,I3 k cs hk 0];simp only [adn,adm,h,and_true];split
   ·rename_i h1; simp
   ·rename_i h1; rfl
  ·rw [if_neg (by omega),if_neg (by omega),af9 (by omega)]; rfl)
 have hGO:GOk P (EE P G F L):=⟨fun d f fs h=>hG d f fs h,fun d f fl h=>hL d f fl h⟩;have hTO:TOk P (EE P G F L):=fun t ti h=>yY P G t ti h;refine calls_of_wp hf hb (wp_mono (hW P hTO hGO hmix hok _ _ _ ⟨m,H⟩ (List.range' 0 k) hkeep) ?_);rintro e a' w' ⟨⟨s,⟨he,s',hwk,cs',rs,hres,hpl,hle,hend⟩,H1⟩,hsm⟩;have hsm':tC (List.range' 0 k) { tmps:=us.toArray++Array.replicate (fn.ntmps - us.toArray.size) undef,defers:=[] } a':=hsm.resolve_left (by rcases he with rfl|rfl<;>simp)
 obtain ⟨m',H'⟩:=hwk _ _ _ H1;obtain ⟨us',f1,f2,f3⟩:=Js hTO H' hres;obtain ⟨⟨D,hrel⟩,hno⟩:=Mc hTO H' f2 f3 hpl;have hlsl:ls.length=k:=by have:=congrArg List.length hls; simpa [hk] using this
 have hRl:∀ i p,ak (Rl k ls i) p->∃ c,ls[i]?=some c/\i < k/\s'.roots i=c/\ak (s'.roots i) p:=by
  intro i p ho;unfold Rl at ho;split at ho
  ·rename_i hi;have hc:ls[i]?=some ls[i]:=acH (by omega);rw [hc] at ho;obtain ⟨_,e2⟩:=hend i _ hc;exact ⟨_,hc,hi,e2,by rw [e2]; exact ho⟩
  ·exact (aM ho).elim
 have hOw:∀ b,aH (Rl k ls) m' b->aH s'.roots m' b:=by
  rintro b ⟨i,p,ho,hb⟩;obtain ⟨c,_,_,_,h2⟩:=hRl i p ho;exact ⟨i,p,h2,hb⟩
 have hS:∀ b,b < w'.heap.size->Ctx.S (Bd w S (aH (Rl k cs) m)) s'.roots m' b->((S b∨aH (Rl k cs) m b∨w.heap.size<=b)/\¬ aH (Rl k ls) m' b)/\w'.heap[b]?=w'.heap[b]?:=by
  intro b _ hs;refine ⟨⟨?_,fun h=>hs.2 (hOw b h)⟩,rfl⟩;rcases hs.1 with h|h
  ·rcases h with h|h
   ·exact .inl h
   ·exact .inr (.inl h)
  ·exact .inr (.inr h)
 have hkey:∀ (i:Nat) (c:C),ls[i]?=some c->(m' i []=m i [])∨(∃ a a2 es,m i []=.slice a 0 0/\m' i []=.slice a2 0 0/\c=.sl true none es none []):=by
  intro i c hc;have hi:i < k:=by have:=(acD.1 hc).1; omega
  obtain ⟨e1,e2⟩:=hend i _ hc;have hci:cs[i]?=some cs[i]:=acH (by omega);obtain ⟨u,d0,g1,g2,g3⟩:=hr i _ hci hi;obtain ⟨⟨es,y⟩,q1⟩:=hone i _ hci hi;have q2:dI c=some (es,y):=by
   have:=congrArg (fun l=>l[i]?) hls;simp only [acK,hc,acS,adO hi,hci,acB] at this;rw [this,q1]
  simp only [Hd,q1] at g2;obtain ⟨uv,dv,k1,k2⟩:=H'.tmp i _ e1;have hs2:=hsm' i (by simp only [afj]; omega);rw [k1,adI (by simp; omega)] at hs2;simp only [aeZ,g1,acB] at hs2;subst hs2;obtain ⟨nl,cap,rows,y1,y2⟩:=wY q2;rcases y2 with ⟨rfl,rfl,row,rfl⟩|⟨rfl,rfl,rfl⟩
  ·left;obtain ⟨b0,off0,rfl,g4⟩:=g2;rw [y1] at k2;obtain ⟨nl',es',cap',rows',b',off',kk,p1,p2,p3⟩:=lZ ⟨dv,k2⟩;simp only [Value.pointer.injEq,acB,Addr.mk.injEq,afs,aek,and_true] at p3;obtain ⟨rfl,rfl⟩:=p3;obtain ⟨u0,dd,hr0⟩:=H'.root i;rw [e2,y1] at hr0;obtain ⟨a1,k2',D2,z1,z2,z3,z4,z5,_⟩:=eh hr0;have hk1:k2'=1:=z5 1 rfl;have p1':(s'.roots i).at []=some (.sl true nl' es' cap' rows'):=p1;rw [e2,y1] at p1';simp only [C.at,acB,C.sl.injEq,true_and] at p1';obtain ⟨rfl,rfl,rfl,rfl⟩:=p1';rw [p2] at z2;simp only [Value.slice.injEq] at z2;rw [p2,g4,z2.2.2,hk1]; rfl
  ·rw [y1] at k2;obtain ⟨nl',es',cap',rows',a,kk,a',k',f1,f2,f3,f4,f5,f6,f7,f8,f9⟩:=ek ⟨dv,k2⟩;have f1':(s'.roots i).at []=some (.sl true nl' es' cap' rows'):=f1;rw [e2,y1] at f1';simp only [C.at,acB,C.sl.injEq,true_and] at f1';obtain ⟨rfl,rfl,rfl,rfl⟩:=f1';have hkk:=f8 rfl;rcases f9 with f9|⟨b,off,w1,w2⟩
   ·right;have hrl:rows=[]:=acQ (by omega);subst hrl;have hkk0:kk=0:=by omega
    rw [f9] at f4;rw [hkk0] at f2;rcases g2 with g2|⟨z,z',g2,g4⟩
    ·exact ⟨a',a,es,by rw [<-g2,f4]; rfl,f2,y1⟩
    ·exact ⟨z',a,es,g4,f2,y1⟩
   ·rcases g2 with g2|⟨z,z',g2,g4⟩
    ·left;rw [<-g2,f2,f4,w1,w2,show k'=kk by omega]; simp
    ·right;rw [f4] at g2;simp only [Value.slice.injEq] at g2;obtain ⟨_,g5,g6⟩:=g2;have hrl:rows=[]:=acQ g5;subst hrl;have hkk0:kk=0:=by omega
     rw [hkk0] at f2;exact ⟨z',a,es,g4,f2,y1⟩
 have hin:∀ i,i < k->∃ c,ls[i]?=some c:=fun i hi=>⟨_,acH (by omega)⟩;obtain ⟨mk,hmk⟩:∃ mk:Nat->aq->Value,mk=fun i p=>if p=[]/\i < k then m i [] else m' i p:=⟨_,rfl⟩
 have hblk:∀ i p,blk (mk i p)=blk (m' i p):=by
  intro i p;rw [hmk];simp only;split
  ·rename_i hp;obtain ⟨rfl,hi⟩:=hp;obtain ⟨c,hc⟩:=hin i hi;rcases hkey i c hc with h|⟨a,a2,es,h1,h2,_⟩
   ·rw [h]
   ·rw [h1,h2]; cases a<;>cases a2<;>rfl
  ·rfl
 have hOwn:aH (Rl k ls) mk=aH (Rl k ls) m':=by
  funext b
  apply propext;constructor
  ·rintro ⟨i,p,ho,hb⟩; exact ⟨i,p,ho,by rw [<-hblk]; exact hb⟩
  ·rintro ⟨i,p,ho,hb⟩; exact ⟨i,p,ho,by rw [hblk]; exact hb⟩
 have post:a'.defers=[]/\∃ v,(results fn a'.tmps).run P w'=.ok v w'/\∃ u,Ending.returned v=.returned u/\∃ mk:Nat->aq->Value,
   (∃ d,rel w' (fun b=>(S b∨aH (Rl k cs) m b∨w.heap.size<=b)/\¬ aH (Rl k ls) mk b) L0 dm false d [] r u) ∧
   (∀ (i:Nat) (c:C),ls[i]?=some c->mk i []=m i []/\∃ uu d,rel w' (fun b=>(S b∨aH (Rl k cs) m b∨w.heap.size<=b)/\¬ aH (Rl k ls) mk b) L0 (mk i) true d [] c uu) ∧
   Inj (Rl k ls) mk/\(∀ b,aH (Rl k ls) mk b->w.heap.size<=b∨aH (Rl k cs) m b)/\FrK w (aH (Rl k cs) m) w':=by
  refine ⟨H'.df,_,Bj f1,_,rfl,mk,?_,?_,?_,?_,⟨H'.fr.os,H'.fr.tape,H'.fr.output,H'.fr.drawn,H'.fr.size,H'.fr.block⟩⟩
  ·have h1:=qR (S':=Ctx.S (Bd w S (aH (Rl k cs) m)) s'.roots m') (m':=dm) (p':=[]) (fun b h=>h) D (fun _ q b ho=>(hno q ho).elim) hrel;have h2:=hle _ _ _ dm _ [] _ _ h1;rw [hOwn];exact ⟨D,av hS D (fun _ _ _ h=>h) (fun h=>by simp at h) (fun h=>by simp at h) h2⟩
  ·intro i c hc;have hi:i < k:=by have:=(acD.1 hc).1; omega
   have hm0:mk i []=m i []:=by rw [hmk]; simp [hi]
   refine ⟨hm0,?_⟩;rw [hOwn];obtain ⟨e1,e2⟩:=hend i c hc;rcases hkey i c hc with h|⟨a,a2,es,h1,h2,h3⟩
   ·have hmi:mk i=m' i:=by
     funext p
     by_cases hp:p=[]
     ·subst hp; rw [hm0,h]
     ·rw [hmk]; simp [hp]
    obtain ⟨u0,dd,hr0⟩:=H'.root i;rw [e2] at hr0;rw [hmi];exact ⟨u0,dd,av hS dd (fun _ _ _ h=>h) (fun _ _ _ _ _ _=>rfl) (fun _ _ _=>rfl) hr0⟩
   ·rw [h3];exact ⟨_,1,mW (a:=a) (k:=0) (by rw [hm0,h1]; rfl) (by simp) (by simp) (fun c h=>by cases h) ⟨(fun b h=>by cases h),fun _=>rfl⟩ (by simp) (.inl rfl)⟩
  ·intro i p i' p' b h1 h2 h3 h4;rw [hblk] at h3 h4;obtain ⟨_,_,_,_,g1⟩:=hRl i p h1;obtain ⟨_,_,_,_,g2⟩:=hRl i' p' h2;exact H'.inj _ _ _ _ b g1 g2 h3 h4
  ·intro b hb0;rw [hOwn] at hb0;obtain ⟨i,p,ho,hb⟩:=hb0;obtain ⟨_,_,_,_,g1⟩:=hRl i p ho;exact H'.own i p b g1 hb
 rcases he with rfl|rfl
 ·exact post
 ·exact post
structure uV (c c':C):Prop where
 ex:∃ es cap rows rows',c=.sl true none es cap rows/\c'=.sl true none es cap rows'/\dw rows rows'/\(∀ row∈rows,∀ x∈row,bV x)/\∀ row∈rows',∀ x∈row,bV x
def uV.own {c c':C} (h:uV c c') (q:aq):(ak c q↔q=[])/\(ak c' q↔q=[]):=by
 obtain ⟨es,cap,row,row',rfl,rfl,_,h1,h2⟩:=h.ex;have key:∀ (r:List (List C)),(∀ row∈r,∀ x∈row,bV x)->(ak (.sl true none es cap r) q↔q=[]):=by
  intro r hr;constructor
  ·intro ho; exact oc (rows:=r) hr ho
  ·rintro rfl; rfl
 exact ⟨key row h1,key row' h2⟩
def VU {nl nl':Option Bool} {es:Nat} {cap:Option Nat} {rows rows':List (List C)} (h:rows.length=rows'.length) (hn:nl=nl'):dI (.sl true nl es cap rows)=dI (.sl true nl' es cap rows'):=by
 subst hn;cases cap with
 | none=>cases nl<;>simp [dI,h]
 | some n=>
  match rows,rows',h with
  | [],[],_=>rfl
  | [a],[b],_=>by_cases hn:n=1<;>simp [dI,hn]
  | a::b::r,a'::b'::r',_=>simp [dI]
theorem uV.one {c c':C} (h:uV c c'):dI c=dI c':=by
 obtain ⟨es,cap,row,row',rfl,rfl,hl,_⟩:=h.ex;exact VU hl.len.symm rfl
def uV.hd {c c':C} (h:uV c c') {u v:Value} (hd:Hd c u v):Hd c' u v:=by
 unfold Hd at hd ⊢; rw [<-h.one]; exact hd
def uV.rel {c c':C} (h:uV c c') {w:World} {S:Nat->Prop} {m:aq->Value} {d:Nat} {u:Value} (hr:Go.Abs.rel w S L0 m true d [] c u):Go.Abs.rel w S L0 m true (d+1) [] c' u:=by
 obtain ⟨es,cap,row,row',rfl,rfl,hle,h1,h2⟩:=h.ex;refine RE (fun b h=>h) hle h2 ?_ hr;intro i j q b ho;have:=oc (rows:=row) h1 ho;cases this
def mI.told {f:FuncId} {k:Nat} {cs cs' rest rest':List C} {r:C} {ls:List C} (h1:cs.length=k) (h2:cs'.length=k) (hv:∀ (i:Nat) (c c':C),cs[i]?=some c->cs'[i]?=some c'->uV c c') (hr:LeL rest rest') (h:mI P f k (cs'++rest') r ls):mI P f k (cs++rest) r ls:=by
 have eO:∀ m:Nat->aq->Value,aH (Rl k (cs++rest)) m=aH (Rl k (cs'++rest')) m:=by
  intro m;have key:∀ i q,ak (Rl k (cs++rest) i) q↔ak (Rl k (cs'++rest') i) q:=by
   intro i q;unfold Rl;by_cases hi:i < k
   ·rw [if_pos hi,if_pos hi,acN (by omega),acN (by omega),acH (by omega),acH (by omega)];have:=(hv i cs[i] cs'[i] (acH (by omega)) (acH (by omega))).own q;simp only [adr];rw [this.1,this.2]
   ·rw [if_neg hi,if_neg hi]
  funext b
  apply propext;constructor
  ·rintro ⟨i,q,ho,hb⟩; exact ⟨i,q,(key i q).1 ho,hb⟩
  ·rintro ⟨i,q,ho,hb⟩; exact ⟨i,q,(key i q).2 ho,hb⟩
 intro w S m us hl hp hrr hinj;rw [eO m] at *;refine h w S m us (by rw [hl]; simp [h1,h2,hr.len]) ?_ ?_ ?_
 ·intro i c' hi hk;rw [acP (by omega),h2] at hi;have hlt:=(acD.1 hi).1;rw [hr.len] at hlt;have hi0:(cs++rest)[i]?=some rest[i - k]:=by rw [acP (by omega),h1,acH hlt]
  obtain ⟨u,d,e1,e2⟩:=hp i _ hi0 hk;exact ⟨u,d,e1,hr.get (i - k) _ c' (acH hlt) hi _ _ _ dm _ [] _ _ e2⟩
 ·intro i c' hi hk;rw [acN (by omega)] at hi;have hi0:cs[i]?=some cs[i]:=acH (by omega);obtain ⟨u,d,e1,e2,e3⟩:=hrr i cs[i] (by rw [acN (by omega)]; exact hi0) hk;exact ⟨u,d+1,e1,(hv i _ _ hi0 hi).hd e2,(hv i _ _ hi0 hi).rel e3⟩
 ·intro i q i' q' b ho ho' hb hb';have key:∀ i q,ak (Rl k (cs'++rest') i) q->ak (Rl k (cs++rest) i) q:=by
   intro i q ho;unfold Rl at ho ⊢;by_cases hi:i < k
   ·rw [if_pos hi] at ho ⊢;rw [acN (by omega),acH (by omega)] at ho ⊢;have:=(hv i cs[i] cs'[i] (acH (by omega)) (acH (by omega))).own q;simp only [adr] at ho ⊢;rw [this.1]; exact this.2.1 ho
   ·rw [if_neg hi] at ho; exact (aM ho).elim
  exact hinj i q i' q' b (key i q ho) (key i' q' ho') hb hb'
def Dx {α:Type} (es:Nat) (d:List C->Option α):C->Option (List α)
 | .sl true none es' none rows=>if es'=es/\rows.all (fun r=>r.all Abs.plainCell)=true then bR d rows else none
 | _=>none
def za {α:Type} {es:Nat} {d:List C->Option α} {row:α->List C} (hrow:aF row) (hle:∀ r x,d r=some x->LeL r (row x)) {c:C} {l:List α} (h:Dx es d c=some l):uV c (.sl true none es none (l.map row)):=by
 unfold Dx at h;split at h
 ·rename_i es' rows;split at h
  ·rename_i hc;obtain ⟨rfl,hall⟩:=hc;refine ⟨⟨_,_,rows,l.map row,rfl,rfl,Gk hle h,?_,?_⟩⟩
   ·intro r0 hr0 c hc; exact zD (acJ.1 (acJ.1 hall r0 hr0) c hc)
   ·exact hrow.noOwn l
  ·cases h
 ·cases h
attribute [go_sem] Dx zX GM
def TS (s:St) (j:Nat) (ls:List C):Prop:=∀ (i:Nat) (c:C),ls[i]?=some c->s.tmps[j+i]?=some (GM (j+i) c)/\s.roots (j+i)=c
def F0 {s:St} {j:Nat}:TS s j []:=by intro i c h; simp at h
def C0 {s:St} {j:Nat} {c:C} {ls:List C} (h1:s.tmps[j]?=some (GM j c)) (h2:s.roots j=c) (h:TS s (j+1) ls):TS s j (c::ls):=by
 intro i c' hi;cases i with
 | zero=>simp only [acI,acB] at hi; subst hi; exact ⟨h1,h2⟩
 | succ i=>
  have:=h i c' (by simpa using hi);rw [show j+(i+1)=j+1+i by omega]; exact this
def C4 {E:Env} {vs:List ResultVar} {k:Nat} {r:C} {ls:List C} {e:Exit} {s:St} (he:e=.ret∨e=.normal) {s':St} (hw:aX s s') {cs rs:List C} (h1:wK E s' vs=some cs) (h2:fa cs=some rs) (h3:Le (mT rs) r) (h4:TS s' 0 ls):Xc E vs k r ls e s:=
 ⟨he,s',hw,cs,rs,h1,h2,h3,fun i c hi=>by have:=h4 i c hi; simpa using this⟩
def BJ:∀ (i:Nat) (c c':C),([]:List C)[i]?=some c->([]:List C)[i]?=some c'->uV c c':=by intro i c c' h; simp at h
def y6 {a a':C} {as as':List C} (h:uV a a') (t:∀ (i:Nat) (c c':C),as[i]?=some c->as'[i]?=some c'->uV c c'):∀ (i:Nat) (c c':C),(a::as)[i]?=some c->(a'::as')[i]?=some c'->uV c c':=by
 intro i c c' h1 h2;cases i with
 | zero=>simp only [acI,acB] at h1 h2; subst h1; subst h2; exact h
 | succ i=>exact t i c c' (by simpa using h1) (by simpa using h2)
def zf {f:FuncId} {fn:Func} {body:Code} (hf:P.funcs[f]?=some fn) (hb:fn.body=some body) (hname:(fn.name == "runtime.NumGoroutine") = false) (hok : jG body = true) (k : Nat) (hkeep : kU (List.range' 0 k) body = true)
  {G:Nat->Nat->Option FnS} (hG:∀ d f fs,G d f=some fs->aA P f fs) {L:Nat->Nat->Option FnL} (hL:∀ d f fl,L d f=some fl->wQ P f fl) (F:List (Nat × Bool)) (hmix:P.follows .mixedOrders=true) {cs ls:List C} {r:C} (hn:cs.length<=fn.ntmps) (hk:k<=cs.length)
  (hone:(cs.take k).all (fun c=>(dI c).isSome)=true) (hls:ls.map dI=(cs.take k).map dI)
  (hW:Wk (EE P G F L) body (ap (EE P G F L) (Xc (EE P G F L) fn.results.toList k r ls) []) ⟨tab fn.ntmps (Cc au 0 (zX (List.range' 0 k) cs)),Ax (List.range' 0 k) cs RZ⟩):mI P f k cs r ls:=
 WX hf hb hname hok k hkeep hG hL F hmix hn hk (by
  intro i c hc hi;have:c∈cs.take k:=acE (by rw [adO hi]; exact hc);exact aeM.1 (acJ.1 hone c this)) hls hW
attribute [go_sem] List.range'
def TW (n es:Nat) (rows:List (List C)):C->C
 | .pref n' [] i j=>if n'=n then .iref es rows i j else .pref n' [] i j
 | c=>poi (fun n' _=>n' == n) c
def NN (n es:Nat) (rows:List (List C)) (f:Nat->C):Nat->C:=fun t=>TW n es rows (f t)
theorem Oq (n es:Nat) (rows:List (List C)) (f:Nat->C) (d:Nat) (c:C):NN n es rows (af f d c)=af (NN n es rows f) d (TW n es rows c):=by
 funext t
 simp only [NN,af];split<;>rfl
theorem MV (n es:Nat) (rows:List (List C)):NN n es rows au=au:=rfl
theorem Wv {k n:Nat} {f f':Nat->C} {R:Nat->C} {nl:Option Bool} {es:Nat} {cap:Option Nat} {rows:List (List C)} (hR:R n=.sl true nl es cap rows) (hne:(rows.length == 0)=false) (hf:NN n es rows f=f') :
  aX ⟨tab k f,R⟩ ⟨tab k f',upd R n .dead⟩:=by
 rintro X a w ⟨m,H⟩;subst hf;have H1:=H.drop n;refine ⟨m,⟨by rw [H.len]; simp [mS],?_,H1.root,H1.inj,H1.own,H1.fr,H1.df⟩⟩;intro t c hc;rw [gv] at hc;split at hc
 case isFalse=>simp at hc
 rename_i hlt;simp only [acB] at hc;subst hc;have hd:∀ c',c'=poi (fun n' _=>n' == n) (f t)->∃ u d,a.tmps[t]?=some u/\rel w (X.S (upd R n .dead) m) (Lv (upd R n .dead) m) dm false d [] c' u:=by
  intro c' e;exact H1.tmp t c' (by simp only [St.drop,acK,gv,hlt,if_true,acS]; rw [e])
 unfold NN TW;split
 ·rename_i n' i j hft;split
  ·rename_i e;subst e;obtain ⟨u,d,h1,h2⟩:=H.tmp t (f t) (by simp only [gv,hlt,if_true]);rw [hft] at h2;have hs:mq ⟨tab k f,R⟩ (.pref n' [] i j)=some (.iref es rows i j):=by
    simp only [mq,St.node,hR,C.at];rw [if_neg (by simpa using hne)]
   obtain ⟨d',hr⟩:=vG (N:=fun q=>q=n') H ⟨d,h2⟩ (by
    intro dd v q p ho hp;cases dd with
    | zero=>exact ho.elim
    | succ dd=>
     have:v=.pref n' [] i j:=ho;subst this;simp only [C.place,acB,acY] at hp;exact hp.1.symm) hs
   refine ⟨u,d',h1,av (fun b _ hb=>⟨?_,rfl⟩) d' (fun _ _ _ h=>h.elim) (fun h=>by simp at h) (fun h=>by simp at h) hr⟩;rcases hb with hb|⟨_,q,p,rfl,ho,hb⟩
   ·exact VZ hb
   ·exact H.loose ho hb
  ·rename_i e;refine hd _ ?_;rw [hft];simp [poi,C.ment,e]
 ·exact hd _ rfl
attribute [go_sem] TW Oq MV
def WO (n es:Nat) (rows:List (List C)):C->C
 | .pal n' [] lo len cap=>if n'=n then .sl false none es cap ((rows.drop lo).take len) else .pal n' [] lo len cap
 | c=>poi (fun n' _=>n' == n) c
def Ux (n es:Nat) (rows:List (List C)) (f:Nat->C):Nat->C:=fun t=>WO n es rows (f t)
theorem VY (n es:Nat) (rows:List (List C)) (f:Nat->C) (d:Nat) (c:C):Ux n es rows (af f d c)=af (Ux n es rows f) d (WO n es rows c):=by
 funext t
 simp only [Ux,af];split<;>rfl
theorem Ub (n es:Nat) (rows:List (List C)):Ux n es rows au=au:=rfl
attribute [go_sem] WO VY Ub
def OL {n:Nat} {f f':Nat->C} {R R':Nat->C} (t s:Nat) (p:aq) (d:Nat) {nl:Option Bool} {es:Nat} {cap:Option Nat} {rows:List (List C)} {len:Nat} (htn:t < n) (hne:d≠s) (hd:R d=.dead) (hs:(R s).at p=some (.sl true nl es cap rows))
  (ht:f t=.pal s p 0 len none) (hlen:len=rows.length) (hf:af (uN (fun k q=>k == s && kQ p q) f) t (.pal d [] 0 len none)=f') (hr:upd (upd R s ((R s).turn (fun _=>.dead) p)) d (.sl true none es none rows)=R') :
  aX ⟨tab n f,R⟩ ⟨tab n f',R'⟩:=by
 subst hf hr;rintro X a w ⟨m,H⟩;obtain ⟨u,dd,h1,h2⟩:=H.tmp t (f t) (by simp only [gv,htn,if_true]);rw [ht] at h2;have hv:Lv R m (.pal s p 0 len none) u:=ek ⟨dd,h2⟩;obtain ⟨M1,M2,M3⟩:=H.move (h:=d) (n:=s) (p:=p) hd hne hs hv;have e1:(St.move ⟨tab n f,R⟩ s p 0 len none d es rows)=⟨tab n (uN (fun k q=>k == s && kQ p q) f),upd (upd R s ((R s).turn (fun _=>.dead) p)) d (.sl true none es none rows)⟩:=by
  simp only [St.move,C5,hlen,ad4,aex]
 rw [e1] at M1 M2;refine ⟨_,⟨by rw [H.len]; simp [mS],?_,M1.root,M1.inj,M1.own,M1.fr,M1.df⟩⟩;intro t' c hc;rw [gv] at hc;split at hc
 case isFalse=>simp at hc
 rename_i hlt;simp only [acB] at hc;by_cases e:t'=t
 ·subst e;simp only [af,if_true] at hc;subst hc;refine ⟨u,1,h1,?_⟩;obtain ⟨nl',es',cap',rows',ad,k,a',k',g1,g2,g3,g4,g5,g6,g7,g8,g9⟩:=hv;rw [hs] at g1;simp only [acB,C.sl.injEq,true_and] at g1;obtain ⟨rfl,rfl,rfl,rfl⟩:=g1;simp only [rel,Lv];refine ⟨none,es,none,rows,a',k',a',k',by simp [aC,C.at],?_,by omega,g4,g5,by omega,by simp,by simp,?_⟩
  ·simp only [iw,if_true]; rw [g4,hlen]
  ·rcases g9 with g9|⟨b,off,rfl,rfl⟩
   ·exact .inl g9
   ·exact .inr ⟨_,_,rfl,by simp⟩
 ·simp only [af,e,if_false] at hc;exact M1.tmp t' c (by simp only [gv,hlt,if_true,hc])
def AW {P:Program} {f:FuncId} {fn:Func} {body:Code} (hf:P.funcs[f]?=some fn) (hb:fn.body=some body) (hname:(fn.name == "runtime.NumGoroutine") = false) (hok : jG body = true)
  {G:Nat->Nat->Option FnS} (hG:∀ d f fs,G d f=some fs->aA P f fs) {L:Nat->Nat->Option FnL} (hL:∀ d f fl,L d f=some fl->wQ P f fl) (F:List (Nat × Bool)) (hmix:P.follows .mixedOrders=true) {own:List Bool} {pure:Bool} {cs:List C} {r:C} (hn:cs.length<=fn.ntmps)
  (hW:Wk (EE P G F L) body (ap (EE P G F L) (NS (EE P G F L) fn.results.toList pure r) []) ⟨tab fn.ntmps (gp own cs),R0 own cs⟩):Con P f own pure cs r:=by
 intro w S m us hl hr hinj;left;have hname':¬ fn.name = "runtime.NumGoroutine" := by simpa using hname
 refine ⟨by simp [callFunc,hf,hname',hb],?_⟩;have H:=Lq (n:=fn.ntmps) hl hn hr hinj;rw [vE hn] at H;have hGO:GOk P (EE P G F L):=⟨fun d f fs h=>hG d f fs h,fun d f fl h=>hL d f fl h⟩;have hTO:TOk P (EE P G F L):=fun t ti h=>yY P G t ti h;refine calls_of_wp hf hb (wp_mono (hW P hTO hGO hmix hok _ _ _ ⟨m,H⟩ [] (H8 _)) ?_);rintro e a' w' ⟨⟨s,⟨he,r0,hfin,hrok,hkeep,hpure⟩,m',H'⟩,-⟩;have main:∃ u,(results fn a'.tmps).run P w'=.ok u w'/\Done (Bd w S (aH (R0 own cs) m)) w' r0 u:=by
  unfold zJ at hfin;split at hfin
  case h_2=>simp at hfin
  rename_i cs' hres;obtain ⟨us',f1,f2,f3⟩:=Js hTO H' hres;refine ⟨_,Bj f1,?_⟩;split at hfin
  ·rename_i rs hpl;simp only [acB] at hfin;subst hfin;exact DK hTO H' f2 f3 hpl
  ·split at hfin
   ·rename_i s1 kp hprep;simp only [acB] at hfin;subst hfin;exact E8 hTO H' f2 f3 hprep
   ·simp at hfin
 obtain ⟨u,hrun,hd⟩:=main;obtain ⟨mr,d,g1,g2,g3⟩:=hd.ex;have post:a'.defers=[]/\∃ v,(results fn a'.tmps).run P w'=.ok v w'/\∃ u,Ending.returned v=.returned u/\∃ mr d,rel w' (fun b=>((pure=false/\(S b∨aH (R0 own cs) m b))∨w.heap.size<=b)/\¬ iT r mr b) L0 mr true d [] r u ∧
   (∀ q q' b,ak r q->ak r q'->blk (mr q)=some b->blk (mr q')=some b->q=q')/\(∀ b,iT r mr b->w.heap.size<=b∨aH (R0 own cs) m b)/\FrK w (aH (R0 own cs) m) w':=by
  refine ⟨H'.df,u,hrun,u,rfl,Rt hrok hkeep ⟨mr,d,?_,g2,g3,⟨hd.fr.os,hd.fr.tape,hd.fr.output,hd.fr.drawn,hd.fr.size,hd.fr.block⟩⟩⟩;cases hp:pure with
  | true=>exact hpure hp w' _ _ mr d [] u g1
  | false=>exact av (fun b _ hs=>⟨⟨hs.1.imp (fun h=>⟨rfl,h⟩) id,hs.2⟩,rfl⟩) d (fun _ _ _ h=>h) (fun _ _ _ _ _ _=>rfl) (fun _ _ _=>rfl) g1
 rcases he with rfl|rfl
 ·exact post
 ·exact post
def tL {α:Type} (z:α) (k:Nat) (l:List α):List α:=l.take k++List.replicate (l.length - k) z
def Lx {α:Type} {z:α} {k:Nat} {l:List α} (h:k<=l.length):(tL z k l).take k=l.take k:=by
 show (l.take k++List.replicate (l.length - k) z).take k=l.take k;rw [aeX (by rw [adG]; omega),List.take_take,af0]
def Nq {α:Type} {z:α} {k:Nat} {l:List α} (h:k<=l.length):(tL z k l).length=l.length:=by
 show (l.take k++List.replicate (l.length - k) z).length=l.length;rw [adi,adG,ad1]; omega
def Rx {α:Type} {row:α->List C} {z:α} {rz:List C} {k:Nat} {l:List α} (h:k<=l.length) (hz:row z=rz):aL (l.map row) k (List.replicate (l.length - k) rz)=(tL z k l).map row:=by
 subst hz;show (l.map row).take k++List.replicate (l.length - k) (row z)++(l.map row).drop (k+(List.replicate (l.length - k) (row z)).length)=(l.take k++List.replicate (l.length - k) z).map row;rw [ac2,ael,agp,af5 (by simp; omega),adg]
def Zp (rz:List C) (k:Nat) (rows:List (List C)):List (List C):=rows.take k++List.replicate (rows.length - k) rz
def Ny {α:Type} {row:α->List C} {rz:List C} {k:Nat} {l:List α} (h:k<=l.length):aL (l.map row) k (List.replicate (l.length - k) rz)=Zp rz k (l.map row):=by
 show (l.map row).take k++List.replicate (l.length - k) rz++(l.map row).drop (k+(List.replicate (l.length - k) rz).length)=(l.map row).take k++List.replicate ((l.map row).length - k) rz;rw [af5 (by simp; omega),adg,acL]
def Ft {a b:List C} (h:LeL a b):∀ n:Nat,dw (List.replicate n a) (List.replicate n b)
 | 0=>dw.nil
 | n+1=>dw.cons h (Ft h n)
theorem QW {α:Type} {row:α->List C} {z:α} {rz:List C} {k:Nat} {l:List α} (h:LeL rz (row z)):wH (Zp rz k (l.map row)) ((tL z k l).map row):=⟨by
 show dw ((l.map row).take k++List.replicate ((l.map row).length - k) rz) ((l.take k++List.replicate (l.length - k) z).map row);rw [ac2,ael,agp,acL];exact (dw.refl _).append (Ft h _)⟩
def F3 {α:Type} {l:List α} {lo n i:Nat} {x:α} (h:((l.drop lo).take n)[i]?=some x):l[lo+i]?=some x:=by
 rw [ada] at h;split at h
 ·rw [adb] at h; exact h
 ·cases h
def IP {α:Type} {l:List α} {lo n:Nat} {i:Int} (h:0<=i/\i < ((((l.drop lo).take n).length:Nat):Int)):i < (n:Int):=by
 have:=List.length_take_le n (l.drop lo); omega
theorem XY (g:Nat->aq->Bool) (f:Nat) (cs:List C):poi g (.clo f cs)=if (cs.any fun c=>c.ment g 2)=true then .dead else .clo f cs:=rfl
theorem VN (g:Nat->aq->Bool) (k es:Nat) (rows:List (List C)) (i j:Nat):C.ment g (k+1) (.iref es rows i j)=false:=rfl
theorem Wj (g:Nat->aq->Bool) (k:Nat) (v:Value):C.ment g (k+1) (.val v)=false:=rfl
theorem V2 (g:Nat->aq->Bool) (k n:Nat) (p:aq) (i j:Nat):C.ment g (k+1) (.pref n p i j)=g n p:=rfl
theorem Yv (g:Nat->aq->Bool) (k:Nat) (o:Bool) (nl:Option Bool) (es:Nat) (cap:Option Nat) (rows:List (List C)):C.ment g (k+1) (.sl o nl es cap rows)=false:=rfl
attribute [go_sem] XY VN Wj V2 Yv
def Iy {ρ α:Type} (p:ρ->List α) (l:List α) (o:Option ρ):Option ρ:=o.bind fun r=>if (p r).length=l.length then some r else none
def kH {ρ α:Type} {p:ρ->List α} {l:List α} {o:Option ρ} {r:ρ} (h:Iy p l o=some r):o=some r/\(p r).length=l.length:=by
 unfold Iy at h;obtain ⟨r',h1,h2⟩:=acG.1 h;split at h2
 ·cases h2; exact ⟨h1,by assumption⟩
 ·cases h2
end
end Go.Abs
namespace Go.Abs
section
variable {X:Ctx} {m:Nat->aq->Value} {st:St} {a:Act} {w:World} {P:Program}
def ar.nilO (H:ar X m st a w) {n:Nat} {q:aq} (es:Nat) (hq:(st.roots n).at q=some (.val (.slice none 0 0))) :
  ∃ m',ar X m' { st with roots:=upd st.roots n ((st.roots n).turn (fun _=>.sl true none es none []) q) } a w:=by
 obtain ⟨m',hm'⟩:∃ m':Nat->aq->Value,m'=fun n' p=>if n'=n/\p=q then .slice none 0 0 else m n' p:=⟨_,rfl⟩
 have M1:m' n q=.slice none 0 0:=by rw [hm']; simp
 have Mn:∀ n' p,¬ (n'=n/\p=q)->m' n' p=m n' p:=by intro n' p h; rw [hm']; simp [h]
 obtain ⟨R',hR'⟩:∃ R',R'=upd st.roots n ((st.roots n).turn (fun _=>.sl true none es none []) q):=⟨_,rfl⟩;have hown:∀ n' p b,ak (R' n') p->blk (m' n' p)=some b->ak (st.roots n') p/\blk (m n' p)=some b/\¬ (n'=n/\p=q):=by
  intro n' p b ho hb;by_cases e:n'=n
  ·subst e;rw [hR',aC] at ho;rcases ak.of_turn hq ho with ⟨r,rfl,h2⟩|⟨h1,h2⟩
   ·have:r=[]:=oc (rows:=[]) (by simp) h2;subst this;rw [adg,M1] at hb;simp [blk] at hb
   ·have hne:¬ (n'=n'/\p=q):=fun h=>h1 [] (by simp [h.2]);rw [Mn _ _ hne] at hb;exact ⟨h2,hb,hne⟩
  ·rw [hR',aO e] at ho;have hne:¬ (n'=n/\p=q):=fun h=>e h.1;rw [Mn _ _ hne] at hb;exact ⟨ho,hb,hne⟩
 have hS:∀ b,X.S st.roots m b->X.S R' m' b:=by
  rintro b ⟨h1,h2⟩;refine ⟨h1,?_⟩;rintro ⟨n',p,ho,hb⟩;obtain ⟨g1,g2,_⟩:=hown n' p b ho hb;exact h2 ⟨n',p,g1,g2⟩
 have hnoq:∀ r,r≠[]->(st.roots n).at (q++r)=none:=by
  intro r hr;rw [C.at_append,hq];cases r with
  | nil=>exact (hr rfl).elim
  | cons x r=>rfl
 have hL:∀ v u,Lv st.roots m v u->Lv R' m' v u:=by
  intro v u hl;have key:∀ k p nl es' cap rows,(st.roots k).at p=some (.sl true nl es' cap rows)->¬ (k=n/\p=q)/\∃ rows',(R' k).at p=some (.sl true nl es' cap rows')/\rows'.length=rows.length:=by
   intro k p nl es' cap rows hk;by_cases e:k=n
   ·subst e;have hpq:∀ r,p≠q++r:=by
     rintro r rfl;by_cases hr:r=[]
     ·subst hr; rw [adg,hq] at hk; cases hk
     ·rw [hnoq r hr] at hk; cases hk
    obtain ⟨x',e1,_,e3⟩:=C.at_turn_off (fun _=>.sl true none es none []) q p (st.roots k) _ _ hq hpq hk;obtain ⟨rows',rfl,e4⟩:=e3 nl es' cap rows rfl;exact ⟨fun h=>hpq [] (by simp [h.2]),rows',by rw [hR',aC]; exact e1,e4⟩
   ·exact ⟨fun h=>e h.1,rows,by rw [hR',aO e]; exact hk,rfl⟩
  cases v with
  | pref k p i j=>
   obtain ⟨nl,es',cap,rows,b,off,kk,g1,g2,g3⟩:=hl;obtain ⟨hne,rows',g4,g5⟩:=key k p _ _ _ _ g1;exact ⟨nl,es',cap,rows',b,off,kk,g4,by rw [Mn _ _ hne,g5]; exact g2,g3⟩
  | pal k p lo len c=>
   obtain ⟨nl,es',cap,rows,a0,kk,a',k',g1,g2,g3,g4⟩:=hl;obtain ⟨hne,rows',g5,g6⟩:=key k p _ _ _ _ g1;exact ⟨nl,es',cap,rows',a0,kk,a',k',g5,by rw [Mn _ _ hne,g6]; exact g2,by rw [g6]; exact g3,g4⟩
  | _=>exact hl
 rw [<-hR'];refine ⟨m',⟨H.len,?_,?_,?_,?_,H.fr,H.df⟩⟩
 ·intro t c hc;obtain ⟨u,d,h1,h2⟩:=H.tmp t c hc;exact ⟨u,d,h1,av (fun b _ hb=>⟨hS b hb,rfl⟩) d (fun v u _ h=>hL v u h) (fun h=>by simp at h) (fun h=>by simp at h) h2⟩
 ·intro k;obtain ⟨u,d,hr⟩:=H.root k;by_cases e:k=n
  ·subst e;obtain ⟨d',hd'⟩:=AH (f:=fun _=>C.sl true none es none []) (m':=m' k) (S':=X.S R' m') (w':=w) (fun b _ hb=>⟨hS b hb,rfl⟩) q hr hq (fun _ _ _ _ _ _=>rfl) (by
    intro q1 ho hne;simp only [acV];exact Mn _ _ (fun h=>hne [] (by simp [h.2]))) (by
    intro u0 d0 h0;simp only [acV] at h0 ⊢;cases d0 with
    | zero=>exact h0.elim
    | succ d0=>
     have hu:u0=.slice none 0 0:=h0;subst hu;rw [<-M1];exact ⟨2,mW (d:=1) (a:=none) (k:=0) (by rw [M1]; rfl) (by simp) (by simp [maxLen]) (by simp) ⟨by simp,by simp⟩ (by simp) (.inl rfl)⟩)
   exact ⟨u,d',by show rel w _ L0 (m' k) true d' [] (R' k) u; rw [show R' k=(st.roots k).turn (fun _=>.sl true none es none []) q from by rw [hR',aC]]; exact hd'⟩
  ·refine ⟨u,d,?_⟩;show rel w _ L0 (m' k) true d [] (R' k) u;rw [show R' k=st.roots k from by rw [hR',aO e]];exact av (fun b _ hb=>⟨hS b hb,rfl⟩) d (fun _ _ _ h=>h) (fun _ _ _ _ _ _=>rfl) (fun _ q0 _=>Mn _ _ (fun h=>e h.1)) hr
 ·intro k p k' p' b h1 h2 h3 h4;obtain ⟨g1,g2,_⟩:=hown k p b h1 h3;obtain ⟨g3,g4,_⟩:=hown k' p' b h2 h4;exact H.inj k p k' p' b g1 g3 g2 g4
 ·intro k p b h1 h2;obtain ⟨g1,g2,_⟩:=hown k p b h1 h2;exact H.own k p b g1 g2
def OH {k:Nat} {f:Nat->C} {R:Nat->C} (n:Nat) (q:aq) (es:Nat) {c':C} (hq:(R n).at q=some (.val (.slice none 0 0))) (hc:(R n).turn (fun _=>.sl true none es none []) q=c') :
  aX ⟨tab k f,R⟩ ⟨tab k f,upd R n c'⟩:=by
 subst hc;rintro X a w ⟨m,H⟩;exact H.nilO es hq
def ar.nilF (H:ar X m st a w) {n:Nat} {q:aq} (es:Nat) (hq:(st.roots n).at q=some (.val (.slice none 0 0))) :
  ∃ m',ar X m' { st with roots:=upd st.roots n ((st.roots n).turn (fun _=>.sl false none es none []) q) } a w:=by
 obtain ⟨m',hm'⟩:∃ m':Nat->aq->Value,m'=fun n' p=>if n'=n/\p=q then .slice none 0 0 else m n' p:=⟨_,rfl⟩
 have M1:m' n q=.slice none 0 0:=by rw [hm']; simp
 have Mn:∀ n' p,¬ (n'=n/\p=q)->m' n' p=m n' p:=by intro n' p h; rw [hm']; simp [h]
 obtain ⟨R',hR'⟩:∃ R',R'=upd st.roots n ((st.roots n).turn (fun _=>.sl false none es none []) q):=⟨_,rfl⟩;have hown:∀ n' p b,ak (R' n') p->blk (m' n' p)=some b->ak (st.roots n') p/\blk (m n' p)=some b/\¬ (n'=n/\p=q):=by
  intro n' p b ho hb;by_cases e:n'=n
  ·subst e;rw [hR',aC] at ho;rcases ak.of_turn hq ho with ⟨r,rfl,h2⟩|⟨h1,h2⟩
   ·exact absurd h2 (by cases r<;>simp [ak,C.at,C.kid,C.isOwn])
   ·have hne:¬ (n'=n'/\p=q):=fun h=>h1 [] (by simp [h.2]);rw [Mn _ _ hne] at hb;exact ⟨h2,hb,hne⟩
  ·rw [hR',aO e] at ho;have hne:¬ (n'=n/\p=q):=fun h=>e h.1;rw [Mn _ _ hne] at hb;exact ⟨ho,hb,hne⟩
 have hS:∀ b,X.S st.roots m b->X.S R' m' b:=by
  rintro b ⟨h1,h2⟩;refine ⟨h1,?_⟩;rintro ⟨n',p,ho,hb⟩;obtain ⟨g1,g2,_⟩:=hown n' p b ho hb;exact h2 ⟨n',p,g1,g2⟩
 have hnoq:∀ r,r≠[]->(st.roots n).at (q++r)=none:=by
  intro r hr;rw [C.at_append,hq];cases r with
  | nil=>exact (hr rfl).elim
  | cons x r=>rfl
 have hL:∀ v u,Lv st.roots m v u->Lv R' m' v u:=by
  intro v u hl;have key:∀ k p nl es' cap rows,(st.roots k).at p=some (.sl true nl es' cap rows)->¬ (k=n/\p=q)/\∃ rows',(R' k).at p=some (.sl true nl es' cap rows')/\rows'.length=rows.length:=by
   intro k p nl es' cap rows hk;by_cases e:k=n
   ·subst e;have hpq:∀ r,p≠q++r:=by
     rintro r rfl;by_cases hr:r=[]
     ·subst hr; rw [adg,hq] at hk; cases hk
     ·rw [hnoq r hr] at hk; cases hk
    obtain ⟨x',e1,_,e3⟩:=C.at_turn_off (fun _=>.sl false none es none []) q p (st.roots k) _ _ hq hpq hk;obtain ⟨rows',rfl,e4⟩:=e3 nl es' cap rows rfl;exact ⟨fun h=>hpq [] (by simp [h.2]),rows',by rw [hR',aC]; exact e1,e4⟩
   ·exact ⟨fun h=>e h.1,rows,by rw [hR',aO e]; exact hk,rfl⟩
  cases v with
  | pref k p i j=>
   obtain ⟨nl,es',cap,rows,b,off,kk,g1,g2,g3⟩:=hl;obtain ⟨hne,rows',g4,g5⟩:=key k p _ _ _ _ g1;exact ⟨nl,es',cap,rows',b,off,kk,g4,by rw [Mn _ _ hne,g5]; exact g2,g3⟩
  | pal k p lo len c=>
   obtain ⟨nl,es',cap,rows,a0,kk,a',k',g1,g2,g3,g4⟩:=hl;obtain ⟨hne,rows',g5,g6⟩:=key k p _ _ _ _ g1;exact ⟨nl,es',cap,rows',a0,kk,a',k',g5,by rw [Mn _ _ hne,g6]; exact g2,by rw [g6]; exact g3,g4⟩
  | _=>exact hl
 rw [<-hR'];refine ⟨m',⟨H.len,?_,?_,?_,?_,H.fr,H.df⟩⟩
 ·intro t c hc;obtain ⟨u,d,h1,h2⟩:=H.tmp t c hc;exact ⟨u,d,h1,av (fun b _ hb=>⟨hS b hb,rfl⟩) d (fun v u _ h=>hL v u h) (fun h=>by simp at h) (fun h=>by simp at h) h2⟩
 ·intro k;obtain ⟨u,d,hr⟩:=H.root k;by_cases e:k=n
  ·subst e;obtain ⟨d',hd'⟩:=AH (f:=fun _=>C.sl false none es none []) (m':=m' k) (S':=X.S R' m') (w':=w) (fun b _ hb=>⟨hS b hb,rfl⟩) q hr hq (fun _ _ _ _ _ _=>rfl) (by
    intro q1 ho hne;simp only [acV];exact Mn _ _ (fun h=>hne [] (by simp [h.2]))) (by
    intro u0 d0 h0;simp only [acV] at h0 ⊢;cases d0 with
    | zero=>exact h0.elim
    | succ d0=>
     have hu:u0=.slice none 0 0:=h0;subst hu;exact ⟨1,none,0,rfl,acU _,by decide,by simp,by simp,by simp,by simp,.inl rfl⟩)
   exact ⟨u,d',by show rel w _ L0 (m' k) true d' [] (R' k) u; rw [show R' k=(st.roots k).turn (fun _=>.sl false none es none []) q from by rw [hR',aC]]; exact hd'⟩
  ·refine ⟨u,d,?_⟩;show rel w _ L0 (m' k) true d [] (R' k) u;rw [show R' k=st.roots k from by rw [hR',aO e]];exact av (fun b _ hb=>⟨hS b hb,rfl⟩) d (fun _ _ _ h=>h) (fun _ _ _ _ _ _=>rfl) (fun _ q0 _=>Mn _ _ (fun h=>e h.1)) hr
 ·intro k p k' p' b h1 h2 h3 h4;obtain ⟨g1,g2,_⟩:=hown k p b h1 h3;obtain ⟨g3,g4,_⟩:=hown k' p' b h2 h4;exact H.inj k p k' p' b g1 g3 g2 g4
 ·intro k p b h1 h2;obtain ⟨g1,g2,_⟩:=hown k p b h1 h2;exact H.own k p b g1 g2
def El {k:Nat} {f:Nat->C} {R:Nat->C} (n:Nat) (q:aq) (es:Nat) {c':C} (hq:(R n).at q=some (.val (.slice none 0 0))) (hc:(R n).turn (fun _=>.sl false none es none []) q=c') :
  aX ⟨tab k f,R⟩ ⟨tab k f,upd R n c'⟩:=by
 subst hc;rintro X a w ⟨m,H⟩;exact H.nilF es hq
def VS {w:World} {S S':Nat->Prop} {m:aq->Value} (hS:∀ b,S b->S' b) {nl:Option Bool} {es:Nat} {cap:Option Nat} {rows rows':List (List C)} (h:dw rows rows') (hn:∀ row∈rows',∀ c∈row,bV c) {d:Nat} {u:Value} {p0:aq}
  (hO:∀ i j q b,ak (.sl true nl es cap rows) ((i,j)::q)->blk (m (p0++(i,j)::q))=some b->S' b)
  (hr:rel w S L0 m true d p0 (.sl true nl es cap rows) u):rel w S' L0 m true (d+1) p0 (.sl true nl es cap rows') u:=by
 cases d with
 | zero=>exact hr.elim
 | succ d=>
  obtain ⟨a,k,h1,h2,h3,h4,hz,h5,h6,h7⟩:=hr;refine ⟨a,k,by rw [h.len]; exact h1,by rw [h.len]; exact h2,h3,h4,hz,?_,fun _=>h6 rfl,?_⟩
  ·intro row' hrow;obtain ⟨i,hi,e⟩:=afC hrow;have hlt:i < rows.length:=by rw [<-h.len]; exact hi
   have:=h.get i rows[i] row' (by simp [hlt]) (by simp [hi,e]);rw [this.len];exact h5 _ (adF hlt)
  ·rcases h7 with h7|h7|⟨b,off,arr,elem,frz,g1,g2,g3,g4,g5⟩
   ·exact .inl h7
   ·simp at h7
   ·refine .inr (.inr ⟨b,off,arr,elem,frz,g1,g2,fun h=>by simp at h,g4,?_⟩);intro i j row' c' e1 e2;have hlt:i < rows.length:=by rw [<-h.len]; exact (acD.1 e1).1
    have hrow:rows[i]?=some rows[i]:=by simp [hlt]
    have hle:=h.get i rows[i] row' hrow e1;have hltj:j < rows[i].length:=by rw [<-hle.len]; exact (acD.1 e2).1
    have hc:rows[i][j]?=some rows[i][j]:=by simp [hltj]
    obtain ⟨u',e3,e4⟩:=g5 i j _ _ hrow hc;have hnc:=hn row' (acE e1) c' (acE e2);refine ⟨u',e3,aT d (d+1) (aeL _) (Ec d hnc (hle.get j _ c' hc e2 _ _ _ m _ p0 d u' (qR (S:=S) (S':=S') (m:=m) (m':=m) (p:=p0++[(i,j)]) (p':=p0) hS d ?_ e4)))⟩;intro _ q b' hq hb;refine hO i j q b' ?_ (by simpa using hb);simp only [ak,C.at,C.kid,hrow,acC,hc]; exact hq
def ar.tellP (H:ar X m st a w) {n:Nat} {q:aq} {nl:Option Bool} {es:Nat} {cap:Option Nat} {rows rows':List (List C)} (hq:(st.roots n).at q=some (.sl true nl es cap rows)) (hle:dw rows rows') (hn:∀ row∈rows',∀ c∈row,bV c) :
  ar X m { tmps:=st.tmps.map (poi fun n' p'=>n' == n && kQ q p'),roots:=upd st.roots n ((st.roots n).turn (fun _=>.sl true nl es cap rows') q) } a w:=by
 obtain ⟨R',hR'⟩:∃ R',R'=upd st.roots n ((st.roots n).turn (fun _=>.sl true nl es cap rows') q):=⟨_,rfl⟩;have hown:∀ k p,ak (R' k) p->ak (st.roots k) p/\(k=n->∀ r,p=q++r->r=[]):=by
  intro k p ho;by_cases e:k=n
  ·subst e;rw [hR',aC] at ho;rcases ak.of_turn hq ho with ⟨r,rfl,h2⟩|⟨h1,h2⟩
   ·have hr:=oc hn h2;subst hr;refine ⟨?_,fun _ r hr=>by simpa using hr⟩;simp only [ak,adg,hq]; rfl
   ·exact ⟨h2,fun _ r hr=>absurd hr (h1 r)⟩
  ·rw [hR',aO e] at ho;exact ⟨ho,fun h=>absurd h e⟩
 have hS:∀ b,X.S st.roots m b->X.S R' m b:=by
  rintro b ⟨h1,h2⟩;refine ⟨h1,?_⟩;rintro ⟨k,p,ho,hb⟩;exact h2 ⟨k,p,(hown k p ho).1,hb⟩
 have hL:∀ v u,(∀ k p,v.place=some (k,p)->(k == n && kQ q p)=false)->Lv st.roots m v u->Lv R' m v u:=by
  intro v u hp hl;have key:∀ k p nl' es' cap' rows0,(k == n && kQ q p)=false->(st.roots k).at p=some (.sl true nl' es' cap' rows0)->∃ rows1,(R' k).at p=some (.sl true nl' es' cap' rows1)/\rows1.length=rows0.length:=by
   intro k p nl' es' cap' rows0 hf hk;by_cases e:k=n
   ·subst e;have hpq:∀ r,p≠q++r:=by
     rintro r rfl;rw [EJ] at hf;simp at hf
    obtain ⟨x',e1,_,e3⟩:=C.at_turn_off (fun _=>.sl true nl es cap rows') q p (st.roots k) _ _ hq hpq hk;obtain ⟨rows1,rfl,e4⟩:=e3 nl' es' cap' rows0 rfl;exact ⟨rows1,by rw [hR',aC]; exact e1,e4⟩
   ·exact ⟨rows0,by rw [hR',aO e]; exact hk,rfl⟩
  cases v with
  | pref k p i j=>
   obtain ⟨nl',es',cap',rows0,b,off,kk,g1,g2,g3⟩:=hl;obtain ⟨rows1,g4,g5⟩:=key k p _ _ _ _ (hp k p rfl) g1;exact ⟨nl',es',cap',rows1,b,off,kk,g4,by rw [g5]; exact g2,g3⟩
  | pal k p lo len c=>
   obtain ⟨nl',es',cap',rows0,a0,kk,a',k',g1,g2,g3,g4⟩:=hl;obtain ⟨rows1,g5,g6⟩:=key k p _ _ _ _ (hp k p rfl) g1;exact ⟨nl',es',cap',rows1,a0,kk,a',k',g5,by rw [g6]; exact g2,by rw [g6]; exact g3,g4⟩
  | _=>exact hl
 rw [<-hR'];refine ⟨by simp [H.len],?_,?_,?_,?_,H.fr,H.df⟩
 ·intro t c hc;simp only [acK,acF] at hc;obtain ⟨c0,h0,rfl⟩:=hc;obtain ⟨u,d,h1,h2⟩:=H.tmp t c0 h0;rcases jW (fun n' p'=>n' == n && kQ q p') c0 with e|⟨e,hm⟩
  ·rw [e]; exact ⟨u,1,h1,trivial⟩
  ·rw [e];refine ⟨u,d,h1,av (fun b _ hb=>⟨hS b hb,rfl⟩) d (fun v uv ho hl=>?_) (fun h=>by simp at h) (fun h=>by simp at h) h2⟩;refine hL v uv ?_ hl;intro k p hpl;obtain ⟨k',p',e1,e2⟩:=iC d 3 c0 v hm ho;rw [hpl] at e1;simp only [acB,acY] at e1;obtain ⟨rfl,rfl⟩:=e1;simpa using e2
 ·intro k;obtain ⟨u,d,hr⟩:=H.root k;by_cases e:k=n
  ·subst e;obtain ⟨d',hd'⟩:=AH (f:=fun _=>C.sl true nl es cap rows') (m':=m k) (S':=X.S R' m) (w':=w) (fun b _ hb=>⟨hS b hb,rfl⟩) q hr hq (fun _ _ _ _ _ _=>rfl) (fun _ _ _=>rfl) (by
    intro u0 d0 h0;simp only [acV] at h0 ⊢;refine ⟨d0+1,VS hS hle hn (fun i j q' b ho hb=>?_) h0⟩;have ho':ak (st.roots k) (q++(i,j)::q'):=by
     unfold ak at ho ⊢;rw [C.at_append,hq]; exact ho
    refine ⟨(H.own _ _ b ho' hb).elim .inr (fun h=>.inl (X.kS b h)),?_⟩;rintro ⟨k',p',ho2,hb2⟩;obtain ⟨ho3,hp⟩:=hown k' p' ho2;obtain ⟨e1,e2⟩:=H.inj _ _ _ _ b ho3 ho' hb2 hb;cases hp e1 _ e2)
   exact ⟨u,d',by show rel w _ L0 (m k) true d' [] (R' k) u; rw [show R' k=(st.roots k).turn (fun _=>.sl true nl es cap rows') q from by rw [hR',aC]]; exact hd'⟩
  ·refine ⟨u,d,?_⟩;show rel w _ L0 (m k) true d [] (R' k) u;rw [show R' k=st.roots k from by rw [hR',aO e]];exact av (fun b _ hb=>⟨hS b hb,rfl⟩) d (fun _ _ _ h=>h) (fun _ _ _ _ _ _=>rfl) (fun _ _ _=>rfl) hr
 ·intro k p k' p' b h1 h2;exact H.inj k p k' p' b (hown k p h1).1 (hown k' p' h2).1
 ·intro k p b h1;exact H.own k p b (hown k p h1).1
def Sv {α:Type} (row0 row:α->List C) [hrow:yN row] [hF:NT row0 row] {k:Nat} {f f':Nat->C} {R:Nat->C} (n:Nat) (q:aq) {nl:Option Bool} {es:Nat} {cap:Option Nat} (l:List α) {c':C} (hq:(R n).at q=some (.sl true nl es cap (l.map row0))) (hf:uN (fun n' p'=>n' == n && kQ q p') f=f') (hc:(R n).turn (fun _=>.sl true nl es cap (l.map row)) q=c') :
  aX ⟨tab k f,R⟩ ⟨tab k f',upd R n c'⟩:=by
 subst hf; subst hc;rintro X a w ⟨m,H⟩;have:=H.tellP hq (dw.map hF.h l) (hrow.ok.noOwn l);exact ⟨m,by simpa [C5] using this⟩
def vW {k:IntKind} {c:C} {n:Int} (h:aG k c=some n):c=.val (.int k n):=by
 unfold aG at h;split at h
 ·split at h
  ·rename_i e; subst e; cases h; rfl
  ·cases h
 ·cases h
def YI {c:C} {n:Bool} (h:DM c=some n):c=.val (.bool n):=by
 unfold DM at h;split at h
 ·cases h; rfl
 ·cases h
def zb {c:C} {n:ByteArray} (h:bW c=some n):c=.val (.string n):=by
 unfold bW at h;split at h
 ·cases h; rfl
 ·cases h
def M0 {α:Type} {d:List C->Option α} {row:α->List C} (hd:∀ r x,d r=some x->r=row x):∀ {rows:List (List C)} {l:List α},bR d rows=some l->rows=l.map row:=by
 intro rows
 induction rows with
 | nil=>intro l h; simp only [bR,acB] at h; subst h; rfl
 | cons r rows ih=>
  intro l h;rw [Je] at h;split at h
  ·rename_i x xs h1 h2;simp only [acB] at h;subst h;rw [adP,<-hd _ _ h1,<-ih h2]
  ·cases h
def exL {α:Type} (es:Nat) (d:List C->Option α):C->Option (List α)
 | .sl true none es' none rows=>if es'=es then bR d rows else none
 | _=>none
def Y8 {α:Type} (es:Nat) (d:List C->Option α) (rows:List (List C)):exL es d (.sl true none es none rows)=bR d rows:=by simp only [exL,if_true]
def V5 {α:Type} {es:Nat} {d:List C->Option α} {row:α->List C} (hd:∀ r x,d r=some x->r=row x) {c:C} {l:List α} (h:exL es d c=some l):c=.sl true none es none (l.map row):=by
 unfold exL at h;split at h
 ·split at h
  ·rename_i e; subst e; rw [M0 hd h]
  ·cases h
 ·cases h
def exF {α:Type} (es:Nat) (d:List C->Option α):C->Option (List α)
 | .sl false none es' none rows=>if es'=es then bR d rows else none
 | _=>none
def V8 {α:Type} (es:Nat) (d:List C->Option α) (rows:List (List C)):exF es d (.sl false none es none rows)=bR d rows:=by simp only [exF,if_true]
def PY {α:Type} {es:Nat} {d:List C->Option α} {row:α->List C} (hd:∀ r x,d r=some x->r=row x) {c:C} {l:List α} (h:exF es d c=some l):c=.sl false none es none (l.map row):=by
 unfold exF at h;split at h
 ·split at h
  ·rename_i e; subst e; rw [M0 hd h]
  ·cases h
 ·cases h
def S8 {α:Type} {d:C->Option α} {g:α->C} (hd:∀ c x,d c=some x->c=g x):∀ (r:List C) (x:α),du d r=some x->r=[g x]:=by
 intro r x h;unfold du at h;split at h
 ·rw [hd _ _ h]
 ·cases h
attribute [go_sem] exL exF
def Vq {α:Type} {row:α->List C} {l:List α} {r:List C}:(l.map row++[r])[l.length]?=some r:=by simp
def UU {α:Type} {row:α->List C} {l:List α} {r:List C} {g:List C->List C}:(l.map row++[r]).modify l.length g=l.map row++[g r]:=by
 apply adU;intro j;rw [AQ];by_cases h1:j < l.length
 ·rw [if_neg (by omega),acN (by simpa using h1),acN (by simpa using h1)]
 ·by_cases h2:l.length=j
  ·subst h2; simp
  ·rw [if_neg h2,acP (by simpa using h1),acP (by simpa using h1)];obtain ⟨k,hk⟩:∃ k,j - l.length=k+1:=⟨j - l.length - 1,by omega⟩;simp [hk]
def oA {α:Type} {row:α->List C} {l:List α} {i:Nat} {y:α} {rc:List C} (h:row y=rc):(l.map row).set i rc=(l.set i y).map row:=by
 subst h;apply adU;intro j;simp only [acK,adj,acL];by_cases e:i=j
 ·subst e;by_cases h2:i < l.length<;>simp [h2]
 ·simp [e]
def Vb {α:Type} {row:α->List C} {l:List α} {i:Nat} {x:α} {rc:List C} (hx:l[i]?=some x) (h:row x=rc):(l.map row).set i rc=l.map row:=by
 rw [oA h]
 congr 1
 apply adU;intro j;rw [adj];by_cases e:i=j
 ·subst e;have:=(acD.1 hx).1;rw [if_pos rfl,if_pos this,hx]
 ·rw [if_neg e]
def y4 {k n:Nat} {f:Nat->C} {R:Nat->C} {c c':C} (hR:R n=c) (h:c=c'):aX ⟨tab k f,R⟩ ⟨tab k f,upd R n c'⟩:=by
 subst h;have hu:upd R n c=R:=by
  funext t; unfold upd; split
  ·rename_i e; rw [e,hR]
  ·rfl
 rw [hu];exact fun _ _ _ h=>h
def IX {f:FuncId} {fl:FnL} (hk:fl.k≠0) (hp:fl.pure=false) (h:∀ cs rest r ls,cs.length=fl.k->fl.fn cs rest=some (r,ls)->mI P f fl.k (cs++rest) r ls):wQ P f fl:=
 ⟨fun _=>h,fun _ h'=>by (rw [hp] at h'; cases h'),fun h'=>(hk h').elim⟩
attribute [go_sem] mT
end
end Go.Abs
