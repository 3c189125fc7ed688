/- A library of readings of Go values with their ownership,and of walks on them. No statement of the program. -/
import Derived.Test.YteldkhmcgloafaaAbsD
import Derived.Lib.Overlaps
import Derived.WalkKit
import Derived.ProofKit
import Derived.OpenShut
import Derived.ReadAgain
import Derived.ChangeArms
import Derived.SizedLaws
import Derived.Carry
import Derived.LoopN
set_option linter.unusedSimpArgs false
set_option linter.unusedVariables false
namespace Go.Abs
def stepR (E:Env) (draw:Bool) (bar:Nat->Bool) (i:Nat) (o:Oper) (st:St):Option St:=
 match draw with
 | false=>exe E o st
 | true=>match bodySE E o st with
  | some e=>match e.apply st with
   | some s=>some s
   | none=>if bar i=true then exe E o st else none
  | none=>if bar i=true then exe E o st else none
def RX (E:Env) (draw:Bool) (gd:Nat->Option Tmp) (bar:Nat->Bool):Nat->List Oper->St->(St->Prop)->Prop
 | _,[],st,Z=>Z st
 | i,o::l,st,Z=>match o.guard with
  | none=>match stepR E draw bar i o st with
   | some st'=>RX E draw gd bar (i+1) l st' Z
   | none=>False
  | some (j,want)=>match gd j with
   | some t=>match st.tmps[t]? with
    | some (.val (.bool b))=>if b=want then match stepR E draw bar i o st with
      | some st'=>RX E draw gd bar (i+1) l st' Z
      | none=>False
     else RX E draw gd bar (i+1) l (st.put o.dst (.val undef)) Z
    | some (.val (.tuple _))=>RX E draw gd bar (i+1) l (st.put o.dst (.val undef)) Z
    | _=>False
   | none=>False
def gdOf (ops:Array Oper) (j:Nat):Option Tmp:=(ops[j]?).bind (·.dst)
theorem RX_run {E:Env} {ops:Array Oper}:∀ (l:List Oper) (i:Nat) (st:St) (Z:St->Prop),RX E false (gdOf ops) (barC ops) i l st Z->∃ st',runL E ops l st=some st'/\Z st':=by
 intro l
 induction l with
 | nil=>intro i st Z h; exact ⟨st,rfl,h⟩
 | cons o l ih=>
  intro i st Z h;have go:∀ s,stepO E ops o st=some s->RX E false (gdOf ops) (barC ops) (i+1) l s Z->∃ st',runL E ops (o::l) st=some st'/\Z st':=by
   intro s hs hr;obtain ⟨s2,h1,h2⟩:=ih _ _ _ hr;exact ⟨s2,by simp [runL,hs,h1],h2⟩
  unfold RX at h;split at h
  ·rename_i hg;split at h
   ·rename_i s hs;exact go s (by simpa [stepO,hg,stepR] using hs) h
   ·exact h.elim
  ·rename_i j want hg;split at h
   case h_2=>exact h.elim
   rename_i t ht;simp only [gdOf] at ht;split at h
   ·rename_i b hb;split at h
    ·rename_i hbw;split at h
     ·rename_i s hs;exact go s (by simpa [stepO,hg,ht,hb,hbw,stepR] using hs) h
     ·exact h.elim
    ·rename_i hbw;exact go _ (by simp [stepO,hg,ht,hb,hbw]) h
   ·rename_i vs hb;exact go _ (by simp [stepO,hg,ht,hb]) h
   ·exact h.elim
theorem C0 {E:Env} {ops:Array Oper}:∀ (l:List Oper) (i:Nat) (st:St) (Z:St->Prop),RX E true (gdOf ops) (barC ops) i l st Z->∃ st',runDL E ops i l st=some st'/\Z st':=by
 intro l
 induction l with
 | nil=>intro i st Z h; exact ⟨st,rfl,h⟩
 | cons o l ih=>
  intro i st Z h;have go:∀ s,stepE E ops i o st=some s->RX E true (gdOf ops) (barC ops) (i+1) l s Z->∃ st',runDL E ops i (o::l) st=some st'/\Z st':=by
   intro s hs hr;obtain ⟨s2,h1,h2⟩:=ih _ _ _ hr;exact ⟨s2,by simp [runDL,hs,h1],h2⟩
  have run:∀ s,(∀ x,bodySE E o st=x->seff E ops o st=x)->(∀ x,exe E o st=x->stepO E ops o st=x)->stepR E true (barC ops) i o st=some s->stepE E ops i o st=some s:=by
   intro s h1 h2 hs;unfold stepE aC;rw [h1 _ rfl];simp only [stepR] at hs;split at hs
   ·rename_i e he;simp only [he];split at hs
    ·rename_i s0 hs0; simp only [hs0]; exact hs
    ·rename_i hs0;simp only [hs0];split at hs
     ·rename_i hb; rw [if_pos hb]; exact h2 _ hs
     ·simp at hs
   ·rename_i he;simp only [he];split at hs
    ·rename_i hb; rw [if_pos hb]; exact h2 _ hs
    ·simp at hs
  unfold RX at h;split at h
  ·rename_i hg;split at h
   ·rename_i s hs;exact go s (run s (fun x hx=>by simpa [seff,hg] using hx) (fun x hx=>by simpa [stepO,hg] using hx) hs) h
   ·exact h.elim
  ·rename_i j want hg;split at h
   case h_2=>exact h.elim
   rename_i t ht;simp only [gdOf] at ht;have skip:seff E ops o st=some (.q o.dst (.val undef))->stepE E ops i o st=some (st.put o.dst (.val undef)):=by
    intro hs; simp [stepE,aC,hs,SE.apply]
   split at h
   ·rename_i b hb;split at h
    ·rename_i hbw;split at h
     ·rename_i s hs;exact go s (run s (fun x hx=>by simpa [seff,hg,ht,hb,hbw] using hx) (fun x hx=>by simpa [stepO,hg,ht,hb,hbw] using hx) hs) h
     ·exact h.elim
    ·rename_i hbw;exact go _ (skip (by simp [seff,hg,ht,hb,hbw])) h
   ·rename_i vs hb;exact go _ (skip (by simp [seff,hg,ht,hb])) h
   ·exact h.elim
theorem run_RX {E:Env} {ops:Array Oper}:∀ (l:List Oper) (i:Nat) (st st':St) (Z:St->Prop),runL E ops l st=some st'->Z st'->RX E false (gdOf ops) (barC ops) i l st Z:=by
 intro l
 induction l with
 | nil=>intro i st st' Z h hz; simp only [runL,Option.some.injEq] at h; subst h; exact hz
 | cons o l ih=>
  intro i st st' Z h hz;simp only [runL] at h;split at h
  case h_2=>simp at h
  rename_i s hs;have hr:=ih (i+1) s st' Z h hz;unfold stepO at hs;rw [RX];split at hs
  ·rename_i hg;simp only [hg,stepR,hs];exact hr
  ·rename_i j want hg;simp only [hg,gdOf];split at hs
   case h_2=>simp at hs
   rename_i t ht;simp only [ht];split at hs
   ·rename_i b hb;simp only [hb];split at hs
    ·rename_i hbw;simp only [hbw,if_true,stepR,hs];exact hr
    ·rename_i hbw;simp only [hbw,if_false];simp only [Option.some.injEq] at hs;subst hs;exact hr
   ·rename_i vs hb;simp only [hb];simp only [Option.some.injEq] at hs;subst hs;exact hr
   ·simp at hs
theorem CM {E:Env} {ops:Array Oper}:∀ (l:List Oper) (i:Nat) (st st':St) (Z:St->Prop),runDL E ops i l st=some st'->Z st'->RX E true (gdOf ops) (barC ops) i l st Z:=by
 intro l
 induction l with
 | nil=>intro i st st' Z h hz; simp only [runDL,Option.some.injEq] at h; subst h; exact hz
 | cons o l ih=>
  intro i st st' Z h hz;simp only [runDL] at h;split at h
  case h_2=>simp at h
  rename_i s hs;have hr:=ih (i+1) s st' Z h hz;have body:(∀ x,bodySE E o st=x->seff E ops o st=x)->(∀ x,exe E o st=x->stepO E ops o st=x)->stepR E true (barC ops) i o st=some s:=by
   intro h1 h2;unfold stepE aC at hs;rw [h1 _ rfl] at hs;rw [h2 _ rfl] at hs;simp only [stepR];cases hb:bodySE E o st with
   | none=>simp only [hb] at hs ⊢; exact hs
   | some e=>
    simp only [hb] at hs ⊢;cases he:e.apply st with
    | none=>simp only [he] at hs ⊢; exact hs
    | some s1=>simp only [he] at hs ⊢; exact hs
  rw [RX];split
  ·rename_i hg;simp only [body (fun x hx=>by simpa [seff,hg] using hx) (fun x hx=>by simpa [stepO,hg] using hx)];exact hr
  ·rename_i j want hg;have skip:∀ s':St,seff E ops o st=some (.q o.dst (.val undef))->s=st.put o.dst (.val undef):=by
    intro s' h1;simp only [stepE,aC,h1,SE.apply,Option.some.injEq] at hs;exact hs.symm
   have dead:seff E ops o st=none->stepO E ops o st=none->False:=by
    intro h1 h2;simp [stepE,aC,h1,h2] at hs
   simp only [gdOf];cases ht:(ops[j]?).bind (·.dst) with
   | none=>exact dead (by simp [seff,hg,ht]) (by simp [stepO,hg,ht])
   | some t=>
    simp only;split
    ·rename_i b hb;split
     ·rename_i hbw;simp only [body (fun x hx=>by simpa [seff,hg,ht,hb,hbw] using hx) (fun x hx=>by simpa [stepO,hg,ht,hb,hbw] using hx)];exact hr
     ·rename_i hbw;have:=skip st (by simp [seff,hg,ht,hb,hbw]);rw [<-this];exact hr
    ·rename_i vs hb;have:=skip st (by simp [seff,hg,ht,hb]);rw [<-this];exact hr
    ·rename_i h1 h2;refine dead ?_ ?_
     ·simp only [seff,hg,ht];try split
     ·simp only [stepO,hg,ht];try split
inductive Fm where
 | sq (y:Code)
 | bl (id:Nat)
 | lp (J:St->Prop)
 | sc
 | sk (y:Code)
def ap (E:Env) (Q:Exit->St->Prop):List Fm->Exit->St->Prop
 | [],e,s=>Q e s
 | .sq y::K,e,s=>match e with
  | .normal=>W E y (ap E Q K) s
  | e=>ap E Q K e s
 | .bl id::K,e,s=>match e with
  | .exit i=>if i=id then ap E Q K .normal s else ap E Q K (.exit i) s
  | e=>ap E Q K e s
 | .lp J::K,e,s=>match e with
  | .normal=>J s
  | e=>ap E Q K e s
 | .sc::K,e,s=>match e with
  | .goto _=>False
  | e=>ap E Q K e s
 | .sk y::K,e,s=>match e with
  | .normal=>Wk E y (ap E Q K) s
  | e=>ap E Q K e s
section
variable {E:Env} {Q:Exit->St->Prop} {K:List Fm} {st:St}
theorem ua {c:Code} (h:W E c (ap E Q []) st):W E c Q st:=h
@[go_sem] theorem W_skip:W E .skip (ap E Q K) st=ap E Q K .normal st:=rfl
@[go_sem] theorem W_seq {x y:Code}:W E (.seq x y) (ap E Q K) st=W E x (ap E Q (.sq y::K)) st:=by
 simp only [W]
 congr 1
@[go_sem] theorem W_exit {id:Nat}:W E (.exit id) (ap E Q K) st=ap E Q K (.exit id) st:=rfl
@[go_sem] theorem DY {id:Nat}:W E (.label id) (ap E Q K) st=ap E Q K .normal st:=rfl
@[go_sem] theorem W_ret:W E .ret (ap E Q K) st=ap E Q K .ret st:=rfl
@[go_sem] theorem ap_nil {e:Exit}:ap E Q [] e st=Q e st:=rfl
@[go_sem] theorem ap_sq {y:Code}:ap E Q (.sq y::K) .normal st=W E y (ap E Q K) st:=rfl
@[go_sem] theorem DI {y:Code}:ap E Q (.sq y::K) .ret st=ap E Q K .ret st:=rfl
@[go_sem] theorem Dy {y:Code} {i:Nat}:ap E Q (.sq y::K) (.exit i) st=ap E Q K (.exit i) st:=rfl
@[go_sem] theorem ap_bl {id:Nat}:ap E Q (.bl id::K) .normal st=ap E Q K .normal st:=rfl
@[go_sem] theorem DB {id:Nat}:ap E Q (.bl id::K) .ret st=ap E Q K .ret st:=rfl
@[go_sem] theorem zV {id i:Nat}:ap E Q (.bl id::K) (.exit i) st=if i=id then ap E Q K .normal st else ap E Q K (.exit i) st:=rfl
@[go_sem] theorem ap_lp {J:St->Prop}:ap E Q (.lp J::K) .normal st=J st:=rfl
@[go_sem] theorem DJ {J:St->Prop}:ap E Q (.lp J::K) .ret st=ap E Q K .ret st:=rfl
@[go_sem] theorem Dw {J:St->Prop} {i:Nat}:ap E Q (.lp J::K) (.exit i) st=ap E Q K (.exit i) st:=rfl
@[go_sem] theorem ap_sk {y:Code}:ap E Q (.sk y::K) .normal st=Wk E y (ap E Q K) st:=rfl
@[go_sem] theorem DH {y:Code}:ap E Q (.sk y::K) .ret st=ap E Q K .ret st:=rfl
@[go_sem] theorem Dx {y:Code} {i:Nat}:ap E Q (.sk y::K) (.exit i) st=ap E Q K (.exit i) st:=rfl
@[go_sem] theorem ap_sc:ap E Q (.sc::K) .normal st=ap E Q K .normal st:=rfl
@[go_sem] theorem DA:ap E Q (.sc::K) .ret st=ap E Q K .ret st:=rfl
@[go_sem] theorem Ds {i:Nat}:ap E Q (.sc::K) (.exit i) st=ap E Q K (.exit i) st:=rfl
@[go_sem] theorem BU {id:Nat} {ops:Array Oper} {draw:Bool}:W E (.region id ops draw) (ap E Q K) st=RX E draw (gdOf ops) (barC ops) 0 ops.toList st (fun s=>(draw=true->finChk ops s=true)/\ap E Q K .normal s):=by
 refine propext ⟨?_,fun h=>?_⟩
 ·rintro ⟨st',h1,h2⟩;cases draw with
  | true=>
   simp only [pP] at h1;split at h1
   case h_2=>simp at h1
   rename_i s hs;split at h1
   case isFalse=>simp at h1
   rename_i hf;simp only [Option.some.injEq] at h1;subst h1;exact CM _ _ _ _ _ hs ⟨fun _=>hf,h2⟩
  | false=>exact run_RX _ _ _ _ _ h1 ⟨fun h=>(by cases h),h2⟩
 ·cases draw with
  | true=>
   obtain ⟨s,h1,h2,h3⟩:=C0 ops.toList 0 st _ h;exact ⟨s,by simp only [pP,h1,h2 rfl,if_true],h3⟩
  | false=>
   obtain ⟨s,h1,_,h3⟩:=RX_run ops.toList 0 st _ h;exact ⟨s,h1,h3⟩
theorem W_cond {c:Operand} {x y:Code} {b:Bool} (hc:st.ev c=.val (.bool b)) (h1:b=true->W E x (ap E Q K) st) (h2:b=false->W E y (ap E Q K) st):W E (.cond c x y) (ap E Q K) st:=by
 simp only [W,hc];exact ⟨h1,h2⟩
section
variable {draw:Bool} {gd:Nat->Option Tmp} {bar:Nat->Bool} {i:Nat} {l:List Oper} {Z:St->Prop} {d:Option Tmp} {ty:TypeId} {pos:String} {after:Array Edge}
theorem RX_put {o:Oper} {c:C} (hg:o.guard=none) (hp:preX E o st=none) (h1:exe0 E o st=put? o st (some c)) (h2:bodySE E o st=qSE o (some c)):RX E draw gd bar i (o::l) st Z=RX E draw gd bar (i+1) l (st.put o.dst c) Z:=by
 rw [RX,hg];simp only [stepR,exe,hp,h1,h2];cases draw<;>simp [put?,qSE,SE.apply]
theorem iu {o:Oper} (hg:o.guard=none) (hp:preX E o st=none) (ha:altX E o st=none) (h1:exe0 E o st=put? o st none) (h2:bodySE E o st=qSE o none):RX E draw gd bar i (o::l) st Z=False:=by
 rw [RX,hg];simp only [stepR,exe,hp,ha,h1,h2];cases draw<;>simp [put?,qSE]
theorem RX_alt {o:Oper} {q:Option C} (hg:o.guard=none) (hp:preX E o st=none) (h1:exe0 E o st=put? o st q) (h2:bodySE E o st=qSE o q):RX E draw gd bar i (o::l) st Z=match (generalizing:=false) q with
  | some c=>RX E draw gd bar (i+1) l (st.put o.dst c) Z
  | none=>match altX E o st with
   | some s=>(draw=true->bar i=true)/\RX E draw gd bar (i+1) l s Z
   | none=>False:=by
 cases q with
 | some c=>exact RX_put hg hp h1 h2
 | none=>
  rw [RX,hg];simp only [stepR,exe,hp,h1,h2,qSE,put?];cases draw with
  | false=>cases altX E o st<;>simp
  | true=>
   by_cases hb:bar i=true
   ·simp only [hb,if_true]; cases altX E o st<;>simp
   ·simp only [hb]; cases altX E o st<;>simp
@[go_sem] theorem RX_nil:RX E draw gd bar i [] st Z=Z st:=rfl
theorem s9 {j:Nat} {want:Bool} {op:Op}:RX E draw gd bar i ({ dst:=d,op:=op,type:=ty,pos:=pos,after:=after,guard:=some (j,want) }::l) st Z =
  match gd j with
   | some t=>match st.ev (.tmp t) with
    | .val (.bool b)=>if b=want then RX E draw gd bar i ({ dst:=d,op:=op,type:=ty,pos:=pos,after:=after,guard:=none }::l) st Z else RX E draw gd bar (i+1) l (st.put d (.val undef)) Z
    | .val (.tuple _)=>RX E draw gd bar (i+1) l (st.put d (.val undef)) Z
    | _=>False
   | none=>False:=by
 rw [RX];simp only;cases hg:gd j with
 | none=>rfl
 | some t=>
  simp only [St.ev];have same:∀ o o':Oper,o.op=o'.op->o.dst=o'.dst->stepR E draw bar i o st=stepR E draw bar i o' st:=by
   rintro ⟨d1,o1,t1,p1,a1,g1⟩ ⟨d2,o2,t2,p2,a2,g2⟩ h1 h2;simp only at h1 h2;subst h1; subst h2;rfl
  cases ht:st.tmps[t]? with
  | none=>simp
  | some c=>
   cases c with
   | val v=>
    cases v<;>simp only [Option.getD_some]
    rename_i b;split
    ·rw [RX];simp only;rw [same];all_goals rfl
    ·rfl
   | _=>simp
def guardV (gd:Nat->Option Tmp) (st:St) (j:Nat):Option (Option Bool):=
 match gd j with
 | some t=>match st.ev (.tmp t) with
  | .val (.bool b)=>some (some b)
  | .val (.tuple _)=>some none
  | _=>none
 | none=>none
@[go_sem] theorem Dk {j:Nat} {want:Bool} {op:Op} (h:guardV gd st j=some (some want)):RX E draw gd bar i ({ dst:=d,op:=op,type:=ty,pos:=pos,after:=after,guard:=some (j,want) }::l) st Z =
  RX E draw gd bar i ({ dst:=d,op:=op,type:=ty,pos:=pos,after:=after,guard:=none }::l) st Z:=by
 rw [s9];unfold guardV at h;cases ht:gd j with
 | none=>simp [ht] at h
 | some t=>
  simp only [ht] at h ⊢;split at h<;>simp_all
@[go_sem] theorem Dd {j:Nat} {want:Bool} {op:Op} (h:guardV gd st j=some (some (!want))):RX E draw gd bar i ({ dst:=d,op:=op,type:=ty,pos:=pos,after:=after,guard:=some (j,want) }::l) st Z =
  RX E draw gd bar (i+1) l (st.put d (.val undef)) Z:=by
 rw [s9];unfold guardV at h;cases ht:gd j with
 | none=>simp [ht] at h
 | some t=>
  simp only [ht] at h ⊢;split at h<;>simp_all
@[go_sem] theorem Di {j:Nat} {want:Bool} {op:Op} (h:guardV gd st j=some none):RX E draw gd bar i ({ dst:=d,op:=op,type:=ty,pos:=pos,after:=after,guard:=some (j,want) }::l) st Z =
  RX E draw gd bar (i+1) l (st.put d (.val undef)) Z:=by
 rw [s9];unfold guardV at h;cases ht:gd j with
 | none=>simp [ht] at h
 | some t=>
  simp only [ht] at h ⊢;split at h<;>simp_all
def pickC (c a b:C):Option C:=
 match c with
 | .val (.bool t)=>some (if t then a else b)
 | _=>none
def s5 (c:C) (k:Nat):Option C:=
 match c with
 | .tup cs=>cs[k]?
 | _=>none
def rW (c:C):Option C:=
 match c with
 | .pref n p i j=>some (.pref n p i j)
 | .iref es rows i j=>some (.iref es rows i j)
 | _=>none
@[go_sem] theorem D3 {x:Operand}:RX E draw gd bar i ({ dst:=d,op:=.move x,type:=ty,pos:=pos,after:=after,guard:=none }::l) st Z=RX E draw gd bar (i+1) l (st.put d (st.ev x)) Z:=
 RX_put rfl rfl rfl rfl
@[go_sem] theorem DF {x:Operand}:RX E draw gd bar i ({ dst:=d,op:=.assign x,type:=ty,pos:=pos,after:=after,guard:=none }::l) st Z=RX E draw gd bar (i+1) l (st.put d (st.ev x)) Z:=
 RX_put rfl rfl rfl rfl
@[go_sem] theorem D5 {c a b:Operand}:RX E draw gd bar i ({ dst:=d,op:=.pick c a b,type:=ty,pos:=pos,after:=after,guard:=none }::l) st Z=match (pickC (st.ev c) (st.ev a) (st.ev b)) with
   | some c=>RX E draw gd bar (i+1) l (st.put d c) Z
   | none=>False:=by
 cases h:(pickC (st.ev c) (st.ev a) (st.ev b)) with
 | none=>exact iu rfl rfl rfl (congrArg (put? _ st) h) (congrArg (qSE _) h)
 | some c=>exact RX_put rfl rfl (congrArg (put? _ st) h) (congrArg (qSE _) h)
@[go_sem] theorem D6 {t:TypeId} {x:Operand}:RX E draw gd bar i ({ dst:=d,op:=.load t x,type:=ty,pos:=pos,after:=after,guard:=none }::l) st Z=match ((E.T t).bind fun ti=>loadC st ti (st.ev x)) with
   | some c=>RX E draw gd bar (i+1) l (st.put d c) Z
   | none=>False:=by
 cases h:((E.T t).bind fun ti=>loadC st ti (st.ev x)) with
 | none=>exact iu rfl rfl rfl (congrArg (put? _ st) h) (congrArg (qSE _) h)
 | some c=>exact RX_put rfl rfl (congrArg (put? _ st) h) (congrArg (qSE _) h)
@[go_sem] theorem Dg {t:TypeId} {x:Operand} {f:Nat}:RX E draw gd bar i ({ dst:=d,op:=.fieldAddr t x f,type:=ty,pos:=pos,after:=after,guard:=none }::l) st Z=match ((E.T t).bind fun ti=>iB E ti f (st.ev x)) with
   | some c=>RX E draw gd bar (i+1) l (st.put d c) Z
   | none=>False:=by
 cases h:((E.T t).bind fun ti=>iB E ti f (st.ev x)) with
 | none=>exact iu rfl rfl rfl (congrArg (put? _ st) h) (congrArg (qSE _) h)
 | some c=>exact RX_put rfl rfl (congrArg (put? _ st) h) (congrArg (qSE _) h)
@[go_sem] theorem Dj {t:TypeId} {x ix:Operand}:RX E draw gd bar i ({ dst:=d,op:=.indexAddr t x ix,type:=ty,pos:=pos,after:=after,guard:=none }::l) st Z=match ((E.T t).bind fun ti=>fq st ti (st.ev x) (st.ev ix)) with
   | some c=>RX E draw gd bar (i+1) l (st.put d c) Z
   | none=>False:=by
 cases h:((E.T t).bind fun ti=>fq st ti (st.ev x) (st.ev ix)) with
 | none=>exact iu rfl rfl rfl (congrArg (put? _ st) h) (congrArg (qSE _) h)
 | some c=>exact RX_put rfl rfl (congrArg (put? _ st) h) (congrArg (qSE _) h)
@[go_sem] theorem DT {bop:BinOp} {t t':TypeId} {x y:Operand}:RX E draw gd bar i ({ dst:=d,op:=.binOp bop t x y t',type:=ty,pos:=pos,after:=after,guard:=none }::l) st Z=match (binC (E.T t) bop (st.ev x) (st.ev y)) with
   | some c=>RX E draw gd bar (i+1) l (st.put d c) Z
   | none=>False:=by
 cases h:(binC (E.T t) bop (st.ev x) (st.ev y)) with
 | none=>exact iu rfl rfl rfl (congrArg (put? _ st) h) (congrArg (qSE _) h)
 | some c=>exact RX_put rfl rfl (congrArg (put? _ st) h) (congrArg (qSE _) h)
@[go_sem] theorem D4 {uop:UnOp} {t:TypeId} {x:Operand}:RX E draw gd bar i ({ dst:=d,op:=.unOp uop t x,type:=ty,pos:=pos,after:=after,guard:=none }::l) st Z=match (unC uop (st.ev x)) with
   | some c=>RX E draw gd bar (i+1) l (st.put d c) Z
   | none=>False:=by
 cases h:(unC uop (st.ev x)) with
 | none=>exact iu rfl rfl rfl (congrArg (put? _ st) h) (congrArg (qSE _) h)
 | some c=>exact RX_put rfl rfl (congrArg (put? _ st) h) (congrArg (qSE _) h)
@[go_sem] theorem Du {t t':TypeId} {x:Operand}:RX E draw gd bar i ({ dst:=d,op:=.convert t t' x,type:=ty,pos:=pos,after:=after,guard:=none }::l) st Z=match (match (if (E.T t).isSome then (E.T t').bind fun ti=>convC ti (st.ev x) else none) with
   | some c=>some c
   | none=>strQ E st t t' (st.ev x)) with
   | some c=>RX E draw gd bar (i+1) l (st.put d c) Z
   | none=>False:=by
 cases h:(match (if (E.T t).isSome then (E.T t').bind fun ti=>convC ti (st.ev x) else none) with
   | some c=>some c
   | none=>strQ E st t t' (st.ev x)) with
 | none=>exact iu rfl rfl rfl (congrArg (put? _ st) h) (congrArg (qSE _) h)
 | some c=>exact RX_put rfl rfl (congrArg (put? _ st) h) (congrArg (qSE _) h)
@[go_sem] theorem Dr {x:Operand} {k:Nat}:RX E draw gd bar i ({ dst:=d,op:=.extract x k,type:=ty,pos:=pos,after:=after,guard:=none }::l) st Z=match (s5 (st.ev x) k) with
   | some c=>RX E draw gd bar (i+1) l (st.put d c) Z
   | none=>False:=by
 cases h:(s5 (st.ev x) k) with
 | none=>exact iu rfl rfl rfl (congrArg (put? _ st) h) (congrArg (qSE _) h)
 | some c=>exact RX_put rfl rfl (congrArg (put? _ st) h) (congrArg (qSE _) h)
@[go_sem] theorem DK {t:TypeId} {x:Operand} {lo hi mx:Option Operand}:RX E draw gd bar i ({ dst:=d,op:=.slice t x lo hi mx,type:=ty,pos:=pos,after:=after,guard:=none }::l) st Z=match ((E.T t).bind fun ti=>sliceC st ti (st.ev x) (lo.map st.ev) (hi.map st.ev) (mx.map st.ev)) with
   | some c=>RX E draw gd bar (i+1) l (st.put d c) Z
   | none=>match altX E { dst:=d,op:=.slice t x lo hi mx,type:=ty,pos:=pos,after:=after,guard:=none } st with
    | some s=>(draw=true->bar i=true)/\RX E draw gd bar (i+1) l s Z
    | none=>False:=
 RX_alt (o:={ dst:=d,op:=.slice t x lo hi mx,type:=ty,pos:=pos,after:=after,guard:=none }) rfl rfl rfl rfl
@[go_sem] theorem Dp {f:FuncId} {first caps:Array Operand}:RX E draw gd bar i ({ dst:=d,op:=.makeFunc (.func f) first caps,type:=ty,pos:=pos,after:=after,guard:=none }::l) st Z=match (if first.size=0/\f < B0 then some (C.clo f (caps.toList.map st.ev)) else if caps.size=0 then some (C.clo (f+B0) (first.toList.map st.ev)) else none) with
   | some c=>RX E draw gd bar (i+1) l (st.put d c) Z
   | none=>False:=by
 cases h:(if first.size=0/\f < B0 then some (C.clo f (caps.toList.map st.ev)) else if caps.size=0 then some (C.clo (f+B0) (first.toList.map st.ev)) else none) with
 | none=>exact iu rfl rfl rfl (congrArg (put? _ st) h) (congrArg (qSE _) h)
 | some c=>exact RX_put rfl rfl (congrArg (put? _ st) h) (congrArg (qSE _) h)
@[go_sem] theorem Dl {x:Operand}:RX E draw gd bar i ({ dst:=d,op:=.nilCheck x,type:=ty,pos:=pos,after:=after,guard:=none }::l) st Z=match (rW (st.ev x)) with
   | some c=>RX E draw gd bar (i+1) l (st.put d c) Z
   | none=>False:=by
 cases h:(rW (st.ev x)) with
 | none=>exact iu rfl rfl rfl (congrArg (put? _ st) h) (congrArg (qSE _) h)
 | some c=>exact RX_put rfl rfl (congrArg (put? _ st) h) (congrArg (qSE _) h)
@[go_sem] theorem DS {t:TypeId} {parts:Array (Nat × Operand)}:RX E draw gd bar i ({ dst:=d,op:=.build t parts,type:=ty,pos:=pos,after:=after,guard:=none }::l) st Z=match ((E.T t).bind fun ti=>buildQ E ti (parts.toList.map fun x=>(x.1,st.ev x.2))) with
   | some c=>RX E draw gd bar (i+1) l (st.put d c) Z
   | none=>False:=by
 cases h:((E.T t).bind fun ti=>buildQ E ti (parts.toList.map fun x=>(x.1,st.ev x.2))) with
 | none=>exact iu rfl rfl rfl (congrArg (put? _ st) h) (congrArg (qSE _) h)
 | some c=>exact RX_put rfl rfl (congrArg (put? _ st) h) (congrArg (qSE _) h)
end
end
end Go.Abs

namespace Go.Abs
section
variable {E:Env} {st:St} {draw:Bool} {gd:Nat->Option Tmp} {bar:Nat->Bool} {i:Nat} {l:List Oper} {Z:St->Prop} {d:Tmp} {ty:TypeId} {pos:String} {after:Array Edge}
def okD (E:Env) (draw:Bool) (bar:Nat->Bool) (i:Nat) (o:Oper) (st:St):Prop:=
 draw=true->(∃ e s,bodySE E o st=some e/\e.apply st=some s)∨bar i=true
theorem B8 {o:Oper} {e:SE} {s:St} (h1:bodySE E o st=some e) (h2:e.apply st=some s):exe E o st=some s:=by
 obtain ⟨d1,o1,t1,p1,a1,g1⟩:=o;have:=kE (E:=E) (ops:=#[]) (o:=⟨d1,o1,t1,p1,a1,none⟩) (st:=st) (st':=s);have h3:bodySE E ⟨d1,o1,t1,p1,a1,none⟩ st=some e:=h1;exact this (by simp [aC,seff,h3,h2])
theorem RX_exe {o:Oper} (hg:o.guard=none):RX E draw gd bar i (o::l) st Z=match exe E o st with
  | some s=>okD E draw bar i o st/\RX E draw gd bar (i+1) l s Z
  | none=>False:=by
 rw [RX,hg];simp only;cases draw with
 | false=>
  simp only [stepR];cases exe E o st<;>simp [okD]
 | true=>
  simp only [stepR];cases hb:bodySE E o st with
  | none=>
   simp only;cases hx:exe E o st with
   | none=>simp
   | some s=>
    by_cases hbar:bar i=true
    ·simp [hbar,okD]
    ·simp [hbar,okD,hb]
  | some e=>
   simp only;cases hap:e.apply st with
   | none=>
    simp only;cases hx:exe E o st with
    | none=>simp
    | some s=>
     by_cases hbar:bar i=true
     ·simp [hbar,okD]
     ·simp [hbar,okD,hb,hap]
   | some s=>
    simp only [B8 hb hap];refine propext ⟨fun h=>⟨fun _=>.inl ⟨e,s,hb,hap⟩,h⟩,fun h=>h.2⟩
@[go_sem] theorem DN {t:TypeId}:RX E draw gd bar i ({ dst:=some d,op:=.alloc t,type:=ty,pos:=pos,after:=after,guard:=none }::l) st Z=match E.T t with
  | some ti=>(draw=true->isDead (st.roots d)=true∨bar i=true)/\RX E draw gd bar (i+1) l (allocX d ti st) Z
  | none=>False:=by
 rw [RX_exe rfl];simp only [exe,preX,exe0,altX];cases ht:E.T t with
 | none=>rfl
 | some ti=>
  simp only
  congr 1
  simp only [okD,bodySE,ht];refine propext (imp_congr_right fun _=>or_congr ⟨?_,?_⟩ Iff.rfl)
  ·rintro ⟨e,s,h1,h2⟩;simp only [Option.some.injEq] at h1;subst h1;simp only [SE.apply] at h2;split at h2
   ·rename_i h; exact h
   ·simp at h2
  ·intro h;exact ⟨_,_,rfl,by simp only [SE.apply]; rw [h]⟩
@[go_sem] theorem RX_box {t:TypeId} {x:Operand}:RX E draw gd bar i ({ dst:=some d,op:=.box t x,type:=ty,pos:=pos,after:=after,guard:=none }::l) st Z=match E.T t with
  | some ti=>match boxX d ti x st with
   | some s=>okD E draw bar i { dst:=some d,op:=.box t x,type:=ty,pos:=pos,after:=after,guard:=none } st/\RX E draw gd bar (i+1) l s Z
   | none=>False
  | none=>False:=by
 rw [RX_exe rfl];simp only [exe,preX,exe0,altX];cases ht:E.T t with
 | none=>rfl
 | some ti=>simp only; cases boxX d ti x st<;>rfl
@[go_sem] theorem Df {t:TypeId} {len:Nat} {parts:Array (Nat × Operand)}:RX E draw gd bar i ({ dst:=some d,op:=.buildSlice t len parts,type:=ty,pos:=pos,after:=after,guard:=none }::l) st Z=match E.T t with
  | some ti=>match fm E d ti len parts.toList st with
   | some s=>okD E draw bar i { dst:=some d,op:=.buildSlice t len parts,type:=ty,pos:=pos,after:=after,guard:=none } st/\RX E draw gd bar (i+1) l s Z
   | none=>False
  | none=>False:=by
 rw [RX_exe rfl];simp only [exe,preX,exe0,altX];cases ht:E.T t with
 | none=>rfl
 | some ti=>simp only; cases fm E d ti len parts.toList st<;>rfl
def sA (E:Env) (t:TypeId) (x v:Operand) (st:St):Bool:=
 match oB E { dst:=none,op:=.store t x v,type:=0,pos := "", after := #[], guard := none } t x v st with
 | some e=>(e.apply st).isSome
 | none=>false
@[go_sem] theorem DR {t:TypeId} {x v:Operand}:RX E draw gd bar i ({ dst:=none,op:=.store t x v,type:=ty,pos:=pos,after:=after,guard:=none }::l) st Z=match E.T t with
  | some ti=>match storeX ti (st.ev x) (st.ev v) st with
   | some s=>(draw=true->(bar i || sA E t x v st)=true)/\RX E draw gd bar (i+1) l s Z
   | none=>False
  | none=>False:=by
 rw [RX_exe rfl];simp only [exe,preX,exe0,altX];cases ht:E.T t with
 | none=>rfl
 | some ti=>
  simp only;cases hs:storeX ti (st.ev x) (st.ev v) st with
  | none=>rfl
  | some s=>
   simp only [okD,bodySE]
   congr 1
   refine propext ⟨fun h hd=>?_,fun h hd=>?_⟩
   ·rcases h hd with ⟨e,s',h1,h2⟩|h
    ·have:sA E t x v st=true:=by
      unfold sA;have h1':oB E { dst:=none,op:=.store t x v,type:=0,pos := "", after := #[], guard := none } t x v st = some e := h1;rw [h1'];simp [h2]
     simp [this]
    ·simp [h]
   ·have:=h hd;rw [Bool.or_eq_true] at this;rcases this with h|h
    ·exact .inr h
    ·unfold sA at h;split at h
     ·rename_i e he;obtain ⟨s',hs'⟩:=Option.isSome_iff_exists.1 h;exact .inl ⟨e,s',he,hs'⟩
     ·simp at h
def appX (E:Env) (d:Nat) (t tx:TypeId) (s x:Operand) (st:St):Option St:=
 match E.T t,E.T tx with
 | some ti,some tix=>match ti.kind with
  | .slice e es=>match (match tix.kind with
    | .slice e' es'=>if e=e'/\es=es' then (match (match E.F d with
      | some false=>(match E.T e with
       | some te=>ey d es te (st.ev s) (st.ev x) st
       | none=>none)
      | some true=>(match E.T e with
       | some te=>ai d es te tix (st.ev s) (st.ev x) st
       | none=>none)
      | none=>dg d es (st.ev s) (st.ev x) st) with
     | some s'=>some s'
     | none=>jG E d ti s x st) else none
    | _=>none) with
   | some s'=>some s'
   | none=>match E.T e with
    | some te=>ai d es te tix (st.ev s) (st.ev x) st
    | none=>none
  | _=>none
 | _,_=>none
@[go_sem] theorem DG {s x:Operand} {t tx:TypeId}:RX E draw gd bar i ({ dst:=some d,op:=.call { callee:=.builtin .append,args:=#[s,x],argTypes:=#[t,tx] },type:=ty,pos:=pos,after:=after,guard:=none }::l) st Z=match appX E d t tx s x st with
  | some s=>(draw=true->bar i=true)/\RX E draw gd bar (i+1) l s Z
  | none=>False:=by
 rw [RX_exe rfl];have e:exe E { dst:=some d,op:=.call { callee:=.builtin .append,args:=#[s,x],argTypes:=#[t,tx] },type:=ty,pos:=pos,after:=after,guard:=none } st=appX E d t tx s x st:=by
  simp only [exe,preX,exe0,altX,appX];cases ht:E.T t with
  | none=>rfl
  | some ti=>
   cases htx:E.T tx with
   | none=>rfl
   | some tix=>
    simp only;cases hk:ti.kind<;>cases hkx:tix.kind<;>(try simp only)<;>(try rfl)
    rename_i e es e' es';by_cases he:e=e'/\es=es'
    ·obtain ⟨rfl,rfl⟩:=he;simp only [and_self,if_true];cases E.F d with
     | some b=>
      cases b with
      | false=>
       simp only;cases E.T e with
       | none=>rfl
       | some te=>simp only; cases ey d es te (st.ev s) (st.ev x) st<;>rfl
      | true=>
       simp only;cases E.T e with
       | none=>rfl
       | some te=>simp only; cases ai d es te tix (st.ev s) (st.ev x) st<;>rfl
     | none=>simp only; cases dg d es (st.ev s) (st.ev x) st<;>rfl
    ·simp only [he,if_false];rfl
 rw [e];cases appX E d t tx s x st with
 | none=>rfl
 | some s=>
  simp only [okD,bodySE]
  congr 1
  simp
def plainB:Builtin->Bool
 | .append=>false
 | .copy=>false
 | .cap=>false
 | _=>true
theorem qq {b:Builtin} {args:Array Operand} {tys:Array TypeId} (hb:plainB b=true):RX E draw gd bar i ({ dst:=some d,op:=.call { callee:=.builtin b,args:=args,argTypes:=tys },type:=ty,pos:=pos,after:=after,guard:=none }::l) st Z =
  match fN ((tys[0]?).bind E.T) b (args.toList.map st.ev) with
   | some c=>RX E draw gd bar (i+1) l (st.put (some d) c) Z
   | none=>False:=by
 have h0:preX E { dst:=some d,op:=.call { callee:=.builtin b,args:=args,argTypes:=tys },type:=ty,pos:=pos,after:=after,guard:=none } st=none:=by
  cases b<;>first|rfl|simp [plainB] at hb
 have h3:altX E { dst:=some d,op:=.call { callee:=.builtin b,args:=args,argTypes:=tys },type:=ty,pos:=pos,after:=after,guard:=none } st=none:=by
  cases b<;>first|rfl|simp [plainB] at hb
 have h1:exe0 E { dst:=some d,op:=.call { callee:=.builtin b,args:=args,argTypes:=tys },type:=ty,pos:=pos,after:=after,guard:=none } st=put? { dst:=some d,op:=.call { callee:=.builtin b,args:=args,argTypes:=tys },type:=ty,pos:=pos,after:=after,guard:=none } st (fN ((tys[0]?).bind E.T) b (args.toList.map st.ev)):=by
  cases b<;>first|rfl|simp [plainB] at hb
 have h2:bodySE E { dst:=some d,op:=.call { callee:=.builtin b,args:=args,argTypes:=tys },type:=ty,pos:=pos,after:=after,guard:=none } st=qSE { dst:=some d,op:=.call { callee:=.builtin b,args:=args,argTypes:=tys },type:=ty,pos:=pos,after:=after,guard:=none } (fN ((tys[0]?).bind E.T) b (args.toList.map st.ev)):=by
  cases b<;>first|rfl|simp [plainB] at hb
 cases h:fN ((tys[0]?).bind E.T) b (args.toList.map st.ev) with
 | none=>exact iu rfl h0 h3 (by rw [h1,h]) (by rw [h2,h])
 | some c=>exact RX_put rfl h0 (by rw [h1,h]) (by rw [h2,h])
@[go_sem] theorem RX_len {args:Array Operand} {tys:Array TypeId}:RX E draw gd bar i ({ dst:=some d,op:=.call { callee:=.builtin .len,args:=args,argTypes:=tys },type:=ty,pos:=pos,after:=after,guard:=none }::l) st Z =
  match fN ((tys[0]?).bind E.T) .len (args.toList.map st.ev) with
   | some c=>RX E draw gd bar (i+1) l (st.put (some d) c) Z
   | none=>False:=qq rfl
@[go_sem] theorem RX_min {args:Array Operand} {tys:Array TypeId}:RX E draw gd bar i ({ dst:=some d,op:=.call { callee:=.builtin .min,args:=args,argTypes:=tys },type:=ty,pos:=pos,after:=after,guard:=none }::l) st Z =
  match fN ((tys[0]?).bind E.T) .min (args.toList.map st.ev) with
   | some c=>RX E draw gd bar (i+1) l (st.put (some d) c) Z
   | none=>False:=qq rfl
@[go_sem] theorem RX_max {args:Array Operand} {tys:Array TypeId}:RX E draw gd bar i ({ dst:=some d,op:=.call { callee:=.builtin .max,args:=args,argTypes:=tys },type:=ty,pos:=pos,after:=after,guard:=none }::l) st Z =
  match fN ((tys[0]?).bind E.T) .max (args.toList.map st.ev) with
   | some c=>RX E draw gd bar (i+1) l (st.put (some d) c) Z
   | none=>False:=qq rfl
@[go_sem] theorem RX_cap {x:Operand} {t:TypeId}:RX E draw gd bar i ({ dst:=some d,op:=.call { callee:=.builtin .cap,args:=#[x],argTypes:=#[t] },type:=ty,pos:=pos,after:=after,guard:=none }::l) st Z =
  match fN (E.T t) .cap [st.ev x] with
   | some c=>RX E draw gd bar (i+1) l (st.put (some d) c) Z
   | none=>match altX E { dst:=some d,op:=.call { callee:=.builtin .cap,args:=#[x],argTypes:=#[t] },type:=ty,pos:=pos,after:=after,guard:=none } st with
    | some s=>(draw=true->bar i=true)/\RX E draw gd bar (i+1) l s Z
    | none=>False:=
 RX_alt (o:={ dst:=some d,op:=.call { callee:=.builtin .cap,args:=#[x],argTypes:=#[t] },type:=ty,pos:=pos,after:=after,guard:=none }) rfl rfl rfl rfl
@[go_sem] theorem bT {x s:Operand} {t tx:TypeId} {d:Option Tmp}:RX E draw gd bar i ({ dst:=d,op:=.call { callee:=.builtin .copy,args:=#[s,x],argTypes:=#[t,tx] },type:=ty,pos:=pos,after:=after,guard:=none }::l) st Z =
  match altX E { dst:=d,op:=.call { callee:=.builtin .copy,args:=#[s,x],argTypes:=#[t,tx] },type:=ty,pos:=pos,after:=after,guard:=none } st with
   | some s=>(draw=true->bar i=true)/\RX E draw gd bar (i+1) l s Z
   | none=>False:=
 RX_alt (q:=none) (o:={ dst:=d,op:=.call { callee:=.builtin .copy,args:=#[s,x],argTypes:=#[t,tx] },type:=ty,pos:=pos,after:=after,guard:=none }) rfl rfl rfl rfl
@[go_sem] theorem DP {x:Operand} {t:TypeId} {d:Option Tmp}:RX E draw gd bar i ({ dst:=d,op:=.call { callee:=.builtin .clear,args:=#[x],argTypes:=#[t] },type:=ty,pos:=pos,after:=after,guard:=none }::l) st Z =
  match altX E { dst:=d,op:=.call { callee:=.builtin .clear,args:=#[x],argTypes:=#[t] },type:=ty,pos:=pos,after:=after,guard:=none } st with
   | some s=>(draw=true->bar i=true)/\RX E draw gd bar (i+1) l s Z
   | none=>False:=
 RX_alt (q:=none) (o:={ dst:=d,op:=.call { callee:=.builtin .clear,args:=#[x],argTypes:=#[t] },type:=ty,pos:=pos,after:=after,guard:=none }) rfl rfl rfl rfl
@[go_sem] theorem Dh {t:TypeId} {x c:Operand}:RX E draw gd bar i ({ dst:=some d,op:=.makeSlice t x c,type:=ty,pos:=pos,after:=after,guard:=none }::l) st Z =
  match mkX E d t (st.ev x) (st.ev c) st with
   | some s=>(draw=true->bar i=true)/\RX E draw gd bar (i+1) l s Z
   | none=>False:=
 RX_alt (q:=none) (o:={ dst:=some d,op:=.makeSlice t x c,type:=ty,pos:=pos,after:=after,guard:=none }) rfl rfl rfl rfl
@[go_sem] theorem DX {x:Operand} {args:Array Operand} {tys:Array TypeId}:RX E draw gd bar i ({ dst:=some d,op:=.call { callee:=.value x,args:=args,argTypes:=tys },type:=ty,pos:=pos,after:=after,guard:=none }::l) st Z =
  match st.ev x with
   | .clo f caps=>if d < H0 then match callX E d (cloF f) (cloA f (args.toList.map st.ev) caps) st with
     | some s=>okD E draw bar i { dst:=some d,op:=.call { callee:=.value x,args:=args,argTypes:=tys },type:=ty,pos:=pos,after:=after,guard:=none } st/\RX E draw gd bar (i+1) l s Z
     | none=>False
    else False
   | _=>False:=by
 rw [RX_exe rfl];simp only [exe,preX,exe0,altX,callE,callTo];cases hx:st.ev x<;>simp only
 by_cases hd:d < H0
 ·simp only [hd,if_true];cases callX E d (cloF _) (cloA _ (List.map st.ev args.toList) _) st<;>rfl
 ·simp only [hd,if_false]
theorem B9 {o:Oper}:okD E false bar i o st:=fun h=>by simp at h
theorem AO {o:Oper}:okD E false bar i o st=True:=eq_true B9
end
end Go.Abs

namespace Go.Abs
@[go_sem] theorem DO (ts:List C) (R:Nat->C) (d:Nat) (c:C):St.put ⟨ts,R⟩ (some d) c=⟨ts.set d c,R⟩:=rfl
@[go_sem] theorem DL (st:St) (c:C):st.put none c=st:=rfl
@[go_sem] theorem ev_tmp (ts:List C) (R:Nat->C) (t:Nat):St.ev ⟨ts,R⟩ (.tmp t)=(ts[t]?).getD .dead:=rfl
@[go_sem] theorem ev_int (st:St) (k:IntKind) (n:Int):st.ev (.const (.int k n))=.val (.int k n):=rfl
@[go_sem] theorem D7 (st:St) (b:Bool):st.ev (.const (.bool b))=.val (.bool b):=rfl
@[go_sem] theorem DE (st:St) (b:ByteArray):st.ev (.const (.string b))=.val (.string b):=rfl
@[go_sem] theorem ev_nil (st:St) (n k:Nat):st.ev (.const (.slice none n k))=.val (.slice none n k):=rfl
@[go_sem] theorem ev_agg (st:St) (cs:Array Value):st.ev (.const (.agg cs))=.agg (cs.toList.map .val):=rfl
@[go_sem] theorem DZ (st:St) (f:FuncId):st.ev (.func f)=.clo (cloN f) []:=rfl
@[go_sem] theorem D0 (ops:Array Oper) (j:Nat):gdOf ops j=(ops[j]?).bind (·.dst):=rfl
@[go_sem] theorem DC (gd:Nat->Option Tmp) (st:St) (j:Nat):guardV gd st j=match gd j with
 | some t=>match st.ev (.tmp t) with
  | .val (.bool b)=>some (some b)
  | .val (.tuple _)=>some none
  | _=>none
 | none=>none:=rfl
def RZ:Nat->C:=fun _=>.dead
@[go_sem] theorem R0_RZ (cs:List C):R0 [] cs=RZ:=by funext n; simp [R0,RZ]
@[go_sem] theorem RZ_at (n:Nat):RZ n=.dead:=rfl
@[go_sem] theorem DW (R:Nat->C) (d:Nat) (a b:C):upd (upd R d a) d b=upd R d b:=by funext n; simp only [upd]; split<;>rfl
@[go_sem] theorem upd_RZ (d:Nat):upd RZ d .dead=RZ:=by funext n; simp [upd,RZ]
@[go_sem] theorem upd_at (R:Nat->C) (d:Nat) (a:C) (n:Nat):upd R d a n=if n=d then a else R n:=rfl
theorem Weak.trans {s s' s'':St} (h1:Weak s s') (h2:Weak s' s''):Weak s s'':=fun X a w h=>h2 X a w (h1 X a w h)
end Go.Abs

namespace Go.Abs
section
variable {E:Env} {st:St} {draw:Bool} {gd:Nat->Option Tmp} {bar:Nat->Bool} {i:Nat} {l:List Oper} {Z:St->Prop} {d:Option Tmp} {ty:TypeId} {pos:String} {after:Array Edge}
theorem ar {j:Nat} {want:Bool} {p:Prop} [inst:Decidable p] {op:Op} (h:guardV gd st j=some (some (decide p)))
  (h1:p->RX E draw gd bar i ({ dst:=d,op:=op,type:=ty,pos:=pos,after:=after,guard:=some (j,want) }::l) st Z)
  (h2:¬ p->RX E draw gd bar i ({ dst:=d,op:=op,type:=ty,pos:=pos,after:=after,guard:=some (j,want) }::l) st Z) :
  RX E draw gd bar i ({ dst:=d,op:=op,type:=ty,pos:=pos,after:=after,guard:=some (j,want) }::l) st Z:=by
 by_cases hp:p
 ·exact h1 hp
 ·exact h2 hp
variable {Q:Exit->St->Prop} {K:List Fm}
theorem sY {c:Operand} {x y:Code} (hc:st.ev c=.val (.bool true)) (h:W E x (ap E Q K) st):W E (.cond c x y) (ap E Q K) st:=by
 simp [W,hc,h]
theorem tc {c:Operand} {x y:Code} (hc:st.ev c=.val (.bool false)) (h:W E y (ap E Q K) st):W E (.cond c x y) (ap E Q K) st:=by
 simp [W,hc,h]
theorem j8 {c:Operand} {x y:Code} {p:Prop} [inst:Decidable p] (hc:st.ev c=.val (.bool (decide p))) (h1:p->W E x (ap E Q K) st) (h2:¬ p->W E y (ap E Q K) st):W E (.cond c x y) (ap E Q K) st:=
 W_cond hc (fun h=>h1 (of_decide_eq_true h)) (fun h=>h2 (of_decide_eq_false h))
@[go_sem] theorem Dz (E:Env) (vs:List ResultVar) (ts:List C) (R:Nat->C):finish E vs ⟨ts,R⟩=match resL E ⟨ts,R⟩ vs with
 | some cs=>match plainL cs with
  | some rs=>some (pack rs)
  | none=>match bR (cs.flatMap leaves).length H0 (cs.flatMap leaves) .dead ⟨ts,R⟩ with
   | some (s1,_)=>some (pack (dM s1.roots H0 cs))
   | none=>none
 | none=>none:=rfl
@[go_sem] theorem DM (E:Env) (s:St):resL E s []=some []:=rfl
@[go_sem] theorem DV (E:Env) (ts:List C) (R:Nat->C) (t:Nat) (vs:List ResultVar):resL E ⟨ts,R⟩ (.tmp t::vs)=match resL E ⟨ts,R⟩ vs with
 | some cs=>some ((ts[t]?).getD .dead::cs)
 | none=>none:=by
 simp only [resL,resC];cases resL E ⟨ts,R⟩ vs<;>rfl
@[go_sem] theorem Dv:plainL []=some []:=rfl
@[go_sem] theorem Dq (k:IntKind) (n:Int) (cs:List C):plainL (.val (.int k n)::cs)=match plainL cs with
 | some rs=>some (.val (.int k n)::rs)
 | none=>none:=by
 simp only [plainL,plainR,C.cellOk,Value.oneCell',if_true,C.frz];cases plainL cs<;>rfl
@[go_sem] theorem Dn (b:Bool) (cs:List C):plainL (.val (.bool b)::cs)=match plainL cs with
 | some rs=>some (.val (.bool b)::rs)
 | none=>none:=by
 simp only [plainL,plainR,C.cellOk,Value.oneCell',if_true,C.frz];cases plainL cs<;>rfl
@[go_sem] theorem De (b:ByteArray) (cs:List C):plainL (.val (.string b)::cs)=match plainL cs with
 | some rs=>some (.val (.string b)::rs)
 | none=>none:=by
 simp only [plainL,plainR,C.cellOk,Value.oneCell',if_true,C.frz];cases plainL cs<;>rfl
@[go_sem] theorem Dm (cs:List C):plainL (.val (.slice none 0 0)::cs)=match plainL cs with
 | some rs=>some (.val (.slice none 0 0)::rs)
 | none=>none:=by
 simp only [plainL,plainR,C.cellOk,Value.oneCell',if_true,C.frz];cases plainL cs<;>rfl
@[go_sem] theorem DQ (c:C):pack [c]=c:=rfl
@[go_sem] theorem DU (c c':C) (cs:List C):pack (c::c'::cs)=.tup (c::c'::cs):=rfl
end
end Go.Abs

namespace Go.Abs
def tab (n:Nat) (f:Nat->C):List C:=(List.range n).map f
def updT (f:Nat->C) (d:Nat) (c:C):Nat->C:=fun t=>if t=d then c else f t
def deadT:Nat->C:=fun _=>.dead
theorem lG (n:Nat) (f:Nat->C):(tab n f).length=n:=by simp [tab]
theorem ir (n:Nat) (f:Nat->C) (t:Nat):(tab n f)[t]?=if t < n then some (f t) else none:=by
 simp only [tab,List.getElem?_map,List.getElem?_range'];by_cases h:t < n
 ·simp [h]
 ·simp [h]
theorem CU (f:Nat->C) (d:Nat) (c:C) (t:Nat):updT f d c t=if t=d then c else f t:=rfl
theorem BF (t:Nat):deadT t=.dead:=rfl
theorem C9 (n:Nat) (f:Nat->C) (d:Nat) (c:C):(tab n f).set d c=tab n (updT f d c):=by
 apply List.ext_getElem?;intro t;rw [List.getElem?_set,ir,ir,lG];by_cases h:d=t
 ·subst h;by_cases h2:d < n<;>simp [h2,updT]
 ·have h':¬ t=d:=fun e=>h e.symm;simp only [h,h',if_false,updT]
theorem CR (n:Nat) (f:Nat->C) (g:C->C):(tab n f).map g=tab n (fun t=>g (f t)):=by
 simp [tab,Function.comp_def]
def poiT (g:Nat->Path->Bool) (f:Nat->C):Nat->C:=fun t=>poi g (f t)
theorem CN (g:Nat->Path->Bool) (f:Nat->C) (t:Nat):poiT g f t=poi g (f t):=rfl
theorem ue (n:Nat) (f:Nat->C) (g:Nat->Path->Bool):(tab n f).map (poi g)=tab n (poiT g f):=CR n f (poi g)
theorem CA (g:Nat->Path->Bool) (v:Value):poi g (.val v)=.val v:=rfl
theorem Bu (g:Nat->Path->Bool):poi g .dead=.dead:=rfl
theorem poi_sl (g:Nat->Path->Bool) (o:Bool) (nl:Option Bool) (es:Nat) (cap:Option Nat) (rows:List (List C)):poi g (.sl o nl es cap rows)=.sl o nl es cap rows:=rfl
theorem BD (g:Nat->Path->Bool) (es:Nat) (rows:List (List C)) (i j:Nat):poi g (.iref es rows i j)=.iref es rows i j:=rfl
theorem Bv (g:Nat->Path->Bool) (n:Nat) (p:Path) (i j:Nat):poi g (.pref n p i j)=if g n p=true then .dead else .pref n p i j:=rfl
theorem CF (g:Nat->Path->Bool) (n:Nat) (p:Path) (lo len:Nat) (cap:Option Nat):poi g (.pal n p lo len cap)=if g n p=true then .dead else .pal n p lo len cap:=rfl
def entryF (own:List Bool) (cs:List C):Nat->C:=fun t=>match cs[t]? with
 | some c=>jc own t c
 | none=>.dead
theorem mH {own:List Bool} {cs:List C} {n:Nat} (h:cs.length<=n):entry own cs n=⟨tab n (entryF own cs),R0 own cs⟩:=by
 unfold entry
 congr 1
 apply List.ext_getElem?;intro t;rw [ir];by_cases h1:t < cs.length
 ·rw [List.getElem?_append_left (by rw [fU]; exact h1),qM];rw [if_pos (by omega)];simp [entryF,h1]
 ·rw [List.getElem?_append_right (by rw [fU]; omega),fU];by_cases h2:t < n
  ·rw [if_pos h2];have:t - cs.length < n - cs.length:=by omega
   simp [this,entryF,h1]
  ·rw [if_neg h2];simp; omega
end Go.Abs

namespace Go.Abs
def Le (c c':C):Prop:=∀ (w:World) (S:Nat->Prop) (m m':Path->Value) (p p':Path) (d:Nat) (u:Value),rel w S L0 m false d p c u->rel w S L0 m' false d p' c' u
def NoOwn (c:C):Prop:=∀ q,¬ OwnAt c q
structure LeL (cs cs':List C):Prop where
 len:cs'.length=cs.length
 get:∀ (i:Nat) (c c':C),cs[i]?=some c->cs'[i]?=some c'->Le c c'
structure LeLL (rs rs':List (List C)):Prop where
 len:rs'.length=rs.length
 get:∀ (i:Nat) (r r':List C),rs[i]?=some r->rs'[i]?=some r'->LeL r r'
theorem Le.refl (c:C):Le c c:=fun w S m m' p p' d u h=>aX h
theorem Le.eq {a b:C} (h:a=b):Le a b:=h ▸ Le.refl a
theorem LeL.refl (cs:List C):LeL cs cs:=⟨rfl,fun i c c' h h'=>by rw [h] at h'; simp only [Option.some.injEq] at h'; exact h' ▸ Le.refl c⟩
theorem LeLL.refl (rs:List (List C)):LeLL rs rs:=⟨rfl,fun i c c' h h'=>by rw [h] at h'; simp only [Option.some.injEq] at h'; exact h' ▸ LeL.refl c⟩
theorem LeL.nil:LeL [] []:=LeL.refl []
theorem LeL.cons {a b:C} {as bs:List C} (h:Le a b) (t:LeL as bs):LeL (a::as) (b::bs):=by
 refine ⟨by simp [t.len],?_⟩;intro i c c' h1 h2;cases i with
 | zero=>simp only [List.getElem?_cons_zero,Option.some.injEq] at h1 h2; subst h1; subst h2; exact h
 | succ i=>exact t.get i c c' (by simpa using h1) (by simpa using h2)
theorem LeLL.map {α:Type} {f g:α->List C} (h:∀ x,LeL (f x) (g x)) (l:List α):LeLL (l.map f) (l.map g):=by
 refine ⟨by simp,?_⟩;intro i r r' h1 h2;simp only [List.getElem?_map,Option.map_eq_some_iff] at h1 h2;obtain ⟨x,e1,rfl⟩:=h1;obtain ⟨y,e2,rfl⟩:=h2;rw [e1] at e2;simp only [Option.some.injEq] at e2;subst e2;exact h x
theorem Le.nils {o:Bool} {es:Nat}:Le (.val (.slice none 0 0)) (.sl o none es none []):=by
 intro w S m m' p p' d u h;cases d with
 | zero=>exact h.elim
 | succ d=>
  have hu:u=.slice none 0 0:=h;subst hu;exact ⟨none,0,rfl,Nat.le_refl _,by decide,by simp,by simp,by simp,by simp,.inl rfl⟩
theorem Le.sl {o o':Bool} {nl:Option Bool} {es:Nat} {cap:Option Nat} {rows rows':List (List C)} (h:LeLL rows rows'):Le (.sl o nl es cap rows) (.sl o' none es none rows'):=by
 intro w S m m' p p' d u hr;cases d with
 | zero=>exact hr.elim
 | succ d=>
  obtain ⟨a,k,h1,h2,h3,h4,hz,h5,h6,h7⟩:=hr;refine ⟨a,k,by rw [h.len]; exact h1,by rw [h.len]; exact h2,h3,by simp,⟨by simp,hz.2⟩,?_,by simp,?_⟩
  ·intro row hrow;obtain ⟨i,hi⟩:=List.mem_iff_getElem?.1 hrow;have hlt:i < rows.length:=by rw [<-h.len]; exact (List.getElem?_eq_some_iff.1 hi).1
   have hle:=h.get i rows[i] row (by simp [hlt]) hi;rw [hle.len];exact h5 _ (List.getElem_mem hlt)
  ·rcases h7 with h7|h7|⟨b,off,arr,elem,frz,g1,g2,g3,g4,g5⟩
   ·exact .inl h7
   ·refine .inr (.inl ⟨by simp,?_⟩);have:=h.len;rw [h7.2] at this;exact List.length_eq_zero_iff.1 this
   ·refine .inr (.inr ⟨b,off,arr,elem,frz,g1,g2,fun _=>g3 (by simp),by simp,?_⟩);intro i j row' c' e1 e2;have hlt:i < rows.length:=by rw [<-h.len]; exact (List.getElem?_eq_some_iff.1 e1).1
    have hle:=h.get i rows[i] row' (by simp [hlt]) e1;have hlt2:j < rows[i].length:=by rw [<-hle.len]; exact (List.getElem?_eq_some_iff.1 e2).1
    have hle2:=hle.get j rows[i][j] c' (by simp [hlt2]) e2;obtain ⟨u',f1,f2⟩:=g5 i j rows[i] rows[i][j] (by simp [hlt]) (by simp [hlt2]);refine ⟨u',f1,?_⟩;simp only [Bool.and_false] at f2 ⊢;exact hle2 _ _ _ _ _ _ _ _ f2
theorem Le.agg {cs cs':List C} (h:LeL cs cs'):Le (.agg cs) (.agg cs'):=by
 intro w S m m' p p' d u hr;cases d with
 | zero=>exact hr.elim
 | succ d=>
  obtain ⟨arr,h1,h2,h3⟩:=hr;refine ⟨arr,h1,by rw [h.len]; exact h2,fun j c' e=>?_⟩;have hlt:j < cs.length:=by rw [<-h.len]; exact (List.getElem?_eq_some_iff.1 e).1
  obtain ⟨u',f1,f2⟩:=h3 j cs[j] (by simp [hlt]);exact ⟨u',f1,h.get j cs[j] c' (by simp [hlt]) e _ _ _ _ _ _ _ _ f2⟩
theorem Le.tup {cs cs':List C} (h:LeL cs cs'):Le (.tup cs) (.tup cs'):=by
 intro w S m m' p p' d u hr;cases d with
 | zero=>exact hr.elim
 | succ d=>
  obtain ⟨arr,h1,h2,h3⟩:=hr;refine ⟨arr,h1,by rw [h.len]; exact h2,fun j c' e=>?_⟩;have hlt:j < cs.length:=by rw [<-h.len]; exact (List.getElem?_eq_some_iff.1 e).1
  obtain ⟨u',f1,f2⟩:=h3 j cs[j] (by simp [hlt]);exact ⟨u',f1,h.get j cs[j] c' (by simp [hlt]) e _ _ _ _ _ _ _ _ f2⟩
theorem Le.clo {f:Nat} {cs cs':List C} (h:LeL cs cs'):Le (.clo f cs) (.clo f cs'):=by
 intro w S m m' p p' d u hr;cases d with
 | zero=>exact hr.elim
 | succ d=>
  obtain ⟨arr,h1,h2,h3⟩:=hr;refine ⟨arr,h1,by rw [h.len]; exact h2,fun j c' e=>?_⟩;have hlt:j < cs.length:=by rw [<-h.len]; exact (List.getElem?_eq_some_iff.1 e).1
  obtain ⟨u',f1,f2⟩:=h3 j cs[j] (by simp [hlt]);exact ⟨u',f1,h.get j cs[j] c' (by simp [hlt]) e _ _ _ _ _ _ _ _ f2⟩
theorem NoOwn.val (v:Value):NoOwn (.val v):=by
 intro q h; cases q<;>simp [OwnAt,C.at,C.kid,C.isOwn] at h
theorem NoOwn.sl (nl:Option Bool) (es:Nat) (cap:Option Nat) (rows:List (List C)):NoOwn (.sl false nl es cap rows):=by
 intro q h; cases q<;>simp [OwnAt,C.at,C.kid,C.isOwn] at h
theorem NoOwn.agg {cs:List C} (h:∀ c∈cs,NoOwn c):NoOwn (.agg cs):=by
 intro q hq;cases q with
 | nil=>simp [OwnAt,C.at,C.isOwn] at hq
 | cons s q=>
  simp only [OwnAt,C.at,C.kid] at hq;split at hq
  ·cases hc:cs[s.2]? with
   | none=>rw [hc] at hq; simp at hq
   | some c=>rw [hc] at hq; exact h c (List.mem_of_getElem? hc) q hq
  ·simp at hq
theorem NoOwn.tup {cs:List C} (h:∀ c∈cs,NoOwn c):NoOwn (.tup cs):=by
 intro q hq;cases q with
 | nil=>simp [OwnAt,C.at,C.isOwn] at hq
 | cons s q=>
  simp only [OwnAt,C.at,C.kid] at hq;split at hq
  ·cases hc:cs[s.2]? with
   | none=>rw [hc] at hq; simp at hq
   | some c=>rw [hc] at hq; exact h c (List.mem_of_getElem? hc) q hq
  ·simp at hq
theorem rQ {w:World} {S:Nat->Prop}:∀ (d:Nat) {m m':Path->Value} {p p':Path} {c:C} {u:Value},NoOwn c->rel w S L0 m false d p c u->rel w S L0 m' true d p' c u:=by
 intro d
 induction d with
 | zero=>intro m m' p p' c u _ h; exact h.elim
 | succ d ih=>
  intro m m' p p' c u hn h;cases c with
  | dead=>trivial
  | val v=>exact h
  | sl own nl es cap rows=>
   have ho:own=false:=by
    cases own with
    | false=>rfl
    | true=>exact (hn [] (by simp [OwnAt,C.at,C.isOwn])).elim
   subst ho;obtain ⟨a,k,h1,h2,h3,h4,hz,h5,h6,h7⟩:=h;refine ⟨a,k,h1,h2,h3,h4,hz,h5,by simp,?_⟩;rcases h7 with h7|h7|⟨b,off,arr,elem,frz,g1,g2,g3,g4,g5⟩
   ·exact .inl h7
   ·exact .inr (.inl ⟨by simp,h7.2⟩)
   ·refine .inr (.inr ⟨b,off,arr,elem,frz,g1,g2,fun _=>g3 (by simp),by simp,?_⟩);intro i j row c' e1 e2;obtain ⟨u',e3,e4⟩:=g5 i j row c' e1 e2;exact ⟨u',e3,aX e4⟩
  | agg cs=>
   obtain ⟨arr,h1,h2,h3⟩:=h;refine ⟨arr,h1,h2,fun j c' e=>?_⟩;obtain ⟨u',e1,e2⟩:=h3 j c' e;refine ⟨u',e1,ih ?_ e2⟩;intro q hq;exact hn ((0,j)::q) (by simp only [OwnAt,C.at,C.kid,if_true,e,Option.bind_some]; exact hq)
  | tup cs=>
   obtain ⟨arr,h1,h2,h3⟩:=h;refine ⟨arr,h1,h2,fun j c' e=>?_⟩;obtain ⟨u',e1,e2⟩:=h3 j c' e;refine ⟨u',e1,ih ?_ e2⟩;intro q hq;exact hn ((0,j)::q) (by simp only [OwnAt,C.at,C.kid,if_true,e,Option.bind_some]; exact hq)
  | clo f cs=>
   obtain ⟨arr,h1,h2,h3⟩:=h;exact ⟨arr,h1,h2,fun j c' e=>let ⟨u',e1,e2⟩:=h3 j c' e; ⟨u',e1,aX e2⟩⟩
  | iref es rows i j=>
   obtain ⟨b,off,arr,elem,frz,g1,g2,g3,g4,g5⟩:=h;exact ⟨b,off,arr,elem,frz,g1,g2,g3,g4,fun i j row c' e1 e2=>let ⟨u',e3,e4⟩:=g5 i j row c' e1 e2; ⟨u',e3,aX e4⟩⟩
  | pref n p i j=>exact h
  | pal n p lo len cap=>exact h
theorem sG (cs:List C):R0 [] cs=fun _=>.dead:=by funext n; simp [R0]
theorem fF {cs:List C} {m:Nat->Path->Value} {b:Nat}:¬ Owned (R0 [] cs) m b:=by
 rintro ⟨n,p,h1,h2⟩;rw [sG] at h1;exact aq h1
theorem Con.args {P:Program} {f:FuncId} {pure:Bool} {cs cs':List C} {r:C} (h:Con P f [] pure cs' r) (hle:LeL cs cs'):Con P f [] pure cs r:=by
 intro w S m us hl hr hinj;have key:∀ (i:Nat) (c:C),cs'[i]?=some c->∃ u d,us[i]?=some u/\rel w (fun b=>S b/\¬ Owned (R0 [] cs') m b) L0 (m i) (([]:List Bool).getD i false) d [] c u:=by
  intro i c' hc;have hlt:i < cs.length:=by rw [<-hle.len]; exact (List.getElem?_eq_some_iff.1 hc).1
  obtain ⟨u,d,h1,h2⟩:=hr i cs[i] (by simp [hlt]);refine ⟨u,d,h1,?_⟩;simp only [List.getD_nil] at h2 ⊢;have h3:=hle.get i cs[i] c' (by simp [hlt]) hc w _ (m i) (m i) [] [] d u h2;exact ag (fun b _ hb=>⟨⟨hb.1,fF⟩,rfl⟩) d (fun _ _ _ h=>h) (fun h=>by simp at h) (fun h=>by simp at h) h3
 have hinj':Inj (R0 [] cs') m:=by
  intro n p n' p' b h1;rw [sG] at h1;exact (aq h1).elim
 have:=h w S m us (by rw [hl,hle.len]) key hinj';have e:∀ b,Owned (R0 [] cs') m b↔Owned (R0 [] cs) m b:=fun b=>⟨fun h=>(fF h).elim,fun h=>(fF h).elim⟩;have e2:Owned (R0 [] cs') m=Owned (R0 [] cs) m:=funext fun b=>propext (e b);rw [e2] at this;exact this
inductive ROk:C->C->Prop
 | refl (r:C):ROk r r
 | of (r:C) {r0:C} (h:Le r0 r) (hn:NoOwn r):ROk r0 r
 | nil (es:Nat):ROk (.val (.slice none 0 0)) (.sl true none es none [])
 | own {nl:Option Bool} {es:Nat} {cap:Option Nat} {rows rows':List (List C)} (h:LeLL rows rows') (hn:∀ row∈rows',∀ c∈row,NoOwn c):ROk (.sl true nl es cap rows) (.sl true none es none rows')
 | agg {as bs:List C} (hl:bs.length=as.length) (h:∀ (i:Nat) (a b:C),as[i]?=some a->bs[i]?=some b->ROk a b):ROk (.agg as) (.agg bs)
 | tup {as bs:List C} (hl:bs.length=as.length) (h:∀ (i:Nat) (a b:C),as[i]?=some a->bs[i]?=some b->ROk a b):ROk (.tup as) (.tup bs)
theorem lf:∀ (i:Nat) (a b:C),([]:List C)[i]?=some a->([]:List C)[i]?=some b->ROk a b:=fun i a b h=>by simp at h
theorem jZ {a b:C} {as bs:List C} (h:ROk a b) (t:∀ (i:Nat) (a b:C),as[i]?=some a->bs[i]?=some b->ROk a b):∀ (i:Nat) (c d:C),(a::as)[i]?=some c->(b::bs)[i]?=some d->ROk c d:=by
 intro i c d h1 h2;cases i with
 | zero=>simp only [List.getElem?_cons_zero,Option.some.injEq] at h1 h2; subst h1; subst h2; exact h
 | succ i=>exact t i c d (by simpa using h1) (by simpa using h2)
theorem ROk.ownAt {c c':C} (h:ROk c c'):∀ {q:Path},OwnAt c' q->OwnAt c q∨c.at q=some (.val (.slice none 0 0)):=by
 induction h with
 | refl r=>intro q hq; exact .inl hq
 | of r hle hn=>intro q hq; exact (hn q hq).elim
 | nil es=>
  intro q hq;cases q with
  | nil=>exact .inr rfl
  | cons s q=>simp [OwnAt,C.at,C.kid] at hq
 | own h hn=>
  rename_i nl es cap rows rows';intro q hq;cases q with
  | nil=>exact .inl rfl
  | cons s q=>
   simp only [OwnAt,C.at,C.kid] at hq;cases hr:rows'[s.1]? with
   | none=>simp [hr] at hq
   | some row=>
    simp only [hr,Option.bind_some] at hq;cases hc:row[s.2]? with
    | none=>simp [hc] at hq
    | some c1=>
     simp only [hc,Option.bind_some] at hq;exact (hn row (List.mem_of_getElem? hr) c1 (List.mem_of_getElem? hc) q hq).elim
 | agg hl h ih=>
  rename_i cs ds;intro q hq;cases q with
  | nil=>simp [OwnAt,C.at,C.isOwn] at hq
  | cons s q=>
   simp only [OwnAt,C.at,C.kid] at hq;by_cases hs:s.1=0
   ·simp only [hs,if_true] at hq;cases hd:ds[s.2]? with
    | none=>simp [hd] at hq
    | some b=>
     simp only [hd,Option.bind_some] at hq;have hlt:=(List.getElem?_eq_some_iff.1 hd).1;rw [hl] at hlt;have ha:cs[s.2]?=some cs[s.2]:=by simp [hlt]
     rcases ih s.2 _ _ ha hd hq with h1|h1
     ·left; simp only [OwnAt,C.at,C.kid,hs,if_true,ha,Option.bind_some]; exact h1
     ·right; simp only [C.at,C.kid,hs,if_true,ha,Option.bind_some]; exact h1
   ·simp [hs] at hq
 | tup hl h ih=>
  rename_i cs ds;intro q hq;cases q with
  | nil=>simp [OwnAt,C.at,C.isOwn] at hq
  | cons s q=>
   simp only [OwnAt,C.at,C.kid] at hq;by_cases hs:s.1=0
   ·simp only [hs,if_true] at hq;cases hd:ds[s.2]? with
    | none=>simp [hd] at hq
    | some b=>
     simp only [hd,Option.bind_some] at hq;have hlt:=(List.getElem?_eq_some_iff.1 hd).1;rw [hl] at hlt;have ha:cs[s.2]?=some cs[s.2]:=by simp [hlt]
     rcases ih s.2 _ _ ha hd hq with h1|h1
     ·left; simp only [OwnAt,C.at,C.kid,hs,if_true,ha,Option.bind_some]; exact h1
     ·right; simp only [C.at,C.kid,hs,if_true,ha,Option.bind_some]; exact h1
   ·simp [hs] at hq
open Classical in
noncomputable def nilM (c:C) (m:Path->Value) (p:Path) (q:Path):Value:=if c.at q=some (.val (.slice none 0 0)) then .slice none 0 0 else m (p++q)
open Classical in
theorem mu {c:C} {m:Path->Value} {p q:Path} (h:OwnAt c q):nilM c m p q=m (p++q):=by
 unfold nilM;split
 ·rename_i e; rw [OwnAt,e] at h; simp [C.isOwn] at h
 ·rfl
theorem uK {w:World} {S S':Nat->Prop} {m m':Path->Value} (hS:∀ b,S b->S' b) {c c':C} (h:ROk c c'):∀ (d:Nat) {p p':Path} {u:Value},
  (∀ q,OwnAt c' q->m' (p'++q)=nilM c m p q)->(∀ q b,OwnAt c q->¬ OwnAt c' q->blk (m (p++q))=some b->S' b) ->
  rel w S L0 m true d p c u->rel w S' L0 m' true (d+1) p' c' u:=by
 induction h with
 | refl r=>
  intro d p p' u hm _ hr;exact aw d (d+1) (Nat.le_succ _) (ag (fun b _ hb=>⟨hS b hb,rfl⟩) d (fun _ _ _ h=>h) (fun _ _ _ _ _ _=>rfl) (fun _ q hq=>by rw [hm q hq,mu hq]) hr)
 | of r hle hn=>
  intro d p p' u hm hO hr;have a1:=kv (S:=S) (S':=S') (m:=m) (m':=m) (p:=p) (p':=p) hS d (fun _ q b hq hb=>hO q b hq (hn q) hb) hr;exact aw d (d+1) (Nat.le_succ _) (rQ d hn (hle _ _ _ m _ p d u a1))
 | nil es=>
  intro d p p' u hm hO hr;cases d with
  | zero=>exact hr.elim
  | succ d=>
   have hu:u=.slice none 0 0:=hr;refine ⟨none,0,hu,Nat.le_refl _,Nat.zero_le _,by simp,⟨by simp,by simp⟩,by simp,?_,.inl rfl⟩;intro _;have:=hm [] rfl;rw [List.append_nil] at this;rw [hu,this];simp [nilM,C.at]
 | own h hn=>
  rename_i nl es cap rows rows';intro d p p' u hm hO hr;cases d with
  | zero=>exact hr.elim
  | succ d=>
   obtain ⟨a,k,h1,h2,h3,h4,hz,h5,h6,h7⟩:=hr;have hm0:m' p'=m p:=by
    have:=hm [] rfl;rw [mu (c:=.sl true nl es cap rows) (q:=[]) rfl] at this;simpa using this
   refine ⟨a,k,by rw [h.len]; exact h1,by rw [h.len]; exact h2,h3,by simp,⟨by simp,hz.2⟩,?_,fun _=>by rw [hm0]; exact h6 rfl,?_⟩
   ·intro row' hrow;obtain ⟨i,hi,e⟩:=List.getElem_of_mem hrow;have hlt:i < rows.length:=by rw [<-h.len]; exact hi
    have:=h.get i rows[i] row' (by simp [hlt]) (by simp [hi,e]);rw [this.len];exact h5 _ (List.getElem_mem hlt)
   ·rcases h7 with h7|h7|⟨b,off,arr,elem,frz,g1,g2,g3,g4,g5⟩
    ·exact .inl h7
    ·simp at h7
    ·refine .inr (.inr ⟨b,off,arr,elem,frz,g1,g2,fun h=>by simp at h,g4,?_⟩);intro i j row' c' e1 e2;have hlt:i < rows.length:=by rw [<-h.len]; exact (List.getElem?_eq_some_iff.1 e1).1
     have hrow:rows[i]?=some rows[i]:=by simp [hlt]
     have hle:=h.get i rows[i] row' hrow e1;have hltj:j < rows[i].length:=by rw [<-hle.len]; exact (List.getElem?_eq_some_iff.1 e2).1
     have hc:rows[i][j]?=some rows[i][j]:=by simp [hltj]
     obtain ⟨u',e3,e4⟩:=g5 i j _ _ hrow hc;have hnc:=hn row' (List.mem_of_getElem? e1) c' (List.mem_of_getElem? e2);refine ⟨u',e3,aw d (d+1) (Nat.le_succ _) (rQ d hnc (hle.get j _ c' hc e2 _ _ _ m _ p d u' (kv (S:=S) (S':=S') (m:=m) (m':=m) (p:=p++[(i,j)]) (p':=p) hS d ?_ e4)))⟩;intro _ q b' hq hb;refine hO ((i,j)::q) b' ?_ ?_ (by simpa using hb)
     ·simp only [OwnAt,C.at,C.kid,hrow,Option.bind_some,hc]; exact hq
     ·simp only [OwnAt,C.at,C.kid,e1,Option.bind_some,e2]; exact hnc q
 | agg hl h ih=>
  rename_i cs ds;intro d p p' u hm hO hr;cases d with
  | zero=>exact hr.elim
  | succ d=>
   obtain ⟨arr,h1,h2,h3⟩:=hr;refine ⟨arr,h1,by rw [hl]; exact h2,fun j c' e=>?_⟩;have hlt:=(List.getElem?_eq_some_iff.1 e).1;rw [hl] at hlt;have ha:cs[j]?=some cs[j]:=by simp [hlt]
   obtain ⟨u',e1,e2⟩:=h3 j _ ha;refine ⟨u',e1,ih j _ _ ha e d ?_ ?_ e2⟩
   ·intro q hq;have:=hm ((0,j)::q) (by simp only [OwnAt,C.at,C.kid,if_true,e,Option.bind_some]; exact hq);have e3:(C.agg cs).at ((0,j)::q)=cs[j].at q:=by simp only [C.at,C.kid,if_true,ha,Option.bind_some]
    unfold nilM at this ⊢;rw [e3] at this;simpa using this
   ·intro q b hq hnq hb;refine hO ((0,j)::q) b (by simp only [OwnAt,C.at,C.kid,if_true,ha,Option.bind_some]; exact hq) ?_ (by simpa using hb);simp only [OwnAt,C.at,C.kid,if_true,e,Option.bind_some]; exact hnq
 | tup hl h ih=>
  rename_i cs ds;intro d p p' u hm hO hr;cases d with
  | zero=>exact hr.elim
  | succ d=>
   obtain ⟨arr,h1,h2,h3⟩:=hr;refine ⟨arr,h1,by rw [hl]; exact h2,fun j c' e=>?_⟩;have hlt:=(List.getElem?_eq_some_iff.1 e).1;rw [hl] at hlt;have ha:cs[j]?=some cs[j]:=by simp [hlt]
   obtain ⟨u',e1,e2⟩:=h3 j _ ha;refine ⟨u',e1,ih j _ _ ha e d ?_ ?_ e2⟩
   ·intro q hq;have:=hm ((0,j)::q) (by simp only [OwnAt,C.at,C.kid,if_true,e,Option.bind_some]; exact hq);have e3:(C.tup cs).at ((0,j)::q)=cs[j].at q:=by simp only [C.at,C.kid,if_true,ha,Option.bind_some]
    unfold nilM at this ⊢;rw [e3] at this;simpa using this
   ·intro q b hq hnq hb;refine hO ((0,j)::q) b (by simp only [OwnAt,C.at,C.kid,if_true,ha,Option.bind_some]; exact hq) ?_ (by simpa using hb);simp only [OwnAt,C.at,C.kid,if_true,e,Option.bind_some]; exact hnq
theorem vS {w w':World} {S:Nat->Prop} {pure:Bool} {O:Nat->Prop} {F:Prop} {r0 r:C} {u:Value} (hok:ROk r0 r)
  (h:∃ mr d,rel w' (fun b=>((pure=false/\S b)∨w.heap.size<=b)/\¬ Own1 r0 mr b) L0 mr true d [] r0 u ∧
   (∀ q q' b,OwnAt r0 q->OwnAt r0 q'->blk (mr q)=some b->blk (mr q')=some b->q=q') ∧
   (∀ b,Own1 r0 mr b->w.heap.size<=b∨O b)/\F) (hO:∀ b,O b->(pure=false/\S b)∨w.heap.size<=b) :
  ∃ mr d,rel w' (fun b=>((pure=false/\S b)∨w.heap.size<=b)/\¬ Own1 r mr b) L0 mr true d [] r u ∧
   (∀ q q' b,OwnAt r q->OwnAt r q'->blk (mr q)=some b->blk (mr q')=some b->q=q') ∧
   (∀ b,Own1 r mr b->w.heap.size<=b∨O b)/\F:=by
 obtain ⟨mr,d,h1,h2,h3,h4⟩:=h;have key:∀ q b,OwnAt r q->blk (nilM r0 mr [] q)=some b->OwnAt r0 q/\blk (mr q)=some b:=by
  intro q b hq hb;rcases hok.ownAt hq with h|h
  ·rw [mu h] at hb; exact ⟨h,hb⟩
  ·simp [nilM,h,blk] at hb
 refine ⟨nilM r0 mr [],d+1,?_,?_,?_,h4⟩
 ·refine uK (p:=[]) (p':=[]) ?_ hok d (fun q hq=>by simp) ?_ h1
  ·rintro b ⟨hb,hn⟩;exact ⟨hb,fun ⟨q,hq,e⟩=>hn ⟨q,key q b hq e⟩⟩
  ·intro q b hq hnq hb;simp only [List.nil_append] at hb;refine ⟨?_,?_⟩
   ·rcases h3 b ⟨q,hq,hb⟩ with h|h
    ·exact .inr h
    ·exact hO b h
   ·rintro ⟨q',hq',e⟩;obtain ⟨e1,e2⟩:=key q' b hq' e;obtain rfl:=h2 q q' b hq e1 hb e2;exact hnq hq'
 ·intro q q' b hq hq' e e';obtain ⟨a1,a2⟩:=key q b hq e;obtain ⟨a3,a4⟩:=key q' b hq' e';exact h2 q q' b a1 a3 a2 a4
 ·rintro b ⟨q,hq,e⟩;exact h3 b ⟨q,key q b hq e⟩
theorem Does.mono {P:Program} {f:FuncId} {us:List Value} {w:World} {Q Q':Value->World->Prop} (h:Does P f us w Q) (hq:∀ u w',Q u w'->Q' u w'):Does P f us w Q':=by
 rcases h with ⟨h1,h2⟩|⟨u,w',h1,h2⟩
 ·exact .inl ⟨h1,h2.mono fun e w' ⟨u,e1,e2⟩=>⟨u,e1,hq u w' e2⟩⟩
 ·exact .inr ⟨u,w',h1,hq u w' h2⟩
theorem Con.res {P:Program} {f:FuncId} {pure:Bool} {cs:List C} {r0 r:C} (h:Con P f [] pure cs r0) (hok:ROk r0 r):Con P f [] pure cs r:=by
 intro w S m us hl hr hinj;exact (h w S m us hl hr hinj).mono fun u w' hq=>vS hok hq (fun b h=>(fF h).elim)
def FinW (E:Env) (vs:List ResultVar) (pure:Bool) (r:C):Exit->St->Prop:=fun e s=>(e=.ret∨e=.normal)/\∃ r0,finish E vs s=some r0/\ROk r0 r/\(pure=true->PureC r0)
theorem BI {E:Env} {vs:List ResultVar} {pure:Bool} {r:C} {s:St}:FinW E vs pure r .ret s=∃ r0,finish E vs s=some r0/\ROk r0 r/\(pure=true->PureC r0):=by simp [FinW]
structure FunOk (P:Program) (f:FuncId) (fn:Func) (body:Code):Prop where
 get:P.funcs[f]?=some fn
 bd:fn.body=some body
 name:(fn.name == "runtime.NumGoroutine") = false
 ok:codeOk body=true
theorem PureC.val (v:Value):PureC (.val v):=by
 intro w S S' m d p u h;cases d with
 | zero=>exact h.elim
 | succ d=>exact h
theorem PureC.agg {cs:List C} (h:∀ c∈cs,PureC c):PureC (.agg cs):=by
 intro w S S' m d p u hr;cases d with
 | zero=>exact hr.elim
 | succ d=>
  obtain ⟨arr,h1,h2,h3⟩:=hr;exact ⟨arr,h1,h2,fun j c' e=>let ⟨u',e1,e2⟩:=h3 j c' e; ⟨u',e1,h c' (List.mem_of_getElem? e) _ _ _ _ _ _ _ e2⟩⟩
theorem PureC.tup {cs:List C} (h:∀ c∈cs,PureC c):PureC (.tup cs):=by
 intro w S S' m d p u hr;cases d with
 | zero=>exact hr.elim
 | succ d=>
  obtain ⟨arr,h1,h2,h3⟩:=hr;exact ⟨arr,h1,h2,fun j c' e=>let ⟨u',e1,e2⟩:=h3 j c' e; ⟨u',e1,h c' (List.mem_of_getElem? e) _ _ _ _ _ _ _ e2⟩⟩
theorem PureC.sl {nl:Option Bool} {es:Nat} {cap:Option Nat} {rows:List (List C)} (h:∀ row∈rows,∀ c∈row,PureC c):PureC (.sl true nl es cap rows):=by
 intro w S S' m d p u hr;cases d with
 | zero=>exact hr.elim
 | succ d=>
  obtain ⟨a,k,h1,h2,h3,h4,hz,h5,h6,h7⟩:=hr;refine ⟨a,k,h1,h2,h3,h4,hz,h5,h6,?_⟩;rcases h7 with h7|h7|⟨b,off,arr,elem,frz,g1,g2,g3,g4,g5⟩
  ·exact .inl h7
  ·exact .inr (.inl h7)
  ·refine .inr (.inr ⟨b,off,arr,elem,frz,g1,g2,fun e=>by simp at e,g4,fun i j row c' e1 e2=>?_⟩);obtain ⟨u',e3,e4⟩:=g5 i j row c' e1 e2;exact ⟨u',e3,h row (List.mem_of_getElem? e1) c' (List.mem_of_getElem? e2) _ _ _ _ _ _ _ e4⟩
theorem Real.len {s:St} (h:Real s) {t:Nat} {o:Bool} {nl:Option Bool} {es:Nat} {cap:Option Nat} {rows:List (List C)} (ht:s.tmps[t]?=some (.sl o nl es cap rows)):rows.length<=maxLen:=by
 obtain ⟨X,a,w,m,H⟩:=h;obtain ⟨u,d,h1,h2⟩:=H.tmp t _ ht;cases d with
 | zero=>exact h2.elim
 | succ d=>obtain ⟨a,k,h1,h2,h3,_⟩:=h2; omega
theorem Real.lenR {s:St} (h:Real s) {n:Nat} {o:Bool} {nl:Option Bool} {es:Nat} {cap:Option Nat} {rows:List (List C)} (ht:s.roots n=.sl o nl es cap rows):rows.length<=maxLen:=by
 obtain ⟨X,a,w,m,H⟩:=h;obtain ⟨u,d,h2⟩:=H.root n;rw [ht] at h2;cases d with
 | zero=>exact h2.elim
 | succ d=>obtain ⟨a,k,h1,h2,h3,_⟩:=h2; omega
end Go.Abs

namespace Go.Abs
theorem zL {n:Nat} {f g:Nat->C} {R R':Nat->C} (hr:∀ k,R' k=R k∨R' k=.dead)
  (ht:∀ t,t < n->g t=.dead∨(g t=f t/\(g t).ment (fun k _=>isDead (R' k)) 3=false)):Weak ⟨tab n f,R⟩ ⟨tab n g,R'⟩:=by
 rintro X a w ⟨m,H⟩;have hown:∀ k p,OwnAt (R' k) p->OwnAt (R k) p/\R' k=R k:=by
  intro k p ho;rcases hr k with h|h
  ·exact ⟨by rw [<-h]; exact ho,h⟩
  ·rw [h] at ho; exact (aq ho).elim
 have hS:∀ b,b < w.heap.size->X.S R m b->X.S R' m b/\w.heap[b]?=w.heap[b]?:=by
  intro b _ hs;exact ⟨⟨hs.1,fun ⟨k,p,h1,h2⟩=>hs.2 ⟨k,p,(hown k p h1).1,h2⟩⟩,rfl⟩
 refine ⟨m,⟨by rw [H.len]; simp [lG],?_,?_,?_,?_,H.fr,H.df⟩⟩
 ·intro t c hc;rw [ir] at hc;split at hc
  case isFalse=>simp at hc
  rename_i hlt;simp only [Option.some.injEq] at hc;subst hc;have hsz:t < a.tmps.size:=by rw [H.len]; simp [lG,hlt]
  rcases ht t hlt with h|⟨h,hm⟩
  ·exact ⟨a.tmps[t],1,by simp [hsz],by rw [h]; trivial⟩
  ·obtain ⟨u,d,h1,h2⟩:=H.tmp t (f t) (by simp only [ir,hlt,if_true]);refine ⟨u,d,h1,?_⟩;rw [h];rw [h] at hm;refine ag hS d ?_ (fun h=>by simp at h) (fun h=>by simp at h) h2;intro v uv ho hl;obtain ⟨k,p,e1,e2⟩:=dT d 3 (f t) v hm ho;refine fB e1 rfl ?_ hl;intro nl es cap rows he;rcases hr k with h'|h'
   ·exact ⟨cap,rows,by simp only [h']; exact he,rfl⟩
   ·rw [h'] at e2; simp [isDead] at e2
 ·intro k;rcases hr k with h|h
  ·obtain ⟨u,d,h1⟩:=H.root k;refine ⟨u,d,?_⟩;simp only [h];refine ag hS d (fun _ _ _ h=>h) (fun _ q b ho hb hlt=>rfl) (fun _ q ho=>rfl) h1
  ·exact ⟨undef,1,by simp only [h]; trivial⟩
 ·intro k p k' p' b h1 h2 h3 h4;exact H.inj k p k' p' b (hown k p h1).1 (hown k' p' h2).1 h3 h4
 ·intro k p b h1 h2;exact H.own k p b (hown k p h1).1 h2
theorem Ao {n:Nat} {f R':Nat->C}:∀ t,t < n->deadT t=.dead∨(deadT t=f t/\(deadT t).ment (fun k _=>isDead (R' k)) 3=false):=fun _ _=>.inl rfl
theorem zX {n:Nat} {f g R':Nat->C} {d:Nat} {c:C} (h0:f d=c) (hm:c.ment (fun k _=>isDead (R' k)) 3=false)
  (h:∀ t,t < n->g t=.dead∨(g t=f t/\(g t).ment (fun k _=>isDead (R' k)) 3=false)):∀ t,t < n->updT g d c t=.dead∨(updT g d c t=f t/\(updT g d c t).ment (fun k _=>isDead (R' k)) 3=false):=by
 intro t ht;simp only [updT];split
 ·rename_i e; subst e; exact .inr ⟨h0.symm,hm⟩
 ·exact h t ht
theorem AG {R:Nat->C}:∀ k,RZ k=R k∨RZ k=.dead:=fun _=>.inr rfl
theorem zH {R R':Nat->C} {d:Nat} {c:C} (h0:R d=c) (h:∀ k,R' k=R k∨R' k=.dead):∀ k,upd R' d c k=R k∨upd R' d c k=.dead:=by
 intro k;simp only [upd];split
 ·rename_i e; subst e; exact .inl h0.symm
 ·exact h k
end Go.Abs

namespace Go.Abs
theorem dY {n:Int} (h1:-9223372036854775808<=n) (h2:n<=9223372036854775807):IntKind.i64.wrap n=n:=
 y5 ⟨h1,h2⟩
theorem eI {i n:Nat} (h:i < n) (hn:n<=maxLen):IntKind.i64.wrap ((i:Int)+1)=((i+1:Nat):Int):=by
 unfold maxLen at hn;rw [dY (by omega) (by omega)];rfl
def gx {α β:Type} (l:List α) (i:Int) (k:α->Option β):Option β:=if 0<=i/\i < l.length then l[i.toNat]?.bind k else none
theorem eA {α β:Type} {l:List α} {i:Int} {k:α->Option β} {r:β} (h:gx l i k=some r):∃ x,(0<=i/\i < l.length)/\l[i.toNat]?=some x/\k x=some r:=by
 unfold gx at h;split at h
 ·rename_i hb;simp only [Option.bind_eq_some_iff] at h;obtain ⟨x,hx,h⟩:=h;exact ⟨x,hb,hx,h⟩
 ·simp at h
theorem gx_nat {α β:Type} {l:List α} {i:Nat} {k:α->Option β} {x:α} (h:l[i]?=some x):gx l (i:Int) k=k x:=by
 have hlt:=(List.getElem?_eq_some_iff.1 h).1;unfold gx;rw [if_pos ⟨by omega,by omega⟩,Int.toNat_natCast,h];rfl
theorem eQ {α:Type} (l:List α) (i:Nat) (h:i<=l.length):(∃ x,i < l.length/\l[i]?=some x/\l.drop i=x::l.drop (i+1))∨(¬ i < l.length/\i=l.length/\l.drop i=[]):=by
 by_cases hi:i < l.length
 ·exact .inl ⟨l[i],hi,by simp [hi],List.drop_eq_getElem_cons hi⟩
 ·exact .inr ⟨hi,by omega,List.drop_eq_nil_of_le (by omega)⟩
theorem sM (n i:Nat):(i < n/\n - i=n - (i+1)+1)∨(¬ i < n/\n - i=0):=by
 by_cases h:i < n
 ·exact .inl ⟨h,by omega⟩
 ·exact .inr ⟨h,by omega⟩
theorem uk {α:Type} {l:List α} {i:Nat} {x y:α} (h:l[i]?=some x):(l.set i y)[i]?=some y:=by
 have hlt:=(List.getElem?_eq_some_iff.1 h).1;simp [hlt]
section
variable {E:Env} {Q:Exit->St->Prop} {K:List Fm} {st:St}
theorem qt {J J':St->Prop} (h:∀ s,J s->J' s) (e:Exit) (s:St):ap E Q (.lp J::K) e s->ap E Q (.lp J'::K) e s:=by
 cases e with
 | normal=>exact h s
 | _=>exact id
variable {draw:Bool} {gd:Nat->Option Tmp} {bar:Nat->Bool} {i:Nat} {l:List Oper} {Z:St->Prop} {o:List Oper}
theorem jD {j:Nat} {want:Bool} {p:Prop} [inst:Decidable p] {d:Option Tmp} {ty:TypeId} {pos:String} {after:Array Edge} {op:Op} (_:guardV gd st j=some (some (!decide p)))
  (h1:¬ p->RX E draw gd bar i ({ dst:=d,op:=op,type:=ty,pos:=pos,after:=after,guard:=some (j,want) }::l) st Z)
  (h2:p->RX E draw gd bar i ({ dst:=d,op:=op,type:=ty,pos:=pos,after:=after,guard:=some (j,want) }::l) st Z) :
  RX E draw gd bar i ({ dst:=d,op:=op,type:=ty,pos:=pos,after:=after,guard:=some (j,want) }::l) st Z:=by
 by_cases hp:p
 ·exact h2 hp
 ·exact h1 hp
theorem bX {j:Nat} {want:Bool} {b:Bool} {d:Option Tmp} {ty:TypeId} {pos:String} {after:Array Edge} {op:Op} (_:guardV gd st j=some (some b))
  (h1:b=true->RX E draw gd bar i ({ dst:=d,op:=op,type:=ty,pos:=pos,after:=after,guard:=some (j,want) }::l) st Z)
  (h2:b=false->RX E draw gd bar i ({ dst:=d,op:=op,type:=ty,pos:=pos,after:=after,guard:=some (j,want) }::l) st Z) :
  RX E draw gd bar i ({ dst:=d,op:=op,type:=ty,pos:=pos,after:=after,guard:=some (j,want) }::l) st Z:=by
 cases hb:b
 ·exact h2 hb
 ·exact h1 hb
theorem dp {j:Nat} {want:Bool} {b:Bool} {d:Option Tmp} {ty:TypeId} {pos:String} {after:Array Edge} {op:Op} (_:guardV gd st j=some (some (!b)))
  (h1:b=false->RX E draw gd bar i ({ dst:=d,op:=op,type:=ty,pos:=pos,after:=after,guard:=some (j,want) }::l) st Z)
  (h2:b=true->RX E draw gd bar i ({ dst:=d,op:=op,type:=ty,pos:=pos,after:=after,guard:=some (j,want) }::l) st Z) :
  RX E draw gd bar i ({ dst:=d,op:=op,type:=ty,pos:=pos,after:=after,guard:=some (j,want) }::l) st Z:=by
 cases hb:b
 ·exact h1 hb
 ·exact h2 hb
theorem Real.lenT {n:Nat} {f:Nat->C} {R:Nat->C} (h:Real ⟨tab n f,R⟩) (t:Nat) {o:Bool} {nl:Option Bool} {es:Nat} {cap:Option Nat} {rows:List (List C)} (hlt:t < n) (ht:f t=.sl o nl es cap rows):rows.length<=maxLen:=
 h.len (t:=t) (o:=o) (nl:=nl) (es:=es) (cap:=cap) (by simp only [ir,hlt,if_true,ht])
theorem Real.lenX {n:Nat} {f:Nat->C} {R:Nat->C} (h:Real ⟨tab n f,R⟩) (k:Nat) {o:Bool} {nl:Option Bool} {es:Nat} {cap:Option Nat} {rows:List (List C)} (ht:R k=.sl o nl es cap rows):rows.length<=maxLen:=
 h.lenR (n:=k) ht
end
end Go.Abs

namespace Go.Abs
section
variable {E:Env} {Q:Exit->St->Prop} {K:List Fm} {st:St}
theorem Bo {c:Code} (h:Wk E c (ap E Q []) st):Wk E c Q st:=h
theorem fe {c:Code} {Q:Exit->St->Prop} {st':St} (hw:Weak st st') (h:Wk E c Q st'):Wk E c Q st:=fun P hT hG hm hc X a w H ts hk=>h P hT hG hm hc X a w (hw X a w H) ts hk
theorem Wk_seq {x y:Code} (h:Wk E x (ap E Q (.sk y::K)) st):Wk E (.seq x y) (ap E Q K) st:=by
 intro P hT hG hm hc X a w H ts hk;simp only [codeOk,Bool.and_eq_true] at hc;simp only [keepC,Bool.and_eq_true] at hk;refine wp_seq (wp_mono (h P hT hG hm hc.1 X a w H ts hk.1) ?_);rintro e a' w' ⟨⟨s,hs,H'⟩,hsm⟩;cases e with
 | normal=>exact wp_mono (hs P hT hG hm hc.2 X a' w' H' ts hk.2) fun e a2 w2 h2=>h2.from (hsm.resolve_left (by simp))
 | _=>exact ⟨⟨s,hs,H'⟩,hsm⟩
theorem aA {id:Nat} {c:Code} (h:Wk E c (ap E Q (.bl id::K)) st):Wk E (.block id c) (ap E Q K) st:=by
 intro P hT hG hm hc X a w H ts hk;refine wp_block (wp_mono (h P hT hG hm hc X a w H ts hk) ?_);rintro e a' w' ⟨⟨s,hs,H'⟩,hsm⟩;cases e with
 | exit i=>
  simp only [ap] at hs;simp only [Exit.inBlock];have hsm':=hsm.resolve_left (by simp);split at hs
  ·rename_i hi; rw [if_pos hi]; exact .mk' hs H' hsm'
  ·rename_i hi; rw [if_neg hi]; exact .mk' hs H' hsm'
 | _=>exact ⟨⟨s,hs,H'⟩,hsm⟩
theorem BB {c:Code} (h:Wk E c (ap E Q (.sc::K)) st):Wk E (.scope c) (ap E Q K) st:=by
 intro P hT hG hm hc X a w H ts hk;refine wp_scope_straight (wp_mono (h P hT hG hm hc X a w H ts hk) ?_);rintro e a' w' ⟨⟨s,hs,H'⟩,hsm⟩;cases e with
 | goto l=>exact hs.elim
 | _=>exact ⟨⟨s,hs,H'⟩,hsm⟩
theorem uS {id:Nat} {ops:Array Oper} {draw:Bool} (h:RX E draw (gdOf ops) (barC ops) 0 ops.toList st (fun s=>(draw=true->finChk ops s=true)/\ap E Q K .normal s)):Wk E (.region id ops draw) (ap E Q K) st:=
 pQ (by rw [BU]; exact h)
theorem ae {id:Nat} {ops:Array Oper} (h:∀ Z:St->Prop,(∀ s,ap E Q K .normal s->Z s)->RX E false (gdOf ops) (barC ops) 0 ops.toList st Z):Wk E (.region id ops false) (ap E Q K) st:=
 uS (h _ fun s hs=>⟨fun h=>(by cases h),hs⟩)
theorem fv {id:Nat} {ops:Array Oper} (h:∀ Z:St->Prop,(∀ s,finChk ops s=true->ap E Q K .normal s->Z s)->RX E true (gdOf ops) (barC ops) 0 ops.toList st Z):Wk E (.region id ops true) (ap E Q K) st:=
 uS (h _ fun s hf hs=>⟨fun _=>hf,hs⟩)
theorem Cx {y:Code} (h:Wk E y (ap E Q K) st):ap E Q (.sk y::K) .normal st:=h
theorem w8 {y:Code} (h:ap E Q K .ret st):ap E Q (.sk y::K) .ret st:=h
theorem wv {y:Code} {i:Nat} (h:ap E Q K (.exit i) st):ap E Q (.sk y::K) (.exit i) st:=h
theorem CV {id:Nat} (h:ap E Q K .normal st):ap E Q (.bl id::K) .normal st:=h
theorem yz {id:Nat} (h:ap E Q K .ret st):ap E Q (.bl id::K) .ret st:=h
theorem zF {id:Nat} (h:ap E Q K .normal st):ap E Q (.bl id::K) (.exit id) st:=by rw [zV,if_pos rfl]; exact h
theorem Cj {J:St->Prop} (h:J st):ap E Q (.lp J::K) .normal st:=h
theorem yF {J:St->Prop} (h:ap E Q K .ret st):ap E Q (.lp J::K) .ret st:=h
theorem wN {J:St->Prop} {i:Nat} (h:ap E Q K (.exit i) st):ap E Q (.lp J::K) (.exit i) st:=h
theorem yB (h:ap E Q K .ret st):ap E Q (.sc::K) .ret st:=h
theorem B5 {e:Exit} (h:Q e st):ap E Q [] e st:=h
class Pop (A:Prop) (B:outParam Prop):Prop where
 pop:B->A
instance {y:Code}:Pop (ap E Q (.sk y::K) .normal st) (Wk E y (ap E Q K) st):=⟨Cx⟩
instance {y:Code}:Pop (ap E Q (.sk y::K) .ret st) (ap E Q K .ret st):=⟨w8⟩
instance {y:Code} {i:Nat}:Pop (ap E Q (.sk y::K) (.exit i) st) (ap E Q K (.exit i) st):=⟨wv⟩
instance {id:Nat}:Pop (ap E Q (.bl id::K) .normal st) (ap E Q K .normal st):=⟨CV⟩
instance {id:Nat}:Pop (ap E Q (.bl id::K) .ret st) (ap E Q K .ret st):=⟨yz⟩
instance {id:Nat}:Pop (ap E Q (.bl id::K) (.exit id) st) (ap E Q K .normal st):=⟨zF⟩
instance {J:St->Prop}:Pop (ap E Q (.lp J::K) .ret st) (ap E Q K .ret st):=⟨yF⟩
instance {J:St->Prop} {i:Nat}:Pop (ap E Q (.lp J::K) (.exit i) st) (ap E Q K (.exit i) st):=⟨wN⟩
instance:Pop (ap E Q (.sc::K) .ret st) (ap E Q K .ret st):=⟨yB⟩
theorem ak (h:ap E Q K .normal st):Wk E .skip (ap E Q K) st:=pQ h
theorem Be {id:Nat} (h:ap E Q K .normal st):Wk E (.label id) (ap E Q K) st:=pQ h
theorem dL {id:Nat} (h:ap E Q K (.exit id) st):Wk E (.exit id) (ap E Q K) st:=pQ h
theorem Wk_ret (h:ap E Q K .ret st):Wk E .ret (ap E Q K) st:=pQ h
theorem oC {Q:Exit->St->Prop} {c:Operand} {x y:Code} {b:Bool} (hc:st.ev c=.val (.bool b)) (h1:b=true->Wk E x Q st) (h2:b=false->Wk E y Q st):Wk E (.cond c x y) Q st:=by
 intro P hT hG hm hco X a w H ts hk;simp only [codeOk,Bool.and_eq_true] at hco;simp only [keepC,Bool.and_eq_true] at hk;have H0:=H;obtain ⟨m,HM⟩:=H;have hr:=ev_ok HM c;rw [hc] at hr;have hv:=hr.of_val;cases b with
 | true=>exact wp_cond_true hv (h1 rfl P hT hG hm hco.1 X a w H0 ts hk.1)
 | false=>exact wp_cond_false hv (h2 rfl P hT hG hm hco.2 X a w H0 ts hk.2)
theorem dG {c:Operand} {x y:Code} (hc:st.ev c=.val (.bool true)) (h:Wk E x (ap E Q K) st):Wk E (.cond c x y) (ap E Q K) st:=oC hc (fun _=>h) (fun h=>by cases h)
theorem dB {c:Operand} {x y:Code} (hc:st.ev c=.val (.bool false)) (h:Wk E y (ap E Q K) st):Wk E (.cond c x y) (ap E Q K) st:=oC hc (fun h=>by cases h) (fun _=>h)
theorem bj {c:Operand} {x y:Code} {p:Prop} [inst:Decidable p] (hc:st.ev c=.val (.bool (decide p))) (h1:p->Wk E x (ap E Q K) st) (h2:¬ p->Wk E y (ap E Q K) st):Wk E (.cond c x y) (ap E Q K) st:=
 oC hc (fun h=>h1 (of_decide_eq_true h)) (fun h=>h2 (of_decide_eq_false h))
theorem rM {c:Operand} {x y:Code} {p:Prop} [inst:Decidable p] (hc:st.ev c=.val (.bool (!decide p))) (h1:¬ p->Wk E x (ap E Q K) st) (h2:p->Wk E y (ap E Q K) st):Wk E (.cond c x y) (ap E Q K) st:=
 oC hc (fun h=>h1 (by simpa using h)) (fun h=>h2 (by simpa using h))
theorem aH {c:Operand} {x y:Code} {b:Bool} (hc:st.ev c=.val (.bool b)) (h1:b=true->Wk E x (ap E Q K) st) (h2:b=false->Wk E y (ap E Q K) st):Wk E (.cond c x y) (ap E Q K) st:=oC hc h1 h2
theorem eS {c:Operand} {x y:Code} {b:Bool} (hc:st.ev c=.val (.bool (!b))) (h1:b=false->Wk E x (ap E Q K) st) (h2:b=true->Wk E y (ap E Q K) st):Wk E (.cond c x y) (ap E Q K) st:=
 oC hc (fun h=>h1 (by simpa using h)) (fun h=>h2 (by simpa using h))
theorem gp {c:Code} {Q:Exit->St->Prop} (h:Real st->Wk E c Q st):Wk E c Q st:=fun P hT hG hm hc X a w H ts hk=>h ⟨X,a,w,H⟩ P hT hG hm hc X a w H ts hk
theorem uG {c:Code} {Q Q':Exit->St->Prop} (hq:∀ e s,Q e s->Q' e s) (h:Wk E c Q st):Wk E c Q' st:=
 fun P hT hG hm hc X a w H ts hk=>wp_mono (h P hT hG hm hc X a w H ts hk) fun e a' w' ⟨⟨s,hs,H'⟩,hsm⟩=>⟨⟨s,hq e s hs,H'⟩,hsm⟩
theorem uz {α:Type} (mk:α->St) (inv:α->Prop) (μ:α->Nat) (x0:α) {c:Code} (h0:Weak st (mk x0)) (hi:inv x0)
  (hr:∀ x,inv x->Real (mk x)->Wk E c (ap E Q (.lp (fun s=>∃ x',Weak s (mk x')/\inv x'/\μ x' < μ x)::K)) (mk x)):Wk E (.loop c) (ap E Q K) st:=by
 classical
 intro P hT hG hm hc X a0 w H ts hk
 let J:Act->World->Prop:=fun a w=>(∃ x,inv x/\Inv X (mk x) a w)/\Same ts a0 a
 let ν:Act->World->Nat:=fun a w=>if h:∃ k,∃ x,inv x/\Inv X (mk x) a w/\μ x=k then Classical.choose (jk _ h) else 0
 refine wp_loop J ν ⟨⟨x0,hi,h0 X a0 w H⟩,.refl _ _⟩ ?_;rintro a w ⟨⟨x1,hI1,H1⟩,hs0⟩;have hex:∃ k,∃ x,inv x/\Inv X (mk x) a w/\μ x=k:=⟨_,x1,hI1,H1,rfl⟩;obtain ⟨x2,hI2,H2,hm2⟩:=(Classical.choose_spec (jk _ hex)).1;have hν:ν a w=μ x2:=by simp only [ν]; rw [dif_pos hex,<-hm2]
 refine wp_mono (hr x2 hI2 ⟨_,_,_,H2⟩ P hT hG hm hc X a w H2 ts hk) ?_;rintro e a' w' ⟨⟨s',hs',H'⟩,hsm⟩;cases e with
 | normal=>
  obtain ⟨x',hw',hI',hlt⟩:=hs';have H'':=hw' X a' w' H';refine ⟨⟨⟨x',hI',H''⟩,hs0.trans (hsm.resolve_left (by simp))⟩,?_⟩;have hex':∃ k,∃ x,inv x/\Inv X (mk x) a' w'/\μ x=k:=⟨_,x',hI',H'',rfl⟩;have:ν a' w'<=μ x':=by simp only [ν]; rw [dif_pos hex']; exact (Classical.choose_spec (jk _ hex')).2 _ ⟨x',hI',H'',rfl⟩
  omega
 | _=>exact KQ.from (a1:=a) ⟨⟨s',hs',H'⟩,hsm⟩ hs0
theorem gv {α β ρ:Type} {l:List α} {L:List α->Nat->β->Option ρ} {r:ρ} (mk:Nat->β->St) (b0:β) {c:Code} (h:L l 0 b0=some r) (h0:Weak st (mk 0 b0))
  (hr:∀ i b,i<=l.length->L (l.drop i) i b=some r->Real (mk i b)->Wk E c (ap E Q (.lp (fun s=>i < l.length/\∃ b',Weak s (mk (i+1) b')/\L (l.drop (i+1)) (i+1) b'=some r)::K)) (mk i b)):Wk E (.loop c) (ap E Q K) st:=by
 refine uz (fun x:Nat × β=>mk x.1 x.2) (fun x=>x.1<=l.length/\L (l.drop x.1) x.1 x.2=some r) (fun x=>l.length - x.1) (0,b0) h0 ⟨Nat.zero_le _,by simpa using h⟩ ?_;rintro ⟨i,b⟩ ⟨h1,h2⟩ hreal;refine uG (qt ?_) (hr i b h1 h2 hreal);rintro s ⟨g1,b',g2,g3⟩;exact ⟨(i+1,b'),g2,⟨g1,g3⟩,by simp only; omega⟩
theorem wM {β ρ:Type} {L:Nat->Nat->β->Option ρ} {r:ρ} {n s:Nat} (mk:Nat->β->St) (b0:β) {c:Code} (h:L (n - s) s b0=some r) (h0:Weak st (mk s b0))
  (hr:∀ i b,(i<=n∨i=s)->L (n - i) i b=some r->Real (mk i b)->Wk E c (ap E Q (.lp (fun s=>i < n/\∃ b',Weak s (mk (i+1) b')/\L (n - (i+1)) (i+1) b'=some r)::K)) (mk i b)):Wk E (.loop c) (ap E Q K) st:=by
 refine uz (fun x:Nat × β=>mk x.1 x.2) (fun x=>(x.1<=n∨x.1=s)/\L (n - x.1) x.1 x.2=some r) (fun x=>n - x.1) (s,b0) h0 ⟨.inr rfl,h⟩ ?_;rintro ⟨i,b⟩ ⟨h1,h2⟩ hreal;refine uG (qt ?_) (hr i b h1 h2 hreal);rintro s ⟨g1,b',g2,g3⟩;exact ⟨(i+1,b'),g2,⟨.inl g1,g3⟩,by simp only; omega⟩
theorem qa {β ρ:Type} {L:Nat->β->Option ρ} {r:ρ} {n:Nat} (mk:β->St) (b0:β) {c:Code} (h:L n b0=some r) (h0:Weak st (mk b0))
  (hr:∀ n b,L n b=some r->Real (mk b)->Wk E c (ap E Q (.lp (fun s=>∃ n',n' < n/\∃ b',Weak s (mk b')/\L n' b'=some r)::K)) (mk b)):Wk E (.loop c) (ap E Q K) st:=by
 refine uz (fun x:Nat × β=>mk x.2) (fun x=>L x.1 x.2=some r) (fun x=>x.1) (n,b0) h0 h ?_;rintro ⟨n,b⟩ h1 hreal;refine uG (qt ?_) (hr n b h1 hreal);rintro s ⟨n',g1,b',g2,g3⟩;exact ⟨(n',b'),g2,g3,g1⟩
theorem dh {x y:Code} {ρ:Type} {r:ρ} {T0:Type} (mk:T0->St) {g:T0->Option ρ}
  (hx:(∀ s,∀ p0,Weak s (mk p0)->g p0=some r->Wk E y (ap E Q K) s)->Wk E x (ap E Q (.sk y::K)) st)
  (hJ:∀ p0,g p0=some r->Wk E y (ap E Q K) (mk p0)):Wk E (.seq x y) (ap E Q K) st:=
 Wk_seq (hx fun s p0 hw h=>fe hw (hJ p0 h))
theorem Br {x y:Code} {ρ:Type} {r:ρ} {T0 T1:Type} (mk:T0->T1->St) {g:T0->T1->Option ρ}
  (hx:(∀ s,∀ p0 p1,Weak s (mk p0 p1)->g p0 p1=some r->Wk E y (ap E Q K) s)->Wk E x (ap E Q (.sk y::K)) st)
  (hJ:∀ p0 p1,g p0 p1=some r->Wk E y (ap E Q K) (mk p0 p1)):Wk E (.seq x y) (ap E Q K) st:=
 Wk_seq (hx fun s p0 p1 hw h=>fe hw (hJ p0 p1 h))
theorem BP {x y:Code} {ρ:Type} {r:ρ} {T0 T1 T2 T3 T4 T5:Type} (mk:T0->T1->T2->T3->T4->T5->St) {g:T0->T1->T2->T3->T4->T5->Option ρ}
  (hx:(∀ s,∀ p0 p1 p2 p3 p4 p5,Weak s (mk p0 p1 p2 p3 p4 p5)->g p0 p1 p2 p3 p4 p5=some r->Wk E y (ap E Q K) s)->Wk E x (ap E Q (.sk y::K)) st)
  (hJ:∀ p0 p1 p2 p3 p4 p5,g p0 p1 p2 p3 p4 p5=some r->Wk E y (ap E Q K) (mk p0 p1 p2 p3 p4 p5)):Wk E (.seq x y) (ap E Q K) st:=
 Wk_seq (hx fun s p0 p1 p2 p3 p4 p5 hw h=>fe hw (hJ p0 p1 p2 p3 p4 p5 h))
end
theorem Cp {P:Program} {E:Env} (hT:TOk P E) (hG:GOk P E) (hmix:P.follows .mixedOrders=true) {f:FuncId} {fn:Func} {body:Code} (hf:FunOk P f fn body)
  {pure:Bool} {cs:List C} {r:C} (hn:cs.length<=fn.ntmps)
  (hW:Real (entry [] cs fn.ntmps)->Wk E body (FinW E fn.results.toList pure r) (entry [] cs fn.ntmps)):Con P f [] pure cs r:=by
 intro w S m us hl hr hinj;left;have hname':¬ fn.name = "runtime.NumGoroutine" := by simpa using hf.name
 refine ⟨by simp [callFunc,hf.get,hname',hf.bd],?_⟩;have H:=s7 (n:=fn.ntmps) hl hn hr hinj;refine calls_of_wp hf.get hf.bd (wp_mono (hW ⟨_,_,_,m,H⟩ P hT hG hmix hf.ok _ _ _ ⟨m,H⟩ [] (rJ _)) ?_);rintro e a' w' ⟨⟨s,⟨he,r0,hfin,hrok,hpure⟩,m',H'⟩,-⟩;have main:∃ u,(results fn a'.tmps).run P w'=.ok u w'/\Done (ctxOf w S (Owned (R0 [] cs) m)) w' r0 u:=by
  unfold finish at hfin;split at hfin
  case h_2=>simp at hfin
  rename_i cs' hres;obtain ⟨us',f1,f2,f3⟩:=uj hT H' hres;refine ⟨_,pC f1,?_⟩;split at hfin
  ·rename_i rs hpl;simp only [Option.some.injEq] at hfin;subst hfin;exact oJ hT H' f2 f3 hpl
  ·split at hfin
   ·rename_i s1 kp hprep;simp only [Option.some.injEq] at hfin;subst hfin;exact pN hT H' f2 f3 hprep
   ·simp at hfin
 obtain ⟨u,hrun,hd⟩:=main;obtain ⟨mr,d,g1,g2,g3⟩:=hd.ex;have post:a'.defers=[]/\∃ v,(results fn a'.tmps).run P w'=.ok v w'/\∃ u,Ending.returned v=.returned u/\∃ mr d,rel w' (fun b=>((pure=false/\(S b∨Owned (R0 [] cs) m b))∨w.heap.size<=b)/\¬ Own1 r mr b) L0 mr true d [] r u ∧
   (∀ q q' b,OwnAt r q->OwnAt r q'->blk (mr q)=some b->blk (mr q')=some b->q=q')/\(∀ b,Own1 r mr b->w.heap.size<=b∨Owned (R0 [] cs) m b)/\FrK w (Owned (R0 [] cs) m) w':=by
  refine ⟨H'.df,u,hrun,u,rfl,vS hrok ⟨mr,d,?_,g2,g3,⟨hd.fr.os,hd.fr.tape,hd.fr.output,hd.fr.drawn,hd.fr.size,hd.fr.block⟩⟩ (fun b h=>(fF h).elim)⟩;cases hp:pure with
  | true=>exact hpure hp w' _ _ mr d [] u g1
  | false=>exact ag (fun b _ hs=>⟨⟨hs.1.imp (fun h=>⟨rfl,h⟩) id,hs.2⟩,rfl⟩) d (fun _ _ _ h=>h) (fun _ _ _ _ _ _=>rfl) (fun _ _ _=>rfl) g1
 rcases he with rfl|rfl
 ·exact post
 ·exact post
end Go.Abs

namespace Go.Abs
def entT (ops:Array Oper) (o:Oper) (st st':St):Ent:=
 match hardN ops o st,hardE o st with
 | true,some he=>.h he
 | _,_=>.b ((match o.dst with|some d=>(st'.tmps[d]?).getD .dead|none=>.dead)::vals ops o st) o.dst (kdOf o)
def dstIn (o:Oper) (st:St):Bool:=
 match o.dst with
 | some d=>Nat.blt d st.tmps.length
 | none=>true
def chkT (ops:Array Oper):Nat->List Oper->List St->Hist->Bool
 | i,o::l,st::st'::tr,h=>okE ops i (entT ops o st st') h && (hardN ops o st || (deadOk ops i o st && dstIn o st)) && chkT ops (i+1) l (st'::tr) (updH h i (entT ops o st st'))
 | _,[],_,_=>true
 | _,_,_,_=>false
def stepT (E:Env) (ops:Array Oper) (o:Oper) (st:St):Option St:=
 match hardN ops o st with
 | true=>match hardE o st with
  | some he=>hardF E o he st
  | none=>none
 | false=>aC E ops o st
def RX2 (E:Env) (ops:Array Oper):List Oper->St->List St->(St->Prop)->Prop
 | [],st,tr,Z=>chkT ops 0 ops.toList (st::tr).reverse (fun _=>none)=true/\Z st
 | o::l,st,tr,Z=>∃ st',stepT E ops o st=some st'/\RX2 E ops l st' (st::tr) Z
def chainT (E:Env) (ops:Array Oper):List Oper->St->List St->Prop
 | [],_,[]=>True
 | o::l,st,s::ss=>stepT E ops o st=some s/\chainT E ops l s ss
 | _,_,_=>False
def lastT:St->List St->St
 | st,[]=>st
 | _,s::ss=>lastT s ss
section
variable {E:Env} {ops:Array Oper} {st:St} {Z:St->Prop}
theorem vi:∀ (l:List Oper) (st:St) (tr:List St),RX2 E ops l st tr Z->∃ sts,chainT E ops l st sts/\chkT ops 0 ops.toList (tr.reverse++st::sts) (fun _=>none)=true/\Z (lastT st sts)
 | [],st,tr,h=>⟨[],trivial,by simpa [RX2] using h.1,h.2⟩
 | o::l,st,tr,h=>by
  obtain ⟨st',h1,h2⟩:=h;obtain ⟨sts,h3,h4,h5⟩:=vi l st' (st::tr) h2;exact ⟨st'::sts,⟨h1,h3⟩,by simpa using h4,h5⟩
theorem vd:∀ (l:List Oper) (i:Nat) (st:St) (sts:List St) (h:Hist),chainT E ops l st sts->chkT ops i l (st::sts) h=true->∃ h',runH E ops ((l.zipIdx i).map fun x=>(x.2,x.1)) (st,h)=some (lastT st sts,h')
 | [],i,st,[],h,_,_=>⟨h,rfl⟩
 | [],i,st,s::ss,h,hc,_=>hc.elim
 | o::l,i,st,[],h,hc,_=>hc.elim
 | o::l,i,st,s::ss,h,hc,hk=>by
  obtain ⟨h1,h2⟩:=hc;simp only [chkT,Bool.and_eq_true] at hk;obtain ⟨⟨k1,k2⟩,k3⟩:=hk;obtain ⟨h',hr⟩:=vd l (i+1) s ss _ h2 k3;refine ⟨h',?_⟩;have:stepH E ops i o (st,h)=some (s,updH h i (entT ops o st s)):=by
   unfold stepT at h1;cases hb:hardN ops o st with
   | true=>
    rw [hb] at h1;simp only at h1;cases he:hardE o st with
    | none=>rw [he] at h1; cases h1
    | some he0=>
     rw [he] at h1;have ee:entT ops o st s=.h he0:=by simp only [entT,hb,he]
     rw [ee] at k1 ⊢;exact mY hb he k1 h1
   | false=>
    rw [hb] at h1;simp only [aC] at h1;split at h1
    case h_2=>cases h1
    rename_i e he;simp only [hb,Bool.false_or,Bool.and_eq_true] at k2;have hv:(match o.dst with|some d=>(s.tmps[d]?).getD .dead|none=>.dead)=e.val/\e.dst=o.dst:=by
     have hd:=j5 he;refine ⟨?_,hd⟩;have hn:=qz hb he;have ht:=uV hn h1;rw [hd] at ht;cases ho:o.dst with
     | none=>
      rw [ho] at hd;cases e with
      | q d c=>simp only [SE.dst] at hd; subst hd; rfl
      | n d c r=>cases hd
      | s n cs=>rfl
     | some d=>
      rw [ho] at ht;have hlt:=k2.2;simp only [dstIn,ho,Nat.blt_eq] at hlt;simp only [ht,List.getElem?_set_self hlt,Option.getD_some]
    have ee:entT ops o st s=.b (e.val::vals ops o st) e.dst (kdOf o):=by
     unfold entT;rw [hb];simp only;rw [hv.1,hv.2]
    rw [ee] at k1 ⊢;exact iK hb he k2.1 k1 h1
  simp only [List.zipIdx_cons,List.map_cons,runH,this];exact hr
variable {Q:Exit->St->Prop} {K:List Fm}
theorem zx {id:Nat} {ops:Array Oper} (h:∀ Z:St->Prop,(∀ s,ap E Q K .normal s->Z s)->RX2 E ops ops.toList st [] Z):Wk E (.region id ops true) (ap E Q K) st:=by
 intro P hT hG hm hc X a w H ts hk;obtain ⟨sts,h1,h2,h3⟩:=vi _ _ _ (h (fun s=>ap E Q K .normal s) fun _ h=>h);obtain ⟨h',hr⟩:=vd _ 0 _ _ _ h1 (by simpa using h2);have hall:allOf ops=(ops.toList.zipIdx 0).map fun x=>(x.2,x.1):=by
  rw [<-tn];unfold restOf allOf;apply jg;intro k hk;simp only [List.mem_range] at hk;have:(Array.replicate ops.size false).getD k true=false:=by simp [Array.getD_eq_getD_getElem?,hk]
  rw [this];simp
 rw [<-hall] at hr;refine wp_mono (wp_region_any hm (lB (Q:=fun e a' w'=>e=.normal/\Inv X (lastT st sts) a' w') hk _ _ _ _ (.refl _ _) (BJ hT hG hm hc H hr (fun a w Hf=>⟨rfl,Hf⟩) (fun c a w h=>by cases h.1)))) ?_;rintro e a' w' ⟨⟨rfl,Hf⟩,hsm⟩;exact ⟨⟨_,h3,Hf⟩,hsm⟩
theorem CI {tr:List St} (hc:chkT ops 0 ops.toList (st::tr).reverse (fun _=>none)=true) (hz:Z st):RX2 E ops [] st tr Z:=⟨hc,hz⟩
theorem RX_one {gd:Nat->Option Tmp} {o:Oper} {Kp:St->Prop} (hg:o.guard=none∨gd=gdOf ops) (h:RX E true gd (fun _=>false) 0 [o] st Kp):∃ s,aC E ops o st=some s/\Kp s:=by
 have body:∀ x,stepR E true (fun _=>false) 0 o st=some x->(∃ e,bodySE E o st=some e/\e.apply st=some x):=by
  intro x hs;simp only [stepR] at hs;split at hs
  ·rename_i e he;split at hs
   ·rename_i s0 hs0; exact ⟨e,he,by rw [hs0]; exact hs⟩
   ·simp at hs
  ·simp at hs
 unfold RX at h;split at h
 ·rename_i hgn;split at h
  case h_2=>exact h.elim
  rename_i s hs;obtain ⟨e,h1,h2⟩:=body s hs;exact ⟨s,by simp only [aC,seff,hgn,h1,h2],h⟩
 ·rename_i j want hgs;have hgd:gd=gdOf ops:=by
   rcases hg with hg|hg
   ·rw [hg] at hgs; cases hgs
   ·exact hg
  subst hgd;split at h
  case h_2=>exact h.elim
  rename_i t ht;simp only [gdOf] at ht;split at h
  ·rename_i b hb;split at h
   ·rename_i hbw;split at h
    case h_2=>exact h.elim
    rename_i s hs;obtain ⟨e,h1,h2⟩:=body s hs;exact ⟨s,by simp only [aC,seff,hgs,ht,hb,if_pos hbw,h1,h2],h⟩
   ·rename_i hbw;exact ⟨_,by simp only [aC,seff,hgs,ht,hb,if_neg hbw,SE.apply],h⟩
  ·rename_i vs hb;exact ⟨_,by simp only [aC,seff,hgs,ht,hb,SE.apply],h⟩
  ·exact h.elim
theorem RX2_s {o:Oper} {l:List Oper} {tr:List St} (hg:o.guard=none) (hb:hardB o=false) (h:∀ K:St->Prop,(∀ s,RX2 E ops l s (st::tr) Z->K s)->RX E true (fun _=>none) (fun _=>false) 0 [o] st K):RX2 E ops (o::l) st tr Z:=by
 obtain ⟨s,h1,h2⟩:=RX_one (ops:=ops) (.inl hg) (h _ fun _ h=>h);exact ⟨s,by simp only [stepT,hardN,hb,Bool.false_and]; exact h1,h2⟩
def bindS:Option St->(St->Prop)->Prop
 | some s,K=>K s
 | none,_=>False
@[go_sem] theorem Dt {s:St} {K:St->Prop}:bindS (some s) K=K s:=rfl
theorem RX2_wg {x v:Operand} {t ty:TypeId} {pos:String} {after:Array Edge} {guard:Option (Nat × Bool)} {l:List Oper} {tr:List St} (hon:onB ops { dst:=none,op:=.store t x v,type:=ty,pos:=pos,after:=after,guard:=guard } st=true)
  (h:∀ K:St->Prop,(∀ s,RX2 E ops l s (st::tr) Z->K s)->bindS (kV E t (st.ev x) (st.ev v) st) K) :
  RX2 E ops ({ dst:=none,op:=.store t x v,type:=ty,pos:=pos,after:=after,guard:=guard }::l) st tr Z:=by
 have:=h _ fun _ h=>h;cases ha:kV E t (st.ev x) (st.ev v) st with
 | none=>rw [ha] at this; exact this.elim
 | some s'=>
  rw [ha] at this;refine ⟨s',?_,this⟩;simp only [stepT,hardN,hon,Bool.and_true];exact ha
theorem RX2_w {x v:Operand} {t ty:TypeId} {pos:String} {after:Array Edge} {l:List Oper} {tr:List St} (h:∀ K:St->Prop,(∀ s,RX2 E ops l s (st::tr) Z->K s)->bindS (kV E t (st.ev x) (st.ev v) st) K) :
  RX2 E ops ({ dst:=none,op:=.store t x v,type:=ty,pos:=pos,after:=after,guard:=none }::l) st tr Z:=RX2_wg rfl h
variable {d:Option Tmp} {ty:TypeId} {pos:String} {after:Array Edge} {op:Op} {l:List Oper} {tr:List St} {j:Nat} {want:Bool}
end
end Go.Abs

namespace Go.Abs
def rowI (k:IntKind) (n:Int):List C:=[.val (.int k n)]
def rowB (b:Bool):List C:=[.val (.bool b)]
def rowS (s:ByteArray):List C:=[.val (.string s)]
def rowL {α:Type} (es:Nat) (row:α->List C) (l:List α):List C:=[.sl false none es none (l.map row)]
def decI (k:IntKind):C->Option Int
 | .val (.int k' n)=>if k'=k then some n else none
 | _=>none
def decB:C->Option Bool
 | .val (.bool b)=>some b
 | _=>none
def decS:C->Option ByteArray
 | .val (.string s)=>some s
 | _=>none
def dD {α:Type} (d:List C->Option α):List (List C)->Option (List α)
 | []=>some []
 | r::rs=>match d r,dD d rs with
  | some x,some xs=>some (x::xs)
  | _,_=>none
def decL {α:Type} (es:Nat) (d:List C->Option α):C->Option (List α)
 | .sl _ _ es' _ rows=>if es'=es then dD d rows else none
 | .val (.slice none 0 0)=>some []
 | _=>none
def dec1 {α:Type} (d:C->Option α):List C->Option α
 | [c]=>d c
 | _=>none
theorem gu (k:IntKind) (n:Int):decI k (.val (.int k n))=some n:=by simp [decI]
theorem gY (b:Bool):decB (.val (.bool b))=some b:=rfl
theorem gX (s:ByteArray):decS (.val (.string s))=some s:=rfl
theorem be {α:Type} {d:List C->Option α} {row:α->List C} (h:∀ x,d (row x)=some x) (l:List α):dD d (l.map row)=some l:=by
 induction l with
 | nil=>rfl
 | cons x xs ih=>simp only [List.map_cons,dD,h,ih]
theorem jf {α:Type} (es:Nat) (d:List C->Option α) (o:Bool) (nl:Option Bool) (cap:Option Nat) (rows:List (List C)):decL es d (.sl o nl es cap rows)=dD d rows:=by
 simp only [decL,if_true]
theorem Bg {α:Type} (es:Nat) (d:List C->Option α):decL es d (.val (.slice none 0 0))=some []:=rfl
theorem yh {α:Type} (d:List C->Option α):dD d []=some []:=rfl
theorem js (k:IntKind) (n:Int):dec1 (decI k) (rowI k n)=some n:=by simp [dec1,rowI,decI]
theorem mG (s:ByteArray):dec1 decS (rowS s)=some s:=rfl
theorem aj {k:IntKind} {c:C} {n:Int} (h:decI k c=some n):Le c (.val (.int k n)):=by
 unfold decI at h;split at h
 ·split at h
  ·rename_i hk; subst hk; simp only [Option.some.injEq] at h; subst h; exact Le.refl _
  ·simp at h
 ·simp at h
theorem bw {c:C} {s:ByteArray} (h:decS c=some s):Le c (.val (.string s)):=by
 unfold decS at h;split at h
 ·simp only [Option.some.injEq] at h; subst h; exact Le.refl _
 ·simp at h
theorem tk {α:Type} {d:List C->Option α} {row:α->List C} (hd:∀ r x,d r=some x->LeL r (row x)):∀ {rs:List (List C)} {l:List α},dD d rs=some l->LeLL rs (l.map row):=by
 intro rs
 induction rs with
 | nil=>intro l h; simp only [dD,Option.some.injEq] at h; subst h; exact LeLL.refl []
 | cons r rs ih=>
  intro l h;simp only [dD] at h;split at h
  ·rename_i x xs h1 h2;simp only [Option.some.injEq] at h;subst h;have t:=ih h2;refine ⟨by simp [t.len],?_⟩;intro i a b ha hb;cases i with
   | zero=>simp only [List.getElem?_cons_zero,Option.some.injEq,List.map_cons] at ha hb; subst ha; subst hb; exact hd _ _ h1
   | succ i=>exact t.get i a b (by simpa using ha) (by simpa using hb)
  ·simp at h
theorem aF {α:Type} {es:Nat} {d:List C->Option α} {row:α->List C} (hd:∀ r x,d r=some x->LeL r (row x)) {c:C} {l:List α} (h:decL es d c=some l):Le c (.sl false none es none (l.map row)):=by
 unfold decL at h;split at h
 ·split at h
  ·rename_i he; subst he; exact Le.sl (tk hd h)
  ·simp at h
 ·simp only [Option.some.injEq] at h; subst h; exact Le.nils
 ·simp at h
theorem y4 {α:Type} {d:C->Option α} {row:α->C} (hd:∀ c x,d c=some x->Le c (row x)) {r:List C} {x:α} (h:dec1 d r=some x):LeL r [row x]:=by
 unfold dec1 at h;split at h
 ·exact LeL.cons (hd _ _ h) LeL.nil
 ·simp at h
def apx {α β:Type} (bytes:Nat) (a b:List α) (k:List α->Option β):Option β:=if (a.length+b.length) * (bytes+1)<=140737488355328 then k (a++b) else none
theorem qG {α β:Type} {bytes:Nat} {a b:List α} {k:List α->Option β} {r:β} (h:apx bytes a b k=some r):(a.length+b.length) * (bytes+1)<=140737488355328/\k (a++b)=some r:=by
 unfold apx at h;split at h
 ·rename_i hb; exact ⟨hb,h⟩
 ·simp at h
def slx {α β:Type} (l:List α) (lo hi:Int) (k:List α->Option β):Option β:=if 0<=lo/\0<=hi/\lo.toNat<=hi.toNat/\hi.toNat<=l.length then k ((l.drop lo.toNat).take (hi.toNat - lo.toNat)) else none
theorem qC {α β:Type} {l:List α} {lo hi:Int} {k:List α->Option β} {r:β} (h:slx l lo hi k=some r):(0<=lo/\0<=hi/\lo.toNat<=hi.toNat/\hi.toNat<=l.length)/\k ((l.drop lo.toNat).take (hi.toNat - lo.toNat))=some r:=by
 unfold slx at h;split at h
 ·rename_i hb; exact ⟨hb,h⟩
 ·simp at h
theorem z7 {α:Type} (row:α->List C) (l:List α) (n:Nat):(l.map row).drop n=(l.drop n).map row:=List.map_drop.symm
theorem AD {α:Type} (row:α->List C) (l:List α) (n:Nat):(l.map row).take n=(l.take n).map row:=List.map_take.symm
theorem zY {α:Type} {row:α->List C} {l:List α} {i:Nat} {x y:α} {g:List C->List C} (hx:l[i]?=some x) (h:g (row x)=row y):(l.map row).modify i g=(l.set i y).map row:=by
 apply List.ext_getElem?;intro k;rw [gmod,List.getElem?_map,List.getElem?_map,List.getElem?_set];by_cases hk:i=k
 ·subst hk;have hlt:=(List.getElem?_eq_some_iff.1 hx).1;have he:l[i]=x:=by simpa [hlt] using hx
  simp [he,h,hlt]
 ·simp [hk]
end Go.Abs

namespace Go.Abs
structure RowOk {α:Type} (row:α->List C):Prop where
 frz:∀ x,(row x).map C.frz=row x
 ok:∀ x,(row x).all C.cellOk=true
 plain:∀ x,(row x).all plainCell=true
theorem RowOk.frzRows {α:Type} {row:α->List C} (h:RowOk row) (l:List α):Abs.frzRows (l.map row)=l.map row:=by
 simp only [Abs.frzRows,List.map_map]
 congr 1
 funext x
 exact h.frz x
theorem RowOk.all {α:Type} {row:α->List C} (h:RowOk row) (l:List α):(l.map row).all (fun r=>r.all C.cellOk)=true:=by
 simp only [List.all_map,List.all_eq_true];intro x _;exact h.ok x
theorem RowOk.allPlain {α:Type} {row:α->List C} (h:RowOk row) (l:List α):(l.map row).all (fun r=>r.all plainCell)=true:=by
 simp only [List.all_map,List.all_eq_true];intro x _;exact h.plain x
theorem yc:frzRows []=[]:=rfl
theorem wQ (r:List C) (rs:List (List C)):frzRows (r::rs)=r.map C.frz::frzRows rs:=rfl
theorem dV (k:IntKind):RowOk (rowI k):=⟨fun _=>rfl,fun _=>rfl,fun _=>rfl⟩
theorem gQ:RowOk rowS:=⟨fun _=>rfl,fun _=>rfl,fun _=>rfl⟩
theorem yT (k:IntKind) (n:Int):rowI k n=[.val (.int k n)]:=rfl
theorem yU (b:Bool):rowB b=[.val (.bool b)]:=rfl
theorem yZ (s:ByteArray):rowS s=[.val (.string s)]:=rfl
theorem yW {α:Type} (es:Nat) (row:α->List C) (l:List α):rowL es row l=[.sl false none es none (l.map row)]:=rfl
theorem dy (k:IntKind):∀ (r:List C) (x:Int),dec1 (decI k) r=some x->LeL r (rowI k x):=fun _ _ h=>y4 (row:=fun n=>.val (.int k n)) (fun _ _ h=>aj h) h
theorem jX:∀ (r:List C) (x:ByteArray),dec1 decS r=some x->LeL r (rowS x):=fun _ _ h=>y4 (row:=fun n=>.val (.string n)) (fun _ _ h=>bw h) h
theorem vR {α:Type} (d:List C->Option α) (r:List C) (rs:List (List C)):dD d (r::rs)=match d r,dD d rs with
 | some x,some xs=>some (x::xs)
 | _,_=>none:=rfl
theorem AK {α:Type} (l:List α) (i n:Nat) (y:α):(l.set i y).take n=(l.take n).set i y:=by
 apply List.ext_getElem?;intro k;simp only [List.getElem?_take,List.getElem?_set,List.length_take];by_cases h2:i=k
 ·subst h2;by_cases h1:i < n
  ·by_cases h3:i < l.length
   ·have h4:i < min n l.length:=by omega
    simp only [h1,h3,h4,if_true]
   ·have h4:¬ i < min n l.length:=by omega
    simp only [h1,h3,h4,if_true,if_false]
  ·have h4:¬ i < min n l.length:=by omega
   simp only [h1,h4,if_true,if_false]
 ·simp [h2]
def apn {α β:Type} (bytes:Nat) (b:List α) (k:Option β):Option β:=if b.length * (bytes+1)<=140737488355328 then k else none
theorem qv {α β:Type} {bytes:Nat} {b:List α} {k:Option β} {r:β} (h:apn bytes b k=some r):b.length * (bytes+1)<=140737488355328/\k=some r:=by
 unfold apn at h;split at h
 ·rename_i hb; exact ⟨hb,h⟩
 ·simp at h
theorem LeLL.cons {a b:List C} {as bs:List (List C)} (h:LeL a b) (t:LeLL as bs):LeLL (a::as) (b::bs):=by
 refine ⟨by simp [t.len],?_⟩;intro i c c' h1 h2;cases i with
 | zero=>simp only [List.getElem?_cons_zero,Option.some.injEq] at h1 h2; subst h1; subst h2; exact h
 | succ i=>exact t.get i c c' (by simpa using h1) (by simpa using h2)
theorem LeLL.append {as bs as' bs':List (List C)} (h:LeLL as bs) (t:LeLL as' bs'):LeLL (as++as') (bs++bs'):=by
 refine ⟨by simp [h.len,t.len],?_⟩;intro i c c' h1 h2;by_cases hi:i < as.length
 ·rw [List.getElem?_append_left hi] at h1;rw [List.getElem?_append_left (by rw [h.len]; exact hi)] at h2;exact h.get i c c' h1 h2
 ·rw [List.getElem?_append_right (by omega)] at h1;rw [List.getElem?_append_right (by rw [h.len]; omega),h.len] at h2;exact t.get _ c c' h1 h2
theorem LeLL.mapAppend {α:Type} {row:α->List C} {as as':List (List C)} {l l':List α} (h:LeLL as (l.map row)) (t:LeLL as' (l'.map row)):LeLL (as++as') ((l++l').map row):=by
 rw [List.map_append]; exact h.append t
theorem j1:∀ c∈([]:List C),NoOwn c:=by simp
theorem ju {c:C} {cs:List C} (h:NoOwn c) (t:∀ c∈cs,NoOwn c):∀ c'∈c::cs,NoOwn c':=by
 intro c' hc;rcases List.mem_cons.1 hc with rfl|hc
 ·exact h
 ·exact t c' hc
theorem kO:∀ c∈([]:List C),PureC c:=by simp
theorem aQ {c:C} {cs:List C} (h:PureC c) (t:∀ c∈cs,PureC c):∀ c'∈c::cs,PureC c':=by
 intro c' hc;rcases List.mem_cons.1 hc with rfl|hc
 ·exact h
 ·exact t c' hc
theorem AB {α:Type} {row:α->List C} (h:∀ x,∀ c∈row x,PureC c) (l:List α):∀ r∈l.map row,∀ c∈r,PureC c:=by
 intro r hr;simp only [List.mem_map] at hr;obtain ⟨x,_,rfl⟩:=hr;exact h x
theorem z9 (k:IntKind):∀ x,∀ c∈rowI k x,PureC c:=fun x=>aQ (PureC.val _) kO
theorem AY:∀ x,∀ c∈rowS x,PureC c:=fun x=>aQ (PureC.val _) kO
@[go_sem] theorem DD (E:Env) (ts:List C) (R:Nat->C) (t k:Nat) (vs:List ResultVar):resL E ⟨ts,R⟩ (.cell t k::vs)=match E.T k with
 | some ti=>match loadC ⟨ts,R⟩ ti ((ts[t]?).getD .dead),resL E ⟨ts,R⟩ vs with
  | some c,some cs=>some (c::cs)
  | _,_=>none
 | none=>none:=by
 simp only [resL,resC];cases E.T k<;>rfl
theorem BZ (c:C) (cs:List C):plainL (c::cs)=match plainR c,plainL cs with
 | some c',some cs'=>some (c'::cs')
 | _,_=>none:=rfl
theorem Le.iref1 {es j:Nat} {cs cs':List C} (h:LeL cs cs'):Le (.iref es [cs] 0 j) (.iref es [cs'] 0 j):=by
 intro w S m m' p p' d u hr;cases d with
 | zero=>exact hr.elim
 | succ d=>
  obtain ⟨b,off,arr,elem,frz,g1,g2,g3,g4,g5⟩:=hr;refine ⟨b,off,arr,elem,frz,g1,g2,g3,?_,?_⟩
  ·intro row hrow;simp only [List.mem_singleton] at hrow;subst hrow;rw [h.len];exact g4 cs (by simp)
  ·intro i' j' row c' e1 e2;cases i' with
   | succ i'=>simp at e1
   | zero=>
    simp only [List.getElem?_cons_zero,Option.some.injEq] at e1;subst e1;have hlt:j' < cs.length:=by rw [<-h.len]; exact (List.getElem?_eq_some_iff.1 e2).1
    obtain ⟨u',f1,f2⟩:=g5 0 j' cs cs[j'] rfl (by simp [hlt]);exact ⟨u',f1,h.get j' cs[j'] c' (by simp [hlt]) e2 _ _ _ _ _ _ _ _ f2⟩
end Go.Abs

namespace Go.Abs
def seOk (E:Env) (o:Oper) (st:St):Bool:=
 match bodySE E o st with
 | some e=>(e.apply st).isSome
 | none=>false
theorem B2 {E:Env} {bar:Nat->Bool} {i:Nat} {o:Oper} {st:St}:okD E true bar i o st=(seOk E o st=true∨bar i=true):=by
 simp only [okD,seOk,true_implies]
 congr 1
 refine propext ⟨?_,?_⟩
 ·rintro ⟨e,s,h1,h2⟩;rw [h1]; simp [h2]
 ·intro h;split at h
  ·rename_i e he;obtain ⟨s,hs⟩:=Option.isSome_iff_exists.1 h;exact ⟨e,s,he,hs⟩
  ·simp at h
theorem ek {b:Bool} {p:Prop} (h:b=true) (k:p):b=true/\p:=⟨h,k⟩
theorem wi {α:Type} (x:α):(some x).isSome=true:=rfl
theorem wP {α:Type}:(none:Option α).isSome=false:=rfl
end Go.Abs

namespace Go.Abs
theorem mv {α:Type} {row:α->List C} {l:List α} {i:Nat} {x y:α} {rx ry:List C} {g:List C->List C} (hx:l[i]?=some x) (e1:row x=rx) (e2:row y=ry) (h:g rx=ry):(l.map row).modify i g=(l.set i y).map row:=zY hx (by rw [e1,h,e2])
theorem wh {α:Type} (l:List α) (i:Nat) (f g:α->α):(l.modify i f).modify i g=l.modify i (fun x=>g (f x)):=by
 apply List.ext_getElem?;intro k;simp only [List.getElem?_modify];cases l[k]?<;>simp
 split<;>rfl
theorem vQ {α:Type} {l:List α} {i:Nat} {a b:α} (h1:l[i]?=some a) (h2:l[i]?=some b):a=b:=by rw [h1] at h2; exact Option.some.inj h2
theorem pf {c:C} (h:plainCell c=true):NoOwn c:=by
 intro q hq;cases c with
 | sl own nl es cap rows=>
  cases own with
  | false=>cases q<;>simp [OwnAt,C.at,C.kid,C.isOwn] at hq
  | true=>simp [plainCell,C.cellOk,C.isOwn] at h
 | _=>first|(simp [plainCell,C.cellOk] at h; done)|(cases q<;>simp [OwnAt,C.at,C.kid,C.isOwn] at hq)
theorem RowOk.noOwn {α:Type} {row:α->List C} (h:RowOk row) (l:List α):∀ r∈l.map row,∀ c∈r,NoOwn c:=by
 intro r hr c hc;obtain ⟨x,_,rfl⟩:=List.mem_map.1 hr;exact pf (List.all_eq_true.1 (h.plain x) c hc)
theorem Con_nl {P:Program} {f:FuncId} {pure:Bool} {es:Nat} {rows:List (List C)} {r:C} (hnil:rows=[]->Con P f [] pure [.val (.slice none 0 0)] r)
  (hnn:Con P f [] pure [.sl false (some false) es none rows] r):Con P f [] pure [.sl false none es none rows] r:=by
 intro w S m us hl hr hinj;obtain ⟨u,d,hu,hrel⟩:=hr 0 _ rfl;have e1:∀ (cs:List C),Owned (R0 [] cs) m=fun _=>False:=fun cs=>funext fun b=>propext ⟨fun h=>fF h,fun h=>h.elim⟩;have hinj':∀ (cs:List C),Inj (R0 [] cs) m:=by
  intro cs n p n' p' b h1;rw [sG] at h1;exact (aq h1).elim
 cases d with
 | zero=>exact hrel.elim
 | succ d=>
  obtain ⟨a,k,h1,h2,h3,h4,hz,h5,h6,h7⟩:=hrel;by_cases ha:a=none
  ·subst ha;obtain rfl:=hz.2 rfl;have hrows:rows=[]:=by
    cases rows with
    | nil=>rfl
    | cons x xs=>simp at h2
   have:=hnil hrows w S m us (by simpa using hl) (by
    intro i c hc;cases i with
    | zero=>
     simp only [List.getElem?_cons_zero,Option.some.injEq] at hc;subst hc;refine ⟨u,1,hu,?_⟩;rw [h1,hrows];rfl
    | succ i=>simp at hc) (hinj' _)
   rw [e1] at this ⊢;exact this
  ·have:=hnn w S m us (by simpa using hl) (by
    intro i c hc;cases i with
    | zero=>
     simp only [List.getElem?_cons_zero,Option.some.injEq] at hc;subst hc;refine ⟨u,d+1,hu,?_⟩;refine ⟨a,k,h1,h2,h3,h4,⟨fun b hb=>?_,hz.2⟩,h5,h6,?_⟩
     ·simp only [Option.some.injEq] at hb;subst hb;simp [ha]
     ·rw [e1] at h7 ⊢;exact h7
    | succ i=>simp at hc) (hinj' _)
   rw [e1] at this ⊢;exact this
end Go.Abs

namespace Go.Abs
theorem uB {P:Program} {f:FuncId} {fn:Func} {tS tR e:TypeId} {size:Nat} (hf:P.funcs[f]?=some fn) (hname:(fn.name == "runtime.NumGoroutine") = false)
  (hb:fn.body.isNone=true) (hn:Extern.findNext fn=none) (he:Extern.find fn=some (Extern.SlicesOverlaps.overlaps #[tS,tS] #[tR]))
  (ht:P.underlying tS=some (.slice e)) (hz0:(P.info? e).map (·.size)=some size):PeekOk P f:=by
 have hz:∀ w,(Go.sizeOf e).run P w=.ok size w:=by
  intro w;obtain ⟨i,hi,rfl⟩:=Option.map_eq_some_iff.1 hz0;simp [Go.sizeOf,typeInfo,hi]
 intro w x y la ka lb kb h;rw [run_callFunc_extern hf hname hb hn he];obtain ⟨b1,o1,arr1,e1,b2,o2,arr2,e2,rfl,rfl,h3,h4,h5,h6⟩:=h;have key:(Extern.SlicesOverlaps.overlaps #[tS,tS] #[tR] #[.slice (some ⟨b1,o1,none⟩) la ka,.slice (some ⟨b2,o2,none⟩) lb kb]).run P w=.ok (.bool false) w:=
  Go.Lib.run_overlaps_apart w tS tR e ht size hz ⟨b1,o1,none⟩ ⟨b2,o2,none⟩ la ka lb kb h3 e1 e2 arr1.size arr2.size (by simp [World.shape?,h4]) (by simp [World.shape?,h5]) h6 (by simp [World.frozen?,h4]) (by simp [World.frozen?,h4])
 rw [key];rfl
theorem RowOk.allD {α:Type} {row:α->List C} (h:RowOk row) (l:List α):(l.map row).all (fun r=>r.all plainD)=true:=by
 have:=h.allPlain l;rw [List.all_eq_true] at this ⊢;intro r hr;have:=this r hr;rw [List.all_eq_true] at this ⊢;intro c hc;simp [plainD,this c hc]
def FinO (E:Env) (vs:List ResultVar) (pure:Bool) (r:C):Exit->St->Prop:=fun e s=>(e=.ret∨e=.normal)/\∃ r0,finish E vs s=some r0/\ROk r0 r/\(∀ q,OwnAt r0 q->OwnAt r q)/\(pure=true->PureC r0)
theorem fG {E:Env} {vs:List ResultVar} {pure:Bool} {r:C} {s:St}:FinO E vs pure r .ret s=∃ r0,finish E vs s=some r0/\ROk r0 r/\(∀ q,OwnAt r0 q->OwnAt r q)/\(pure=true->PureC r0):=by simp [FinO]
theorem fS {E:Env} {vs:List ResultVar} {pure:Bool} {r:C} {s:St}:FinO E vs pure r .normal s=∃ r0,finish E vs s=some r0/\ROk r0 r/\(∀ q,OwnAt r0 q->OwnAt r q)/\(pure=true->PureC r0):=by simp [FinO]
theorem wG {nl nl':Option Bool} {es es':Nat} {cap cap':Option Nat} {rows rows':List (List C)} (h:∀ row∈rows,∀ c∈row,NoOwn c):∀ q,OwnAt (.sl true nl es cap rows) q->OwnAt (.sl true nl' es' cap' rows') q:=by
 intro q hq;cases q with
 | nil=>rfl
 | cons s q=>
  exfalso;simp only [OwnAt,C.at,C.kid] at hq;cases hr:rows[s.1]? with
  | none=>simp [hr] at hq
  | some row=>
   simp only [hr,Option.bind_some] at hq;cases hc:row[s.2]? with
   | none=>simp [hc] at hq
   | some c1=>
    simp only [hc,Option.bind_some] at hq;exact h row (List.mem_of_getElem? hr) c1 (List.mem_of_getElem? hc) q hq
theorem wa {w w':World} {S:Nat->Prop} {pure:Bool} {O:Nat->Prop} {F:Prop} {r0 r:C} {u:Value} (hok:ROk r0 r) (hkeep:∀ q,OwnAt r0 q->OwnAt r q)
  (h:∃ mr d,rel w' (fun b=>((pure=false/\S b)∨w.heap.size<=b)/\¬ Own1 r0 mr b) L0 mr true d [] r0 u ∧
   (∀ q q' b,OwnAt r0 q->OwnAt r0 q'->blk (mr q)=some b->blk (mr q')=some b->q=q') ∧
   (∀ b,Own1 r0 mr b->w.heap.size<=b∨O b)/\F) :
  ∃ mr d,rel w' (fun b=>((pure=false/\S b)∨w.heap.size<=b)/\¬ Own1 r mr b) L0 mr true d [] r u ∧
   (∀ q q' b,OwnAt r q->OwnAt r q'->blk (mr q)=some b->blk (mr q')=some b->q=q') ∧
   (∀ b,Own1 r mr b->w.heap.size<=b∨O b)/\F:=by
 obtain ⟨mr,d,h1,h2,h3,h4⟩:=h;have key:∀ q b,OwnAt r q->blk (nilM r0 mr [] q)=some b->OwnAt r0 q/\blk (mr q)=some b:=by
  intro q b hq hb;rcases hok.ownAt hq with h|h
  ·rw [mu h] at hb; exact ⟨h,hb⟩
  ·simp [nilM,h,blk] at hb
 refine ⟨nilM r0 mr [],d+1,?_,?_,?_,h4⟩
 ·refine uK (p:=[]) (p':=[]) ?_ hok d (fun q hq=>by simp) (fun q b hq hnq _=>(hnq (hkeep q hq)).elim) h1;rintro b ⟨hb,hn⟩;exact ⟨hb,fun ⟨q,hq,e⟩=>hn ⟨q,key q b hq e⟩⟩
 ·intro q q' b hq hq' e e';obtain ⟨a1,a2⟩:=key q b hq e;obtain ⟨a3,a4⟩:=key q' b hq' e';exact h2 q q' b a1 a3 a2 a4
 ·rintro b ⟨q,hq,e⟩;exact h3 b ⟨q,key q b hq e⟩
theorem uJ {P:Program} {E:Env} (hT:TOk P E) (hG:GOk P E) (hmix:P.follows .mixedOrders=true) {f:FuncId} {fn:Func} {body:Code} (hf:FunOk P f fn body)
  {own:List Bool} {pure:Bool} {cs:List C} {r:C} (hn:cs.length<=fn.ntmps)
  (hW:Real (entry own cs fn.ntmps)->W E body (FinO E fn.results.toList pure r) (entry own cs fn.ntmps)):Con P f own pure cs r:=by
 intro w S m us hl hr hinj;left;have hname':¬ fn.name = "runtime.NumGoroutine" := by simpa using hf.name
 refine ⟨by simp [callFunc,hf.get,hname',hf.bd],?_⟩;have H:=s7 (n:=fn.ntmps) hl hn hr hinj;refine calls_of_wp hf.get hf.bd (wp_mono (W_ok (ts:=[]) hT hG hmix body hf.ok (rJ _) (hW ⟨_,_,_,m,H⟩) ⟨m,H⟩) ?_);rintro e a' w' ⟨⟨s,⟨he,r0,hfin,hrok,hkeep,hpure⟩,m',H'⟩,-⟩;have main:∃ u,(results fn a'.tmps).run P w'=.ok u w'/\Done (ctxOf w S (Owned (R0 own cs) m)) w' r0 u:=by
  unfold finish at hfin;split at hfin
  case h_2=>simp at hfin
  rename_i cs' hres;obtain ⟨us',f1,f2,f3⟩:=uj hT H' hres;refine ⟨_,pC f1,?_⟩;split at hfin
  ·rename_i rs hpl;simp only [Option.some.injEq] at hfin;subst hfin;exact oJ hT H' f2 f3 hpl
  ·split at hfin
   ·rename_i s1 kp hprep;simp only [Option.some.injEq] at hfin;subst hfin;exact pN hT H' f2 f3 hprep
   ·simp at hfin
 obtain ⟨u,hrun,hd⟩:=main;obtain ⟨mr,d,g1,g2,g3⟩:=hd.ex;have post:a'.defers=[]/\∃ v,(results fn a'.tmps).run P w'=.ok v w'/\∃ u,Ending.returned v=.returned u/\∃ mr d,rel w' (fun b=>((pure=false/\(S b∨Owned (R0 own cs) m b))∨w.heap.size<=b)/\¬ Own1 r mr b) L0 mr true d [] r u ∧
   (∀ q q' b,OwnAt r q->OwnAt r q'->blk (mr q)=some b->blk (mr q')=some b->q=q')/\(∀ b,Own1 r mr b->w.heap.size<=b∨Owned (R0 own cs) m b)/\FrK w (Owned (R0 own cs) m) w':=by
  refine ⟨H'.df,u,hrun,u,rfl,wa hrok hkeep ⟨mr,d,?_,g2,g3,⟨hd.fr.os,hd.fr.tape,hd.fr.output,hd.fr.drawn,hd.fr.size,hd.fr.block⟩⟩⟩;cases hp:pure with
  | true=>exact hpure hp w' _ _ mr d [] u g1
  | false=>exact ag (fun b _ hs=>⟨⟨hs.1.imp (fun h=>⟨rfl,h⟩) id,hs.2⟩,rfl⟩) d (fun _ _ _ h=>h) (fun _ _ _ _ _ _=>rfl) (fun _ _ _=>rfl) g1
 rcases he with rfl|rfl
 ·exact post
 ·exact post
theorem Cm {nl:Option Bool} {es:Nat} {cap cap':Option Nat} {rows:List (List C)} (q:Path):OwnAt (.sl true nl es cap rows) q↔OwnAt (.sl true nl es cap' rows) q:=by
 cases q<;>rfl
theorem su {P:Program} {f:FuncId} {own:List Bool} {pure:Bool} {nl:Option Bool} {es:Nat} {rows:List (List C)} {cs:List C} {r:C}
  (h:∀ k,rows.length<=k->k<=maxLen->Con P f (true::own) pure (.sl true nl es (some k) rows::cs) r):Con P f (true::own) pure (.sl true nl es none rows::cs) r:=by
 intro w S m us hl hr hinj;obtain ⟨u,d,hu,hrel⟩:=hr 0 _ rfl;cases d with
 | zero=>exact hrel.elim
 | succ d=>
  obtain ⟨a,k,h1,h2,h3,h4,hz,h5,h6,h7⟩:=hrel;have hR:∀ n q,OwnAt (R0 (true::own) (.sl true nl es (some k) rows::cs) n) q↔OwnAt (R0 (true::own) (.sl true nl es none rows::cs) n) q:=by
   intro n q;cases n with
   | zero=>exact Cm q
   | succ n=>exact Iff.rfl
  have e1:Owned (R0 (true::own) (.sl true nl es (some k) rows::cs)) m=Owned (R0 (true::own) (.sl true nl es none rows::cs)) m:=by
   funext b
   apply propext;constructor
   ·rintro ⟨n,p,g1,g2⟩; exact ⟨n,p,(hR n p).1 g1,g2⟩
   ·rintro ⟨n,p,g1,g2⟩; exact ⟨n,p,(hR n p).2 g1,g2⟩
  have:=h k h2 h3 w S m us (by simpa using hl) (by
   intro i c hc;rw [e1];cases i with
   | zero=>
    simp only [List.getElem?_cons_zero,Option.some.injEq] at hc;subst hc;exact ⟨u,d+1,hu,a,k,h1,h2,h3,fun c hc=>by simpa using hc,hz,h5,h6,h7⟩
   | succ i=>exact hr (i+1) c (by simpa using hc)) (fun n p n' p' b g1 g2 g3 g4=>hinj n p n' p' b ((hR n p).1 g1) ((hR n' p').1 g2) g3 g4)
  rw [e1] at this;exact this
theorem uA (A B:List (List C)):frzRows (A++B)=frzRows A++frzRows B:=by simp [frzRows]
theorem pB (n es:Nat):frzRows (List.replicate n (List.replicate es C.dead))=List.replicate n (List.replicate es C.dead):=by simp [frzRows,C.frz]
def bh (A:List (List C)):Prop:=frzRows A=A/\(A.all fun r=>r.all plainD)=true
theorem eu {α:Type} {row:α->List C} (h:RowOk row) (l:List α):bh (l.map row):=⟨h.frzRows l,h.allD l⟩
theorem fc {A B:List (List C)} (h1:bh A) (h2:bh B):bh (A++B):=⟨by rw [uA,h1.1,h2.1],by rw [List.all_append,h1.2,h2.2]; rfl⟩
theorem wI {A:List (List C)} (h:bh A) (n:Nat):bh (A.take n):=by
 refine ⟨by have:=h.1; unfold frzRows at this ⊢; rw [List.map_take,this],?_⟩;have:=h.2;rw [List.all_eq_true] at this ⊢;exact fun r hr=>this r (List.mem_of_mem_take hr)
theorem wT {A:List (List C)} (h:bh A) (n:Nat):bh (A.drop n):=by
 refine ⟨by have:=h.1; unfold frzRows at this ⊢; rw [List.map_drop,this],?_⟩;have:=h.2;rw [List.all_eq_true] at this ⊢;exact fun r hr=>this r (List.mem_of_mem_drop hr)
theorem oV (n es:Nat):bh (List.replicate n (List.replicate es C.dead)):=by
 refine ⟨pB n es,?_⟩;rw [List.all_eq_true];intro r hr;rw [List.eq_of_mem_replicate hr,List.all_eq_true];intro c hc;rw [List.eq_of_mem_replicate hc];rfl
theorem et {A B:List (List C)} {n:Nat} (h1:bh A) (h2:bh B):bh (au A n B):=
 fc (fc (wI h1 n) h2) (wT h1 _)
theorem oL (n:Nat) (vs:List Value) (h:∀ v∈vs,v.oneCell'=true):bh (List.replicate n (vs.map C.val)):=by
 refine ⟨by simp [frzRows,C.frz],?_⟩;rw [List.all_eq_true];intro r hr;rw [List.eq_of_mem_replicate hr,List.all_eq_true];intro c hc;obtain ⟨v,hv,rfl⟩:=List.mem_map.1 hc;simp [plainD,isDead,Abs.plainCell,C.cellOk,C.isOwn,h v hv]
theorem s3 {A:List (List C)} {D r:List C} {i n:Nat} (hn:A.length=n) (hi:i<=n) :
  au (au (A++[D]) (i+1) (((A++[D]).drop i).take (n - i))) i [r]=A.take i++[r]++A.drop i:=by
 have e1:((A++[D]).drop i).take (n - i)=A.drop i:=by
  rw [List.drop_append,show i - A.length=0 by omega,List.drop_zero,List.take_append,List.take_of_length_le (by simp; omega),show n - i - (A.drop i).length=0 by simp; omega];simp
 rw [e1];unfold au;have hd:(A.drop i).length=n - i:=by simp [hn]
 have e2:(A++[D]).take (i+1)=A.take i++((A++[D]).drop i).take 1:=by
  rw [List.take_add]
  congr 1
  rw [List.take_append,show i - A.length=0 by omega];simp
 have l1:(((A++[D]).drop i).take 1).length=1:=by simp [hn]; omega
 have l0:(A.take i).length=i:=by simp [hn]; omega
 have e3:(A++[D]).drop (i+1+(A.drop i).length)=[]:=by
  apply List.drop_eq_nil_of_le;simp [hn]; omega
 rw [e3,List.append_nil,e2];have e4:(A.take i++((A++[D]).drop i).take 1++A.drop i).take i=A.take i:=by
  rw [List.append_assoc,List.take_append,l0,Nat.sub_self,List.take_zero,List.append_nil,List.take_of_length_le (by omega)]
 have e5:(A.take i++((A++[D]).drop i).take 1++A.drop i).drop (i+[r].length)=A.drop i:=by
  rw [List.drop_append,show (List.take i A++List.take 1 (List.drop i (A++[D]))).length=i+1 by rw [List.length_append,l0,l1]];rw [List.drop_eq_nil_of_le (by rw [List.length_append,l0,l1]; simp)];simp
 rw [e4,e5]
theorem tZ {A Z:List (List C)} {r:List C} {i n:Nat} (hn:A.length=n) (hi:i<=n) (hz:Z.length=n+1 - i) :
  au (au (A.take i++Z) i [r]) (i+1) (A.drop i)=A.take i++[r]++A.drop i:=by
 have l0:(A.take i).length=i:=by simp [hn]; omega
 have e1:au (A.take i++Z) i [r]=A.take i++[r]++Z.drop 1:=by
  unfold au;rw [List.take_append,l0,Nat.sub_self,List.take_zero,List.append_nil,List.take_of_length_le (by omega)]
  congr 1
  rw [List.drop_append,l0,List.drop_eq_nil_of_le (by simp [l0]),List.nil_append]
  congr 1
  simp
 rw [e1];unfold au;have l2:(A.take i++[r]).length=i+1:=by simp [l0]
 rw [List.take_append,l2,Nat.sub_self,List.take_zero,List.append_nil,List.take_of_length_le (by omega)];have l3:(A.drop i).length=n - i:=by simp [hn]
 have l4:(A.take i++[r]++Z.drop 1).length=i+1+(n - i):=by rw [List.length_append,l2,List.length_drop,hz]; omega
 have e5:(A.take i++[r]++Z.drop 1).drop (i+1+(A.drop i).length)=[]:=List.drop_eq_nil_of_le (by rw [l4,l3]; omega);rw [e5,List.append_nil]
theorem j9 {α:Type} {row:α->List C} (hrow:RowOk row) {nl:Option Bool} {es:Nat} {cap:Option Nat} {rows:List (List C)} {l:List α} (e:rows=l.map row) :
  ∃ r0,some (C.sl true nl es cap rows)=some r0/\ROk r0 (.sl true none es none (l.map row))/\(∀ q,OwnAt r0 q->OwnAt (.sl true none es none (l.map row)) q):=by
 subst e;exact ⟨_,rfl,ROk.own (LeLL.refl _) (hrow.noOwn l),wG (hrow.noOwn l)⟩
end Go.Abs

namespace Go.Abs
theorem R0_at (own:List Bool) (cs:List C) (n:Nat):R0 own cs n=if own.getD n false then (cs[n]?).getD .dead else .dead:=rfl
theorem Con.argsO {P:Program} {f:FuncId} {own:List Bool} {pure:Bool} {cs cs':List C} {r:C} (h:Con P f own pure cs' r) (hlen:cs'.length=cs.length)
  (hle:∀ (i:Nat) (c c':C),cs[i]?=some c->cs'[i]?=some c'->if own.getD i false=true then ROk c c'/\(∀ q,OwnAt c q->OwnAt c' q) else Le c c'):Con P f own pure cs r:=by
 intro w S m us hl hr hinj;have both:∀ i,i < cs.length->cs[i]?=some (cs[i]?.getD .dead)/\cs'[i]?=some (cs'[i]?.getD .dead):=by
  intro i hi;have hi':i < cs'.length:=by omega
  simp [hi,hi']
 obtain ⟨m',hm'⟩:∃ m':Nat->Path->Value,m'=fun i=>if own.getD i false then nilM (cs[i]?.getD .dead) (m i) [] else m i:=⟨_,rfl⟩
 have key1:∀ n q b,OwnAt (R0 own cs' n) q->blk (m' n q)=some b->OwnAt (R0 own cs n) q/\blk (m n q)=some b:=by
  intro n q b hq hb;rw [R0_at] at hq ⊢;rw [hm'] at hb;by_cases ho:own.getD n false=true
  ·simp only [ho,if_true] at hq hb ⊢;by_cases hn:n < cs.length
   ·obtain ⟨e1,e2⟩:=both n hn;have hh:=hle n _ _ e1 e2;rw [if_pos ho] at hh;rcases hh.1.ownAt hq with h1|h1
    ·rw [mu h1] at hb; exact ⟨h1,hb⟩
    ·simp [nilM,h1,blk] at hb
   ·have:cs'[n]?=none:=by simp; omega
    rw [this] at hq;exact (aq hq).elim
  ·simp only [ho] at hq;exact (aq hq).elim
 have key2:∀ n q b,OwnAt (R0 own cs n) q->blk (m n q)=some b->OwnAt (R0 own cs' n) q/\blk (m' n q)=some b:=by
  intro n q b hq hb;rw [R0_at] at hq ⊢;rw [hm'];by_cases ho:own.getD n false=true
  ·simp only [ho,if_true] at hq ⊢;by_cases hn:n < cs.length
   ·obtain ⟨e1,e2⟩:=both n hn;have hh:=hle n _ _ e1 e2;rw [if_pos ho] at hh;exact ⟨hh.2 q hq,by rw [mu hq]; exact hb⟩
   ·have:cs[n]?=none:=by simp; omega
    rw [this] at hq;exact (aq hq).elim
  ·simp only [ho] at hq;exact (aq hq).elim
 have eO:Owned (R0 own cs') m'=Owned (R0 own cs) m:=by
  funext b
  apply propext;constructor
  ·rintro ⟨n,p,g1,g2⟩; obtain ⟨f1,f2⟩:=key1 n p b g1 g2; exact ⟨n,p,f1,f2⟩
  ·rintro ⟨n,p,g1,g2⟩; obtain ⟨f1,f2⟩:=key2 n p b g1 g2; exact ⟨n,p,f1,f2⟩
 have:=h w S m' us (by rw [hl,hlen]) (by
  intro i c' hc;have hlt:i < cs.length:=by rw [<-hlen]; exact (List.getElem?_eq_some_iff.1 hc).1
  obtain ⟨e1,e2⟩:=both i hlt;obtain ⟨u,d,h1,h2⟩:=hr i _ e1;have hh:=hle i _ c' e1 hc;rw [eO];by_cases ho:own.getD i false=true
  ·rw [if_pos ho] at hh;rw [ho] at h2 ⊢;refine ⟨u,d+1,h1,uK (m:=m i) (m':=m' i) (p:=[]) (p':=[]) (fun b hb=>hb) hh.1 d (fun q hq=>?_) (fun q b hq hnq _=>(hnq (hh.2 q hq)).elim) h2⟩;rw [hm'];simp only [ho,if_true,List.nil_append]
  ·rw [if_neg ho] at hh;have ho':own.getD i false=false:=by simpa using ho
   rw [ho'] at h2 ⊢;exact ⟨u,d,h1,hh w _ (m i) (m' i) [] [] d u h2⟩) (fun n p n' p' b g1 g2 g3 g4=>hinj n p n' p' b (key1 n p b g1 g3).1 (key1 n' p' b g2 g4).1 (key1 n p b g1 g3).2 (key1 n' p' b g2 g4).2)
 rw [eO] at this;exact this
def decO {α:Type} (es:Nat) (d:List C->Option α):C->Option (List α)
 | .sl true _ es' _ rows=>if es'=es/\(rows.all fun r=>r.all Abs.plainCell)=true then dD d rows else none
 | .val (.slice none 0 0)=>some []
 | _=>none
theorem CO {α:Type} (es:Nat) (d:List C->Option α) (nl:Option Bool) (cap:Option Nat) (rows:List (List C)):decO es d (.sl true nl es cap rows)=if (rows.all fun r=>r.all Abs.plainCell)=true then dD d rows else none:=by
 simp only [decO,true_and]
theorem Cg {α:Type} (es:Nat) (d:List C->Option α):decO es d (.val (.slice none 0 0))=some []:=rfl
theorem jI {α:Type} {es:Nat} {d:List C->Option α} {row:α->List C} (hrow:RowOk row) (hd:∀ r x,d r=some x->LeL r (row x)) {c:C} {l:List α} (h:decO es d c=some l) :
  ROk c (.sl true none es none (l.map row))/\(∀ q,OwnAt c q->OwnAt (.sl true none es none (l.map row)) q):=by
 unfold decO at h;split at h
 ·rename_i nl es' cap rows;split at h
  ·rename_i hc;obtain ⟨rfl,hc⟩:=hc;refine ⟨ROk.own (tk hd h) (hrow.noOwn l),wG ?_⟩;intro r hr c hcm;rw [List.all_eq_true] at hc;exact pf (List.all_eq_true.1 (hc r hr) c hcm)
  ·simp at h
 ·simp only [Option.some.injEq] at h;subst h;refine ⟨ROk.nil es,?_⟩;intro q hq;cases q<;>simp [OwnAt,C.at,C.kid,C.isOwn] at hq
 ·simp at h
theorem lk {own:List Bool}:∀ (i:Nat) (c c':C),([]:List C)[i]?=some c->([]:List C)[i]?=some c'->if own.getD i false=true then ROk c c'/\(∀ q,OwnAt c q->OwnAt c' q) else Le c c':=by simp
theorem gK {own:List Bool} {c0 c0':C} {cs cs':List C} (h:ROk c0 c0'/\(∀ q,OwnAt c0 q->OwnAt c0' q))
  (t:∀ (i:Nat) (c c':C),cs[i]?=some c->cs'[i]?=some c'->if own.getD i false=true then ROk c c'/\(∀ q,OwnAt c q->OwnAt c' q) else Le c c') :
  ∀ (i:Nat) (c c':C),(c0::cs)[i]?=some c->(c0'::cs')[i]?=some c'->if (true::own).getD i false=true then ROk c c'/\(∀ q,OwnAt c q->OwnAt c' q) else Le c c':=by
 intro i c c' h1 h2;cases i with
 | zero=>simp only [List.getElem?_cons_zero,Option.some.injEq] at h1 h2; subst h1; subst h2; simpa using h
 | succ i=>simpa using t i c c' (by simpa using h1) (by simpa using h2)
theorem mj {own:List Bool} {c0 c0':C} {cs cs':List C} (h:Le c0 c0')
  (t:∀ (i:Nat) (c c':C),cs[i]?=some c->cs'[i]?=some c'->if own.getD i false=true then ROk c c'/\(∀ q,OwnAt c q->OwnAt c' q) else Le c c') :
  ∀ (i:Nat) (c c':C),(c0::cs)[i]?=some c->(c0'::cs')[i]?=some c'->if (false::own).getD i false=true then ROk c c'/\(∀ q,OwnAt c q->OwnAt c' q) else Le c c':=by
 intro i c c' h1 h2;cases i with
 | zero=>simp only [List.getElem?_cons_zero,Option.some.injEq] at h1 h2; subst h1; subst h2; simpa using h
 | succ i=>simpa using t i c c' (by simpa using h1) (by simpa using h2)
theorem C5 (k:Nat) (R:Nat->C) (n:Nat) (c:C):clr k (upd R n c)=if H0<=n/\n < H0+k then clr k R else upd (clr k R) n c:=by
 funext x
 split
 ·rename_i h;simp only [clr,upd];split
  ·rfl
  ·split
   ·rename_i h1 h2; subst h2; exact (h1 h).elim
   ·rfl
 ·rename_i h;simp only [clr,upd];by_cases hx:x=n
  ·subst hx; simp [h]
  ·simp [hx]
theorem clr_RZ (k:Nat):clr k RZ=RZ:=by funext x; simp [clr,RZ]
def insM {α β:Type} (bytes:Nat) (l:List α) (i:Int) (v:List α) (k:List α->Option β):Option β:=
 if 0<=i/\i<=l.length/\v.length=1/\(l.length+1) * (bytes+1)<=140737488355328 then k (l.take i.toNat++v++l.drop i.toNat) else none
theorem mJ {α β:Type} {bytes:Nat} {l:List α} {i:Int} {v:List α} {k:List α->Option β} {r:β} (h:insM bytes l i v k=some r) :
  ∃ (n:Nat) (x:α),i=(n:Int)/\v=[x]/\n<=l.length/\(l.length+1) * (bytes+1)<=140737488355328/\k (l.take n++[x]++l.drop n)=some r:=by
 unfold insM at h;split at h
 ·rename_i hc;obtain ⟨h1,h2,h3,h4⟩:=hc
  match v,h3 with
  | [x],_=>exact ⟨i.toNat,x,by omega,rfl,by omega,h4,h⟩
 ·simp at h
theorem AN {α β:Type} (l:List α) (f:α->β) (x:β):List.take (l.length+1) (l.map f++[x])=l.map f++[x]:=List.take_of_length_le (by simp)
end Go.Abs

namespace Go.Abs
theorem CQ (g:Nat->Path->Bool) (cs:List C):poi g (.agg cs)=if cs.any (C.ment g 2)=true then .dead else .agg cs:=rfl
theorem CT (g:Nat->Path->Bool) (cs:List C):poi g (.tup cs)=if cs.any (C.ment g 2)=true then .dead else .tup cs:=rfl
end Go.Abs

namespace Go.Abs
open Go.ChangeShapes Go.WideShapes Go.ChangeAt Go.RowKit
def RowRel (w:World) (cs:List Value) (r:List C):Prop:=r.length=cs.length/\∃ d,∀ (j:Nat) (c:C),r[j]?=some c->∃ u,cs[j]?=some u/\rel w (fun _=>True) L0 dm false d [] c u
def Sz (P:Program) {H:Type} (t:TypeId) (d:DataW H):Prop:=∀ n∈d.weights P t,n<=140737488351232
theorem sz_all {P:Program} {H:Type} {e:TypeId}:∀ {ds:List (DataW H)} {i:Nat} {d:DataW H},ds[i]?=some d->∀ n∈d.weights P e,n∈DataW.weightsAll P e ds
 | d0::ds,0,d,h,n,hn=>by
  simp only [List.getElem?_cons_zero,Option.some.injEq] at h;subst h;simp only [DataW.weightsAll,List.mem_append];exact .inl hn
 | d0::ds,i+1,d,h,n,hn=>by
  simp only [List.getElem?_cons_succ] at h;simp only [DataW.weightsAll,List.mem_append];exact .inr (sz_all h n hn)
theorem qA {P:Program} {H:Type} {t t':TypeId} {fs:Array Field} {ds:List (DataW H)} (ht:P.underlying t=some (.struct fs)) (h:Sz P t (.agg ds)) {i:Nat} {d:DataW H} (hi:(fs.toList.map (·.type))[i]?=some t') (hd:ds[i]?=some d):Sz P t' d:=by
 intro n hn;refine h n ?_;simp only [DataW.weights,ht];exact DataW.weights_mem_each hi hd n hn
theorem sz_arg {P:Program} {H:Type} {ts:List TypeId} {ds:List (DataW H)} (h:(DataW.weightsEach P ts ds).all (·<=reachBytes)=true) {j:Nat} {t:TypeId} {d:DataW H} (ht:ts[j]?=some t) (hd:ds[j]?=some d):Sz P t d:=by
 intro n hn;have:=List.all_eq_true.1 h _ (DataW.weights_mem_each ht hd n hn);exact of_decide_eq_true this
def Opens (P:Program) (t:TypeId) {α:Type} (row:α->List C) (wf:α->Prop):Prop:=
 ∀ (H:Type) (enc:TypeId × Value->H) (w:World) (base:Nat) (spare:Nat->Bool) (held:Bool) (fuel:Nat) (cs:List Value) (x:DataW H × List MemPlace),
  DataW.trod enc P w base spare held fuel t cs=some x->Sz P t x.1->∃ y:α,wf y/\RowRel w cs (row y)
theorem qP {w:World} {c:C} {u:Value} {d:Nat} (h:rel w (fun _=>True) L0 dm false d [] c u):RowRel w [u] [c]:=by
 refine ⟨rfl,d,?_⟩;intro j c' hj;cases j with
 | zero=>simp only [List.getElem?_cons_zero,Option.some.injEq] at hj; subst hj; exact ⟨u,rfl,h⟩
 | succ j=>simp at hj
theorem zA {w:World}:RowRel w [] []:=⟨rfl,0,by simp⟩
theorem vC {w:World} {cs cs':List Value} {r r':List C} (h:RowRel w cs r) (h':RowRel w cs' r'):RowRel w (cs++cs') (r++r'):=by
 obtain ⟨hl,d,h⟩:=h;obtain ⟨hl',d',h'⟩:=h';refine ⟨by simp [hl,hl'],max d d',?_⟩;intro j c hj;by_cases hlt:j < r.length
 ·rw [List.getElem?_append_left hlt] at hj;obtain ⟨u,e1,e2⟩:=h j c hj;exact ⟨u,by rw [List.getElem?_append_left (by omega)]; exact e1,aw _ _ (by omega) e2⟩
 ·rw [List.getElem?_append_right (by omega)] at hj;obtain ⟨u,e1,e2⟩:=h' _ c hj;exact ⟨u,by rw [List.getElem?_append_right (by omega),<-hl]; exact e1,aw _ _ (by omega) e2⟩
theorem pd {P:Program} {t:TypeId} {k:IntKind} (ht:P.underlying t=some (.int k)):Opens P t (rowI k) (fun n=>(Lit.int k n).wf=true):=by
 intro H enc w base spare held fuel cs x h _;obtain ⟨n,rfl,_,hw⟩:=DataW.trod_int ht h;exact ⟨n,hw,qP (d:=1) rfl⟩
theorem Cy {P:Program} {e:TypeId} {α:Type} {row:α->List C} {wf:α->Prop} (he:Opens P e row wf) {H:Type} {enc:TypeId × Value->H} {w:World} {base:Nat} {spare:Nat->Bool} {held:Bool} {fuel:Nat} {css:Nat->List Value} :
  ∀ (n:Nat),(∀ i,i < n->∃ x,DataW.trod enc P w base spare held fuel e (css i)=some x/\Sz P e x.1)->∃ l:List α,l.length=n/\(∀ y∈l,wf y)/\∃ d,∀ (i:Nat) (y:α),l[i]?=some y ->
   (row y).length=(css i).length/\∀ (j:Nat) (c:C),(row y)[j]?=some c->∃ u,(css i)[j]?=some u/\rel w (fun _=>True) L0 dm false d [] c u:=by
 intro n
 induction n with
 | zero=>intro _; exact ⟨[],rfl,by simp,0,by simp⟩
 | succ n ih=>
  intro h;obtain ⟨l,e1,e2,d,e3⟩:=ih (fun i hi=>h i (by omega));obtain ⟨x,hx,hz⟩:=h n (by omega);obtain ⟨y,hy,hl,d',hr⟩:=he H enc w base spare held fuel _ x hx hz;refine ⟨l++[y],by simp [e1],?_,max d d',?_⟩
  ·intro z hz;rcases List.mem_append.1 hz with hz|hz
   ·exact e2 z hz
   ·rw [List.mem_singleton.1 hz]; exact hy
  ·intro i z hz;by_cases hlt:i < l.length
   ·rw [List.getElem?_append_left hlt] at hz;obtain ⟨f1,f2⟩:=e3 i z hz;exact ⟨f1,fun j c hj=>let ⟨u,g1,g2⟩:=f2 j c hj; ⟨u,g1,aw _ _ (by omega) g2⟩⟩
   ·rw [List.getElem?_append_right (by omega)] at hz;have:i=n:=by
     have:=(List.getElem?_eq_some_iff.1 hz).1;simp at this;omega
    subst this;rw [e1] at hz;simp only [Nat.sub_self,List.getElem?_cons_zero,Option.some.injEq] at hz;subst hz;exact ⟨hl,fun j c hj=>let ⟨u,g1,g2⟩:=hr j c hj; ⟨u,g1,aw _ _ (by omega) g2⟩⟩
theorem wE (a:Addr) (n:Nat):(a.add n).off=a.off+n:=by
 unfold Addr.add;split
 ·rename_i h; rw [h]; rfl
 ·rfl
theorem w9 {P:Program} {t e:TypeId} {α:Type} {row:α->List C} {wf:α->Prop} {es:Nat} (ht:P.underlying t=some (.slice e)) (hes:P.cellsOf e=es) (hpos:0 < es) {b:Nat} (hby:P.bytesOf e=b) (he:Opens P e row wf) :
  Opens P t (rowL es row) (fun l=>l.length * b<=140737488351232/\∀ x∈l,wf x):=by
 intro H enc w base spare held fuel cs x h hz;rcases DataW.trod_slice ht h with ⟨rfl,_⟩|⟨a,len,cap,elems,rest,n,_,rfl,rfl,hb,hl,hc,hlen,hel,_,_⟩
 ·refine ⟨[],⟨by simp,by simp⟩,qP (d:=1) ?_⟩;exact ⟨none,0,rfl,Nat.le_refl _,Nat.zero_le _,by simp,⟨by simp,by simp⟩,by simp,by simp,.inl rfl⟩
 ·rw [hes] at hel;simp only [Sz,DataW.weights,ht,hby] at hz;have hcells:∀ i,i < len->∃ c x,w.cells? base (a.add (i * es)) es=some c/\DataW.trod enc P w base spare held n e c=some x/\Sz P e x.1:=by
   intro i hi;have h1:=hel i hi;have h2:elems[i]?=some elems[i]:=by simp [hlen,hi]
   rw [h2,Option.bind_eq_some_iff] at h1;obtain ⟨c,f1,f2⟩:=h1;refine ⟨c,_,f1,f2,fun m hm=>hz m ?_⟩;have:=sz_all (P:=P) (e:=e) (ds:=elems.map (·.1)) (i:=i) (d:=elems[i].1) (by rw [List.getElem?_map,h2]; rfl) m hm;simp only [List.mem_cons,List.mem_append];exact .inr (.inl this)
  obtain ⟨css,hcss⟩:∃ css:Nat->List Value,css=fun i=>(w.cells? base (a.add (i * es)) es).getD []:=⟨_,rfl⟩;have hcs:∀ i,i < len->w.cells? base (a.add (i * es)) es=some (css i):=by
   intro i hi;obtain ⟨c,x,f1,f2,_⟩:=hcells i hi;simp [hcss,f1]
  obtain ⟨l,e1,e2,d,e3⟩:=Cy he (css:=css) (H:=H) (enc:=enc) (w:=w) (base:=base) (spare:=spare) (held:=held) (fuel:=n) len (fun i hi=>by
   obtain ⟨c,x,f1,f2⟩:=hcells i hi;rw [hcs i hi] at f1;obtain rfl:=Option.some.inj f1;exact ⟨x,f2⟩)
  refine ⟨l,⟨?_,e2⟩,qP (d:=d+1) ?_⟩
  ·have h0:=hz _ (List.mem_cons_self);have h1:l.length * b<=((elems.map (·.1)).length+(rest.map (·.1)).length) * b:=Nat.mul_le_mul_right _ (by simp only [List.length_map,e1,hlen]; omega);exact Nat.le_trans h1 h0
  refine ⟨some a,cap,by simp [e1],by simp [e1]; omega,hc,by simp,⟨by simp,by simp⟩,?_,by simp,?_⟩
  ·intro r hr;obtain ⟨y,hy,rfl⟩:=List.mem_map.1 hr;obtain ⟨i,hi⟩:=List.getElem?_of_mem hy;have hlt:=(List.getElem?_eq_some_iff.1 hi).1;obtain ⟨f1,_⟩:=e3 i y hi;rw [f1];have:=hcs i (by omega);exact (World.cells?_some this).2.1
  ·by_cases h0:len=0
   ·refine .inr (.inl ⟨by simp,?_⟩);have:l=[]:=List.eq_nil_of_length_eq_zero (by omega);rw [this]; rfl
   ·have hcell:∀ i j,i < len->j < es->w.cell? ((a.add (i * es)).add j)=(css i)[j]?:=by
     intro i j hi hj;obtain ⟨g1,g2,g3⟩:=World.cells?_some (hcs i hi);exact g3 j hj
    have h00:=hcell 0 0 (by omega) hpos;have hsome:((css 0)[0]?).isSome=true:=by
     have:=(World.cells?_some (hcs 0 (by omega))).2.1;simp [this,hpos]
    rw [<-h00] at hsome;simp only [Nat.zero_mul,Addr.add,if_true] at hsome;unfold World.cell? at hsome;split at hsome
    case h_2=>simp at hsome
    rename_i arr elem frz hheap;split at hsome
    case isTrue=>simp at hsome
    rename_i hspot;refine .inr (.inr ⟨a.block,a.off,arr,elem,frz,?_,hheap,fun _=>trivial,by simp,?_⟩)
    ·obtain ⟨ab,ao,asp⟩:=a;simp only [Option.some.injEq,Addr.mk.injEq,true_and];simpa using hspot
    ·intro i j r c' h1 h2;simp only [List.getElem?_map,Option.map_eq_some_iff] at h1;obtain ⟨y,hy,rfl⟩:=h1;have hlt:=(List.getElem?_eq_some_iff.1 hy).1;obtain ⟨f1,f2⟩:=e3 i y hy;obtain ⟨u,g1,g2⟩:=f2 j c' h2;refine ⟨u,?_,aX g2⟩;have hj:j < es:=by
      have:=(List.getElem?_eq_some_iff.1 g1).1;rw [(World.cells?_some (hcs i (by omega))).2.1] at this;exact this
     have:=hcell i j (by omega) hj;rw [g1] at this;unfold World.cell? at this;have hblk:((a.add (i * es)).add j).block=a.block:=by unfold Addr.add; split<;>split<;>rfl
     rw [hblk,hheap] at this;simp only at this;split at this
     ·simp at this
     ·have hoff:((a.add (i * es)).add j).off=a.off+i * es+j:=by rw [wE,wE]
      rw [hoff] at this;exact this
end Go.Abs

namespace Go.Abs
open Go.ChangeShapes Go.WideShapes Go.ChangeAt Go.RowKit
theorem FrK.below {W W':World} (h:FrK W (fun _=>False) W'):Below W.heap.size W W':=⟨h.os,h.tape,h.output,h.size,fun b hb=>h.block b hb id⟩
theorem wA {P:Program} {f:FuncId} {fn:Func} {body:Code} {pure:Bool} {cs:List C} {us:List Value} {W:World} (hf:FunOk P f fn body) (hcon:Con P f [] pure cs (.val (.bool true))) (hlen:us.length=cs.length)
  (hrel:∀ (i:Nat) (c:C),cs[i]?=some c->∃ u d,us[i]?=some u/\rel W (fun _=>True) L0 dm false d [] c u) :
  Calls P f us.toArray W fun e W'=>e=.returned (.bool true)/\FrK W (fun _=>False) W':=by
 have e1:Owned (R0 [] cs) (fun _=>dm)=fun _=>False:=funext fun b=>propext ⟨fun h=>fF h,fun h=>h.elim⟩;have hd:=hcon W (fun _=>True) (fun _=>dm) us hlen (by
  intro i c hc;obtain ⟨u,d,h1,h2⟩:=hrel i c hc;refine ⟨u,d,h1,?_⟩;rw [e1];simp only [List.getD_nil];exact ag (fun b _ _=>⟨⟨trivial,id⟩,rfl⟩) d (fun _ _ _ h=>h) (fun h=>by simp at h) (fun h=>by simp at h) h2) (by
  intro n p n' p' b h1;rw [sG] at h1;exact (aq h1).elim)
 have hname':¬ fn.name = "runtime.NumGoroutine" := by simpa using hf.name
 have henter:(callFunc f us.toArray).run P W=.ok (.enter f us.toArray) W:=by simp [callFunc,hf.get,hname',hf.bd]
 rcases hd with ⟨_,h⟩|⟨u,w',h,_⟩
 ·refine h.mono ?_;rintro e W' ⟨u,rfl,mr,d,h1,_,_,h4⟩;rw [e1] at h4;refine ⟨?_,h4⟩;cases d with
  | zero=>exact h1.elim
  | succ d=>
   have:u=.bool true:=h1;rw [this]
 ·rw [henter] at h;cases h
theorem qX {H:Type} {enc:TypeId × Value->H} {P:Program} (hl:laidOutB P=true) {W W':World} (hb:Below W.heap.size W W'):∀ {ts:List TypeId} {vs:List Value} {ds:List (DataW H)} {ps:List MemPlace},
  (∀ t∈ts,P.readableRec t=true/\t < P.types.size)->DataW.TrodAll enc P W 0 (fun _=>true) true ts vs ds ps->(∀ x∈ps,x.block < W.heap.size)->DataW.TrodAll enc P W' 0 (fun b=>decide (b < W.heap.size)) true ts vs ds ps
 | [],[],[],_,_,h,_=>h
 | t::ts,v::vs,d::ds,ps,ht,h,hlt=>by
  obtain ⟨p,q,h1,h2,rfl⟩:=h;exact ⟨p,q,Below.trod hl (ht t (by simp)).1 (ht t (by simp)).2 h1 hb (fun x hx=>hlt x (by simp [hx])),qX hl hb (fun t' h'=>ht t' (by simp [h'])) h2 (fun x hx=>hlt x (by simp [hx])),rfl⟩
theorem FrK.kept {W W':World} (h:FrK W (fun _=>False) W') (may:MemPlace->Prop):W.keptBut W' may:=by
 refine ⟨h.os,h.output,fun i hi=>?_⟩;rw [h.block i hi id];split
 ·rename_i c t fr c' t' fr' e1 e2;rw [e1] at e2;cases e2;exact ⟨rfl,rfl,rfl,fun _ _=>rfl⟩
 ·rename_i es cl es' cl' e1 e2;rw [e1] at e2;cases e2;exact .inr ⟨rfl,rfl⟩
 ·rfl
theorem Bm {H:Type} {enc:TypeId × Value->H} {P:Program} {f:Func} {s:ChangeSpec} {W W':World} {args:Array Value} {ds gs:List (DataW H)} {before:List MemPlace} {tb:TypeId}
  (hl:laidOutB P=true) (hts:∀ t∈f.params.toList,P.readableRec t=true/\t < P.types.size) (hrt:f.resultTypes=#[tb]) (htb:P.underlying tb=some .bool)
  (hv:s.vars=[]) (hs:s.fn H (ds++gs)={ results:=[.lit (.bool true)],args:=ds++gs })
  (hW:DataW.Whole enc P f.params.toList s.vars false W args.toList ds gs before) (hfr:FrK W (fun _=>False) W'):s.post enc P f false true false false W args (.bool true) W':=by
 have hlt:=hW.lt;have hW':=hW;obtain ⟨p,q,hA,hV,rfl,_,_⟩:=hW;rw [hv] at hV;obtain ⟨rfl,rfl⟩:=trodVars_none hV;simp only [List.append_nil] at hs hlt hW';have hgs:(([]:List (DataW H))=[]):=rfl;refine ⟨ds,[],p,[],p,[],hW',?_,?_,?_,hfr.kept _,by simp⟩
 ·rw [List.append_nil,hs,hrt];exact trodAll_cons_mk (shut_bool htb _) trodAll_mk0
 ·rw [List.append_nil,hs];exact qX hl hfr.below hts hA hlt
 ·rw [List.append_nil,hs,hv];rfl
theorem m7 {w:World} {cs:List Value} {o s:Nat} {r rs:List C} (h:RowRel w ((cs.drop o).take s) r) (h':RowRel w (cs.drop (o+s)) rs):RowRel w (cs.drop o) (r++rs):=by
 have:=vC h h'
 rwa [<-List.drop_drop,List.take_append_drop] at this
theorem zO {w:World} {cs:List Value} {o:Nat} (h:cs.length<=o):RowRel w (cs.drop o) []:=by
 rw [List.drop_eq_nil_of_le h]; exact zA
theorem Da {w:World} {v:Value} {c:C} (hc:v.cells=#[v]) (h:RowRel w v.cells.toList [c]):∃ d,rel w (fun _=>True) L0 dm false d [] c v:=by
 obtain ⟨_,d,h⟩:=h;obtain ⟨u,h1,h2⟩:=h 0 c rfl;rw [hc] at h1;simp only [List.getElem?_cons_zero,Option.some.injEq] at h1;subst h1;exact ⟨d,h2⟩
theorem B6 {w:World} {us:List Value}:∀ (i:Nat) (c:C),([]:List C)[i]?=some c->∃ u d,us[i]?=some u/\rel w (fun _=>True) L0 dm false d [] c u:=by simp
theorem Aw {w:World} {c0:C} {u0:Value} {cs:List C} {us:List Value} (h:∃ d,rel w (fun _=>True) L0 dm false d [] c0 u0) (t:∀ (i:Nat) (c:C),cs[i]?=some c->∃ u d,us[i]?=some u/\rel w (fun _=>True) L0 dm false d [] c u) :
  ∀ (i:Nat) (c:C),(c0::cs)[i]?=some c->∃ u d,(u0::us)[i]?=some u/\rel w (fun _=>True) L0 dm false d [] c u:=by
 intro i c hc;cases i with
 | zero=>
  simp only [List.getElem?_cons_zero,Option.some.injEq] at hc;subst hc;obtain ⟨d,h⟩:=h;exact ⟨u0,d,rfl,h⟩
 | succ i=>exact t i c (by simpa using hc)
end Go.Abs

namespace Go.Abs
attribute [go_sem] St.move AO CU BF ue C9 ir CN CA Bu
attribute [go_sem] poi_sl BD Bv CF poiAt leafC H0 List.getElem?_toArray Option.bind_some Option.bind_none List.map_cons List.map_nil
attribute [go_sem] fN lenC capC binC strBin intBin unC convC negIf bD eqCell fq
attribute [go_sem] indexC iB fieldC loadC packC pickC s5 rW natC jn sliceC buildQ
attribute [go_sem] buildC setAt fm ji iY chunks ub gi St.fresh allocX boxX storeX bS gm
attribute [go_sem] C.oneC isDead St.node C.at C.kid Bool.false_eq_true List.length_map List.getElem?_cons_zero List.getElem?_cons_succ List.drop_zero List.drop_succ_cons List.drop_nil
attribute [go_sem] List.take_succ_cons List.take_zero List.take_nil List.length_cons List.length_nil List.all_cons List.all_nil List.any_cons List.any_nil C.cellOk Value.oneCell' Bool.and_self
attribute [go_sem] Bool.and_true Bool.true_and Bool.or_false Bool.false_or eg viewC decide_true decide_false Bool.not_true Bool.not_false Bool.not_not false_implies
attribute [go_sem] true_implies true_and and_true and_self C.turn List.modify_cons List.getElem?_map Option.map_some Option.map_none if_true if_false C.frz
attribute [go_sem] List.nil_append List.cons_append List.append_nil List.set_cons_zero List.set_cons_succ Int.ofNat_lt Int.natCast_nonneg Int.toNat_natCast Option.getD_some Option.getD_none Nat.zero_add Nat.add_zero
attribute [go_sem] pb kW pg dropsL qF St.drop List.contains_cons List.contains_nil List.elem_cons List.elem_nil
attribute [go_sem] appX ey jG dg bI adopt grown bW callX snaps snap snap0 snapL
attribute [go_sem] bindX ownD viewD mapI gP fJ List.replicate Option.isNone_some Option.isSome_some ne_eq not_true_eq_false not_false_eq_true
attribute [go_sem] Nat.succ_ne_self List.map_append List.length_append gmod z7 AD List.take_length List.isEmpty_cons gu gY gX jf
attribute [go_sem] Bg yh vR dec1 undef AK Array.size_empty List.size_toArray preJ beq_self_eq_true Bool.and_false
attribute [go_sem] Bool.false_and Nat.lt_irrefl false_and and_false true_or or_true false_or or_false or_self Go.Abs.plainCell C.isOwn yc
attribute [go_sem] wQ B2 seOk bodySE callSE callTo boxSE ly kN gT SE.apply wi wP Int.toNat_zero
attribute [go_sem] BI BZ plainR leaves List.flatMap_cons List.flatMap_nil bR prep1 dM reb1 List.mapIdx_cons
attribute [go_sem] List.mapIdx_nil
attribute [go_sem] sx de bP C.ment CT CQ leaves List.flatMap_cons List.flatMap_nil bR prep1 dM reb1 List.mapIdx_cons List.mapIdx_nil List.singleton_append Nat.succ_eq_add_one C5 clr_RZ inter CO Cg
attribute [go_sem] wh
attribute [go_sem] mkX makeX
attribute [go_sem] appVX kV appV jy ai extOf roomS Ext.all
attribute [go_sem] shiftC dU St.plug Bool.or_true Bool.true_or Nat.le_refl AN
attribute [go_sem] strQ rowsC bytesC byteC
end Go.Abs

namespace Go.Abs
attribute [go_sem] List.length_set
section
variable {E:Env} {Q:Exit->St->Prop} {st:St} {K:List Fm}
instance {e:Exit}:Pop (ap E Q [] e st) (Q e st):=⟨B5⟩
instance {J:St->Prop}:Pop (ap E Q (.lp J::K) .normal st) (J st):=⟨Cj⟩
class PopS (A:Prop) (B:outParam Prop):Prop where
 h:B->A
instance (priority:=low) (A:Prop):PopS A A:=⟨id⟩
instance {A B D:Prop} [p:Pop A B] [q:PopS B D]:PopS A D:=⟨fun h=>p.pop (q.h h)⟩
theorem pp {A B:Prop} [p:PopS A B] (h:B):A:=p.h h
end
class PureI (c:C):Prop where
 h:PureC c
class PureIL (l:List C):Prop where
 h:∀ c∈l,PureC c
instance (v:Value):PureI (.val v):=⟨PureC.val v⟩
instance (l:List C) [PureIL l]:PureI (.tup l):=⟨PureC.tup PureIL.h⟩
instance (l:List C) [PureIL l]:PureI (.agg l):=⟨PureC.agg PureIL.h⟩
instance:PureIL []:=⟨kO⟩
instance (c:C) (l:List C) [PureI c] [PureIL l]:PureIL (c::l):=⟨aQ PureI.h PureIL.h⟩
class PureRI {α:Type} (row:α->List C):Prop where
 h:∀ x,∀ c∈row x,PureC c
instance (k:IntKind):PureRI (rowI k):=⟨z9 k⟩
instance:PureRI rowS:=⟨AY⟩
class PureIR (l:List (List C)):Prop where
 h:∀ row∈l,∀ c∈row,PureC c
instance {α:Type} (row:α->List C) (l:List α) [h:PureRI row]:PureIR (l.map row):=⟨AB h.h l⟩
instance (nl:Option Bool) (es:Nat) (cap:Option Nat) (rows:List (List C)) [h:PureIR rows]:PureI (.sl true nl es cap rows):=⟨PureC.sl h.h⟩
class RowI {α:Type} (row:α->List C):Prop where
 ok:RowOk row
class NoIR (l:List (List C)):Prop where
 h:∀ row∈l,∀ c∈row,NoOwn c
instance {α:Type} (row:α->List C) (l:List α) [h:RowI row]:NoIR (l.map row):=⟨h.ok.noOwn l⟩
class LeI (a b:C):Prop where
 h:Le a b
class LeIL (a b:List C):Prop where
 h:LeL a b
class LeIR (a b:List (List C)):Prop where
 h:LeLL a b
instance (priority:=high) (a:C):LeI a a:=⟨Le.refl a⟩
instance:LeIL [] []:=⟨LeL.nil⟩
instance (a b:C) (as bs:List C) [LeI a b] [LeIL as bs]:LeIL (a::as) (b::bs):=⟨LeL.cons LeI.h LeIL.h⟩
instance (priority:=high) (a:List (List C)):LeIR a a:=⟨LeLL.refl a⟩
instance (o o':Bool) (nl:Option Bool) (es:Nat) (cap:Option Nat) (rows rows':List (List C)) [h:LeIR rows rows']:LeI (.sl o nl es cap rows) (.sl o' none es none rows'):=⟨Le.sl h.h⟩
class RokI (a b:C):Prop where
 h:ROk a b
class RokL (as bs:List C):Prop where
 len:bs.length=as.length
 h:∀ (i:Nat) (a b:C),as[i]?=some a->bs[i]?=some b->ROk a b
instance (priority:=high) (a:C):RokI a a:=⟨ROk.refl a⟩
instance:RokL [] []:=⟨rfl,lf⟩
instance (a b:C) (as bs:List C) [h:RokI a b] [t:RokL as bs]:RokL (a::as) (b::bs):=⟨by simp [t.len],jZ h.h t.h⟩
instance (as bs:List C) [h:RokL as bs]:RokI (.agg as) (.agg bs):=⟨ROk.agg h.len h.h⟩
instance (as bs:List C) [h:RokL as bs]:RokI (.tup as) (.tup bs):=⟨ROk.tup h.len h.h⟩
instance (es:Nat):RokI (.val (.slice none 0 0)) (.sl true none es none []):=⟨ROk.nil es⟩
instance (es:Nat):RokI (.val (.slice none 0 0)) (.sl false none es none []):=⟨ROk.of _ Le.nils (NoOwn.sl _ _ _ _)⟩
instance (o:Bool) (nl:Option Bool) (es:Nat) (cap:Option Nat) (rows rows':List (List C)) [h:LeIR rows rows']:RokI (.sl o nl es cap rows) (.sl false none es none rows'):=⟨ROk.of _ (Le.sl h.h) (NoOwn.sl _ _ _ _)⟩
instance (nl:Option Bool) (es:Nat) (cap:Option Nat) (rows rows':List (List C)) [h:LeIR rows rows'] [n:NoIR rows']:RokI (.sl true nl es cap rows) (.sl true none es none rows'):=⟨ROk.own h.h n.h⟩
def glist:List (Nat × Nat × FnS)->Nat->Nat->Option FnS
 | [],_,_=>none
 | (d0,f0,fs)::l,d,f=>if d=d0/\f=f0 then some fs else glist l d f
def flist:List (Nat × Bool)->Nat->Option Bool
 | [],_=>none
 | (d0,b)::l,d=>if d=d0 then some b else flist l d
def GL (P:Program) (L:List (Nat × Nat × FnS)):Prop:=∀ d f fs,glist L d f=some fs->FSOk P f fs
theorem gn {P:Program}:GL P []:=fun d f fs h=>by cases h
theorem gc {P:Program} (d0:Nat) {f0:Nat} {fs0:FnS} {L:List (Nat × Nat × FnS)} (h0:FSOk P f0 fs0) (h:GL P L):GL P ((d0,f0,fs0)::L):=by
 intro d f fs hf;simp only [glist] at hf;split at hf
 ·rename_i hc;obtain ⟨rfl,rfl⟩:=hc;cases hf;exact h0
 ·exact h d f fs hf
@[reducible] def EE (P:Program) (G:Nat->Nat->Option FnS) (F:List (Nat × Bool)) (L:Nat->Nat->Option FnL):Env:={ T:=tiOf P,G:=G,F:=flist F,L:=L }
theorem EE_T (P:Program) (G:Nat->Nat->Option FnS) (F:List (Nat × Bool)) (L:Nat->Nat->Option FnL):(EE P G F L).T=tiOf P:=rfl
theorem EE_G (P:Program) (G:Nat->Nat->Option FnS) (F:List (Nat × Bool)) (L:Nat->Nat->Option FnL):(EE P G F L).G=G:=rfl
theorem EE_F (P:Program) (G:Nat->Nat->Option FnS) (F:List (Nat × Bool)) (L:Nat->Nat->Option FnL):(EE P G F L).F=flist F:=rfl
theorem EE_L (P:Program) (G:Nat->Nat->Option FnS) (F:List (Nat × Bool)) (L:Nat->Nat->Option FnL):(EE P G F L).L=L:=rfl
def noL:Nat->Nat->Option FnL:=fun _ _=>none
theorem noL_at (d f:Nat):noL d f=none:=rfl
def llist:List (Nat × Nat × FnL)->Nat->Nat->Option FnL
 | [],_,_=>none
 | (d0,f0,fs)::l,d,f=>if d=d0/\f=f0 then some fs else llist l d f
def LL (P:Program) (L:List (Nat × Nat × FnL)):Prop:=∀ d f fs,llist L d f=some fs->FLOk P f fs
theorem ln {P:Program}:LL P []:=fun d f fs h=>by cases h
def updL:(Nat->C)->Nat->List C->Nat->C
 | f,_,[]=>f
 | f,k,c::cs=>updL (updT f k c) (k+1) cs
theorem yR:∀ (cs:List C) (f:Nat->C) (k t:Nat),updL f k cs t=if k<=t/\t < k+cs.length then (cs[t - k]?).getD .dead else f t
 | [],f,k,t=>by simp [updL]; omega
 | c::cs,f,k,t=>by
  rw [updL,yR cs (updT f k c) (k+1) t];simp only [List.length_cons,updT];by_cases h1:t=k
  ·subst h1; rw [if_neg (by omega),if_pos rfl,if_pos (by omega)]; simp
  ·by_cases h2:k+1<=t/\t < k+1+cs.length
   ·rw [if_pos h2,if_pos (by omega),show t - k=(t - (k+1))+1 from by omega,List.getElem?_cons_succ]
   ·rw [if_neg h2,if_neg h1,if_neg (by omega)]
theorem yA (cs:List C) (h:∀ t c,cs[t]?=some c->jc [] t c=c):entryF [] cs=updL deadT 0 cs:=by
 funext t
 rw [yR];unfold entryF;cases hc:cs[t]? with
 | none=>
  have:cs.length<=t:=List.getElem?_eq_none_iff.1 hc;rw [if_neg (by omega)]; rfl
 | some c=>
  have:=(List.getElem?_eq_some_iff.1 hc).1;rw [if_pos (by omega)];simp only [Nat.sub_zero,h t c hc,Option.getD_some,hc]
attribute [go_sem] cloN callL qR pq pk new1 newR ren1 renP cloF cloA B0 qF kW pg glist flist llist EE_T EE_G EE_F EE_L noL_at Env.Gs updL pc lentNs sD lentSh isVar asLst argOk updN jH
theorem aV {P:Program} {f:FuncId} {fn:Func} {body:Code} (hf:P.funcs[f]?=some fn) (hb:fn.body=some body) (hname:(fn.name == "runtime.NumGoroutine") = false) (hok : codeOk body = true)
  {G:Nat->Nat->Option FnS} (hG:∀ d f fs,G d f=some fs->FSOk P f fs) (F:List (Nat × Bool)) (hmix:P.follows .mixedOrders=true) {pure:Bool} {cs:List C} {r:C} (hn:cs.length<=fn.ntmps)
  (hW:Wk (EE P G F noL) body (ap (EE P G F noL) (FinW (EE P G F noL) fn.results.toList pure r) []) ⟨tab fn.ntmps (updL deadT 0 cs),RZ⟩):Con P f [] pure cs r:=by
 refine Cp (E:=EE P G F noL) (fun t ti h=>qk P G t ti h) ⟨fun d f fs h=>hG d f fs h,fun _ _ _ h=>by cases h⟩ hmix ⟨hf,hb,hname,hok⟩ hn fun _=>?_;rw [mH hn,R0_RZ,yA cs (fun t c _=>by simp [jc])];exact Bo hW
theorem sw {A B D:Prop} (f:A->B->D) (b:B) (a:A):D:=f a b
theorem xn {R:Nat->C}:∀ k,RZ k=R k∨RZ k=.dead:=AG
theorem xc {R R':Nat->C} {d:Nat} {c:C} (h0:R d=c) (h:∀ k,R' k=R k∨R' k=.dead):∀ k,upd R' d c k=R k∨upd R' d c k=.dead:=zH h0 h
theorem rn {n:Nat} {f R':Nat->C}:∀ t,t < n->deadT t=.dead∨(deadT t=f t/\(deadT t).ment (fun k _=>isDead (R' k)) 3=false):=Ao
theorem rc {n:Nat} {f g R':Nat->C} {d:Nat} {c:C} (h0:f d=c) (hm:c.ment (fun k _=>isDead (R' k)) 3=false)
  (h:∀ t,t < n->g t=.dead∨(g t=f t/\(g t).ment (fun k _=>isDead (R' k)) 3=false)):∀ t,t < n->updT g d c t=.dead∨(updT g d c t=f t/\(updT g d c t).ment (fun k _=>isDead (R' k)) 3=false):=zX h0 hm h
end Go.Abs

namespace Go.Abs
section
variable {X:Ctx} {m:Nat->Path->Value} {st:St} {a:Act} {w:World} {P:Program}
theorem B1 {w:World} {S S':Nat->Prop} {m:Path->Value} (hS:∀ b,S b->S' b) {nl:Option Bool} {es:Nat} {cap:Option Nat} {rows rows':List (List C)} (h:LeLL rows rows') (hn:∀ row∈rows',∀ c∈row,NoOwn c) {d:Nat} {u:Value}
  (hO:∀ i j q b,OwnAt (.sl true nl es cap rows) ((i,j)::q)->blk (m ((i,j)::q))=some b->S' b)
  (hr:rel w S L0 m true d [] (.sl true nl es cap rows) u):rel w S' L0 m true (d+1) [] (.sl true nl es cap rows') u:=by
 cases d with
 | zero=>exact hr.elim
 | succ d=>
  obtain ⟨a,k,h1,h2,h3,h4,hz,h5,h6,h7⟩:=hr;refine ⟨a,k,by rw [h.len]; exact h1,by rw [h.len]; exact h2,h3,h4,hz,?_,fun _=>h6 rfl,?_⟩
  ·intro row' hrow;obtain ⟨i,hi,e⟩:=List.getElem_of_mem hrow;have hlt:i < rows.length:=by rw [<-h.len]; exact hi
   have:=h.get i rows[i] row' (by simp [hlt]) (by simp [hi,e]);rw [this.len];exact h5 _ (List.getElem_mem hlt)
  ·rcases h7 with h7|h7|⟨b,off,arr,elem,frz,g1,g2,g3,g4,g5⟩
   ·exact .inl h7
   ·simp at h7
   ·refine .inr (.inr ⟨b,off,arr,elem,frz,g1,g2,fun h=>by simp at h,g4,?_⟩);intro i j row' c' e1 e2;have hlt:i < rows.length:=by rw [<-h.len]; exact (List.getElem?_eq_some_iff.1 e1).1
    have hrow:rows[i]?=some rows[i]:=by simp [hlt]
    have hle:=h.get i rows[i] row' hrow e1;have hltj:j < rows[i].length:=by rw [<-hle.len]; exact (List.getElem?_eq_some_iff.1 e2).1
    have hc:rows[i][j]?=some rows[i][j]:=by simp [hltj]
    obtain ⟨u',e3,e4⟩:=g5 i j _ _ hrow hc;have hnc:=hn row' (List.mem_of_getElem? e1) c' (List.mem_of_getElem? e2);refine ⟨u',e3,aw d (d+1) (Nat.le_succ _) (rQ d hnc (hle.get j _ c' hc e2 _ _ _ m _ [] d u' (kv (S:=S) (S':=S') (m:=m) (m':=m) (p:=[]++[(i,j)]) (p':=[]) hS d ?_ e4)))⟩;intro _ q b' hq hb;refine hO i j q b' ?_ (by simpa using hb);simp only [OwnAt,C.at,C.kid,hrow,Option.bind_some,hc]; exact hq
theorem pJ {nl:Option Bool} {es:Nat} {cap:Option Nat} {rows:List (List C)} (hn:∀ row∈rows,∀ c∈row,NoOwn c) {q:Path} (h:OwnAt (.sl true nl es cap rows) q):q=[]:=by
 cases q with
 | nil=>rfl
 | cons s q=>
  exfalso;simp only [OwnAt,C.at,C.kid] at h;cases hr:rows[s.1]? with
  | none=>simp [hr] at h
  | some row=>
   simp only [hr,Option.bind_some] at h;cases hc:row[s.2]? with
   | none=>simp [hc] at h
   | some c=>
    simp only [hc,Option.bind_some] at h;exact hn row (List.mem_of_getElem? hr) c (List.mem_of_getElem? hc) q h
def inside (n:Nat):Nat->Path->Bool:=fun k p=>k == n && !p.isEmpty
theorem InvM.tell (H:InvM X m st a w) {n:Nat} {nl:Option Bool} {es:Nat} {cap:Option Nat} {rows rows':List (List C)} (hR:st.roots n=.sl true nl es cap rows) (hle:LeLL rows rows') (hn:∀ row∈rows',∀ c∈row,NoOwn c) :
  InvM X m { tmps:=st.tmps.map (poi (inside n)),roots:=upd st.roots n (.sl true nl es cap rows') } a w:=by
 have hown:∀ k p,OwnAt (upd st.roots n (.sl true nl es cap rows') k) p->OwnAt (st.roots k) p/\(k=n->p=[]):=by
  intro k p ho;by_cases e:k=n
  ·subst e;rw [ah] at ho;have hp:=pJ hn ho;subst hp;refine ⟨?_,fun _=>rfl⟩;rw [hR]; rfl
  ·rw [upd_ne e] at ho;exact ⟨ho,fun h=>absurd h e⟩
 have hS:∀ b,X.S st.roots m b->X.S (upd st.roots n (.sl true nl es cap rows')) m b:=by
  rintro b ⟨h1,h2⟩;refine ⟨h1,?_⟩;rintro ⟨k,p,ho,hb⟩;exact h2 ⟨k,p,(hown k p ho).1,hb⟩
 have hL:∀ v u,(∀ k p,v.place=some (k,p)->k=n->p=[])->Lv st.roots m v u->Lv (upd st.roots n (.sl true nl es cap rows')) m v u:=by
  intro v u hp hl;cases v with
  | pref k p i j=>
   obtain ⟨nl',es',cap',rows0,b,off,kk,g1,g2,g3⟩:=hl;by_cases e:k=n
   ·subst e;have:p=[]:=hp k p rfl rfl;subst this;rw [hR] at g1;simp only [C.at,Option.some.injEq,C.sl.injEq,true_and] at g1;obtain ⟨rfl,rfl,rfl,rfl⟩:=g1;exact ⟨nl,es,cap,rows',b,off,kk,by rw [ah]; rfl,by rw [hle.len]; exact g2,g3⟩
   ·exact ⟨nl',es',cap',rows0,b,off,kk,by rw [upd_ne e]; exact g1,g2,g3⟩
  | pal k p lo len c=>
   obtain ⟨nl',es',cap',rows0,a0,kk,a',k',g1,g2,g3,g4⟩:=hl;by_cases e:k=n
   ·subst e;have:p=[]:=hp k p rfl rfl;subst this;rw [hR] at g1;simp only [C.at,Option.some.injEq,C.sl.injEq,true_and] at g1;obtain ⟨rfl,rfl,rfl,rfl⟩:=g1;exact ⟨nl,es,cap,rows',a0,kk,a',k',by rw [ah]; rfl,by rw [hle.len]; exact g2,by rw [hle.len]; exact g3,g4⟩
   ·exact ⟨nl',es',cap',rows0,a0,kk,a',k',by rw [upd_ne e]; exact g1,g2,g3,g4⟩
  | _=>exact hl
 refine ⟨by simp [H.len],?_,?_,?_,?_,H.fr,H.df⟩
 ·intro t c hc;simp only [List.getElem?_map,Option.map_eq_some_iff] at hc;obtain ⟨c0,h0,rfl⟩:=hc;obtain ⟨u,d,h1,h2⟩:=H.tmp t c0 h0;rcases dI (inside n) c0 with e|⟨e,hm⟩
  ·rw [e]; exact ⟨u,1,h1,trivial⟩
  ·rw [e];refine ⟨u,d,h1,ag (fun b _ hb=>⟨hS b hb,rfl⟩) d (fun v uv ho hl=>?_) (fun h=>by simp at h) (fun h=>by simp at h) h2⟩;refine hL v uv ?_ hl;intro k p hpl hk;obtain ⟨k',p',e1,e2⟩:=dT d 3 c0 v hm ho;rw [hpl] at e1;simp only [Option.some.injEq,Prod.mk.injEq] at e1;obtain ⟨rfl,rfl⟩:=e1;subst hk;simpa [inside] using e2
 ·intro k;obtain ⟨u,d,hr⟩:=H.root k;by_cases e:k=n
  ·subst e;rw [hR] at hr;refine ⟨u,d+1,?_⟩;show rel w _ L0 (m k) true (d+1) [] (upd st.roots k (.sl true nl es cap rows') k) u;rw [ah];refine B1 hS hle hn (fun i j q b ho hb=>?_) hr;have ho':OwnAt (st.roots k) ((i,j)::q):=by rw [hR]; exact ho
   refine ⟨(H.own _ _ b ho' hb).elim .inr (fun h=>.inl (X.kS b h)),?_⟩;rintro ⟨k',p',ho2,hb2⟩;obtain ⟨ho3,hp⟩:=hown k' p' ho2;obtain ⟨e1,e2⟩:=H.inj _ _ _ _ b ho3 ho' hb2 hb;rw [hp e1] at e2;cases e2
  ·refine ⟨u,d,?_⟩;show rel w _ L0 (m k) true d [] (upd st.roots n (.sl true nl es cap rows') k) u;rw [upd_ne e];exact ag (fun b _ hb=>⟨hS b hb,rfl⟩) d (fun _ _ _ h=>h) (fun _ _ _ _ _ _=>rfl) (fun _ _ _=>rfl) hr
 ·intro k p k' p' b h1 h2;exact H.inj k p k' p' b (hown k p h1).1 (hown k' p' h2).1
 ·intro k p b h1;exact H.own k p b (hown k p h1).1
end
theorem uD {α:Type} {row:α->List C} {l:List α} {i:Nat} {x:α} {rx ry:List C} {g:List C->List C} (hx:l[i]?=some x) (e1:row x=rx) (h:g rx=ry):(l.map row).modify i g=(l.map row).set i ry:=by
 apply List.ext_getElem?;intro j;rw [List.getElem?_modify,List.getElem?_set];by_cases e:i=j
 ·subst e;have hlt:=(List.getElem?_eq_some_iff.1 hx).1;have hxi:l[i]=x:=by rw [List.getElem?_eq_getElem hlt] at hx; exact Option.some.inj hx
  simp [hlt,hxi,e1,h]
 ·simp [e]
theorem eX {α:Type} {row:α->List C} {l:List α} {i:Nat} {x:α} (ry:List C) (hx:l[i]?=some x):((l.map row).set i ry)[i]?=some ry:=by
 have hlt:=(List.getElem?_eq_some_iff.1 hx).1;simp [hlt]
theorem gU {α:Type} {row:α->List C} {l:List α} {i:Nat} {x:α} {ry rz:List C} {g:List C->List C} (hx:l[i]?=some x) (h:g ry=rz):((l.map row).set i ry).modify i g=(l.map row).set i rz:=by
 apply List.ext_getElem?;intro j;have hlt:=(List.getElem?_eq_some_iff.1 hx).1;rw [List.getElem?_modify,List.getElem?_set,List.getElem?_set];by_cases e:i=j
 ·subst e; simp [hlt,h]
 ·simp [e]
instance over_le {α:Type} (row:α->List C) (l:List α) (i:Nat) (ry:List C) (y:α) [h:LeIL ry (row y)]:LeIR ((l.map row).set i ry) ((l.set i y).map row):=⟨by
 refine ⟨by simp,?_⟩;intro j r r' h1 h2;rw [List.getElem?_set] at h1;simp only [List.getElem?_map,List.getElem?_set] at h2;by_cases e:i=j
 ·subst e;by_cases hl:i < l.length
  ·simp only [List.length_map,hl,if_true,Option.some.injEq,Option.map_some] at h1 h2;subst h1; subst h2; exact h.h
  ·simp [hl] at h1
 ·simp only [e,if_false,List.getElem?_map] at h1 h2;rw [h1] at h2;cases h2;exact LeL.refl _⟩
class KeepI (a b:C):Prop where
 h:∀ q,OwnAt a q->OwnAt b q
instance (priority:=high) (a:C):KeepI a a:=⟨fun _ h=>h⟩
theorem Aa {α:Type} {row:α->List C} [hrow:RowI row] {k n:Nat} {f:Nat->C} {R:Nat->C} {nl:Option Bool} {es:Nat} {cap:Option Nat} {l:List α} {i:Nat} {rc:List C} (y:α) (rz:List C) (hR:R n=.sl true nl es cap ((l.map row).set i rc)) (hz:row y=rz) [hle:LeIL rc rz] :
  Weak ⟨tab k f,R⟩ ⟨tab k (poiT (inside n) f),upd R n (.sl true nl es cap ((l.set i y).map row))⟩:=by
 rintro X a w ⟨m,H⟩;have h1:LeIR ((l.map row).set i rc) ((l.set i y).map row):=by
  have:LeIL rc (row y):=by rw [hz]; exact hle
  exact over_le row l i rc y
 have:=H.tell hR h1.h (hrow.ok.noOwn (l.set i y));exact ⟨m,by simpa [ue] using this⟩
theorem pn (g:Nat->Path->Bool) (f:Nat->C) (d:Nat) (c:C):poiT g (updT f d c)=updT (poiT g f) d (poi g c):=by
 funext t
 simp only [poiT,updT];split<;>rfl
theorem oe (g:Nat->Path->Bool):poiT g deadT=deadT:=rfl
attribute [go_sem] inside List.isEmpty_nil
class LeRF {α:Type} (f g:α->List C):Prop where
 h:∀ x,LeL (f x) (g x)
instance leRF_map {α:Type} (f g:α->List C) (l:List α) [h:LeRF f g]:LeIR (l.map f) (l.map g):=⟨LeLL.map h.h l⟩
def mxR {α:Type} (f g:α->List C) (i:Nat) (l:List α):List (List C):=(l.take i).map f++(l.drop i).map g
section
variable {α:Type} {f g:α->List C} {i:Nat} {l:List α}
theorem eD:(mxR f g i l).length=l.length:=by simp [mxR]; omega
theorem Db (h:l.length<=i):mxR f g i l=l.map f:=by simp [mxR,List.take_of_length_le h,List.drop_eq_nil_of_le h]
theorem vj {x:α} (hx:l[i]?=some x):mxR f g i l=(l.take i).map f++g x::(l.drop (i+1)).map g:=by
 have hlt:=(List.getElem?_eq_some_iff.1 hx).1;have hxi:=(List.getElem?_eq_some_iff.1 hx).2;unfold mxR;rw [List.drop_eq_getElem_cons hlt,List.map_cons,hxi]
theorem mix_tl {x:α} (hx:l[i]?=some x):((l.take i).map f).length=i:=by
 have hlt:=(List.getElem?_eq_some_iff.1 hx).1;simp; omega
theorem sp {x:α} (hx:l[i]?=some x):(mxR f g i l)[i]?=some (g x):=by
 rw [vj hx,List.getElem?_append_right (by rw [mix_tl hx]; exact Nat.le_refl _),mix_tl hx,Nat.sub_self]; rfl
theorem mix_of {x:α} {rx ry:List C} {k:List C->List C} (hx:l[i]?=some x) (e1:g x=rx) (h:k rx=ry):(mxR f g i l).modify i k=(mxR f g i l).set i ry:=by
 apply List.ext_getElem?;intro j;have hlt:i < (mxR f g i l).length:=by rw [eD]; exact (List.getElem?_eq_some_iff.1 hx).1
 rw [List.getElem?_modify,List.getElem?_set];by_cases e:i=j
 ·subst e; rw [sp hx]; simp [hlt,e1,h]
 ·simp [e]
theorem mg {x:α} (ry:List C) (hx:l[i]?=some x):((mxR f g i l).set i ry)[i]?=some ry:=by
 have hlt:i < (mxR f g i l).length:=by rw [eD]; exact (List.getElem?_eq_some_iff.1 hx).1
 simp [hlt]
theorem sH {x:α} {ry rz:List C} {k:List C->List C} (hx:l[i]?=some x) (h:k ry=rz):((mxR f g i l).set i ry).modify i k=(mxR f g i l).set i rz:=by
 apply List.ext_getElem?;intro j;have hlt:i < (mxR f g i l).length:=by rw [eD]; exact (List.getElem?_eq_some_iff.1 hx).1
 rw [List.getElem?_modify,List.getElem?_set,List.getElem?_set];by_cases e:i=j
 ·subst e; simp [hlt,h]
 ·simp [e]
theorem Bp {x:α} (hx:l[i]?=some x) (y:α):(mxR f g i l).set i (f y)=mxR f g (i+1) (l.set i y):=by
 have hlt:=(List.getElem?_eq_some_iff.1 hx).1;rw [vj hx,List.set_append_right _ _ (by rw [mix_tl hx]; exact Nat.le_refl _),mix_tl hx,Nat.sub_self,List.set_cons_zero];unfold mxR;have e1:(l.set i y).take (i+1)=l.take i++[y]:=by
  rw [List.take_add_one,List.getElem?_set];simp only [if_true,hlt,Option.toList_some];rw [List.take_set_of_le (Nat.le_refl i)]
 have e2:(l.set i y).drop (i+1)=l.drop (i+1):=by
  rw [List.drop_set]; simp
 rw [e1,e2,List.map_append,List.append_assoc];rfl
theorem AF (y:α):(l.map f).set i (f y)=(l.set i y).map f:=by rw [List.map_set]
end
def lenG {α β:Type} (l:List α) (i:Nat) (k:Option β):Option β:=if l.length<=i then k else none
theorem Az {α β:Type} {l:List α} {i:Nat} {k:Option β} {r:β} (h:lenG l i k=some r):l.length<=i/\k=some r:=by
 unfold lenG at h;split at h
 ·rename_i hl; exact ⟨hl,h⟩
 ·cases h
theorem uO {k n:Nat} {f f':Nat->C} {R:Nat->C} {nl:Option Bool} {es:Nat} {cap:Option Nat} {rows rows':List (List C)} (hR:R n=.sl true nl es cap rows) (he:rows=rows') (hf:poiT (inside n) f=f') :
  Weak ⟨tab k f,R⟩ ⟨tab k f',upd R n (.sl true nl es cap rows')⟩:=by
 subst he hf;have hu:upd R n (.sl true nl es cap rows)=R:=by
  funext t; unfold upd; split
  ·rename_i e; rw [e,hR]
  ·rfl
 rw [hu];rintro X a w ⟨m,H⟩;refine ⟨m,⟨by rw [H.len]; simp [lG],?_,H.root,H.inj,H.own,H.fr,H.df⟩⟩;intro t c hc;rw [ir] at hc;split at hc
 case isFalse=>simp at hc
 rename_i hlt;simp only [Option.some.injEq] at hc;subst hc;obtain ⟨u,d,h1,h2⟩:=H.tmp t (f t) (by simp only [ir,hlt,if_true]);rcases dI (inside n) (f t) with e|⟨e,_⟩
 ·exact ⟨u,1,h1,by simp only [poiT]; rw [e]; trivial⟩
 ·exact ⟨u,d,h1,by simp only [poiT]; rw [e]; exact h2⟩
theorem qI {α:Type} {row:α->List C} {k n:Nat} {f f':Nat->C} {R:Nat->C} {nl:Option Bool} {es:Nat} {cap:Option Nat} {l:List α} {i:Nat} {rc:List C} (y:α) (hR:R n=.sl true nl es cap ((l.map row).set i rc)) (hz:row y=rc) (hf:poiT (inside n) f=f') :
  Weak ⟨tab k f,R⟩ ⟨tab k f',upd R n (.sl true nl es cap ((l.set i y).map row))⟩:=uO hR (by rw [<-hz,AF]) hf
theorem zk {α:Type} {f0 g0:α->List C} {k n:Nat} {f f':Nat->C} {R:Nat->C} {nl:Option Bool} {es:Nat} {cap:Option Nat} {l:List α} {i:Nat} {x:α} {rc:List C} (y:α) (hx:l[i]?=some x) (hR:R n=.sl true nl es cap ((mxR f0 g0 i l).set i rc)) (hz:f0 y=rc) (hf:poiT (inside n) f=f') :
  Weak ⟨tab k f,R⟩ ⟨tab k f',upd R n (.sl true nl es cap (mxR f0 g0 (i+1) (l.set i y)))⟩:=uO hR (by rw [<-hz,Bp hx]) hf
theorem om {α:Type} {row0 row:α->List C} [hrow:RowI row] [hF:LeRF row0 row] {k n:Nat} {f f':Nat->C} {R:Nat->C} {nl:Option Bool} {es:Nat} {cap:Option Nat} {l:List α} (hR:R n=.sl true nl es cap (l.map row0)) (hf:poiT (inside n) f=f') :
  Weak ⟨tab k f,R⟩ ⟨tab k f',upd R n (.sl true nl es cap (l.map row))⟩:=by
 subst hf;rintro X a w ⟨m,H⟩;have:=H.tell hR (LeLL.map hF.h l) (hrow.ok.noOwn l);exact ⟨m,by simpa [ue] using this⟩
theorem Real.lenAt {st:St} (h:Real st) (n:Nat) (p:Path) {nl:Option Bool} {es:Nat} {cap:Option Nat} {rows:List (List C)} (hc:(st.roots n).at p=some (.sl true nl es cap rows)):rows.length<=maxLen:=by
 obtain ⟨X,a,w,m,H⟩:=h;obtain ⟨u,d,hr⟩:=H.root n;obtain ⟨u',d',h2⟩:=rel_at p hr hc;obtain ⟨a1,k1,D,e1,e2,e3,e4,e5⟩:=bU h2;omega
def fn1 {A0:Type} (d0:C->Option A0) (f:A0->Option C):List C->Option C
 | [c0]=>(d0 c0).bind fun q0=>f q0
 | _=>none
theorem ok1 {P:Program} {k:FuncId} {pure:Bool} {A0:Type} {d0:C->Option A0} {f:A0->Option C} {t0:A0->C} (h:∀ q0 r,f q0=some r->Con P k [] pure [t0 q0] r) (l0:∀ {c x},d0 c=some x->Le c (t0 x)):FSOk P k ⟨[],pure,fn1 d0 f,false⟩:=by
 refine ⟨fun cs r hr=>?_,fun h=>by cases h⟩;simp only [fn1] at hr;split at hr
 ·simp only [Option.bind_eq_some_iff] at hr;obtain ⟨q0,h0,hr⟩:=hr;exact (h q0 r hr).args (LeL.cons (l0 h0) (LeL.nil))
 ·cases hr
def fn2 {A0 A1:Type} (d0:C->Option A0) (d1:C->Option A1) (f:A0->A1->Option C):List C->Option C
 | [c0,c1]=>(d0 c0).bind fun q0=>(d1 c1).bind fun q1=>f q0 q1
 | _=>none
theorem ok2 {P:Program} {k:FuncId} {pure:Bool} {A0 A1:Type} {d0:C->Option A0} {d1:C->Option A1} {f:A0->A1->Option C} {t0:A0->C} {t1:A1->C} (h:∀ q0 q1 r,f q0 q1=some r->Con P k [] pure [t0 q0,t1 q1] r) (l0:∀ {c x},d0 c=some x->Le c (t0 x)) (l1:∀ {c x},d1 c=some x->Le c (t1 x)):FSOk P k ⟨[],pure,fn2 d0 d1 f,false⟩:=by
 refine ⟨fun cs r hr=>?_,fun h=>by cases h⟩;simp only [fn2] at hr;split at hr
 ·simp only [Option.bind_eq_some_iff] at hr;obtain ⟨q0,h0,q1,h1,hr⟩:=hr;exact (h q0 q1 r hr).args (LeL.cons (l0 h0) (LeL.cons (l1 h1) (LeL.nil)))
 ·cases hr
def fn3 {A0 A1 A2:Type} (d0:C->Option A0) (d1:C->Option A1) (d2:C->Option A2) (f:A0->A1->A2->Option C):List C->Option C
 | [c0,c1,c2]=>(d0 c0).bind fun q0=>(d1 c1).bind fun q1=>(d2 c2).bind fun q2=>f q0 q1 q2
 | _=>none
theorem ok3 {P:Program} {k:FuncId} {pure:Bool} {A0 A1 A2:Type} {d0:C->Option A0} {d1:C->Option A1} {d2:C->Option A2} {f:A0->A1->A2->Option C} {t0:A0->C} {t1:A1->C} {t2:A2->C} (h:∀ q0 q1 q2 r,f q0 q1 q2=some r->Con P k [] pure [t0 q0,t1 q1,t2 q2] r) (l0:∀ {c x},d0 c=some x->Le c (t0 x)) (l1:∀ {c x},d1 c=some x->Le c (t1 x)) (l2:∀ {c x},d2 c=some x->Le c (t2 x)):FSOk P k ⟨[],pure,fn3 d0 d1 d2 f,false⟩:=by
 refine ⟨fun cs r hr=>?_,fun h=>by cases h⟩;simp only [fn3] at hr;split at hr
 ·simp only [Option.bind_eq_some_iff] at hr;obtain ⟨q0,h0,q1,h1,q2,h2,hr⟩:=hr;exact (h q0 q1 q2 r hr).args (LeL.cons (l0 h0) (LeL.cons (l1 h1) (LeL.cons (l2 h2) (LeL.nil))))
 ·cases hr
attribute [go_sem] fn1 fn2 fn3
end Go.Abs

namespace Go.Abs
section
variable {X:Ctx} {m:Nat->Path->Value} {st:St} {a:Act} {w:World} {P:Program}
attribute [go_sem] List.range'
theorem z6 {n:Nat} {f:Nat->C} {R:Nat->C} (t es:Nat) (ht:f t=.val (.slice none 0 0)) :
  Weak ⟨tab n f,R⟩ ⟨tab n (updT f t (.sl false none es none [])),R⟩:=by
 rintro X a w ⟨m,H⟩;refine ⟨m,⟨by rw [H.len]; simp [lG],?_,H.root,H.inj,H.own,H.fr,H.df⟩⟩;intro t' c hc;rw [ir] at hc;split at hc
 case isFalse=>simp at hc
 rename_i hlt;simp only [Option.some.injEq] at hc;by_cases e:t'=t
 ·subst e;simp only [updT,if_true] at hc;subst hc;obtain ⟨u,dd,h1,h2⟩:=H.tmp t' (f t') (by simp only [ir,hlt,if_true]);rw [ht] at h2;cases dd with
  | zero=>exact h2.elim
  | succ dd=>
   have hu:u=.slice none 0 0:=h2;subst hu;exact ⟨_,1,h1,⟨none,0,rfl,Nat.le_refl _,by decide,by simp,by simp,by simp,by simp,.inl rfl⟩⟩
 ·simp only [updT,e,if_false] at hc;exact H.tmp t' c (by simp only [ir,hlt,if_true,hc])
def letC (n es:Nat) (rows:List (List C)):C->C
 | .pref n' [] i j=>if n'=n then .iref es rows i j else .pref n' [] i j
 | c=>poi (fun n' _=>n' == n) c
def letF (n es:Nat) (rows:List (List C)) (f:Nat->C):Nat->C:=fun t=>letC n es rows (f t)
theorem Ak (n es:Nat) (rows:List (List C)) (f:Nat->C) (d:Nat) (c:C):letF n es rows (updT f d c)=updT (letF n es rows f) d (letC n es rows c):=by
 funext t
 simp only [letF,updT];split<;>rfl
theorem zq (n es:Nat) (rows:List (List C)):letF n es rows deadT=deadT:=rfl
attribute [go_sem] letC Ak zq
def letD (n es:Nat) (rows:List (List C)):C->C
 | .pal n' [] lo len cap=>if n'=n then .sl false none es cap ((rows.drop lo).take len) else .pal n' [] lo len cap
 | c=>poi (fun n' _=>n' == n) c
def letG (n es:Nat) (rows:List (List C)) (f:Nat->C):Nat->C:=fun t=>letD n es rows (f t)
theorem AW (n es:Nat) (rows:List (List C)) (f:Nat->C) (d:Nat) (c:C):letG n es rows (updT f d c)=updT (letG n es rows f) d (letD n es rows c):=by
 funext t
 simp only [letG,updT];split<;>rfl
theorem zl (n es:Nat) (rows:List (List C)):letG n es rows deadT=deadT:=rfl
attribute [go_sem] letD AW zl
theorem vW {P:Program} {f:FuncId} {fn:Func} {body:Code} (hf:P.funcs[f]?=some fn) (hb:fn.body=some body) (hname:(fn.name == "runtime.NumGoroutine") = false) (hok : codeOk body = true)
  {G:Nat->Nat->Option FnS} (hG:∀ d f fs,G d f=some fs->FSOk P f fs) {L:Nat->Nat->Option FnL} (hL:∀ d f fl,L d f=some fl->FLOk P f fl) (F:List (Nat × Bool)) (hmix:P.follows .mixedOrders=true) {own:List Bool} {pure:Bool} {cs:List C} {r:C} (hn:cs.length<=fn.ntmps)
  (hW:Wk (EE P G F L) body (ap (EE P G F L) (FinO (EE P G F L) fn.results.toList pure r) []) ⟨tab fn.ntmps (entryF own cs),R0 own cs⟩):Con P f own pure cs r:=by
 intro w S m us hl hr hinj;left;have hname':¬ fn.name = "runtime.NumGoroutine" := by simpa using hname
 refine ⟨by simp [callFunc,hf,hname',hb],?_⟩;have H:=s7 (n:=fn.ntmps) hl hn hr hinj;rw [mH hn] at H;have hGO:GOk P (EE P G F L):=⟨fun d f fs h=>hG d f fs h,fun d f fl h=>hL d f fl h⟩;have hTO:TOk P (EE P G F L):=fun t ti h=>qk P G t ti h;refine calls_of_wp hf hb (wp_mono (hW P hTO hGO hmix hok _ _ _ ⟨m,H⟩ [] (rJ _)) ?_);rintro e a' w' ⟨⟨s,⟨he,r0,hfin,hrok,hkeep,hpure⟩,m',H'⟩,-⟩;have main:∃ u,(results fn a'.tmps).run P w'=.ok u w'/\Done (ctxOf w S (Owned (R0 own cs) m)) w' r0 u:=by
  unfold finish at hfin;split at hfin
  case h_2=>simp at hfin
  rename_i cs' hres;obtain ⟨us',f1,f2,f3⟩:=uj hTO H' hres;refine ⟨_,pC f1,?_⟩;split at hfin
  ·rename_i rs hpl;simp only [Option.some.injEq] at hfin;subst hfin;exact oJ hTO H' f2 f3 hpl
  ·split at hfin
   ·rename_i s1 kp hprep;simp only [Option.some.injEq] at hfin;subst hfin;exact pN hTO H' f2 f3 hprep
   ·simp at hfin
 obtain ⟨u,hrun,hd⟩:=main;obtain ⟨mr,d,g1,g2,g3⟩:=hd.ex;have post:a'.defers=[]/\∃ v,(results fn a'.tmps).run P w'=.ok v w'/\∃ u,Ending.returned v=.returned u/\∃ mr d,rel w' (fun b=>((pure=false/\(S b∨Owned (R0 own cs) m b))∨w.heap.size<=b)/\¬ Own1 r mr b) L0 mr true d [] r u ∧
   (∀ q q' b,OwnAt r q->OwnAt r q'->blk (mr q)=some b->blk (mr q')=some b->q=q')/\(∀ b,Own1 r mr b->w.heap.size<=b∨Owned (R0 own cs) m b)/\FrK w (Owned (R0 own cs) m) w':=by
  refine ⟨H'.df,u,hrun,u,rfl,wa hrok hkeep ⟨mr,d,?_,g2,g3,⟨hd.fr.os,hd.fr.tape,hd.fr.output,hd.fr.drawn,hd.fr.size,hd.fr.block⟩⟩⟩;cases hp:pure with
  | true=>exact hpure hp w' _ _ mr d [] u g1
  | false=>exact ag (fun b _ hs=>⟨⟨hs.1.imp (fun h=>⟨rfl,h⟩) id,hs.2⟩,rfl⟩) d (fun _ _ _ h=>h) (fun _ _ _ _ _ _=>rfl) (fun _ _ _=>rfl) g1
 rcases he with rfl|rfl
 ·exact post
 ·exact post
def clrL {α:Type} (z:α) (k:Nat) (l:List α):List α:=l.take k++List.replicate (l.length - k) z
theorem wD {α:Type} {z:α} {k:Nat} {l:List α} (h:k<=l.length):(clrL z k l).take k=l.take k:=by
 show (l.take k++List.replicate (l.length - k) z).take k=l.take k;rw [List.take_append_of_le_length (by rw [List.length_take]; omega),List.take_take,Nat.min_self]
theorem za {α:Type} {z:α} {k:Nat} {l:List α} (h:k<=l.length):(clrL z k l).length=l.length:=by
 show (l.take k++List.replicate (l.length - k) z).length=l.length;rw [List.length_append,List.length_take,List.length_replicate]; omega
theorem wS {α:Type} {row:α->List C} {z:α} {rz:List C} {k:Nat} {l:List α} (h:k<=l.length) (hz:row z=rz):au (l.map row) k (List.replicate (l.length - k) rz)=(clrL z k l).map row:=by
 subst hz;show (l.map row).take k++List.replicate (l.length - k) (row z)++(l.map row).drop (k+(List.replicate (l.length - k) (row z)).length)=(l.take k++List.replicate (l.length - k) z).map row;rw [List.map_append,List.map_take,List.map_replicate,List.drop_of_length_le (by simp; omega),List.append_nil]
theorem CP (g:Nat->Path->Bool) (f:Nat) (cs:List C):poi g (.clo f cs)=if (cs.any fun c=>c.ment g 2)=true then .dead else .clo f cs:=rfl
theorem Aq (g:Nat->Path->Bool) (k es:Nat) (rows:List (List C)) (i j:Nat):C.ment g (k+1) (.iref es rows i j)=false:=rfl
theorem BX (g:Nat->Path->Bool) (k:Nat) (v:Value):C.ment g (k+1) (.val v)=false:=rfl
theorem AL (g:Nat->Path->Bool) (k n:Nat) (p:Path) (i j:Nat):C.ment g (k+1) (.pref n p i j)=g n p:=rfl
theorem CX (g:Nat->Path->Bool) (k:Nat) (o:Bool) (nl:Option Bool) (es:Nat) (cap:Option Nat) (rows:List (List C)):C.ment g (k+1) (.sl o nl es cap rows)=false:=rfl
attribute [go_sem] CP Aq BX AL CX
end
end Go.Abs

namespace Go.Abs
section
variable {X:Ctx} {m:Nat->Path->Value} {st:St} {a:Act} {w:World} {P:Program}
theorem InvM.nilO (H:InvM X m st a w) {n:Nat} {q:Path} (es:Nat) (hq:(st.roots n).at q=some (.val (.slice none 0 0))) :
  ∃ m',InvM X m' { st with roots:=upd st.roots n ((st.roots n).turn (fun _=>.sl true none es none []) q) } a w:=by
 obtain ⟨m',hm'⟩:∃ m':Nat->Path->Value,m'=fun n' p=>if n'=n/\p=q then .slice none 0 0 else m n' p:=⟨_,rfl⟩
 have M1:m' n q=.slice none 0 0:=by rw [hm']; simp
 have Mn:∀ n' p,¬ (n'=n/\p=q)->m' n' p=m n' p:=by intro n' p h; rw [hm']; simp [h]
 obtain ⟨R',hR'⟩:∃ R',R'=upd st.roots n ((st.roots n).turn (fun _=>.sl true none es none []) q):=⟨_,rfl⟩;have hown:∀ n' p b,OwnAt (R' n') p->blk (m' n' p)=some b->OwnAt (st.roots n') p/\blk (m n' p)=some b/\¬ (n'=n/\p=q):=by
  intro n' p b ho hb;by_cases e:n'=n
  ·subst e;rw [hR',ah] at ho;rcases OwnAt.of_turn hq ho with ⟨r,rfl,h2⟩|⟨h1,h2⟩
   ·have:r=[]:=pJ (rows:=[]) (by simp) h2;subst this;rw [List.append_nil,M1] at hb;simp [blk] at hb
   ·have hne:¬ (n'=n'/\p=q):=fun h=>h1 [] (by simp [h.2]);rw [Mn _ _ hne] at hb;exact ⟨h2,hb,hne⟩
  ·rw [hR',upd_ne e] at ho;have hne:¬ (n'=n/\p=q):=fun h=>e h.1;rw [Mn _ _ hne] at hb;exact ⟨ho,hb,hne⟩
 have hS:∀ b,X.S st.roots m b->X.S R' m' b:=by
  rintro b ⟨h1,h2⟩;refine ⟨h1,?_⟩;rintro ⟨n',p,ho,hb⟩;obtain ⟨g1,g2,_⟩:=hown n' p b ho hb;exact h2 ⟨n',p,g1,g2⟩
 have hnoq:∀ r,r≠[]->(st.roots n).at (q++r)=none:=by
  intro r hr;rw [C.at_append,hq];cases r with
  | nil=>exact (hr rfl).elim
  | cons x r=>rfl
 have hL:∀ v u,Lv st.roots m v u->Lv R' m' v u:=by
  intro v u hl;have key:∀ k p nl es' cap rows,(st.roots k).at p=some (.sl true nl es' cap rows)->¬ (k=n/\p=q)/\∃ rows',(R' k).at p=some (.sl true nl es' cap rows')/\rows'.length=rows.length:=by
   intro k p nl es' cap rows hk;by_cases e:k=n
   ·subst e;have hpq:∀ r,p≠q++r:=by
     rintro r rfl;by_cases hr:r=[]
     ·subst hr; rw [List.append_nil,hq] at hk; cases hk
     ·rw [hnoq r hr] at hk; cases hk
    obtain ⟨x',e1,_,e3⟩:=C.at_turn_off (fun _=>.sl true none es none []) q p (st.roots k) _ _ hq hpq hk;obtain ⟨rows',rfl,e4⟩:=e3 nl es' cap rows rfl;exact ⟨fun h=>hpq [] (by simp [h.2]),rows',by rw [hR',ah]; exact e1,e4⟩
   ·exact ⟨fun h=>e h.1,rows,by rw [hR',upd_ne e]; exact hk,rfl⟩
  cases v with
  | pref k p i j=>
   obtain ⟨nl,es',cap,rows,b,off,kk,g1,g2,g3⟩:=hl;obtain ⟨hne,rows',g4,g5⟩:=key k p _ _ _ _ g1;exact ⟨nl,es',cap,rows',b,off,kk,g4,by rw [Mn _ _ hne,g5]; exact g2,g3⟩
  | pal k p lo len c=>
   obtain ⟨nl,es',cap,rows,a0,kk,a',k',g1,g2,g3,g4⟩:=hl;obtain ⟨hne,rows',g5,g6⟩:=key k p _ _ _ _ g1;exact ⟨nl,es',cap,rows',a0,kk,a',k',g5,by rw [Mn _ _ hne,g6]; exact g2,by rw [g6]; exact g3,g4⟩
  | _=>exact hl
 rw [<-hR'];refine ⟨m',⟨H.len,?_,?_,?_,?_,H.fr,H.df⟩⟩
 ·intro t c hc;obtain ⟨u,d,h1,h2⟩:=H.tmp t c hc;exact ⟨u,d,h1,ag (fun b _ hb=>⟨hS b hb,rfl⟩) d (fun v u _ h=>hL v u h) (fun h=>by simp at h) (fun h=>by simp at h) h2⟩
 ·intro k;obtain ⟨u,d,hr⟩:=H.root k;by_cases e:k=n
  ·subst e;obtain ⟨d',hd'⟩:=qx (f:=fun _=>C.sl true none es none []) (m':=m' k) (S':=X.S R' m') (w':=w) (fun b _ hb=>⟨hS b hb,rfl⟩) q hr hq (fun _ _ _ _ _ _=>rfl) (by
    intro q1 ho hne;simp only [List.nil_append];exact Mn _ _ (fun h=>hne [] (by simp [h.2]))) (by
    intro u0 d0 h0;simp only [List.nil_append] at h0 ⊢;cases d0 with
    | zero=>exact h0.elim
    | succ d0=>
     have hu:u0=.slice none 0 0:=h0;subst hu;rw [<-M1];exact ⟨2,iN (d:=1) (a:=none) (k:=0) (by rw [M1]; rfl) (by simp) (by simp [maxLen]) (by simp) ⟨by simp,by simp⟩ (by simp) (.inl rfl)⟩)
   exact ⟨u,d',by show rel w _ L0 (m' k) true d' [] (R' k) u; rw [show R' k=(st.roots k).turn (fun _=>.sl true none es none []) q from by rw [hR',ah]]; exact hd'⟩
  ·refine ⟨u,d,?_⟩;show rel w _ L0 (m' k) true d [] (R' k) u;rw [show R' k=st.roots k from by rw [hR',upd_ne e]];exact ag (fun b _ hb=>⟨hS b hb,rfl⟩) d (fun _ _ _ h=>h) (fun _ _ _ _ _ _=>rfl) (fun _ q0 _=>Mn _ _ (fun h=>e h.1)) hr
 ·intro k p k' p' b h1 h2 h3 h4;obtain ⟨g1,g2,_⟩:=hown k p b h1 h3;obtain ⟨g3,g4,_⟩:=hown k' p' b h2 h4;exact H.inj k p k' p' b g1 g3 g2 g4
 ·intro k p b h1 h2;obtain ⟨g1,g2,_⟩:=hown k p b h1 h2;exact H.own k p b g1 g2
theorem vx {k:Nat} {f:Nat->C} {R:Nat->C} (n:Nat) (q:Path) (es:Nat) {c':C} (hq:(R n).at q=some (.val (.slice none 0 0))) (hc:(R n).turn (fun _=>.sl true none es none []) q=c') :
  Weak ⟨tab k f,R⟩ ⟨tab k f,upd R n c'⟩:=by
 subst hc;rintro X a w ⟨m,H⟩;exact H.nilO es hq
theorem pa {k n:Nat} {f:Nat->C} {R:Nat->C} {c c':C} (hR:R n=c) (h:c=c'):Weak ⟨tab k f,R⟩ ⟨tab k f,upd R n c'⟩:=by
 subst h;have hu:upd R n c=R:=by
  funext t; unfold upd; split
  ·rename_i e; rw [e,hR]
  ·rfl
 rw [hu];exact fun _ _ _ h=>h
attribute [go_sem] pack
end
end Go.Abs

namespace Go.Abs
def pickO (ops:Array Oper):List Nat->List Oper
 | []=>[]
 | i::l=>match ops[i]? with
  | some o=>o::pickO ops l
  | none=>pickO ops l
attribute [go_sem] pickO
section
variable {X:Ctx} {m:Nat->Path->Value} {st:St} {a:Act} {w:World} {P:Program}
theorem vF {E:Env} (hT:TOk P E) {s:Nat} {ti:TI} (ht:TIOk P s ti) {f:Nat} {x c:C} {u:Value} (hx:RelT X m st w x u) (hc:iB E ti f x=some c):∃ v,(∀ w2,(Instr.fieldAt s u f).run P w2=.ok v w2)/\RelT X m st w c v:=by
 obtain ⟨d,hd,hagg,hk⟩:=ht.und;unfold iB at hc;split at hc
 ·rename_i fs hkind;rw [hkind] at hk;obtain ⟨fields,rfl,hf,_⟩:=hk;split at hc
  ·rename_i o t hfs;obtain ⟨fl,h1,rfl,rfl⟩:=hf f _ _ hfs;split at hc
   ·rename_i ft hft;split at hc
    ·simp at hc
    ·rename_i hz;have hrun:∀ b o' w2,(Instr.fieldAt s (.pointer (some ⟨b,o',none⟩)) f).run P w2=.ok (.pointer (some ⟨b,o'+fl.offset,none⟩)) w2:=by
      intro b o' w2;have hsz:=(hT _ ft hft).size (w:=w2);simp [Instr.fieldAt,run_underlying hd,h1,Instr.sureAddr,fieldPlace,hsz,hz,Addr.add_lit]
     split at hc
     ·simp only [Option.some.injEq] at hc;subst hc;obtain ⟨d,hx⟩:=hx;cases d with
      | zero=>exact hx.elim
      | succ d=>
       obtain ⟨nl',es',cap',rows',b',off',k',f1,f2,rfl⟩:=hx;exact ⟨_,hrun _ _,1,nl',es',cap',rows',b',off',k',f1,f2,by simp [Nat.add_assoc]⟩
     ·simp only [Option.some.injEq] at hc;subst hc;obtain ⟨d,hx⟩:=hx;cases d with
      | zero=>exact hx.elim
      | succ d=>
       obtain ⟨b,off,arr,elem,frz,rfl,g2⟩:=hx;exact ⟨_,hrun _ _,d+1,b,off,arr,elem,frz,by simp [Nat.add_assoc],g2⟩
     ·simp at hc
   ·simp at hc
  ·simp at hc
 ·simp at hc
theorem vL (h:InvM X m st a w) {t:Nat} {ti:TI} (ht:TIOk P t ti) {x ix c:C} {u v:Value} (hx:RelT X m st w x u) (hix:RelT X m st w ix v) (hc:fq st ti x ix=some c) :
  ∃ r,(∀ w2,(Instr.indexAt t u v).run P w2=.ok r w2)/\RelT X m st w c r:=by
 obtain ⟨d,hd,hagg,hk⟩:=ht.und;unfold fq at hc;split at hc
 ·rename_i e es k i hkind;rw [hkind] at hk;obtain ⟨rfl,ie,hi1,hi2⟩:=hk;obtain rfl:=hix.of_val;have hsz:∀ w2,(sizeOf e).run P w2=.ok es w2:=by intro w2; simp [sizeOf,typeInfo,hi1,hi2]
  split at hc
  ·rename_i n p lo len cap;split at hc
   ·rename_i nl es' cap' rows hn;split at hc
    ·rename_i hcond;obtain ⟨hes,h0,h1⟩:=hcond;obtain rfl:=hes.symm;simp only [Option.some.injEq] at hc;subst hc;obtain ⟨nl',es',cap'',rows',a0,k0,a',k',g1,g2,g3,rfl,g5,g6,g7,g8,g9⟩:=dz hx;have hn':(st.roots n).at p=some (.sl true nl es cap' rows):=hn;rw [hn'] at g1;simp only [Option.some.injEq,C.sl.injEq,true_and] at g1;obtain ⟨rfl,rfl,rfl,rfl⟩:=g1;rcases g9 with g9|⟨b,off,rfl,rfl⟩
     ·omega
     ·refine ⟨.pointer (some ⟨b,off+lo * es+i.toNat * es,none⟩),?_,1,nl,es,cap',rows,b,off,k0,hn',g2,?_⟩
      ·intro w2; simp [Instr.indexAt,asIntOf,run_underlying hd,h0,h1,hsz,Addr.add_lit]
      ·simp [Nat.add_mul,Nat.add_assoc]
    ·simp at hc
   ·simp at hc
  ·rename_i own nl es' cap rows;split at hc
   ·rename_i hcond;obtain ⟨hes,h0,h1⟩:=hcond;obtain rfl:=hes.symm;simp only [Option.some.injEq] at hc;subst hc;obtain ⟨a0,k0,rfl,g2,g3,g4,gz,g5,g6⟩:=kt hx;rcases g6 with rfl|⟨b,off,arr,elem,frz,rfl,e2,e3,dd,e5⟩
    ·simp at h1; omega
    ·refine ⟨.pointer (some ⟨b,off+i.toNat * es,none⟩),?_,dd+1,b,off,arr,elem,frz,by simp,e2,e3,g5,fun i j row c' f1 f2=>?_⟩
     ·intro w2; simp [Instr.indexAt,asIntOf,run_underlying hd,h0,h1,hsz,Addr.add_lit]
     ·exact e5 i j row c' f1 f2
   ·simp at hc
  ·simp at hc
 ·rename_i n e es k i hkind;rw [hkind] at hk;obtain ⟨rfl,ie,hi1,hi2⟩:=hk;obtain rfl:=hix.of_val;have hsz:∀ w2,(sizeOf e).run P w2=.ok es w2:=by intro w2; simp [sizeOf,typeInfo,hi1,hi2]
  split at hc
  ·rename_i hcond;obtain ⟨h0,h1⟩:=hcond;have hrun:∀ b o w2,(Instr.indexAt t (.pointer (some ⟨b,o,none⟩)) (.int k i)).run P w2=.ok (.pointer (some ⟨b,o+i.toNat * es,none⟩)) w2:=by
    intro b o w2;simp [Instr.indexAt,asIntOf,run_underlying hd,Instr.sureAddr,h0,h1,hsz,Addr.add_lit]
   split at hc
   ·simp only [Option.some.injEq] at hc;subst hc;obtain ⟨nl',es',cap',rows',b',off',k',f1,f2,rfl⟩:=gM hx;exact ⟨_,hrun _ _,1,nl',es',cap',rows',b',off',k',f1,f2,by simp [Nat.add_assoc]⟩
   ·simp only [Option.some.injEq] at hc;subst hc;obtain ⟨d,hx⟩:=hx;cases d with
    | zero=>exact hx.elim
    | succ d=>
     obtain ⟨b,off,arr,elem,frz,rfl,g2⟩:=hx;exact ⟨_,hrun _ _,d+1,b,off,arr,elem,frz,by simp [Nat.add_assoc],g2⟩
   ·simp at hc
  ·simp at hc
 ·simp at hc
def quietT (o:Oper):Bool:=o.guard.isNone && match o.op with
 | .move _=>true
 | .assign _=>true
 | .extract ..=>true
 | .nilCheck _=>true
 | .fieldAddr ..=>true
 | .load ..=>true
 | .indexAddr ..=>true
 | .makeFunc ..=>true
 | .call { callee:=.builtin .len,.. }=>true
 | _=>false
def isLd (o:Oper):Bool:=match o.op with
 | .load ..=>true
 | _=>false
theorem rI {E:Env} {o:Oper} (hq:quietT o=true) {st':St} (h:exe E o st=some st'):∃ c,qop E st o.op=some c/\st'=st.put o.dst c:=by
 obtain ⟨dst,op,ty,pos,after,guard⟩:=o;simp only [quietT,Bool.and_eq_true] at hq;obtain ⟨_,hq⟩:=hq;have key:exe E ⟨dst,op,ty,pos,after,guard⟩ st=put? ⟨dst,op,ty,pos,after,guard⟩ st (qop E st op)->∃ c,qop E st op=some c/\st'=st.put dst c:=by
  intro e;rw [e] at h;cases hc:qop E st op with
  | none=>rw [hc] at h; simp [put?] at h
  | some c=>rw [hc] at h; simp only [put?,Option.some.injEq] at h; exact ⟨c,rfl,h.symm⟩
 split at hq;all_goals first|(cases hq; done)|skip
 all_goals
  apply key;simp only [exe,preX,exe0,altX];split<;>simp_all
theorem AZ {E:Env} (hT:TOk P E) (H:InvM X m st a w) {o:Oper} (hq:quietT o=true) (hl:isLd o=false) {c:C} (h:qop E st o.op=some c) {v:Value} (hv:(execOp a.eval o).run P w=.ok (.value v) w) (w2:World):(execOp a.eval o).run P w2=.ok (.value v) w2:=by
 obtain ⟨dst,op,ty,pos,after,guard⟩:=o;simp only [quietT,Bool.and_eq_true] at hq;obtain ⟨_,hq⟩:=hq;split at hq
 case h_10=>cases hq
 ·simp [execOp] at hv ⊢; exact hv
 ·simp [execOp] at hv ⊢; exact hv
 ·rename_i x ix;cases hx:a.eval x with
  | tuple vs=>
   cases hvs:vs[ix]? with
   | some v'=>simp [execOp,Instr.extract,hx,hvs] at hv ⊢; exact hv
   | none=>simp [execOp,Instr.extract,hx,hvs,stuck] at hv
  | _=>simp [execOp,Instr.extract,hx,stuck] at hv
 ·rename_i x;simp only [qop] at h;have hx:=ev_ok H x;split at h
  ·rename_i n p i j he;rw [he] at hx;obtain ⟨_,_,_,_,b,off,k,_,_,hu⟩:=gM hx;simp [execOp,hu] at hv ⊢; exact hv
  ·rename_i es rows i j he;rw [he] at hx;obtain ⟨b,off,arr,elem,frz,hu,_⟩:=uC hx;simp [execOp,hu] at hv ⊢; exact hv
  ·cases h
 ·rename_i s x f;simp only [qop] at h;obtain ⟨ti,h1,h2⟩:=Option.bind_eq_some_iff.1 h;obtain ⟨v',e1,_⟩:=vF hT (hT s ti h1) (ev_ok H x) h2;simp only [execOp,Sem.run_bind,e1,Result.andThen_ok,Sem.run_pure] at hv ⊢;simpa using hv
 ·cases hl
 ·rename_i t x ix;simp only [qop] at h;obtain ⟨ti,h1,h2⟩:=Option.bind_eq_some_iff.1 h;obtain ⟨v',e1,_⟩:=vL H (hT t ti h1) (ev_ok H x) (ev_ok H ix) h2;simp only [execOp,Sem.run_bind,e1,Result.andThen_ok,Sem.run_pure] at hv ⊢;simpa using hv
 ·rename_i fn first caps
  simp only [execOp,Instr.makeFunc] at hv ⊢;cases fn<;>simp at hv ⊢<;>first|exact hv|skip
  all_goals simp [qop] at h
 ·rename_i args tys;simp only [qop] at h;have hev:=evs_ok H args.toList;have harr:args.map a.eval=(args.toList.map a.eval).toArray:=by rw [<-Array.toList_map,Array.toArray_toList]
  have hgo:∀ w,(execOp a.eval ⟨dst,.call { callee:=.builtin .len,args:=args,argTypes:=tys },ty,pos,after,guard⟩).run P w=(do pure (.value (<-Builtin.len_ tys ty (args.toList.map a.eval).toArray)):Sem Next).run P w:=by
   intro w;simp only [execOp,resolve,Sem.run_bind,Sem.run_pure,Result.andThen_ok,invoke,builtin,harr]
  rw [hgo] at hv ⊢;generalize args.toList.map a.eval=us at *;generalize args.toList.map st.ev=cs at *;unfold fN at h;split at h
  ·obtain ⟨u,h1,h2⟩:=hev 0 _ rfl;obtain rfl:=h2.of_val;split at h
   ·rename_i ti hti;obtain ⟨t,ht0,hti⟩:=Option.bind_eq_some_iff.1 hti;obtain ⟨d,hd,_,hk⟩:=(hT t ti hti).und;split at h
    ·rename_i hkind;rw [hkind] at hk;have hk:d=.string:=hk;subst hk;simp [Builtin.len_,ht0,h1,run_underlying hd,goInt] at hv ⊢;exact hv
    ·cases h
   ·cases h
  ·rename_i x _ _;obtain ⟨u,h1,h2⟩:=hev 0 _ rfl;split at h
   ·rename_i ti hti;obtain ⟨t,ht0,hti⟩:=Option.bind_eq_some_iff.1 hti;obtain ⟨d,hd,_,hk⟩:=(hT t ti hti).und;split at h
    ·rename_i e es hkind;rw [hkind] at hk;obtain ⟨rfl,_⟩:=hk;cases hl:lenC x with
     | none=>simp [hl] at h
     | some n=>
      have:∃ ad k,u=.slice ad n k:=by
       cases x with
       | val v=>
        obtain rfl:=h2.of_val;unfold lenC at hl;split at hl<;>simp_all
       | sl own nl es cap rows=>
        obtain ⟨a0,k0,rfl,_⟩:=kt h2;simp only [lenC,Option.some.injEq] at hl;exact ⟨a0,k0,by rw [hl]⟩
       | pal n' p lo len cap=>
        obtain ⟨nl',es'',cap'',rows',a0,k0,a',k',g1,g2,g3,rfl,_⟩:=dz h2;simp only [lenC,Option.some.injEq] at hl;exact ⟨a',k',by rw [hl]⟩
       | _=>simp [lenC] at hl
      obtain ⟨ad,k,rfl⟩:=this;simp [Builtin.len_,ht0,h1,run_underlying hd,goInt] at hv ⊢;exact hv
    ·cases h
   ·cases h
  all_goals first|(cases h; done)|(exfalso; simp_all; done)
theorem tC {E:Env} (hT:TOk P E) (H:InvM X m st a w) {t:Nat} {ti:TI} (ht:TIOk P t ti) {n i j:Nat} {c:C} {u:Value} (hx:RelT X m st w (.pref n [] i j) u) (hc:loadC st ti (.pref n [] i j)=some c) {v:Value} (hv:(Instr.loadAt t u).run P w=.ok v w) :
  ∃ b,blk (m n [])=some b/\OwnAt (st.roots n) []/\∀ w2,w2.heap[b]?=w.heap[b]?->(Instr.loadAt t u).run P w2=.ok v w2:=by
 simp only [loadC] at hc;split at hc
 case h_2=>cases hc
 rename_i nl es cap rows hn;split at hc
 case h_2=>cases hc
 rename_i row hr;split at hc
 case isFalse=>cases hc
 rename_i hj;obtain ⟨nl',es',cap',rows',b',off',k',f1,f2,rfl⟩:=gM hx;have f1':st.node n []=some (.sl true nl' es' cap' rows'):=f1;rw [hn] at f1';simp only [Option.some.injEq,C.sl.injEq,true_and] at f1';obtain ⟨rfl,rfl,rfl,rfl⟩:=f1';obtain ⟨b,off,k,arr,elem,g1,g2,g3,g4,g5,g6,g7⟩:=pY H hn hr;rw [g1] at f2;simp only [Value.slice.injEq,Option.some.injEq,Addr.mk.injEq,and_true,true_and] at f2;obtain ⟨⟨rfl,rfl⟩,rfl⟩:=f2;have hrl:rows.length≠0:=by intro e; rw [List.eq_nil_of_length_eq_zero e] at hr; cases hr
 obtain ⟨u0,d0,hr0⟩:=H.root n;have hn':st.roots n=.sl true nl es cap rows:=by simpa [St.node,C.at] using hn
 rw [hn'] at hr0;obtain ⟨a1,k1,D,q1,q2,q3,_⟩:=bU hr0;have hk1:k≠0:=by
  rw [g1] at q2;simp only [Value.slice.injEq] at q2;omega
 refine ⟨b,by rw [g1]; simp [blk,hk1],by rw [hn']; rfl,?_⟩;have hcell:∀ q,q < ti.size->∃ u,arr[off+i * es+j+q]?=some u:=by
  intro q hq;have hjl:j+q < row.length:=by omega
  obtain ⟨u',e1,_⟩:=g7 (j+q) row[j+q] (List.getElem?_eq_getElem hjl);exact ⟨u',by rw [<-e1]; congr 1; omega⟩
 intro w2 hw2;have key:∃ v',∀ wz:World,wz.heap[b]?=w.heap[b]?->(Instr.loadAt t (.pointer (some ⟨b,off+i * es+j,none⟩))).run P wz=.ok v' wz:=by
  unfold packC at hc;cases hagg:ti.agg with
  | true=>
   refine ⟨.agg ((List.range ti.size).map fun q=>(arr[off+i * es+j+q]?).getD undef).toArray,fun wz hz=>?_⟩;have hlc:=run_loadCells_list (P:=P) (w:=wz) ⟨b,off+i * es+j,none⟩ ((List.range ti.size).map fun q=>(arr[off+i * es+j+q]?).getD undef) (by
    intro q v hq;rw [Addr.add_lit,fy (hz.trans g3)];simp only [List.getElem?_map,Option.map_eq_some_iff] at hq;obtain ⟨q',hq,rfl⟩:=hq;have hlt:=(List.getElem?_eq_some_iff.1 hq).1;rw [List.getElem?_range (by simpa using hlt)] at hq;cases hq;obtain ⟨u',e1⟩:=hcell q (by simpa using hlt);rw [e1]; rfl)
   simp only [List.length_map,List.length_range] at hlc;simp [Instr.loadAt,Instr.sureAddr,loadVar,ht.agg_run,hagg,ht.size,hlc]
  | false=>
   have h0:∃ u,arr[off+i * es+j]?=some u:=by
    rw [hagg] at hc;simp only [Bool.false_eq_true,if_false] at hc;have:(row.drop j).take ti.size≠[]:=by
     intro e;rw [show eg n [] i j ((row.drop j).take ti.size)=[] from by rw [e]; rfl] at hc;cases hc
    obtain ⟨q,hq⟩:∃ q,q < ti.size:=by
     cases hs:ti.size with
     | zero=>rw [hs] at this; simp at this
     | succ q=>exact ⟨0,by omega⟩
    obtain ⟨u',e⟩:=hcell 0 (by omega);exact ⟨u',by simpa using e⟩
   obtain ⟨u',hu'⟩:=h0;refine ⟨u',fun wz hz=>?_⟩;simp [Instr.loadAt,Instr.sureAddr,loadVar,ht.agg_run,hagg,fy (hz.trans g3),hu']
 obtain ⟨v',hv'⟩:=key;have:=hv' w rfl;rw [hv] at this;cases this;exact hv' w2 hw2
theorem zB {E:Env} (hT:TOk P E) (H:InvM X m st a w) {t:Nat} {ti:TI} (ht:TIOk P t ti) {n i j:Nat} {p:Path} {c:C} {u:Value} (hx:RelT X m st w (.pref n p i j) u) (hc:loadC st ti (.pref n p i j)=some c) {v:Value} (hv:(Instr.loadAt t u).run P w=.ok v w) :
  ∃ (b:Nat) (x:Obj),w.heap[b]?=some x/\∀ w2:World,w2.heap[b]?=w.heap[b]?->(Instr.loadAt t u).run P w2=.ok v w2:=by
 simp only [loadC] at hc;split at hc
 case h_2=>cases hc
 rename_i nl es cap rows hn;split at hc
 case h_2=>cases hc
 rename_i row hr;split at hc
 case isFalse=>cases hc
 rename_i hj;obtain ⟨nl',es',cap',rows',b',off',k',f1,f2,rfl⟩:=gM hx;have f1':st.node n p=some (.sl true nl' es' cap' rows'):=f1;rw [hn] at f1';simp only [Option.some.injEq,C.sl.injEq,true_and] at f1';obtain ⟨rfl,rfl,rfl,rfl⟩:=f1';obtain ⟨b,off,k,arr,elem,g1,g2,g3,g4,g5,g6,g7⟩:=pY H hn hr;rw [g1] at f2;simp only [Value.slice.injEq,Option.some.injEq,Addr.mk.injEq,and_true,true_and] at f2;obtain ⟨⟨rfl,rfl⟩,rfl⟩:=f2;refine ⟨b,_,g3,?_⟩;have hcell:∀ q,q < ti.size->∃ u,arr[off+i * es+j+q]?=some u:=by
  intro q hq;have hjl:j+q < row.length:=by omega
  obtain ⟨u',e1,_⟩:=g7 (j+q) row[j+q] (List.getElem?_eq_getElem hjl);exact ⟨u',by rw [<-e1]; congr 1; omega⟩
 intro w2 hw2;have key:∃ v',∀ wz:World,wz.heap[b]?=w.heap[b]?->(Instr.loadAt t (.pointer (some ⟨b,off+i * es+j,none⟩))).run P wz=.ok v' wz:=by
  unfold packC at hc;cases hagg:ti.agg with
  | true=>
   refine ⟨.agg ((List.range ti.size).map fun q=>(arr[off+i * es+j+q]?).getD undef).toArray,fun wz hz=>?_⟩;have hlc:=run_loadCells_list (P:=P) (w:=wz) ⟨b,off+i * es+j,none⟩ ((List.range ti.size).map fun q=>(arr[off+i * es+j+q]?).getD undef) (by
    intro q v hq;rw [Addr.add_lit,fy (hz.trans g3)];simp only [List.getElem?_map,Option.map_eq_some_iff] at hq;obtain ⟨q',hq,rfl⟩:=hq;have hlt:=(List.getElem?_eq_some_iff.1 hq).1;rw [List.getElem?_range (by simpa using hlt)] at hq;cases hq;obtain ⟨u',e1⟩:=hcell q (by simpa using hlt);rw [e1]; rfl)
   simp only [List.length_map,List.length_range] at hlc;simp [Instr.loadAt,Instr.sureAddr,loadVar,ht.agg_run,hagg,ht.size,hlc]
  | false=>
   have h0:∃ u,arr[off+i * es+j]?=some u:=by
    rw [hagg] at hc;simp only [Bool.false_eq_true,if_false] at hc;have:(row.drop j).take ti.size≠[]:=by
     intro e;rw [show eg n p i j ((row.drop j).take ti.size)=[] from by rw [e]; rfl] at hc;cases hc
    obtain ⟨q,hq⟩:∃ q,q < ti.size:=by
     cases hs:ti.size with
     | zero=>rw [hs] at this; simp at this
     | succ q=>exact ⟨0,by omega⟩
    obtain ⟨u',e⟩:=hcell 0 (by omega);exact ⟨u',by simpa using e⟩
   obtain ⟨u',hu'⟩:=h0;refine ⟨u',fun wz hz=>?_⟩;simp [Instr.loadAt,Instr.sureAddr,loadVar,ht.agg_run,hagg,fy (hz.trans g3),hu']
 obtain ⟨v',hv'⟩:=key;have:=hv' w rfl;rw [hv] at this;cases this;exact hv' w2 hw2
def baseN (s:St):C->Bool
 | .pal n [] lo len _=>match s.roots n with
  | .sl true _ _ _ rows=>decide (rows.length<=lo+len)
  | _=>true
 | .pal _ (_::_) _ _ _=>true
 | _=>false
def headB (d:Nat):C->Bool
 | .pal n _ _ _ _=>Nat.blt n H0 && !(n == d)
 | _=>false
theorem ye (l:List (List C)):(frzRows l).length=l.length:=by simp [frzRows]
theorem Ay {E:Env} {d:Nat} {ti tix te:TI} {e es:Nat} {x y:Operand} {s st':St} (hk:ti.kind=.slice e es) (hte:E.T e=some te) (hh:headB d (s.ev x)=true) (hkx:tix.kind=.slice e es) (h:ai d es te tix (s.ev x) (s.ev y) s=some st'):∃ s1,jG E d ti x y s=some s1:=by
 unfold ai at h;split at h
 case h_2=>cases h
 rename_i kk olds ex hroom hold hex;split at h
 case isFalse=>cases h
 rename_i hc;obtain ⟨_,hes,hd,hb⟩:=hc;unfold extOf at hex;rw [hkx] at hex;simp only [if_true,Option.map_eq_some_iff] at hex;obtain ⟨extra,hsr,rfl⟩:=hex;unfold headB at hh;split at hh
 case h_2=>cases hh
 rename_i n p lo len cap hx;simp only [Bool.and_eq_true,Nat.blt_eq,Bool.not_eq_true',beq_eq_false_iff_ne] at hh;rw [hx] at hold;unfold bW at hold;simp only at hold;split at hold
 case h_2=>cases hold
 rename_i nl es' cap' rows hn;split at hold
 case isFalse=>cases hold
 rename_i hes';simp only [Option.some.injEq] at hold;subst hold;rw [ye] at hb;unfold jG;rw [hk];simp only [hte];rw [if_neg (by rintro (q|q); exact hes q; exact q hd),hsr];simp only [hx,bI,hn,hes'.1,if_true];rw [if_neg hh.2,if_pos hh.1];simp only [Ext.all] at hb;simp only;rw [if_pos hb];exact ⟨_,rfl⟩
def srcB (s:St):C->Bool
 | .pal n p lo len _=>match s.node n p with
  | some (.sl true _ _ _ rows)=>((rows.drop lo).take len).all (·.all plainCell)
  | _=>false
 | _=>false
def quietA (o:Oper):Bool:=quietT o || match o.op with
 | .pick ..=>true
 | .field ..=>true
 | .index ..=>true
 | .binOp ..=>true
 | .unOp ..=>true
 | .convert ..=>true
 | .call { callee:=.builtin .max,.. }=>true
 | .call { callee:=.builtin .min,.. }=>true
 | _=>false
theorem zh {E:Env} {o:Oper} (hq:quietA o=true) {st':St} (h:exe E o st=some st'):∃ c,qop E st o.op=some c/\st'=st.put o.dst c:=by
 unfold quietA at hq;rw [Bool.or_eq_true] at hq;rcases hq with hq|hq
 ·exact rI hq h
 obtain ⟨dst,op,ty,pos,after,guard⟩:=o;simp only at hq;have key:exe E ⟨dst,op,ty,pos,after,guard⟩ st=put? ⟨dst,op,ty,pos,after,guard⟩ st (qop E st op)->∃ c,qop E st op=some c/\st'=st.put dst c:=by
  intro e;rw [e] at h;cases hc:qop E st op with
  | none=>rw [hc] at h; simp [put?] at h
  | some c=>rw [hc] at h; simp only [put?,Option.some.injEq] at h; exact ⟨c,rfl,h.symm⟩
 split at hq;all_goals first|(cases hq; done)|skip
 all_goals
  apply key;simp only [exe,preX,exe0,altX];split<;>simp_all
def stillO (o:Oper):Bool:=quietA o || match o.op with
 | .slice ..=>true
 | _=>false
def newO (o:Oper):Bool:=match o.op with
 | .buildSlice ..=>true
 | _=>false
def chkA (E:Env) (o:Oper) (s:St):Bool:=o.guard.isNone && match o.op with
 | .build ..=>true
 | .buildSlice ..=>true
 | .call { callee:=.builtin .append,args,argTypes }=>match o.dst,args.toList,argTypes.toList with
  | some d,[x,y],[t,tx]=>(E.F d).isNone && baseN s (s.ev x) && srcB s (s.ev y) && (headB d (s.ev x) && t == tx)
  | _,_,_=>false
 | .call { callee:=.value x,args:=_,argTypes:=_ }=>match o.dst,s.ev x with
  | some d,.clo f _=>match E.L d (cloF f),E.G d (cloF f) with
   | none,some fs=>if fs.own.isEmpty then fs.pure else !fs.peek
   | _,_=>false
  | _,_=>false
 | .slice _ _ _ hi mx=>hi.isNone || mx.isSome
 | _=>quietA o
theorem KeepV.same {dst:Option Nat} {st':St}:KeepV dst m st w m st' w:=fun _ _ _ _ _=>⟨rfl,fun _ _=>rfl⟩
theorem exeK {E:Env} (hT:TOk P E) (hG:GOk P E) (H:InvM X m st a w) {o:Oper} {st':St} (h:exe E o st=some st') (hc:chkA E o st=true) {Q:Exit->Act->World->Prop} :
  o.wp P a w (fun a' w'=>∃ m',InvM X m' st' a' w'/\KeepV o.dst m st w m' st' w'/\(stillO o=true->w'=w)/\(newO o=true->∀ b,b < w.heap.size->w'.heap[b]?=w.heap[b]?)) Q:=by
 have quiet:(∃ c,qop E st o.op=some c/\st'=st.put o.dst c)->o.wp P a w (fun a' w'=>∃ m',InvM X m' st' a' w'/\KeepV o.dst m st w m' st' w'/\(stillO o=true->w'=w)/\(newO o=true->∀ b,b < w.heap.size->w'.heap[b]?=w.heap[b]?)) Q:=by
  rintro ⟨c,hq,rfl⟩;obtain ⟨v,e1,d,e2⟩:=qop_ok hT H hq;exact eG e1 ⟨m,H.put o.dst e2,.same,fun _=>rfl,fun _ _ _=>rfl⟩
 unfold chkA at hc;simp only [Bool.and_eq_true] at hc;obtain ⟨hg,hc⟩:=hc;split at hc
 ·rename_i t parts hop;refine quiet ?_;have e:exe E o st=put? o st (qop E st o.op):=by
   simp only [exe,preX,exe0,altX,hop];split<;>simp_all
  rw [e] at h;cases hq:qop E st o.op with
  | none=>rw [hq] at h; simp [put?] at h
  | some c=>rw [hq] at h; simp only [put?,Option.some.injEq] at h; exact ⟨c,rfl,h.symm⟩
 ·rename_i t len parts hop;have e:exe E o st=exe0 E o st:=by
   simp only [exe,preX,altX,hop];split<;>simp_all
  rw [e] at h;simp only [exe0,hop] at h;split at h
  ·rename_i d ti hd hti;obtain ⟨u,w',e1,m',e2,e3,e4⟩:=rb hT H (hT t ti hti) h;refine eG (u:=u) (w':=w') ?_ ⟨m',by rw [hd]; exact e2,fun n hn hnd ho _=>⟨e3 n hn (fun e=>hnd (by rw [hd,e])),fun b hb=>e4 b (H.lt ho hb)⟩,fun q=>by simp [stillO,quietA,quietT,hop] at q,fun _ b hb=>e4 b hb⟩;simp only [execOp,hop,Sem.run_bind,e1,Result.andThen_ok,Sem.run_pure]
  ·cases h
 ·rename_i args tys hop;split at hc
  case h_2=>cases hc
  rename_i d x y t0 tx0 hd hargs htys0;simp only [Bool.and_eq_true,Option.isNone_iff_eq_none,beq_iff_eq] at hc;obtain ⟨⟨⟨hF,hb⟩,hs⟩,hhead,htt⟩:=hc;subst htt;have hpre:preX E o st=none:=by
   simp only [preX,hop,hd,hargs];split
   ·rename_i d' s' x' t tx hdd hss htys;cases hdd;cases hss;split
    ·split
     ·split
      ·rw [hF];simp only;unfold dg;split
       ·rename_i hx _;rw [hx] at hb;simp only [baseN] at hb;split
        ·rename_i hr;rw [hr] at hb;simp only [decide_eq_true_eq] at hb;rw [if_neg (by omega)]
        ·rfl
       ·rfl
      ·rfl
     ·rfl
    ·rfl
   ·rfl
  simp only [exe,hpre] at h;split at h
  ·rename_i s1 hs1;simp only [Option.some.injEq] at h;subst h;simp only [exe0,hop,hd,hargs] at hs1;split at hs1
   case h_2=>cases hs1
   rename_i t tx hd1 hargs1 htys;split at hs1
   case h_2=>cases hs1
   rename_i ti tix hti htix;split at hs1
   case h_2=>cases hs1
   rename_i e es e' es' hk1 hk2;split at hs1
   case isFalse=>cases hs1
   rename_i he;obtain ⟨rfl,rfl⟩:=he;cases hd1;cases hargs1;obtain ⟨u,w',e1,m',e2,e3⟩:=uT (ty:=o.type) hT H (args:=args) (argTypes:=tys) (s:=x) (x:=y) (t:=t) (tx:=tx) (by rw [<-hargs]) (by rw [<-htys]) hti htix (by rw [hk1,hk2]) hs1;have hsrc:(bW st es (st.ev y)).isSome=true:=by
    unfold srcB at hs;split at hs
    ·rename_i n p lo len cap hy;split at hs
     ·rename_i nl es' cap' rows hn;have hes:es'=es:=by
       unfold jG at hs1;rw [hk1] at hs1;simp only at hs1;split at hs1
       ·split at hs1
        ·cases hs1
        ·split at hs1
         ·rename_i hsr;rw [hy] at hsr;simp only [bW,hn] at hsr;split at hsr
          ·rename_i hh; exact hh.1
          ·cases hsr
         ·rw [hy] at hs1;split at hs1
          ·rename_i hpp;cases hpp;simp only [hn] at hs1;split at hs1
           ·split at hs1
            ·rename_i hh; exact hh
            ·cases hs1
           ·cases hs1
          ·cases hs1
       ·cases hs1
      rw [hy];simp only [bW,hn];rw [if_pos ⟨hes,hs⟩];rfl
     ·cases hs
    ·cases hs
   exact eG (u:=u) (w':=w') (by simp only [execOp,hop,resolve,Sem.run_bind,Sem.run_pure,Result.andThen_ok,invoke,builtin,e1]) ⟨m',by rw [hd]; exact e2,by rw [hd]; exact e3 ⟨e,es,hk1,hsrc⟩,fun q=>by simp [stillO,quietA,quietT,hop] at q,fun q=>by simp [newO,hop] at q⟩
  ·rename_i hs1;exfalso;simp only [altX,hop,hd,hargs,htys0] at h;simp only [exe0,hop,hd,hargs,htys0] at hs1;split at h
   case h_2=>cases h
   rename_i ti tix hti htix;rw [hti] at htix;cases htix;rw [hti] at hs1;simp only at hs1;split at h
   case h_2=>cases h
   rename_i e es hk;split at h
   case h_2=>cases h
   rename_i te hte;rw [hk] at hs1;simp only [and_self,if_true] at hs1;obtain ⟨s1,q⟩:=Ay hk hte hhead hk h;rw [q] at hs1;cases hs1
 ·rename_i x args tys hop;split at hc
  case h_2=>cases hc
  rename_i d f caps hd hx;split at hc
  case h_2=>cases hc
  rename_i fs hL hfs;have e:exe E o st=exe0 E o st:=by
   simp only [exe,preX,altX,hop];split<;>simp_all
  rw [e] at h;simp only [exe0,hop,callE,callTo,hd,hx] at h;split at h
  case isFalse=>cases h
  rename_i hdH;simp only [callX,hL,hfs] at h;have hct:callTo st { callee:=.value x,args:=args,argTypes:=tys }=some (cloF f,cloA f (args.toList.map st.ev) caps):=by simp only [callTo,hx]
  rw [hd];by_cases ho:fs.own=[]
  ·rw [if_pos (by simp [ho])] at hc;rw [if_pos ho] at h;split at h
   case h_2=>cases h
   rename_i cs hsn;rw [if_pos (.inl hc)] at h;split at h
   case h_2=>cases h
   rename_i r hr;cases h;refine Oper.wp_mono (fun a' w' h'=>?_) (y8 hG H hop hd hct hfs ho hsn (.inl hc) hr hdH);obtain ⟨m',h1,h2,h3⟩:=h';exact ⟨m',h1,fun n hn hnd hO _=>⟨h2 n (fun e=>hnd (by rw [e])) [],fun b hb=>h3 b (H.lt hO hb)⟩,fun q=>by simp [stillO,quietA,quietT,hop] at q,fun q=>by simp [newO,hop] at q⟩
  rw [if_neg (by simpa using ho)] at hc;have hp:fs.peek=false:=by simpa using hc
  rw [if_neg ho,if_neg (by simp [hp])] at h;refine Oper.wp_mono (fun a' w' h'=>?_) (tA hG H hop hd hct hfs h);obtain ⟨m',h1,h2⟩:=h';exact ⟨m',h1,h2,fun q=>by simp [stillO,quietA,quietT,hop] at q,fun q=>by simp [newO,hop] at q⟩
 ·rename_i t x lo hi mx hop;have e0:exe0 E o st=put? o st (qop E st o.op):=by simp only [exe0,hop]
  have p0:preX E o st=none:=by simp only [preX,hop]
  have a0:altX E o st=none:=by
   simp only [altX,hop];cases hi with
   | none=>cases lo<;>rfl
   | some hi=>cases mx with
    | none=>simp at hc
    | some mx=>cases lo<;>rfl
  simp only [exe,p0,e0,a0] at h;cases hq:qop E st o.op with
  | none=>rw [hq] at h; simp [put?] at h
  | some c=>
   rw [hq] at h;simp only [put?,Option.some.injEq] at h;exact quiet ⟨c,hq,h.symm⟩
 ·exact quiet (zh hc h)
end
end Go.Abs
