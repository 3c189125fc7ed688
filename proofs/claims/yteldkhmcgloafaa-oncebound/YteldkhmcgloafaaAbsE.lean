/- A library of readings of Go values with their ownership,and of walks on them. No statement of the program. -/
import Derived.Test.YteldkhmcgloafaaAbsD
import Derived.Lib.Overlaps
import Derived.WalkKit
import Derived.ProofKit
import Derived.OpenShut
import Derived.ReadAgain
import Derived.ChangeArms
import Derived.SizedLaws
import Derived.Carry
import Derived.LoopN
set_option linter.unusedSimpArgs false
set_option linter.unusedVariables false
namespace Go.Abs
def stepR (E:Env) (draw:Bool) (bar:Nat->Bool) (i:Nat) (o:Oper) (st:St):Option St:=
 match draw with
 | false=>exe E o st
 | true=>match bodySE E o st with
  | some e=>match e.apply st with
   | some s=>some s
   | none=>if bar i=true then exe E o st else none
  | none=>if bar i=true then exe E o st else none
def RX (E:Env) (draw:Bool) (gd:Nat->Option Tmp) (bar:Nat->Bool):Nat->List Oper->St->(St->Prop)->Prop
 | _,[],st,Z=>Z st
 | i,o::l,st,Z=>match o.guard with
  | none=>match stepR E draw bar i o st with
   | some st'=>RX E draw gd bar (i+1) l st' Z
   | none=>False
  | some (j,want)=>match gd j with
   | some t=>match st.tmps[t]? with
    | some (.val (.bool b))=>if b=want then match stepR E draw bar i o st with
      | some st'=>RX E draw gd bar (i+1) l st' Z
      | none=>False
     else RX E draw gd bar (i+1) l (st.put o.dst (.val undef)) Z
    | some (.val (.tuple _))=>RX E draw gd bar (i+1) l (st.put o.dst (.val undef)) Z
    | _=>False
   | none=>False
def gdOf (ops:Array Oper) (j:Nat):Option Tmp:=(ops[j]?).bind (·.dst)
theorem RX_run {E:Env} {ops:Array Oper}:∀ (l:List Oper) (i:Nat) (st:St) (Z:St->Prop),RX E false (gdOf ops) (barC ops) i l st Z->∃ st',runL E ops l st=some st'/\Z st':=by
 intro l
 induction l with
 | nil=>intro i st Z h; exact ⟨st,rfl,h⟩
 | cons o l ih=>
  intro i st Z h;have go:∀ s,stepO E ops o st=some s->RX E false (gdOf ops) (barC ops) (i+1) l s Z->∃ st',runL E ops (o::l) st=some st'/\Z st':=by
   intro s hs hr;obtain ⟨s2,h1,h2⟩:=ih _ _ _ hr;exact ⟨s2,by simp [runL,hs,h1],h2⟩
  unfold RX at h;split at h
  ·rename_i hg;split at h
   ·rename_i s hs;exact go s (by simpa [stepO,hg,stepR] using hs) h
   ·exact h.elim
  ·rename_i j want hg;split at h
   case h_2=>exact h.elim
   rename_i t ht;simp only [gdOf] at ht;split at h
   ·rename_i b hb;split at h
    ·rename_i hbw;split at h
     ·rename_i s hs;exact go s (by simpa [stepO,hg,ht,hb,hbw,stepR] using hs) h
     ·exact h.elim
    ·rename_i hbw;exact go _ (by simp [stepO,hg,ht,hb,hbw]) h
   ·rename_i vs hb;exact go _ (by simp [stepO,hg,ht,hb]) h
   ·exact h.elim
theorem Am {E:Env} {ops:Array Oper}:∀ (l:List Oper) (i:Nat) (st:St) (Z:St->Prop),RX E true (gdOf ops) (barC ops) i l st Z->∃ st',runDL E ops i l st=some st'/\Z st':=by
 intro l
 induction l with
 | nil=>intro i st Z h; exact ⟨st,rfl,h⟩
 | cons o l ih=>
  intro i st Z h;have go:∀ s,stepE E ops i o st=some s->RX E true (gdOf ops) (barC ops) (i+1) l s Z->∃ st',runDL E ops i (o::l) st=some st'/\Z st':=by
   intro s hs hr;obtain ⟨s2,h1,h2⟩:=ih _ _ _ hr;exact ⟨s2,by simp [runDL,hs,h1],h2⟩
  have run:∀ s,(∀ x,bodySE E o st=x->seff E ops o st=x)->(∀ x,exe E o st=x->stepO E ops o st=x)->stepR E true (barC ops) i o st=some s->stepE E ops i o st=some s:=by
   intro s h1 h2 hs;unfold stepE aM;rw [h1 _ rfl];simp only [stepR] at hs;split at hs
   ·rename_i e he;simp only [he];split at hs
    ·rename_i s0 hs0; simp only [hs0]; exact hs
    ·rename_i hs0;simp only [hs0];split at hs
     ·rename_i hb; rw [if_pos hb]; exact h2 _ hs
     ·simp at hs
   ·rename_i he;simp only [he];split at hs
    ·rename_i hb; rw [if_pos hb]; exact h2 _ hs
    ·simp at hs
  unfold RX at h;split at h
  ·rename_i hg;split at h
   ·rename_i s hs;exact go s (run s (fun x hx=>by simpa [seff,hg] using hx) (fun x hx=>by simpa [stepO,hg] using hx) hs) h
   ·exact h.elim
  ·rename_i j want hg;split at h
   case h_2=>exact h.elim
   rename_i t ht;simp only [gdOf] at ht;have skip:seff E ops o st=some (.q o.dst (.val undef))->stepE E ops i o st=some (st.put o.dst (.val undef)):=by
    intro hs; simp [stepE,aM,hs,SE.apply]
   split at h
   ·rename_i b hb;split at h
    ·rename_i hbw;split at h
     ·rename_i s hs;exact go s (run s (fun x hx=>by simpa [seff,hg,ht,hb,hbw] using hx) (fun x hx=>by simpa [stepO,hg,ht,hb,hbw] using hx) hs) h
     ·exact h.elim
    ·rename_i hbw;exact go _ (skip (by simp [seff,hg,ht,hb,hbw])) h
   ·rename_i vs hb;exact go _ (skip (by simp [seff,hg,ht,hb])) h
   ·exact h.elim
theorem run_RX {E:Env} {ops:Array Oper}:∀ (l:List Oper) (i:Nat) (st st':St) (Z:St->Prop),runL E ops l st=some st'->Z st'->RX E false (gdOf ops) (barC ops) i l st Z:=by
 intro l
 induction l with
 | nil=>intro i st st' Z h hz; simp only [runL,Option.some.injEq] at h; subst h; exact hz
 | cons o l ih=>
  intro i st st' Z h hz;simp only [runL] at h;split at h
  case h_2=>simp at h
  rename_i s hs;have hr:=ih (i+1) s st' Z h hz;unfold stepO at hs;rw [RX];split at hs
  ·rename_i hg;simp only [hg,stepR,hs];exact hr
  ·rename_i j want hg;simp only [hg,gdOf];split at hs
   case h_2=>simp at hs
   rename_i t ht;simp only [ht];split at hs
   ·rename_i b hb;simp only [hb];split at hs
    ·rename_i hbw;simp only [hbw,if_true,stepR,hs];exact hr
    ·rename_i hbw;simp only [hbw,if_false];simp only [Option.some.injEq] at hs;subst hs;exact hr
   ·rename_i vs hb;simp only [hb];simp only [Option.some.injEq] at hs;subst hs;exact hr
   ·simp at hs
theorem AW {E:Env} {ops:Array Oper}:∀ (l:List Oper) (i:Nat) (st st':St) (Z:St->Prop),runDL E ops i l st=some st'->Z st'->RX E true (gdOf ops) (barC ops) i l st Z:=by
 intro l
 induction l with
 | nil=>intro i st st' Z h hz; simp only [runDL,Option.some.injEq] at h; subst h; exact hz
 | cons o l ih=>
  intro i st st' Z h hz;simp only [runDL] at h;split at h
  case h_2=>simp at h
  rename_i s hs;have hr:=ih (i+1) s st' Z h hz;have body:(∀ x,bodySE E o st=x->seff E ops o st=x)->(∀ x,exe E o st=x->stepO E ops o st=x)->stepR E true (barC ops) i o st=some s:=by
   intro h1 h2;unfold stepE aM at hs;rw [h1 _ rfl] at hs;rw [h2 _ rfl] at hs;simp only [stepR];cases hb:bodySE E o st with
   | none=>simp only [hb] at hs ⊢; exact hs
   | some e=>
    simp only [hb] at hs ⊢;cases he:e.apply st with
    | none=>simp only [he] at hs ⊢; exact hs
    | some s1=>simp only [he] at hs ⊢; exact hs
  rw [RX];split
  ·rename_i hg;simp only [body (fun x hx=>by simpa [seff,hg] using hx) (fun x hx=>by simpa [stepO,hg] using hx)];exact hr
  ·rename_i j want hg;have skip:∀ s':St,seff E ops o st=some (.q o.dst (.val undef))->s=st.put o.dst (.val undef):=by
    intro s' h1;simp only [stepE,aM,h1,SE.apply,Option.some.injEq] at hs;exact hs.symm
   have dead:seff E ops o st=none->stepO E ops o st=none->False:=by
    intro h1 h2;simp [stepE,aM,h1,h2] at hs
   simp only [gdOf];cases ht:(ops[j]?).bind (·.dst) with
   | none=>exact dead (by simp [seff,hg,ht]) (by simp [stepO,hg,ht])
   | some t=>
    simp only;split
    ·rename_i b hb;split
     ·rename_i hbw;simp only [body (fun x hx=>by simpa [seff,hg,ht,hb,hbw] using hx) (fun x hx=>by simpa [stepO,hg,ht,hb,hbw] using hx)];exact hr
     ·rename_i hbw;have:=skip st (by simp [seff,hg,ht,hb,hbw]);rw [<-this];exact hr
    ·rename_i vs hb;have:=skip st (by simp [seff,hg,ht,hb]);rw [<-this];exact hr
    ·rename_i h1 h2;refine dead ?_ ?_
     ·simp only [seff,hg,ht];try split
     ·simp only [stepO,hg,ht];try split
inductive Fm where
 | sq (y:Code)
 | bl (id:Nat)
 | lp (J:St->Prop)
 | sc
 | sk (y:Code)
def ap (E:Env) (Q:Exit->St->Prop):List Fm->Exit->St->Prop
 | [],e,s=>Q e s
 | .sq y::K,e,s=>match e with
  | .normal=>W E y (ap E Q K) s
  | e=>ap E Q K e s
 | .bl id::K,e,s=>match e with
  | .exit i=>if i=id then ap E Q K .normal s else ap E Q K (.exit i) s
  | e=>ap E Q K e s
 | .lp J::K,e,s=>match e with
  | .normal=>J s
  | e=>ap E Q K e s
 | .sc::K,e,s=>match e with
  | .goto _=>False
  | e=>ap E Q K e s
 | .sk y::K,e,s=>match e with
  | .normal=>Wk E y (ap E Q K) s
  | e=>ap E Q K e s
section
variable {E:Env} {Q:Exit->St->Prop} {K:List Fm} {st:St}
theorem se {c:Code} (h:W E c (ap E Q []) st):W E c Q st:=h
@[go_sem] theorem W_skip:W E .skip (ap E Q K) st=ap E Q K .normal st:=rfl
@[go_sem] theorem W_seq {x y:Code}:W E (.seq x y) (ap E Q K) st=W E x (ap E Q (.sq y::K)) st:=by
 simp only [W]
 congr 1
@[go_sem] theorem W_exit {id:Nat}:W E (.exit id) (ap E Q K) st=ap E Q K (.exit id) st:=rfl
@[go_sem] theorem BS {id:Nat}:W E (.label id) (ap E Q K) st=ap E Q K .normal st:=rfl
@[go_sem] theorem W_ret:W E .ret (ap E Q K) st=ap E Q K .ret st:=rfl
@[go_sem] theorem ap_nil {e:Exit}:ap E Q [] e st=Q e st:=rfl
@[go_sem] theorem ap_sq {y:Code}:ap E Q (.sq y::K) .normal st=W E y (ap E Q K) st:=rfl
@[go_sem] theorem Bu {y:Code}:ap E Q (.sq y::K) .ret st=ap E Q K .ret st:=rfl
@[go_sem] theorem Bh {y:Code} {i:Nat}:ap E Q (.sq y::K) (.exit i) st=ap E Q K (.exit i) st:=rfl
@[go_sem] theorem ap_bl {id:Nat}:ap E Q (.bl id::K) .normal st=ap E Q K .normal st:=rfl
@[go_sem] theorem Bw {id:Nat}:ap E Q (.bl id::K) .ret st=ap E Q K .ret st:=rfl
@[go_sem] theorem w5 {id i:Nat}:ap E Q (.bl id::K) (.exit i) st=if i=id then ap E Q K .normal st else ap E Q K (.exit i) st:=rfl
@[go_sem] theorem ap_lp {J:St->Prop}:ap E Q (.lp J::K) .normal st=J st:=rfl
@[go_sem] theorem Bt {J:St->Prop}:ap E Q (.lp J::K) .ret st=ap E Q K .ret st:=rfl
@[go_sem] theorem Bk {J:St->Prop} {i:Nat}:ap E Q (.lp J::K) (.exit i) st=ap E Q K (.exit i) st:=rfl
@[go_sem] theorem ap_sk {y:Code}:ap E Q (.sk y::K) .normal st=Wk E y (ap E Q K) st:=rfl
@[go_sem] theorem Bo {y:Code}:ap E Q (.sk y::K) .ret st=ap E Q K .ret st:=rfl
@[go_sem] theorem Bi {y:Code} {i:Nat}:ap E Q (.sk y::K) (.exit i) st=ap E Q K (.exit i) st:=rfl
@[go_sem] theorem ap_sc:ap E Q (.sc::K) .normal st=ap E Q K .normal st:=rfl
@[go_sem] theorem Bx:ap E Q (.sc::K) .ret st=ap E Q K .ret st:=rfl
@[go_sem] theorem Bd {i:Nat}:ap E Q (.sc::K) (.exit i) st=ap E Q K (.exit i) st:=rfl
@[go_sem] theorem zE {id:Nat} {ops:Array Oper} {draw:Bool}:W E (.region id ops draw) (ap E Q K) st=RX E draw (gdOf ops) (barC ops) 0 ops.toList st (fun s=>(draw=true->finChk ops s=true)/\ap E Q K .normal s):=by
 refine propext ⟨?_,fun h=>?_⟩
 ·rintro ⟨st',h1,h2⟩;cases draw with
  | true=>
   simp only [oR] at h1;split at h1
   case h_2=>simp at h1
   rename_i s hs;split at h1
   case isFalse=>simp at h1
   rename_i hf;simp only [Option.some.injEq] at h1;subst h1;exact AW _ _ _ _ _ hs ⟨fun _=>hf,h2⟩
  | false=>exact run_RX _ _ _ _ _ h1 ⟨fun h=>(by cases h),h2⟩
 ·cases draw with
  | true=>
   obtain ⟨s,h1,h2,h3⟩:=Am ops.toList 0 st _ h;exact ⟨s,by simp only [oR,h1,h2 rfl,if_true],h3⟩
  | false=>
   obtain ⟨s,h1,_,h3⟩:=RX_run ops.toList 0 st _ h;exact ⟨s,h1,h3⟩
theorem W_cond {c:Operand} {x y:Code} {b:Bool} (hc:st.ev c=.val (.bool b)) (h1:b=true->W E x (ap E Q K) st) (h2:b=false->W E y (ap E Q K) st):W E (.cond c x y) (ap E Q K) st:=by
 simp only [W,hc];exact ⟨h1,h2⟩
section
variable {draw:Bool} {gd:Nat->Option Tmp} {bar:Nat->Bool} {i:Nat} {l:List Oper} {Z:St->Prop} {d:Option Tmp} {ty:TypeId} {pos:String} {after:Array Edge}
theorem RX_put {o:Oper} {c:C} (hg:o.guard=none) (hp:preX E o st=none) (h1:exe0 E o st=put? o st (some c)) (h2:bodySE E o st=qSE o (some c)):RX E draw gd bar i (o::l) st Z=RX E draw gd bar (i+1) l (st.put o.dst c) Z:=by
 rw [RX,hg];simp only [stepR,exe,hp,h1,h2];cases draw<;>simp [put?,qSE,SE.apply]
theorem gD {o:Oper} (hg:o.guard=none) (hp:preX E o st=none) (ha:altX E o st=none) (h1:exe0 E o st=put? o st none) (h2:bodySE E o st=qSE o none):RX E draw gd bar i (o::l) st Z=False:=by
 rw [RX,hg];simp only [stepR,exe,hp,ha,h1,h2];cases draw<;>simp [put?,qSE]
theorem RX_alt {o:Oper} {q:Option C} (hg:o.guard=none) (hp:preX E o st=none) (h1:exe0 E o st=put? o st q) (h2:bodySE E o st=qSE o q):RX E draw gd bar i (o::l) st Z=match (generalizing:=false) q with
  | some c=>RX E draw gd bar (i+1) l (st.put o.dst c) Z
  | none=>match altX E o st with
   | some s=>(draw=true->bar i=true)/\RX E draw gd bar (i+1) l s Z
   | none=>False:=by
 cases q with
 | some c=>exact RX_put hg hp h1 h2
 | none=>
  rw [RX,hg];simp only [stepR,exe,hp,h1,h2,qSE,put?];cases draw with
  | false=>cases altX E o st<;>simp
  | true=>
   by_cases hb:bar i=true
   ·simp only [hb,if_true]; cases altX E o st<;>simp
   ·simp only [hb]; cases altX E o st<;>simp
@[go_sem] theorem RX_nil:RX E draw gd bar i [] st Z=Z st:=rfl
theorem rl {j:Nat} {want:Bool} {op:Op}:RX E draw gd bar i ({ dst:=d,op:=op,type:=ty,pos:=pos,after:=after,guard:=some (j,want) }::l) st Z =
  match gd j with
   | some t=>match st.ev (.tmp t) with
    | .val (.bool b)=>if b=want then RX E draw gd bar i ({ dst:=d,op:=op,type:=ty,pos:=pos,after:=after,guard:=none }::l) st Z else RX E draw gd bar (i+1) l (st.put d (.val undef)) Z
    | .val (.tuple _)=>RX E draw gd bar (i+1) l (st.put d (.val undef)) Z
    | _=>False
   | none=>False:=by
 rw [RX];simp only;cases hg:gd j with
 | none=>rfl
 | some t=>
  simp only [St.ev];have same:∀ o o':Oper,o.op=o'.op->o.dst=o'.dst->stepR E draw bar i o st=stepR E draw bar i o' st:=by
   rintro ⟨d1,o1,t1,p1,a1,g1⟩ ⟨d2,o2,t2,p2,a2,g2⟩ h1 h2;simp only at h1 h2;subst h1; subst h2;rfl
  cases ht:st.tmps[t]? with
  | none=>simp
  | some c=>
   cases c with
   | val v=>
    cases v<;>simp only [Option.getD_some]
    rename_i b;split
    ·rw [RX];simp only;rw [same];all_goals rfl
    ·rfl
   | _=>simp
def guardV (gd:Nat->Option Tmp) (st:St) (j:Nat):Option (Option Bool):=
 match gd j with
 | some t=>match st.ev (.tmp t) with
  | .val (.bool b)=>some (some b)
  | .val (.tuple _)=>some none
  | _=>none
 | none=>none
@[go_sem] theorem A7 {j:Nat} {want:Bool} {op:Op} (h:guardV gd st j=some (some want)):RX E draw gd bar i ({ dst:=d,op:=op,type:=ty,pos:=pos,after:=after,guard:=some (j,want) }::l) st Z =
  RX E draw gd bar i ({ dst:=d,op:=op,type:=ty,pos:=pos,after:=after,guard:=none }::l) st Z:=by
 rw [rl];unfold guardV at h;cases ht:gd j with
 | none=>simp [ht] at h
 | some t=>
  simp only [ht] at h ⊢;split at h<;>simp_all
@[go_sem] theorem AZ {j:Nat} {want:Bool} {op:Op} (h:guardV gd st j=some (some (!want))):RX E draw gd bar i ({ dst:=d,op:=op,type:=ty,pos:=pos,after:=after,guard:=some (j,want) }::l) st Z =
  RX E draw gd bar (i+1) l (st.put d (.val undef)) Z:=by
 rw [rl];unfold guardV at h;cases ht:gd j with
 | none=>simp [ht] at h
 | some t=>
  simp only [ht] at h ⊢;split at h<;>simp_all
@[go_sem] theorem A8 {j:Nat} {want:Bool} {op:Op} (h:guardV gd st j=some none):RX E draw gd bar i ({ dst:=d,op:=op,type:=ty,pos:=pos,after:=after,guard:=some (j,want) }::l) st Z =
  RX E draw gd bar (i+1) l (st.put d (.val undef)) Z:=by
 rw [rl];unfold guardV at h;cases ht:gd j with
 | none=>simp [ht] at h
 | some t=>
  simp only [ht] at h ⊢;split at h<;>simp_all
def pickC (c a b:C):Option C:=
 match c with
 | .val (.bool t)=>some (if t then a else b)
 | _=>none
def rf (c:C) (k:Nat):Option C:=
 match c with
 | .tup cs=>cs[k]?
 | _=>none
def qh (c:C):Option C:=
 match c with
 | .pref n p i j=>some (.pref n p i j)
 | .iref es rows i j=>some (.iref es rows i j)
 | _=>none
@[go_sem] theorem BP {x:Operand}:RX E draw gd bar i ({ dst:=d,op:=.move x,type:=ty,pos:=pos,after:=after,guard:=none }::l) st Z=RX E draw gd bar (i+1) l (st.put d (st.ev x)) Z:=
 RX_put rfl rfl rfl rfl
@[go_sem] theorem Bv {x:Operand}:RX E draw gd bar i ({ dst:=d,op:=.assign x,type:=ty,pos:=pos,after:=after,guard:=none }::l) st Z=RX E draw gd bar (i+1) l (st.put d (st.ev x)) Z:=
 RX_put rfl rfl rfl rfl
@[go_sem] theorem BN {c a b:Operand}:RX E draw gd bar i ({ dst:=d,op:=.pick c a b,type:=ty,pos:=pos,after:=after,guard:=none }::l) st Z=match (pickC (st.ev c) (st.ev a) (st.ev b)) with
   | some c=>RX E draw gd bar (i+1) l (st.put d c) Z
   | none=>False:=by
 cases h:(pickC (st.ev c) (st.ev a) (st.ev b)) with
 | none=>exact gD rfl rfl rfl (congrArg (put? _ st) h) (congrArg (qSE _) h)
 | some c=>exact RX_put rfl rfl (congrArg (put? _ st) h) (congrArg (qSE _) h)
@[go_sem] theorem BR {t:TypeId} {x:Operand}:RX E draw gd bar i ({ dst:=d,op:=.load t x,type:=ty,pos:=pos,after:=after,guard:=none }::l) st Z=match ((E.T t).bind fun ti=>loadC st ti (st.ev x)) with
   | some c=>RX E draw gd bar (i+1) l (st.put d c) Z
   | none=>False:=by
 cases h:((E.T t).bind fun ti=>loadC st ti (st.ev x)) with
 | none=>exact gD rfl rfl rfl (congrArg (put? _ st) h) (congrArg (qSE _) h)
 | some c=>exact RX_put rfl rfl (congrArg (put? _ st) h) (congrArg (qSE _) h)
@[go_sem] theorem A5 {t:TypeId} {x:Operand} {f:Nat}:RX E draw gd bar i ({ dst:=d,op:=.fieldAddr t x f,type:=ty,pos:=pos,after:=after,guard:=none }::l) st Z=match ((E.T t).bind fun ti=>gT E ti f (st.ev x)) with
   | some c=>RX E draw gd bar (i+1) l (st.put d c) Z
   | none=>False:=by
 cases h:((E.T t).bind fun ti=>gT E ti f (st.ev x)) with
 | none=>exact gD rfl rfl rfl (congrArg (put? _ st) h) (congrArg (qSE _) h)
 | some c=>exact RX_put rfl rfl (congrArg (put? _ st) h) (congrArg (qSE _) h)
@[go_sem] theorem A6 {t:TypeId} {x ix:Operand}:RX E draw gd bar i ({ dst:=d,op:=.indexAddr t x ix,type:=ty,pos:=pos,after:=after,guard:=none }::l) st Z=match ((E.T t).bind fun ti=>eL st ti (st.ev x) (st.ev ix)) with
   | some c=>RX E draw gd bar (i+1) l (st.put d c) Z
   | none=>False:=by
 cases h:((E.T t).bind fun ti=>eL st ti (st.ev x) (st.ev ix)) with
 | none=>exact gD rfl rfl rfl (congrArg (put? _ st) h) (congrArg (qSE _) h)
 | some c=>exact RX_put rfl rfl (congrArg (put? _ st) h) (congrArg (qSE _) h)
@[go_sem] theorem BF {bop:BinOp} {t t':TypeId} {x y:Operand}:RX E draw gd bar i ({ dst:=d,op:=.binOp bop t x y t',type:=ty,pos:=pos,after:=after,guard:=none }::l) st Z=match (binC (E.T t) bop (st.ev x) (st.ev y)) with
   | some c=>RX E draw gd bar (i+1) l (st.put d c) Z
   | none=>False:=by
 cases h:(binC (E.T t) bop (st.ev x) (st.ev y)) with
 | none=>exact gD rfl rfl rfl (congrArg (put? _ st) h) (congrArg (qSE _) h)
 | some c=>exact RX_put rfl rfl (congrArg (put? _ st) h) (congrArg (qSE _) h)
@[go_sem] theorem BL {uop:UnOp} {t:TypeId} {x:Operand}:RX E draw gd bar i ({ dst:=d,op:=.unOp uop t x,type:=ty,pos:=pos,after:=after,guard:=none }::l) st Z=match (unC uop (st.ev x)) with
   | some c=>RX E draw gd bar (i+1) l (st.put d c) Z
   | none=>False:=by
 cases h:(unC uop (st.ev x)) with
 | none=>exact gD rfl rfl rfl (congrArg (put? _ st) h) (congrArg (qSE _) h)
 | some c=>exact RX_put rfl rfl (congrArg (put? _ st) h) (congrArg (qSE _) h)
@[go_sem] theorem Be {t t':TypeId} {x:Operand}:RX E draw gd bar i ({ dst:=d,op:=.convert t t' x,type:=ty,pos:=pos,after:=after,guard:=none }::l) st Z=match (match (if (E.T t).isSome then (E.T t').bind fun ti=>convC ti (st.ev x) else none) with
   | some c=>some c
   | none=>strQ E st t t' (st.ev x)) with
   | some c=>RX E draw gd bar (i+1) l (st.put d c) Z
   | none=>False:=by
 cases h:(match (if (E.T t).isSome then (E.T t').bind fun ti=>convC ti (st.ev x) else none) with
   | some c=>some c
   | none=>strQ E st t t' (st.ev x)) with
 | none=>exact gD rfl rfl rfl (congrArg (put? _ st) h) (congrArg (qSE _) h)
 | some c=>exact RX_put rfl rfl (congrArg (put? _ st) h) (congrArg (qSE _) h)
@[go_sem] theorem Bj {x:Operand} {k:Nat}:RX E draw gd bar i ({ dst:=d,op:=.extract x k,type:=ty,pos:=pos,after:=after,guard:=none }::l) st Z=match (rf (st.ev x) k) with
   | some c=>RX E draw gd bar (i+1) l (st.put d c) Z
   | none=>False:=by
 cases h:(rf (st.ev x) k) with
 | none=>exact gD rfl rfl rfl (congrArg (put? _ st) h) (congrArg (qSE _) h)
 | some c=>exact RX_put rfl rfl (congrArg (put? _ st) h) (congrArg (qSE _) h)
@[go_sem] theorem BD {t:TypeId} {x:Operand} {lo hi mx:Option Operand}:RX E draw gd bar i ({ dst:=d,op:=.slice t x lo hi mx,type:=ty,pos:=pos,after:=after,guard:=none }::l) st Z=match ((E.T t).bind fun ti=>sliceC st ti (st.ev x) (lo.map st.ev) (hi.map st.ev) (mx.map st.ev)) with
   | some c=>RX E draw gd bar (i+1) l (st.put d c) Z
   | none=>match altX E { dst:=d,op:=.slice t x lo hi mx,type:=ty,pos:=pos,after:=after,guard:=none } st with
    | some s=>(draw=true->bar i=true)/\RX E draw gd bar (i+1) l s Z
    | none=>False:=
 RX_alt (o:={ dst:=d,op:=.slice t x lo hi mx,type:=ty,pos:=pos,after:=after,guard:=none }) rfl rfl rfl rfl
@[go_sem] theorem Bc {f:FuncId} {first caps:Array Operand}:RX E draw gd bar i ({ dst:=d,op:=.makeFunc (.func f) first caps,type:=ty,pos:=pos,after:=after,guard:=none }::l) st Z=match (if first.size=0/\f < B0 then some (C.clo f (caps.toList.map st.ev)) else if caps.size=0 then some (C.clo (f+B0) (first.toList.map st.ev)) else none) with
   | some c=>RX E draw gd bar (i+1) l (st.put d c) Z
   | none=>False:=by
 cases h:(if first.size=0/\f < B0 then some (C.clo f (caps.toList.map st.ev)) else if caps.size=0 then some (C.clo (f+B0) (first.toList.map st.ev)) else none) with
 | none=>exact gD rfl rfl rfl (congrArg (put? _ st) h) (congrArg (qSE _) h)
 | some c=>exact RX_put rfl rfl (congrArg (put? _ st) h) (congrArg (qSE _) h)
@[go_sem] theorem Bb {x:Operand}:RX E draw gd bar i ({ dst:=d,op:=.nilCheck x,type:=ty,pos:=pos,after:=after,guard:=none }::l) st Z=match (qh (st.ev x)) with
   | some c=>RX E draw gd bar (i+1) l (st.put d c) Z
   | none=>False:=by
 cases h:(qh (st.ev x)) with
 | none=>exact gD rfl rfl rfl (congrArg (put? _ st) h) (congrArg (qSE _) h)
 | some c=>exact RX_put rfl rfl (congrArg (put? _ st) h) (congrArg (qSE _) h)
@[go_sem] theorem Bz {t:TypeId} {parts:Array (Nat × Operand)}:RX E draw gd bar i ({ dst:=d,op:=.build t parts,type:=ty,pos:=pos,after:=after,guard:=none }::l) st Z=match ((E.T t).bind fun ti=>buildQ E ti (parts.toList.map fun x=>(x.1,st.ev x.2))) with
   | some c=>RX E draw gd bar (i+1) l (st.put d c) Z
   | none=>False:=by
 cases h:((E.T t).bind fun ti=>buildQ E ti (parts.toList.map fun x=>(x.1,st.ev x.2))) with
 | none=>exact gD rfl rfl rfl (congrArg (put? _ st) h) (congrArg (qSE _) h)
 | some c=>exact RX_put rfl rfl (congrArg (put? _ st) h) (congrArg (qSE _) h)
end
end
end Go.Abs

namespace Go.Abs
section
variable {E:Env} {st:St} {draw:Bool} {gd:Nat->Option Tmp} {bar:Nat->Bool} {i:Nat} {l:List Oper} {Z:St->Prop} {d:Tmp} {ty:TypeId} {pos:String} {after:Array Edge}
def okD (E:Env) (draw:Bool) (bar:Nat->Bool) (i:Nat) (o:Oper) (st:St):Prop:=
 draw=true->(∃ e s,bodySE E o st=some e/\e.apply st=some s)∨bar i=true
theorem zF {o:Oper} {e:SE} {s:St} (h1:bodySE E o st=some e) (h2:e.apply st=some s):exe E o st=some s:=by
 obtain ⟨d1,o1,t1,p1,a1,g1⟩:=o;have:=lC (E:=E) (ops:=#[]) (o:=⟨d1,o1,t1,p1,a1,none⟩) (st:=st) (st':=s);have h3:bodySE E ⟨d1,o1,t1,p1,a1,none⟩ st=some e:=h1;exact this (by simp [aM,seff,h3,h2])
theorem RX_exe {o:Oper} (hg:o.guard=none):RX E draw gd bar i (o::l) st Z=match exe E o st with
  | some s=>okD E draw bar i o st/\RX E draw gd bar (i+1) l s Z
  | none=>False:=by
 rw [RX,hg];simp only;cases draw with
 | false=>
  simp only [stepR];cases exe E o st<;>simp [okD]
 | true=>
  simp only [stepR];cases hb:bodySE E o st with
  | none=>
   simp only;cases hx:exe E o st with
   | none=>simp
   | some s=>
    by_cases hbar:bar i=true
    ·simp [hbar,okD]
    ·simp [hbar,okD,hb]
  | some e=>
   simp only;cases hap:e.apply st with
   | none=>
    simp only;cases hx:exe E o st with
    | none=>simp
    | some s=>
     by_cases hbar:bar i=true
     ·simp [hbar,okD]
     ·simp [hbar,okD,hb,hap]
   | some s=>
    simp only [zF hb hap];refine propext ⟨fun h=>⟨fun _=>.inl ⟨e,s,hb,hap⟩,h⟩,fun h=>h.2⟩
@[go_sem] theorem BK {t:TypeId}:RX E draw gd bar i ({ dst:=some d,op:=.alloc t,type:=ty,pos:=pos,after:=after,guard:=none }::l) st Z=match E.T t with
  | some ti=>(draw=true->isDead (st.roots d)=true∨bar i=true)/\RX E draw gd bar (i+1) l (allocX d ti st) Z
  | none=>False:=by
 rw [RX_exe rfl];simp only [exe,preX,exe0,altX];cases ht:E.T t with
 | none=>rfl
 | some ti=>
  simp only
  congr 1
  simp only [okD,bodySE,ht];refine propext (imp_congr_right fun _=>or_congr ⟨?_,?_⟩ Iff.rfl)
  ·rintro ⟨e,s,h1,h2⟩;simp only [Option.some.injEq] at h1;subst h1;simp only [SE.apply] at h2;split at h2
   ·rename_i h; exact h
   ·simp at h2
  ·intro h;exact ⟨_,_,rfl,by simp only [SE.apply]; rw [h]⟩
@[go_sem] theorem RX_box {t:TypeId} {x:Operand}:RX E draw gd bar i ({ dst:=some d,op:=.box t x,type:=ty,pos:=pos,after:=after,guard:=none }::l) st Z=match E.T t with
  | some ti=>match boxX d ti x st with
   | some s=>okD E draw bar i { dst:=some d,op:=.box t x,type:=ty,pos:=pos,after:=after,guard:=none } st/\RX E draw gd bar (i+1) l s Z
   | none=>False
  | none=>False:=by
 rw [RX_exe rfl];simp only [exe,preX,exe0,altX];cases ht:E.T t with
 | none=>rfl
 | some ti=>simp only; cases boxX d ti x st<;>rfl
@[go_sem] theorem AY {t:TypeId} {len:Nat} {parts:Array (Nat × Operand)}:RX E draw gd bar i ({ dst:=some d,op:=.buildSlice t len parts,type:=ty,pos:=pos,after:=after,guard:=none }::l) st Z=match E.T t with
  | some ti=>match eH E d ti len parts.toList st with
   | some s=>okD E draw bar i { dst:=some d,op:=.buildSlice t len parts,type:=ty,pos:=pos,after:=after,guard:=none } st/\RX E draw gd bar (i+1) l s Z
   | none=>False
  | none=>False:=by
 rw [RX_exe rfl];simp only [exe,preX,exe0,altX];cases ht:E.T t with
 | none=>rfl
 | some ti=>simp only; cases eH E d ti len parts.toList st<;>rfl
def qM (E:Env) (t:TypeId) (x v:Operand) (st:St):Bool:=
 match mB E { dst:=none,op:=.store t x v,type:=0,pos := "", after := #[], guard := none } t x v st with
 | some e=>(e.apply st).isSome
 | none=>false
@[go_sem] theorem BB {t:TypeId} {x v:Operand}:RX E draw gd bar i ({ dst:=none,op:=.store t x v,type:=ty,pos:=pos,after:=after,guard:=none }::l) st Z=match E.T t with
  | some ti=>match storeX ti (st.ev x) (st.ev v) st with
   | some s=>(draw=true->(bar i || qM E t x v st)=true)/\RX E draw gd bar (i+1) l s Z
   | none=>False
  | none=>False:=by
 rw [RX_exe rfl];simp only [exe,preX,exe0,altX];cases ht:E.T t with
 | none=>rfl
 | some ti=>
  simp only;cases hs:storeX ti (st.ev x) (st.ev v) st with
  | none=>rfl
  | some s=>
   simp only [okD,bodySE]
   congr 1
   refine propext ⟨fun h hd=>?_,fun h hd=>?_⟩
   ·rcases h hd with ⟨e,s',h1,h2⟩|h
    ·have:qM E t x v st=true:=by
      unfold qM;have h1':mB E { dst:=none,op:=.store t x v,type:=0,pos := "", after := #[], guard := none } t x v st = some e := h1;rw [h1'];simp [h2]
     simp [this]
    ·simp [h]
   ·have:=h hd;rw [Bool.or_eq_true] at this;rcases this with h|h
    ·exact .inr h
    ·unfold qM at h;split at h
     ·rename_i e he;obtain ⟨s',hs'⟩:=Option.isSome_iff_exists.1 h;exact .inl ⟨e,s',he,hs'⟩
     ·simp at h
def appX (E:Env) (d:Nat) (t tx:TypeId) (s x:Operand) (st:St):Option St:=
 match E.T t,E.T tx with
 | some ti,some tix=>match ti.kind with
  | .slice e es=>match (match tix.kind with
    | .slice e' es'=>if e=e'/\es=es' then (match (match E.F d with
      | some false=>(match E.T e with
       | some te=>jL d es te (st.ev s) (st.ev x) st
       | none=>none)
      | some true=>(match E.T e with
       | some te=>aj d es te tix (st.ev s) (st.ev x) st
       | none=>none)
      | none=>iz d es (st.ev s) (st.ev x) st) with
     | some s'=>some s'
     | none=>j7 E d ti s x st) else none
    | _=>none) with
   | some s'=>some s'
   | none=>match E.T e with
    | some te=>aj d es te tix (st.ev s) (st.ev x) st
    | none=>none
  | _=>none
 | _,_=>none
@[go_sem] theorem Bn {s x:Operand} {t tx:TypeId}:RX E draw gd bar i ({ dst:=some d,op:=.call { callee:=.builtin .append,args:=#[s,x],argTypes:=#[t,tx] },type:=ty,pos:=pos,after:=after,guard:=none }::l) st Z=match appX E d t tx s x st with
  | some s=>(draw=true->bar i=true)/\RX E draw gd bar (i+1) l s Z
  | none=>False:=by
 rw [RX_exe rfl];have e:exe E { dst:=some d,op:=.call { callee:=.builtin .append,args:=#[s,x],argTypes:=#[t,tx] },type:=ty,pos:=pos,after:=after,guard:=none } st=appX E d t tx s x st:=by
  simp only [exe,preX,exe0,altX,appX];cases ht:E.T t with
  | none=>rfl
  | some ti=>
   cases htx:E.T tx with
   | none=>rfl
   | some tix=>
    simp only;cases hk:ti.kind<;>cases hkx:tix.kind<;>(try simp only)<;>(try rfl)
    rename_i e es e' es';by_cases he:e=e'/\es=es'
    ·obtain ⟨rfl,rfl⟩:=he;simp only [and_self,if_true];cases E.F d with
     | some b=>
      cases b with
      | false=>
       simp only;cases E.T e with
       | none=>rfl
       | some te=>simp only; cases jL d es te (st.ev s) (st.ev x) st<;>rfl
      | true=>
       simp only;cases E.T e with
       | none=>rfl
       | some te=>simp only; cases aj d es te tix (st.ev s) (st.ev x) st<;>rfl
     | none=>simp only; cases iz d es (st.ev s) (st.ev x) st<;>rfl
    ·simp only [he,if_false];rfl
 rw [e];cases appX E d t tx s x st with
 | none=>rfl
 | some s=>
  simp only [okD,bodySE]
  congr 1
  simp
def plainB:Builtin->Bool
 | .append=>false
 | .copy=>false
 | .cap=>false
 | _=>true
theorem pF {b:Builtin} {args:Array Operand} {tys:Array TypeId} (hb:plainB b=true):RX E draw gd bar i ({ dst:=some d,op:=.call { callee:=.builtin b,args:=args,argTypes:=tys },type:=ty,pos:=pos,after:=after,guard:=none }::l) st Z =
  match fc ((tys[0]?).bind E.T) b (args.toList.map st.ev) with
   | some c=>RX E draw gd bar (i+1) l (st.put (some d) c) Z
   | none=>False:=by
 have h0:preX E { dst:=some d,op:=.call { callee:=.builtin b,args:=args,argTypes:=tys },type:=ty,pos:=pos,after:=after,guard:=none } st=none:=by
  cases b<;>first|rfl|simp [plainB] at hb
 have h3:altX E { dst:=some d,op:=.call { callee:=.builtin b,args:=args,argTypes:=tys },type:=ty,pos:=pos,after:=after,guard:=none } st=none:=by
  cases b<;>first|rfl|simp [plainB] at hb
 have h1:exe0 E { dst:=some d,op:=.call { callee:=.builtin b,args:=args,argTypes:=tys },type:=ty,pos:=pos,after:=after,guard:=none } st=put? { dst:=some d,op:=.call { callee:=.builtin b,args:=args,argTypes:=tys },type:=ty,pos:=pos,after:=after,guard:=none } st (fc ((tys[0]?).bind E.T) b (args.toList.map st.ev)):=by
  cases b<;>first|rfl|simp [plainB] at hb
 have h2:bodySE E { dst:=some d,op:=.call { callee:=.builtin b,args:=args,argTypes:=tys },type:=ty,pos:=pos,after:=after,guard:=none } st=qSE { dst:=some d,op:=.call { callee:=.builtin b,args:=args,argTypes:=tys },type:=ty,pos:=pos,after:=after,guard:=none } (fc ((tys[0]?).bind E.T) b (args.toList.map st.ev)):=by
  cases b<;>first|rfl|simp [plainB] at hb
 cases h:fc ((tys[0]?).bind E.T) b (args.toList.map st.ev) with
 | none=>exact gD rfl h0 h3 (by rw [h1,h]) (by rw [h2,h])
 | some c=>exact RX_put rfl h0 (by rw [h1,h]) (by rw [h2,h])
@[go_sem] theorem RX_len {args:Array Operand} {tys:Array TypeId}:RX E draw gd bar i ({ dst:=some d,op:=.call { callee:=.builtin .len,args:=args,argTypes:=tys },type:=ty,pos:=pos,after:=after,guard:=none }::l) st Z =
  match fc ((tys[0]?).bind E.T) .len (args.toList.map st.ev) with
   | some c=>RX E draw gd bar (i+1) l (st.put (some d) c) Z
   | none=>False:=pF rfl
@[go_sem] theorem RX_min {args:Array Operand} {tys:Array TypeId}:RX E draw gd bar i ({ dst:=some d,op:=.call { callee:=.builtin .min,args:=args,argTypes:=tys },type:=ty,pos:=pos,after:=after,guard:=none }::l) st Z =
  match fc ((tys[0]?).bind E.T) .min (args.toList.map st.ev) with
   | some c=>RX E draw gd bar (i+1) l (st.put (some d) c) Z
   | none=>False:=pF rfl
@[go_sem] theorem RX_max {args:Array Operand} {tys:Array TypeId}:RX E draw gd bar i ({ dst:=some d,op:=.call { callee:=.builtin .max,args:=args,argTypes:=tys },type:=ty,pos:=pos,after:=after,guard:=none }::l) st Z =
  match fc ((tys[0]?).bind E.T) .max (args.toList.map st.ev) with
   | some c=>RX E draw gd bar (i+1) l (st.put (some d) c) Z
   | none=>False:=pF rfl
@[go_sem] theorem RX_cap {x:Operand} {t:TypeId}:RX E draw gd bar i ({ dst:=some d,op:=.call { callee:=.builtin .cap,args:=#[x],argTypes:=#[t] },type:=ty,pos:=pos,after:=after,guard:=none }::l) st Z =
  match fc (E.T t) .cap [st.ev x] with
   | some c=>RX E draw gd bar (i+1) l (st.put (some d) c) Z
   | none=>match altX E { dst:=some d,op:=.call { callee:=.builtin .cap,args:=#[x],argTypes:=#[t] },type:=ty,pos:=pos,after:=after,guard:=none } st with
    | some s=>(draw=true->bar i=true)/\RX E draw gd bar (i+1) l s Z
    | none=>False:=
 RX_alt (o:={ dst:=some d,op:=.call { callee:=.builtin .cap,args:=#[x],argTypes:=#[t] },type:=ty,pos:=pos,after:=after,guard:=none }) rfl rfl rfl rfl
@[go_sem] theorem bM {x s:Operand} {t tx:TypeId} {d:Option Tmp}:RX E draw gd bar i ({ dst:=d,op:=.call { callee:=.builtin .copy,args:=#[s,x],argTypes:=#[t,tx] },type:=ty,pos:=pos,after:=after,guard:=none }::l) st Z =
  match altX E { dst:=d,op:=.call { callee:=.builtin .copy,args:=#[s,x],argTypes:=#[t,tx] },type:=ty,pos:=pos,after:=after,guard:=none } st with
   | some s=>(draw=true->bar i=true)/\RX E draw gd bar (i+1) l s Z
   | none=>False:=
 RX_alt (q:=none) (o:={ dst:=d,op:=.call { callee:=.builtin .copy,args:=#[s,x],argTypes:=#[t,tx] },type:=ty,pos:=pos,after:=after,guard:=none }) rfl rfl rfl rfl
@[go_sem] theorem BH {x:Operand} {t:TypeId} {d:Option Tmp}:RX E draw gd bar i ({ dst:=d,op:=.call { callee:=.builtin .clear,args:=#[x],argTypes:=#[t] },type:=ty,pos:=pos,after:=after,guard:=none }::l) st Z =
  match altX E { dst:=d,op:=.call { callee:=.builtin .clear,args:=#[x],argTypes:=#[t] },type:=ty,pos:=pos,after:=after,guard:=none } st with
   | some s=>(draw=true->bar i=true)/\RX E draw gd bar (i+1) l s Z
   | none=>False:=
 RX_alt (q:=none) (o:={ dst:=d,op:=.call { callee:=.builtin .clear,args:=#[x],argTypes:=#[t] },type:=ty,pos:=pos,after:=after,guard:=none }) rfl rfl rfl rfl
@[go_sem] theorem A4 {t:TypeId} {x c:Operand}:RX E draw gd bar i ({ dst:=some d,op:=.makeSlice t x c,type:=ty,pos:=pos,after:=after,guard:=none }::l) st Z =
  match mkX E d t (st.ev x) (st.ev c) st with
   | some s=>(draw=true->bar i=true)/\RX E draw gd bar (i+1) l s Z
   | none=>False:=
 RX_alt (q:=none) (o:={ dst:=some d,op:=.makeSlice t x c,type:=ty,pos:=pos,after:=after,guard:=none }) rfl rfl rfl rfl
@[go_sem] theorem BO {x:Operand} {args:Array Operand} {tys:Array TypeId}:RX E draw gd bar i ({ dst:=some d,op:=.call { callee:=.value x,args:=args,argTypes:=tys },type:=ty,pos:=pos,after:=after,guard:=none }::l) st Z =
  match st.ev x with
   | .clo f caps=>if d < H0 then match callX E d (cloF f) (cloA f (args.toList.map st.ev) caps) st with
     | some s=>okD E draw bar i { dst:=some d,op:=.call { callee:=.value x,args:=args,argTypes:=tys },type:=ty,pos:=pos,after:=after,guard:=none } st/\RX E draw gd bar (i+1) l s Z
     | none=>False
    else False
   | _=>False:=by
 rw [RX_exe rfl];simp only [exe,preX,exe0,altX,callE,callTo];cases hx:st.ev x<;>simp only
 by_cases hd:d < H0
 ·simp only [hd,if_true];cases callX E d (cloF _) (cloA _ (List.map st.ev args.toList) _) st<;>rfl
 ·simp only [hd,if_false]
theorem y7 {o:Oper}:okD E false bar i o st:=fun h=>by simp at h
theorem yB {o:Oper}:okD E false bar i o st=True:=eq_true y7
end
end Go.Abs

namespace Go.Abs
@[go_sem] theorem BA (ts:List C) (R:Nat->C) (d:Nat) (c:C):St.put ⟨ts,R⟩ (some d) c=⟨ts.set d c,R⟩:=rfl
@[go_sem] theorem BC (st:St) (c:C):st.put none c=st:=rfl
@[go_sem] theorem ev_tmp (ts:List C) (R:Nat->C) (t:Nat):St.ev ⟨ts,R⟩ (.tmp t)=(ts[t]?).getD .dead:=rfl
@[go_sem] theorem ev_int (st:St) (k:IntKind) (n:Int):st.ev (.const (.int k n))=.val (.int k n):=rfl
@[go_sem] theorem BQ (st:St) (b:Bool):st.ev (.const (.bool b))=.val (.bool b):=rfl
@[go_sem] theorem Bq (st:St) (b:ByteArray):st.ev (.const (.string b))=.val (.string b):=rfl
@[go_sem] theorem ev_nil (st:St) (n k:Nat):st.ev (.const (.slice none n k))=.val (.slice none n k):=rfl
@[go_sem] theorem ev_agg (st:St) (cs:Array Value):st.ev (.const (.agg cs))=.agg (cs.toList.map .val):=rfl
@[go_sem] theorem BM (st:St) (f:FuncId):st.ev (.func f)=.clo (cloN f) []:=rfl
@[go_sem] theorem BU (ops:Array Oper) (j:Nat):gdOf ops j=(ops[j]?).bind (·.dst):=rfl
@[go_sem] theorem Bp (gd:Nat->Option Tmp) (st:St) (j:Nat):guardV gd st j=match gd j with
 | some t=>match st.ev (.tmp t) with
  | .val (.bool b)=>some (some b)
  | .val (.tuple _)=>some none
  | _=>none
 | none=>none:=rfl
def RZ:Nat->C:=fun _=>.dead
@[go_sem] theorem R0_RZ (cs:List C):R0 [] cs=RZ:=by funext n; simp [R0,RZ]
@[go_sem] theorem RZ_at (n:Nat):RZ n=.dead:=rfl
@[go_sem] theorem BT (R:Nat->C) (d:Nat) (a b:C):upd (upd R d a) d b=upd R d b:=by funext n; simp only [upd]; split<;>rfl
@[go_sem] theorem upd_RZ (d:Nat):upd RZ d .dead=RZ:=by funext n; simp [upd,RZ]
@[go_sem] theorem upd_at (R:Nat->C) (d:Nat) (a:C) (n:Nat):upd R d a n=if n=d then a else R n:=rfl
theorem Weak.trans {s s' s'':St} (h1:Weak s s') (h2:Weak s' s''):Weak s s'':=fun X a w h=>h2 X a w (h1 X a w h)
end Go.Abs

namespace Go.Abs
section
variable {E:Env} {st:St} {draw:Bool} {gd:Nat->Option Tmp} {bar:Nat->Bool} {i:Nat} {l:List Oper} {Z:St->Prop} {d:Option Tmp} {ty:TypeId} {pos:String} {after:Array Edge}
theorem ai {j:Nat} {want:Bool} {p:Prop} [inst:Decidable p] {op:Op} (h:guardV gd st j=some (some (decide p)))
  (h1:p->RX E draw gd bar i ({ dst:=d,op:=op,type:=ty,pos:=pos,after:=after,guard:=some (j,want) }::l) st Z)
  (h2:¬ p->RX E draw gd bar i ({ dst:=d,op:=op,type:=ty,pos:=pos,after:=after,guard:=some (j,want) }::l) st Z) :
  RX E draw gd bar i ({ dst:=d,op:=op,type:=ty,pos:=pos,after:=after,guard:=some (j,want) }::l) st Z:=by
 by_cases hp:p
 ·exact h1 hp
 ·exact h2 hp
variable {Q:Exit->St->Prop} {K:List Fm}
theorem rr {c:Operand} {x y:Code} (hc:st.ev c=.val (.bool true)) (h:W E x (ap E Q K) st):W E (.cond c x y) (ap E Q K) st:=by
 simp [W,hc,h]
theorem rD {c:Operand} {x y:Code} (hc:st.ev c=.val (.bool false)) (h:W E y (ap E Q K) st):W E (.cond c x y) (ap E Q K) st:=by
 simp [W,hc,h]
theorem jK {c:Operand} {x y:Code} {p:Prop} [inst:Decidable p] (hc:st.ev c=.val (.bool (decide p))) (h1:p->W E x (ap E Q K) st) (h2:¬ p->W E y (ap E Q K) st):W E (.cond c x y) (ap E Q K) st:=
 W_cond hc (fun h=>h1 (of_decide_eq_true h)) (fun h=>h2 (of_decide_eq_false h))
@[go_sem] theorem Bf (E:Env) (vs:List ResultVar) (ts:List C) (R:Nat->C):finish E vs ⟨ts,R⟩=match resL E ⟨ts,R⟩ vs with
 | some cs=>match plainL cs with
  | some rs=>some (pack rs)
  | none=>match dK (cs.flatMap leaves).length H0 (cs.flatMap leaves) .dead ⟨ts,R⟩ with
   | some (s1,_)=>some (pack (dp s1.roots H0 cs))
   | none=>none
 | none=>none:=rfl
@[go_sem] theorem BI (E:Env) (s:St):resL E s []=some []:=rfl
@[go_sem] theorem BJ (E:Env) (ts:List C) (R:Nat->C) (t:Nat) (vs:List ResultVar):resL E ⟨ts,R⟩ (.tmp t::vs)=match resL E ⟨ts,R⟩ vs with
 | some cs=>some ((ts[t]?).getD .dead::cs)
 | none=>none:=by
 simp only [resL,resC];cases resL E ⟨ts,R⟩ vs<;>rfl
@[go_sem] theorem Bm:plainL []=some []:=rfl
@[go_sem] theorem Bl (k:IntKind) (n:Int) (cs:List C):plainL (.val (.int k n)::cs)=match plainL cs with
 | some rs=>some (.val (.int k n)::rs)
 | none=>none:=by
 simp only [plainL,plainR,C.cellOk,Value.oneCell',if_true,C.frz];cases plainL cs<;>rfl
@[go_sem] theorem A9 (b:Bool) (cs:List C):plainL (.val (.bool b)::cs)=match plainL cs with
 | some rs=>some (.val (.bool b)::rs)
 | none=>none:=by
 simp only [plainL,plainR,C.cellOk,Value.oneCell',if_true,C.frz];cases plainL cs<;>rfl
@[go_sem] theorem A3 (b:ByteArray) (cs:List C):plainL (.val (.string b)::cs)=match plainL cs with
 | some rs=>some (.val (.string b)::rs)
 | none=>none:=by
 simp only [plainL,plainR,C.cellOk,Value.oneCell',if_true,C.frz];cases plainL cs<;>rfl
@[go_sem] theorem Ba (cs:List C):plainL (.val (.slice none 0 0)::cs)=match plainL cs with
 | some rs=>some (.val (.slice none 0 0)::rs)
 | none=>none:=by
 simp only [plainL,plainR,C.cellOk,Value.oneCell',if_true,C.frz];cases plainL cs<;>rfl
@[go_sem] theorem BE (c:C):pack [c]=c:=rfl
@[go_sem] theorem BG (c c':C) (cs:List C):pack (c::c'::cs)=.tup (c::c'::cs):=rfl
end
end Go.Abs

namespace Go.Abs
def tab (n:Nat) (f:Nat->C):List C:=(List.range n).map f
def updT (f:Nat->C) (d:Nat) (c:C):Nat->C:=fun t=>if t=d then c else f t
def deadT:Nat->C:=fun _=>.dead
theorem kE (n:Nat) (f:Nat->C):(tab n f).length=n:=by simp [tab]
theorem gF (n:Nat) (f:Nat->C) (t:Nat):(tab n f)[t]?=if t < n then some (f t) else none:=by
 simp only [tab,List.getElem?_map,List.getElem?_range'];by_cases h:t < n
 ·simp [h]
 ·simp [h]
theorem Ad (f:Nat->C) (d:Nat) (c:C) (t:Nat):updT f d c t=if t=d then c else f t:=rfl
theorem zS (t:Nat):deadT t=.dead:=rfl
theorem AN (n:Nat) (f:Nat->C) (d:Nat) (c:C):(tab n f).set d c=tab n (updT f d c):=by
 apply List.ext_getElem?;intro t;rw [List.getElem?_set,gF,gF,kE];by_cases h:d=t
 ·subst h;by_cases h2:d < n<;>simp [h2,updT]
 ·have h':¬ t=d:=fun e=>h e.symm;simp only [h,h',if_false,updT]
theorem Au (n:Nat) (f:Nat->C) (g:C->C):(tab n f).map g=tab n (fun t=>g (f t)):=by
 simp [tab,Function.comp_def]
def poiT (g:Nat->Path->Bool) (f:Nat->C):Nat->C:=fun t=>poi g (f t)
theorem Ag (g:Nat->Path->Bool) (f:Nat->C) (t:Nat):poiT g f t=poi g (f t):=rfl
theorem sB (n:Nat) (f:Nat->C) (g:Nat->Path->Bool):(tab n f).map (poi g)=tab n (poiT g f):=Au n f (poi g)
theorem Ai (g:Nat->Path->Bool) (v:Value):poi g (.val v)=.val v:=rfl
theorem y5 (g:Nat->Path->Bool):poi g .dead=.dead:=rfl
theorem poi_sl (g:Nat->Path->Bool) (o:Bool) (nl:Option Bool) (es:Nat) (cap:Option Nat) (rows:List (List C)):poi g (.sl o nl es cap rows)=.sl o nl es cap rows:=rfl
theorem zN (g:Nat->Path->Bool) (es:Nat) (rows:List (List C)) (i j:Nat):poi g (.iref es rows i j)=.iref es rows i j:=rfl
theorem zh (g:Nat->Path->Bool) (n:Nat) (p:Path) (i j:Nat):poi g (.pref n p i j)=if g n p=true then .dead else .pref n p i j:=rfl
theorem Ac (g:Nat->Path->Bool) (n:Nat) (p:Path) (lo len:Nat) (cap:Option Nat):poi g (.pal n p lo len cap)=if g n p=true then .dead else .pal n p lo len cap:=rfl
def entryF (own:List Bool) (cs:List C):Nat->C:=fun t=>match cs[t]? with
 | some c=>iu own t c
 | none=>.dead
theorem lG {own:List Bool} {cs:List C} {n:Nat} (h:cs.length<=n):entry own cs n=⟨tab n (entryF own cs),R0 own cs⟩:=by
 unfold entry
 congr 1
 apply List.ext_getElem?;intro t;rw [gF];by_cases h1:t < cs.length
 ·rw [List.getElem?_append_left (by rw [fm]; exact h1),pJ];rw [if_pos (by omega)];simp [entryF,h1]
 ·rw [List.getElem?_append_right (by rw [fm]; omega),fm];by_cases h2:t < n
  ·rw [if_pos h2];have:t - cs.length < n - cs.length:=by omega
   simp [this,entryF,h1]
  ·rw [if_neg h2];simp; omega
end Go.Abs

namespace Go.Abs
def Le (c c':C):Prop:=∀ (w:World) (S:Nat->Prop) (m m':Path->Value) (p p':Path) (d:Nat) (u:Value),rel w S L0 m false d p c u->rel w S L0 m' false d p' c' u
def NoOwn (c:C):Prop:=∀ q,¬ OwnAt c q
structure LeL (cs cs':List C):Prop where
 len:cs'.length=cs.length
 get:∀ (i:Nat) (c c':C),cs[i]?=some c->cs'[i]?=some c'->Le c c'
structure LeLL (rs rs':List (List C)):Prop where
 len:rs'.length=rs.length
 get:∀ (i:Nat) (r r':List C),rs[i]?=some r->rs'[i]?=some r'->LeL r r'
theorem Le.refl (c:C):Le c c:=fun w S m m' p p' d u h=>aV h
theorem Le.eq {a b:C} (h:a=b):Le a b:=h ▸ Le.refl a
theorem LeL.refl (cs:List C):LeL cs cs:=⟨rfl,fun i c c' h h'=>by rw [h] at h'; simp only [Option.some.injEq] at h'; exact h' ▸ Le.refl c⟩
theorem LeLL.refl (rs:List (List C)):LeLL rs rs:=⟨rfl,fun i c c' h h'=>by rw [h] at h'; simp only [Option.some.injEq] at h'; exact h' ▸ LeL.refl c⟩
theorem LeL.nil:LeL [] []:=LeL.refl []
theorem LeL.cons {a b:C} {as bs:List C} (h:Le a b) (t:LeL as bs):LeL (a::as) (b::bs):=by
 refine ⟨by simp [t.len],?_⟩;intro i c c' h1 h2;cases i with
 | zero=>simp only [List.getElem?_cons_zero,Option.some.injEq] at h1 h2; subst h1; subst h2; exact h
 | succ i=>exact t.get i c c' (by simpa using h1) (by simpa using h2)
theorem LeLL.map {α:Type} {f g:α->List C} (h:∀ x,LeL (f x) (g x)) (l:List α):LeLL (l.map f) (l.map g):=by
 refine ⟨by simp,?_⟩;intro i r r' h1 h2;simp only [List.getElem?_map,Option.map_eq_some_iff] at h1 h2;obtain ⟨x,e1,rfl⟩:=h1;obtain ⟨y,e2,rfl⟩:=h2;rw [e1] at e2;simp only [Option.some.injEq] at e2;subst e2;exact h x
theorem Le.nils {o:Bool} {es:Nat}:Le (.val (.slice none 0 0)) (.sl o none es none []):=by
 intro w S m m' p p' d u h;cases d with
 | zero=>exact h.elim
 | succ d=>
  have hu:u=.slice none 0 0:=h;subst hu;exact ⟨none,0,rfl,Nat.le_refl _,by decide,by simp,by simp,by simp,by simp,.inl rfl⟩
theorem Le.sl {o o':Bool} {nl:Option Bool} {es:Nat} {cap:Option Nat} {rows rows':List (List C)} (h:LeLL rows rows'):Le (.sl o nl es cap rows) (.sl o' none es none rows'):=by
 intro w S m m' p p' d u hr;cases d with
 | zero=>exact hr.elim
 | succ d=>
  obtain ⟨a,k,h1,h2,h3,h4,hz,h5,h6,h7⟩:=hr;refine ⟨a,k,by rw [h.len]; exact h1,by rw [h.len]; exact h2,h3,by simp,⟨by simp,hz.2⟩,?_,by simp,?_⟩
  ·intro row hrow;obtain ⟨i,hi⟩:=List.mem_iff_getElem?.1 hrow;have hlt:i < rows.length:=by rw [<-h.len]; exact (List.getElem?_eq_some_iff.1 hi).1
   have hle:=h.get i rows[i] row (by simp [hlt]) hi;rw [hle.len];exact h5 _ (List.getElem_mem hlt)
  ·rcases h7 with h7|h7|⟨b,off,arr,elem,frz,g1,g2,g3,g4,g5⟩
   ·exact .inl h7
   ·refine .inr (.inl ⟨by simp,?_⟩);have:=h.len;rw [h7.2] at this;exact List.length_eq_zero_iff.1 this
   ·refine .inr (.inr ⟨b,off,arr,elem,frz,g1,g2,fun _=>g3 (by simp),by simp,?_⟩);intro i j row' c' e1 e2;have hlt:i < rows.length:=by rw [<-h.len]; exact (List.getElem?_eq_some_iff.1 e1).1
    have hle:=h.get i rows[i] row' (by simp [hlt]) e1;have hlt2:j < rows[i].length:=by rw [<-hle.len]; exact (List.getElem?_eq_some_iff.1 e2).1
    have hle2:=hle.get j rows[i][j] c' (by simp [hlt2]) e2;obtain ⟨u',f1,f2⟩:=g5 i j rows[i] rows[i][j] (by simp [hlt]) (by simp [hlt2]);refine ⟨u',f1,?_⟩;simp only [Bool.and_false] at f2 ⊢;exact hle2 _ _ _ _ _ _ _ _ f2
theorem Le.agg {cs cs':List C} (h:LeL cs cs'):Le (.agg cs) (.agg cs'):=by
 intro w S m m' p p' d u hr;cases d with
 | zero=>exact hr.elim
 | succ d=>
  obtain ⟨arr,h1,h2,h3⟩:=hr;refine ⟨arr,h1,by rw [h.len]; exact h2,fun j c' e=>?_⟩;have hlt:j < cs.length:=by rw [<-h.len]; exact (List.getElem?_eq_some_iff.1 e).1
  obtain ⟨u',f1,f2⟩:=h3 j cs[j] (by simp [hlt]);exact ⟨u',f1,h.get j cs[j] c' (by simp [hlt]) e _ _ _ _ _ _ _ _ f2⟩
theorem Le.tup {cs cs':List C} (h:LeL cs cs'):Le (.tup cs) (.tup cs'):=by
 intro w S m m' p p' d u hr;cases d with
 | zero=>exact hr.elim
 | succ d=>
  obtain ⟨arr,h1,h2,h3⟩:=hr;refine ⟨arr,h1,by rw [h.len]; exact h2,fun j c' e=>?_⟩;have hlt:j < cs.length:=by rw [<-h.len]; exact (List.getElem?_eq_some_iff.1 e).1
  obtain ⟨u',f1,f2⟩:=h3 j cs[j] (by simp [hlt]);exact ⟨u',f1,h.get j cs[j] c' (by simp [hlt]) e _ _ _ _ _ _ _ _ f2⟩
theorem Le.clo {f:Nat} {cs cs':List C} (h:LeL cs cs'):Le (.clo f cs) (.clo f cs'):=by
 intro w S m m' p p' d u hr;cases d with
 | zero=>exact hr.elim
 | succ d=>
  obtain ⟨arr,h1,h2,h3⟩:=hr;refine ⟨arr,h1,by rw [h.len]; exact h2,fun j c' e=>?_⟩;have hlt:j < cs.length:=by rw [<-h.len]; exact (List.getElem?_eq_some_iff.1 e).1
  obtain ⟨u',f1,f2⟩:=h3 j cs[j] (by simp [hlt]);exact ⟨u',f1,h.get j cs[j] c' (by simp [hlt]) e _ _ _ _ _ _ _ _ f2⟩
theorem NoOwn.val (v:Value):NoOwn (.val v):=by
 intro q h; cases q<;>simp [OwnAt,C.at,C.kid,C.isOwn] at h
theorem NoOwn.sl (nl:Option Bool) (es:Nat) (cap:Option Nat) (rows:List (List C)):NoOwn (.sl false nl es cap rows):=by
 intro q h; cases q<;>simp [OwnAt,C.at,C.kid,C.isOwn] at h
theorem NoOwn.agg {cs:List C} (h:∀ c∈cs,NoOwn c):NoOwn (.agg cs):=by
 intro q hq;cases q with
 | nil=>simp [OwnAt,C.at,C.isOwn] at hq
 | cons s q=>
  simp only [OwnAt,C.at,C.kid] at hq;split at hq
  ·cases hc:cs[s.2]? with
   | none=>rw [hc] at hq; simp at hq
   | some c=>rw [hc] at hq; exact h c (List.mem_of_getElem? hc) q hq
  ·simp at hq
theorem NoOwn.tup {cs:List C} (h:∀ c∈cs,NoOwn c):NoOwn (.tup cs):=by
 intro q hq;cases q with
 | nil=>simp [OwnAt,C.at,C.isOwn] at hq
 | cons s q=>
  simp only [OwnAt,C.at,C.kid] at hq;split at hq
  ·cases hc:cs[s.2]? with
   | none=>rw [hc] at hq; simp at hq
   | some c=>rw [hc] at hq; exact h c (List.mem_of_getElem? hc) q hq
  ·simp at hq
theorem qc {w:World} {S:Nat->Prop}:∀ (d:Nat) {m m':Path->Value} {p p':Path} {c:C} {u:Value},NoOwn c->rel w S L0 m false d p c u->rel w S L0 m' true d p' c u:=by
 intro d
 induction d with
 | zero=>intro m m' p p' c u _ h; exact h.elim
 | succ d ih=>
  intro m m' p p' c u hn h;cases c with
  | dead=>trivial
  | val v=>exact h
  | sl own nl es cap rows=>
   have ho:own=false:=by
    cases own with
    | false=>rfl
    | true=>exact (hn [] (by simp [OwnAt,C.at,C.isOwn])).elim
   subst ho;obtain ⟨a,k,h1,h2,h3,h4,hz,h5,h6,h7⟩:=h;refine ⟨a,k,h1,h2,h3,h4,hz,h5,by simp,?_⟩;rcases h7 with h7|h7|⟨b,off,arr,elem,frz,g1,g2,g3,g4,g5⟩
   ·exact .inl h7
   ·exact .inr (.inl ⟨by simp,h7.2⟩)
   ·refine .inr (.inr ⟨b,off,arr,elem,frz,g1,g2,fun _=>g3 (by simp),by simp,?_⟩);intro i j row c' e1 e2;obtain ⟨u',e3,e4⟩:=g5 i j row c' e1 e2;exact ⟨u',e3,aV e4⟩
  | agg cs=>
   obtain ⟨arr,h1,h2,h3⟩:=h;refine ⟨arr,h1,h2,fun j c' e=>?_⟩;obtain ⟨u',e1,e2⟩:=h3 j c' e;refine ⟨u',e1,ih ?_ e2⟩;intro q hq;exact hn ((0,j)::q) (by simp only [OwnAt,C.at,C.kid,if_true,e,Option.bind_some]; exact hq)
  | tup cs=>
   obtain ⟨arr,h1,h2,h3⟩:=h;refine ⟨arr,h1,h2,fun j c' e=>?_⟩;obtain ⟨u',e1,e2⟩:=h3 j c' e;refine ⟨u',e1,ih ?_ e2⟩;intro q hq;exact hn ((0,j)::q) (by simp only [OwnAt,C.at,C.kid,if_true,e,Option.bind_some]; exact hq)
  | clo f cs=>
   obtain ⟨arr,h1,h2,h3⟩:=h;exact ⟨arr,h1,h2,fun j c' e=>let ⟨u',e1,e2⟩:=h3 j c' e; ⟨u',e1,aV e2⟩⟩
  | iref es rows i j=>
   obtain ⟨b,off,arr,elem,frz,g1,g2,g3,g4,g5⟩:=h;exact ⟨b,off,arr,elem,frz,g1,g2,g3,g4,fun i j row c' e1 e2=>let ⟨u',e3,e4⟩:=g5 i j row c' e1 e2; ⟨u',e3,aV e4⟩⟩
  | pref n p i j=>exact h
  | pal n p lo len cap=>exact h
theorem qB (cs:List C):R0 [] cs=fun _=>.dead:=by funext n; simp [R0]
theorem fe {cs:List C} {m:Nat->Path->Value} {b:Nat}:¬ Owned (R0 [] cs) m b:=by
 rintro ⟨n,p,h1,h2⟩;rw [qB] at h1;exact ak h1
theorem Con.args {P:Program} {f:FuncId} {pure:Bool} {cs cs':List C} {r:C} (h:Con P f [] pure cs' r) (hle:LeL cs cs'):Con P f [] pure cs r:=by
 intro w S m us hl hr hinj;have key:∀ (i:Nat) (c:C),cs'[i]?=some c->∃ u d,us[i]?=some u/\rel w (fun b=>S b/\¬ Owned (R0 [] cs') m b) L0 (m i) (([]:List Bool).getD i false) d [] c u:=by
  intro i c' hc;have hlt:i < cs.length:=by rw [<-hle.len]; exact (List.getElem?_eq_some_iff.1 hc).1
  obtain ⟨u,d,h1,h2⟩:=hr i cs[i] (by simp [hlt]);refine ⟨u,d,h1,?_⟩;simp only [List.getD_nil] at h2 ⊢;have h3:=hle.get i cs[i] c' (by simp [hlt]) hc w _ (m i) (m i) [] [] d u h2;exact ae (fun b _ hb=>⟨⟨hb.1,fe⟩,rfl⟩) d (fun _ _ _ h=>h) (fun h=>by simp at h) (fun h=>by simp at h) h3
 have hinj':Inj (R0 [] cs') m:=by
  intro n p n' p' b h1;rw [qB] at h1;exact (ak h1).elim
 have:=h w S m us (by rw [hl,hle.len]) key hinj';have e:∀ b,Owned (R0 [] cs') m b↔Owned (R0 [] cs) m b:=fun b=>⟨fun h=>(fe h).elim,fun h=>(fe h).elim⟩;have e2:Owned (R0 [] cs') m=Owned (R0 [] cs) m:=funext fun b=>propext (e b);rw [e2] at this;exact this
inductive ROk:C->C->Prop
 | refl (r:C):ROk r r
 | of (r:C) {r0:C} (h:Le r0 r) (hn:NoOwn r):ROk r0 r
 | nil (es:Nat):ROk (.val (.slice none 0 0)) (.sl true none es none [])
 | own {nl:Option Bool} {es:Nat} {cap:Option Nat} {rows rows':List (List C)} (h:LeLL rows rows') (hn:∀ row∈rows',∀ c∈row,NoOwn c):ROk (.sl true nl es cap rows) (.sl true none es none rows')
 | agg {as bs:List C} (hl:bs.length=as.length) (h:∀ (i:Nat) (a b:C),as[i]?=some a->bs[i]?=some b->ROk a b):ROk (.agg as) (.agg bs)
 | tup {as bs:List C} (hl:bs.length=as.length) (h:∀ (i:Nat) (a b:C),as[i]?=some a->bs[i]?=some b->ROk a b):ROk (.tup as) (.tup bs)
theorem kj:∀ (i:Nat) (a b:C),([]:List C)[i]?=some a->([]:List C)[i]?=some b->ROk a b:=fun i a b h=>by simp at h
theorem jw {a b:C} {as bs:List C} (h:ROk a b) (t:∀ (i:Nat) (a b:C),as[i]?=some a->bs[i]?=some b->ROk a b):∀ (i:Nat) (c d:C),(a::as)[i]?=some c->(b::bs)[i]?=some d->ROk c d:=by
 intro i c d h1 h2;cases i with
 | zero=>simp only [List.getElem?_cons_zero,Option.some.injEq] at h1 h2; subst h1; subst h2; exact h
 | succ i=>exact t i c d (by simpa using h1) (by simpa using h2)
theorem ROk.ownAt {c c':C} (h:ROk c c'):∀ {q:Path},OwnAt c' q->OwnAt c q∨c.at q=some (.val (.slice none 0 0)):=by
 induction h with
 | refl r=>intro q hq; exact .inl hq
 | of r hle hn=>intro q hq; exact (hn q hq).elim
 | nil es=>
  intro q hq;cases q with
  | nil=>exact .inr rfl
  | cons s q=>simp [OwnAt,C.at,C.kid] at hq
 | own h hn=>
  rename_i nl es cap rows rows';intro q hq;cases q with
  | nil=>exact .inl rfl
  | cons s q=>
   simp only [OwnAt,C.at,C.kid] at hq;cases hr:rows'[s.1]? with
   | none=>simp [hr] at hq
   | some row=>
    simp only [hr,Option.bind_some] at hq;cases hc:row[s.2]? with
    | none=>simp [hc] at hq
    | some c1=>
     simp only [hc,Option.bind_some] at hq;exact (hn row (List.mem_of_getElem? hr) c1 (List.mem_of_getElem? hc) q hq).elim
 | agg hl h ih=>
  rename_i cs ds;intro q hq;cases q with
  | nil=>simp [OwnAt,C.at,C.isOwn] at hq
  | cons s q=>
   simp only [OwnAt,C.at,C.kid] at hq;by_cases hs:s.1=0
   ·simp only [hs,if_true] at hq;cases hd:ds[s.2]? with
    | none=>simp [hd] at hq
    | some b=>
     simp only [hd,Option.bind_some] at hq;have hlt:=(List.getElem?_eq_some_iff.1 hd).1;rw [hl] at hlt;have ha:cs[s.2]?=some cs[s.2]:=by simp [hlt]
     rcases ih s.2 _ _ ha hd hq with h1|h1
     ·left; simp only [OwnAt,C.at,C.kid,hs,if_true,ha,Option.bind_some]; exact h1
     ·right; simp only [C.at,C.kid,hs,if_true,ha,Option.bind_some]; exact h1
   ·simp [hs] at hq
 | tup hl h ih=>
  rename_i cs ds;intro q hq;cases q with
  | nil=>simp [OwnAt,C.at,C.isOwn] at hq
  | cons s q=>
   simp only [OwnAt,C.at,C.kid] at hq;by_cases hs:s.1=0
   ·simp only [hs,if_true] at hq;cases hd:ds[s.2]? with
    | none=>simp [hd] at hq
    | some b=>
     simp only [hd,Option.bind_some] at hq;have hlt:=(List.getElem?_eq_some_iff.1 hd).1;rw [hl] at hlt;have ha:cs[s.2]?=some cs[s.2]:=by simp [hlt]
     rcases ih s.2 _ _ ha hd hq with h1|h1
     ·left; simp only [OwnAt,C.at,C.kid,hs,if_true,ha,Option.bind_some]; exact h1
     ·right; simp only [C.at,C.kid,hs,if_true,ha,Option.bind_some]; exact h1
   ·simp [hs] at hq
open Classical in
noncomputable def nilM (c:C) (m:Path->Value) (p:Path) (q:Path):Value:=if c.at q=some (.val (.slice none 0 0)) then .slice none 0 0 else m (p++q)
open Classical in
theorem lr {c:C} {m:Path->Value} {p q:Path} (h:OwnAt c q):nilM c m p q=m (p++q):=by
 unfold nilM;split
 ·rename_i e; rw [OwnAt,e] at h; simp [C.isOwn] at h
 ·rfl
theorem ss {w:World} {S S':Nat->Prop} {m m':Path->Value} (hS:∀ b,S b->S' b) {c c':C} (h:ROk c c'):∀ (d:Nat) {p p':Path} {u:Value},
  (∀ q,OwnAt c' q->m' (p'++q)=nilM c m p q)->(∀ q b,OwnAt c q->¬ OwnAt c' q->blk (m (p++q))=some b->S' b) ->
  rel w S L0 m true d p c u->rel w S' L0 m' true (d+1) p' c' u:=by
 induction h with
 | refl r=>
  intro d p p' u hm _ hr;exact aD d (d+1) (Nat.le_succ _) (ae (fun b _ hb=>⟨hS b hb,rfl⟩) d (fun _ _ _ h=>h) (fun _ _ _ _ _ _=>rfl) (fun _ q hq=>by rw [hm q hq,lr hq]) hr)
 | of r hle hn=>
  intro d p p' u hm hO hr;have a1:=jH (S:=S) (S':=S') (m:=m) (m':=m) (p:=p) (p':=p) hS d (fun _ q b hq hb=>hO q b hq (hn q) hb) hr;exact aD d (d+1) (Nat.le_succ _) (qc d hn (hle _ _ _ m _ p d u a1))
 | nil es=>
  intro d p p' u hm hO hr;cases d with
  | zero=>exact hr.elim
  | succ d=>
   have hu:u=.slice none 0 0:=hr;refine ⟨none,0,hu,Nat.le_refl _,Nat.zero_le _,by simp,⟨by simp,by simp⟩,by simp,?_,.inl rfl⟩;intro _;have:=hm [] rfl;rw [List.append_nil] at this;rw [hu,this];simp [nilM,C.at]
 | own h hn=>
  rename_i nl es cap rows rows';intro d p p' u hm hO hr;cases d with
  | zero=>exact hr.elim
  | succ d=>
   obtain ⟨a,k,h1,h2,h3,h4,hz,h5,h6,h7⟩:=hr;have hm0:m' p'=m p:=by
    have:=hm [] rfl;rw [lr (c:=.sl true nl es cap rows) (q:=[]) rfl] at this;simpa using this
   refine ⟨a,k,by rw [h.len]; exact h1,by rw [h.len]; exact h2,h3,by simp,⟨by simp,hz.2⟩,?_,fun _=>by rw [hm0]; exact h6 rfl,?_⟩
   ·intro row' hrow;obtain ⟨i,hi,e⟩:=List.getElem_of_mem hrow;have hlt:i < rows.length:=by rw [<-h.len]; exact hi
    have:=h.get i rows[i] row' (by simp [hlt]) (by simp [hi,e]);rw [this.len];exact h5 _ (List.getElem_mem hlt)
   ·rcases h7 with h7|h7|⟨b,off,arr,elem,frz,g1,g2,g3,g4,g5⟩
    ·exact .inl h7
    ·simp at h7
    ·refine .inr (.inr ⟨b,off,arr,elem,frz,g1,g2,fun h=>by simp at h,g4,?_⟩);intro i j row' c' e1 e2;have hlt:i < rows.length:=by rw [<-h.len]; exact (List.getElem?_eq_some_iff.1 e1).1
     have hrow:rows[i]?=some rows[i]:=by simp [hlt]
     have hle:=h.get i rows[i] row' hrow e1;have hltj:j < rows[i].length:=by rw [<-hle.len]; exact (List.getElem?_eq_some_iff.1 e2).1
     have hc:rows[i][j]?=some rows[i][j]:=by simp [hltj]
     obtain ⟨u',e3,e4⟩:=g5 i j _ _ hrow hc;have hnc:=hn row' (List.mem_of_getElem? e1) c' (List.mem_of_getElem? e2);refine ⟨u',e3,aD d (d+1) (Nat.le_succ _) (qc d hnc (hle.get j _ c' hc e2 _ _ _ m _ p d u' (jH (S:=S) (S':=S') (m:=m) (m':=m) (p:=p++[(i,j)]) (p':=p) hS d ?_ e4)))⟩;intro _ q b' hq hb;refine hO ((i,j)::q) b' ?_ ?_ (by simpa using hb)
     ·simp only [OwnAt,C.at,C.kid,hrow,Option.bind_some,hc]; exact hq
     ·simp only [OwnAt,C.at,C.kid,e1,Option.bind_some,e2]; exact hnc q
 | agg hl h ih=>
  rename_i cs ds;intro d p p' u hm hO hr;cases d with
  | zero=>exact hr.elim
  | succ d=>
   obtain ⟨arr,h1,h2,h3⟩:=hr;refine ⟨arr,h1,by rw [hl]; exact h2,fun j c' e=>?_⟩;have hlt:=(List.getElem?_eq_some_iff.1 e).1;rw [hl] at hlt;have ha:cs[j]?=some cs[j]:=by simp [hlt]
   obtain ⟨u',e1,e2⟩:=h3 j _ ha;refine ⟨u',e1,ih j _ _ ha e d ?_ ?_ e2⟩
   ·intro q hq;have:=hm ((0,j)::q) (by simp only [OwnAt,C.at,C.kid,if_true,e,Option.bind_some]; exact hq);have e3:(C.agg cs).at ((0,j)::q)=cs[j].at q:=by simp only [C.at,C.kid,if_true,ha,Option.bind_some]
    unfold nilM at this ⊢;rw [e3] at this;simpa using this
   ·intro q b hq hnq hb;refine hO ((0,j)::q) b (by simp only [OwnAt,C.at,C.kid,if_true,ha,Option.bind_some]; exact hq) ?_ (by simpa using hb);simp only [OwnAt,C.at,C.kid,if_true,e,Option.bind_some]; exact hnq
 | tup hl h ih=>
  rename_i cs ds;intro d p p' u hm hO hr;cases d with
  | zero=>exact hr.elim
  | succ d=>
   obtain ⟨arr,h1,h2,h3⟩:=hr;refine ⟨arr,h1,by rw [hl]; exact h2,fun j c' e=>?_⟩;have hlt:=(List.getElem?_eq_some_iff.1 e).1;rw [hl] at hlt;have ha:cs[j]?=some cs[j]:=by simp [hlt]
   obtain ⟨u',e1,e2⟩:=h3 j _ ha;refine ⟨u',e1,ih j _ _ ha e d ?_ ?_ e2⟩
   ·intro q hq;have:=hm ((0,j)::q) (by simp only [OwnAt,C.at,C.kid,if_true,e,Option.bind_some]; exact hq);have e3:(C.tup cs).at ((0,j)::q)=cs[j].at q:=by simp only [C.at,C.kid,if_true,ha,Option.bind_some]
    unfold nilM at this ⊢;rw [e3] at this;simpa using this
   ·intro q b hq hnq hb;refine hO ((0,j)::q) b (by simp only [OwnAt,C.at,C.kid,if_true,ha,Option.bind_some]; exact hq) ?_ (by simpa using hb);simp only [OwnAt,C.at,C.kid,if_true,e,Option.bind_some]; exact hnq
theorem uY {w w':World} {S:Nat->Prop} {pure:Bool} {O:Nat->Prop} {F:Prop} {r0 r:C} {u:Value} (hok:ROk r0 r)
  (h:∃ mr d,rel w' (fun b=>((pure=false/\S b)∨w.heap.size<=b)/\¬ Own1 r0 mr b) L0 mr true d [] r0 u ∧
   (∀ q q' b,OwnAt r0 q->OwnAt r0 q'->blk (mr q)=some b->blk (mr q')=some b->q=q') ∧
   (∀ b,Own1 r0 mr b->w.heap.size<=b∨O b)/\F) (hO:∀ b,O b->(pure=false/\S b)∨w.heap.size<=b) :
  ∃ mr d,rel w' (fun b=>((pure=false/\S b)∨w.heap.size<=b)/\¬ Own1 r mr b) L0 mr true d [] r u ∧
   (∀ q q' b,OwnAt r q->OwnAt r q'->blk (mr q)=some b->blk (mr q')=some b->q=q') ∧
   (∀ b,Own1 r mr b->w.heap.size<=b∨O b)/\F:=by
 obtain ⟨mr,d,h1,h2,h3,h4⟩:=h;have key:∀ q b,OwnAt r q->blk (nilM r0 mr [] q)=some b->OwnAt r0 q/\blk (mr q)=some b:=by
  intro q b hq hb;rcases hok.ownAt hq with h|h
  ·rw [lr h] at hb; exact ⟨h,hb⟩
  ·simp [nilM,h,blk] at hb
 refine ⟨nilM r0 mr [],d+1,?_,?_,?_,h4⟩
 ·refine ss (p:=[]) (p':=[]) ?_ hok d (fun q hq=>by simp) ?_ h1
  ·rintro b ⟨hb,hn⟩;exact ⟨hb,fun ⟨q,hq,e⟩=>hn ⟨q,key q b hq e⟩⟩
  ·intro q b hq hnq hb;simp only [List.nil_append] at hb;refine ⟨?_,?_⟩
   ·rcases h3 b ⟨q,hq,hb⟩ with h|h
    ·exact .inr h
    ·exact hO b h
   ·rintro ⟨q',hq',e⟩;obtain ⟨e1,e2⟩:=key q' b hq' e;obtain rfl:=h2 q q' b hq e1 hb e2;exact hnq hq'
 ·intro q q' b hq hq' e e';obtain ⟨a1,a2⟩:=key q b hq e;obtain ⟨a3,a4⟩:=key q' b hq' e';exact h2 q q' b a1 a3 a2 a4
 ·rintro b ⟨q,hq,e⟩;exact h3 b ⟨q,key q b hq e⟩
theorem Does.mono {P:Program} {f:FuncId} {us:List Value} {w:World} {Q Q':Value->World->Prop} (h:Does P f us w Q) (hq:∀ u w',Q u w'->Q' u w'):Does P f us w Q':=by
 rcases h with ⟨h1,h2⟩|⟨u,w',h1,h2⟩
 ·exact .inl ⟨h1,h2.mono fun e w' ⟨u,e1,e2⟩=>⟨u,e1,hq u w' e2⟩⟩
 ·exact .inr ⟨u,w',h1,hq u w' h2⟩
theorem Con.res {P:Program} {f:FuncId} {pure:Bool} {cs:List C} {r0 r:C} (h:Con P f [] pure cs r0) (hok:ROk r0 r):Con P f [] pure cs r:=by
 intro w S m us hl hr hinj;exact (h w S m us hl hr hinj).mono fun u w' hq=>uY hok hq (fun b h=>(fe h).elim)
def FinW (E:Env) (vs:List ResultVar) (pure:Bool) (r:C):Exit->St->Prop:=fun e s=>(e=.ret∨e=.normal)/\∃ r0,finish E vs s=some r0/\ROk r0 r/\(pure=true->PureC r0)
theorem y9 {E:Env} {vs:List ResultVar} {pure:Bool} {r:C} {s:St}:FinW E vs pure r .ret s=∃ r0,finish E vs s=some r0/\ROk r0 r/\(pure=true->PureC r0):=by simp [FinW]
structure FunOk (P:Program) (f:FuncId) (fn:Func) (body:Code):Prop where
 get:P.funcs[f]?=some fn
 bd:fn.body=some body
 name:(fn.name == "runtime.NumGoroutine") = false
 ok:codeOk body=true
theorem PureC.val (v:Value):PureC (.val v):=by
 intro w S S' m d p u h;cases d with
 | zero=>exact h.elim
 | succ d=>exact h
theorem PureC.agg {cs:List C} (h:∀ c∈cs,PureC c):PureC (.agg cs):=by
 intro w S S' m d p u hr;cases d with
 | zero=>exact hr.elim
 | succ d=>
  obtain ⟨arr,h1,h2,h3⟩:=hr;exact ⟨arr,h1,h2,fun j c' e=>let ⟨u',e1,e2⟩:=h3 j c' e; ⟨u',e1,h c' (List.mem_of_getElem? e) _ _ _ _ _ _ _ e2⟩⟩
theorem PureC.tup {cs:List C} (h:∀ c∈cs,PureC c):PureC (.tup cs):=by
 intro w S S' m d p u hr;cases d with
 | zero=>exact hr.elim
 | succ d=>
  obtain ⟨arr,h1,h2,h3⟩:=hr;exact ⟨arr,h1,h2,fun j c' e=>let ⟨u',e1,e2⟩:=h3 j c' e; ⟨u',e1,h c' (List.mem_of_getElem? e) _ _ _ _ _ _ _ e2⟩⟩
theorem PureC.sl {nl:Option Bool} {es:Nat} {cap:Option Nat} {rows:List (List C)} (h:∀ row∈rows,∀ c∈row,PureC c):PureC (.sl true nl es cap rows):=by
 intro w S S' m d p u hr;cases d with
 | zero=>exact hr.elim
 | succ d=>
  obtain ⟨a,k,h1,h2,h3,h4,hz,h5,h6,h7⟩:=hr;refine ⟨a,k,h1,h2,h3,h4,hz,h5,h6,?_⟩;rcases h7 with h7|h7|⟨b,off,arr,elem,frz,g1,g2,g3,g4,g5⟩
  ·exact .inl h7
  ·exact .inr (.inl h7)
  ·refine .inr (.inr ⟨b,off,arr,elem,frz,g1,g2,fun e=>by simp at e,g4,fun i j row c' e1 e2=>?_⟩);obtain ⟨u',e3,e4⟩:=g5 i j row c' e1 e2;exact ⟨u',e3,h row (List.mem_of_getElem? e1) c' (List.mem_of_getElem? e2) _ _ _ _ _ _ _ e4⟩
theorem Real.len {s:St} (h:Real s) {t:Nat} {o:Bool} {nl:Option Bool} {es:Nat} {cap:Option Nat} {rows:List (List C)} (ht:s.tmps[t]?=some (.sl o nl es cap rows)):rows.length<=maxLen:=by
 obtain ⟨X,a,w,m,H⟩:=h;obtain ⟨u,d,h1,h2⟩:=H.tmp t _ ht;cases d with
 | zero=>exact h2.elim
 | succ d=>obtain ⟨a,k,h1,h2,h3,_⟩:=h2; omega
theorem Real.lenR {s:St} (h:Real s) {n:Nat} {o:Bool} {nl:Option Bool} {es:Nat} {cap:Option Nat} {rows:List (List C)} (ht:s.roots n=.sl o nl es cap rows):rows.length<=maxLen:=by
 obtain ⟨X,a,w,m,H⟩:=h;obtain ⟨u,d,h2⟩:=H.root n;rw [ht] at h2;cases d with
 | zero=>exact h2.elim
 | succ d=>obtain ⟨a,k,h1,h2,h3,_⟩:=h2; omega
end Go.Abs

namespace Go.Abs
theorem wu {n:Nat} {f g:Nat->C} {R R':Nat->C} (hr:∀ k,R' k=R k∨R' k=.dead)
  (ht:∀ t,t < n->g t=.dead∨(g t=f t/\(g t).ment (fun k _=>isDead (R' k)) 3=false)):Weak ⟨tab n f,R⟩ ⟨tab n g,R'⟩:=by
 rintro X a w ⟨m,H⟩;have hown:∀ k p,OwnAt (R' k) p->OwnAt (R k) p/\R' k=R k:=by
  intro k p ho;rcases hr k with h|h
  ·exact ⟨by rw [<-h]; exact ho,h⟩
  ·rw [h] at ho; exact (ak ho).elim
 have hS:∀ b,b < w.heap.size->X.S R m b->X.S R' m b/\w.heap[b]?=w.heap[b]?:=by
  intro b _ hs;exact ⟨⟨hs.1,fun ⟨k,p,h1,h2⟩=>hs.2 ⟨k,p,(hown k p h1).1,h2⟩⟩,rfl⟩
 refine ⟨m,⟨by rw [H.len]; simp [kE],?_,?_,?_,?_,H.fr,H.df⟩⟩
 ·intro t c hc;rw [gF] at hc;split at hc
  case isFalse=>simp at hc
  rename_i hlt;simp only [Option.some.injEq] at hc;subst hc;have hsz:t < a.tmps.size:=by rw [H.len]; simp [kE,hlt]
  rcases ht t hlt with h|⟨h,hm⟩
  ·exact ⟨a.tmps[t],1,by simp [hsz],by rw [h]; trivial⟩
  ·obtain ⟨u,d,h1,h2⟩:=H.tmp t (f t) (by simp only [gF,hlt,if_true]);refine ⟨u,d,h1,?_⟩;rw [h];rw [h] at hm;refine ae hS d ?_ (fun h=>by simp at h) (fun h=>by simp at h) h2;intro v uv ho hl;obtain ⟨k,p,e1,e2⟩:=dM d 3 (f t) v hm ho;refine eS e1 rfl ?_ hl;intro nl es cap rows he;rcases hr k with h'|h'
   ·exact ⟨cap,rows,by simp only [h']; exact he,rfl⟩
   ·rw [h'] at e2; simp [isDead] at e2
 ·intro k;rcases hr k with h|h
  ·obtain ⟨u,d,h1⟩:=H.root k;refine ⟨u,d,?_⟩;simp only [h];refine ae hS d (fun _ _ _ h=>h) (fun _ q b ho hb hlt=>rfl) (fun _ q ho=>rfl) h1
  ·exact ⟨undef,1,by simp only [h]; trivial⟩
 ·intro k p k' p' b h1 h2 h3 h4;exact H.inj k p k' p' b (hown k p h1).1 (hown k' p' h2).1 h3 h4
 ·intro k p b h1 h2;exact H.own k p b (hown k p h1).1 h2
theorem yl {n:Nat} {f R':Nat->C}:∀ t,t < n->deadT t=.dead∨(deadT t=f t/\(deadT t).ment (fun k _=>isDead (R' k)) 3=false):=fun _ _=>.inl rfl
theorem wA {n:Nat} {f g R':Nat->C} {d:Nat} {c:C} (h0:f d=c) (hm:c.ment (fun k _=>isDead (R' k)) 3=false)
  (h:∀ t,t < n->g t=.dead∨(g t=f t/\(g t).ment (fun k _=>isDead (R' k)) 3=false)):∀ t,t < n->updT g d c t=.dead∨(updT g d c t=f t/\(updT g d c t).ment (fun k _=>isDead (R' k)) 3=false):=by
 intro t ht;simp only [updT];split
 ·rename_i e; subst e; exact .inr ⟨h0.symm,hm⟩
 ·exact h t ht
theorem yx {R:Nat->C}:∀ k,RZ k=R k∨RZ k=.dead:=fun _=>.inr rfl
theorem wU {R R':Nat->C} {d:Nat} {c:C} (h0:R d=c) (h:∀ k,R' k=R k∨R' k=.dead):∀ k,upd R' d c k=R k∨upd R' d c k=.dead:=by
 intro k;simp only [upd];split
 ·rename_i e; subst e; exact .inl h0.symm
 ·exact h k
end Go.Abs

namespace Go.Abs
theorem dD {n:Int} (h1:-9223372036854775808<=n) (h2:n<=9223372036854775807):IntKind.i64.wrap n=n:=
 vK ⟨h1,h2⟩
theorem eA {i n:Nat} (h:i < n) (hn:n<=maxLen):IntKind.i64.wrap ((i:Int)+1)=((i+1:Nat):Int):=by
 unfold maxLen at hn;rw [dD (by omega) (by omega)];rfl
def gx {α β:Type} (l:List α) (i:Int) (k:α->Option β):Option β:=if 0<=i/\i < l.length then l[i.toNat]?.bind k else none
theorem dQ {α β:Type} {l:List α} {i:Int} {k:α->Option β} {r:β} (h:gx l i k=some r):∃ x,(0<=i/\i < l.length)/\l[i.toNat]?=some x/\k x=some r:=by
 unfold gx at h;split at h
 ·rename_i hb;simp only [Option.bind_eq_some_iff] at h;obtain ⟨x,hx,h⟩:=h;exact ⟨x,hb,hx,h⟩
 ·simp at h
theorem gx_nat {α β:Type} {l:List α} {i:Nat} {k:α->Option β} {x:α} (h:l[i]?=some x):gx l (i:Int) k=k x:=by
 have hlt:=(List.getElem?_eq_some_iff.1 h).1;unfold gx;rw [if_pos ⟨by omega,by omega⟩,Int.toNat_natCast,h];rfl
theorem eP {α:Type} (l:List α) (i:Nat) (h:i<=l.length):(∃ x,i < l.length/\l[i]?=some x/\l.drop i=x::l.drop (i+1))∨(¬ i < l.length/\i=l.length/\l.drop i=[]):=by
 by_cases hi:i < l.length
 ·exact .inl ⟨l[i],hi,by simp [hi],List.drop_eq_getElem_cons hi⟩
 ·exact .inr ⟨hi,by omega,List.drop_eq_nil_of_le (by omega)⟩
theorem qS (n i:Nat):(i < n/\n - i=n - (i+1)+1)∨(¬ i < n/\n - i=0):=by
 by_cases h:i < n
 ·exact .inl ⟨h,by omega⟩
 ·exact .inr ⟨h,by omega⟩
theorem sy {α:Type} {l:List α} {i:Nat} {x y:α} (h:l[i]?=some x):(l.set i y)[i]?=some y:=by
 have hlt:=(List.getElem?_eq_some_iff.1 h).1;simp [hlt]
section
variable {E:Env} {Q:Exit->St->Prop} {K:List Fm} {st:St}
theorem po {J J':St->Prop} (h:∀ s,J s->J' s) (e:Exit) (s:St):ap E Q (.lp J::K) e s->ap E Q (.lp J'::K) e s:=by
 cases e with
 | normal=>exact h s
 | _=>exact id
variable {draw:Bool} {gd:Nat->Option Tmp} {bar:Nat->Bool} {i:Nat} {l:List Oper} {Z:St->Prop} {o:List Oper}
theorem iW {j:Nat} {want:Bool} {p:Prop} [inst:Decidable p] {d:Option Tmp} {ty:TypeId} {pos:String} {after:Array Edge} {op:Op} (_:guardV gd st j=some (some (!decide p)))
  (h1:¬ p->RX E draw gd bar i ({ dst:=d,op:=op,type:=ty,pos:=pos,after:=after,guard:=some (j,want) }::l) st Z)
  (h2:p->RX E draw gd bar i ({ dst:=d,op:=op,type:=ty,pos:=pos,after:=after,guard:=some (j,want) }::l) st Z) :
  RX E draw gd bar i ({ dst:=d,op:=op,type:=ty,pos:=pos,after:=after,guard:=some (j,want) }::l) st Z:=by
 by_cases hp:p
 ·exact h2 hp
 ·exact h1 hp
theorem eV {j:Nat} {want:Bool} {b:Bool} {d:Option Tmp} {ty:TypeId} {pos:String} {after:Array Edge} {op:Op} (_:guardV gd st j=some (some b))
  (h1:b=true->RX E draw gd bar i ({ dst:=d,op:=op,type:=ty,pos:=pos,after:=after,guard:=some (j,want) }::l) st Z)
  (h2:b=false->RX E draw gd bar i ({ dst:=d,op:=op,type:=ty,pos:=pos,after:=after,guard:=some (j,want) }::l) st Z) :
  RX E draw gd bar i ({ dst:=d,op:=op,type:=ty,pos:=pos,after:=after,guard:=some (j,want) }::l) st Z:=by
 cases hb:b
 ·exact h2 hb
 ·exact h1 hb
theorem da {j:Nat} {want:Bool} {b:Bool} {d:Option Tmp} {ty:TypeId} {pos:String} {after:Array Edge} {op:Op} (_:guardV gd st j=some (some (!b)))
  (h1:b=false->RX E draw gd bar i ({ dst:=d,op:=op,type:=ty,pos:=pos,after:=after,guard:=some (j,want) }::l) st Z)
  (h2:b=true->RX E draw gd bar i ({ dst:=d,op:=op,type:=ty,pos:=pos,after:=after,guard:=some (j,want) }::l) st Z) :
  RX E draw gd bar i ({ dst:=d,op:=op,type:=ty,pos:=pos,after:=after,guard:=some (j,want) }::l) st Z:=by
 cases hb:b
 ·exact h1 hb
 ·exact h2 hb
theorem Real.lenT {n:Nat} {f:Nat->C} {R:Nat->C} (h:Real ⟨tab n f,R⟩) (t:Nat) {o:Bool} {nl:Option Bool} {es:Nat} {cap:Option Nat} {rows:List (List C)} (hlt:t < n) (ht:f t=.sl o nl es cap rows):rows.length<=maxLen:=
 h.len (t:=t) (o:=o) (nl:=nl) (es:=es) (cap:=cap) (by simp only [gF,hlt,if_true,ht])
theorem Real.lenX {n:Nat} {f:Nat->C} {R:Nat->C} (h:Real ⟨tab n f,R⟩) (k:Nat) {o:Bool} {nl:Option Bool} {es:Nat} {cap:Option Nat} {rows:List (List C)} (ht:R k=.sl o nl es cap rows):rows.length<=maxLen:=
 h.lenR (n:=k) ht
end
end Go.Abs

namespace Go.Abs
section
variable {E:Env} {Q:Exit->St->Prop} {K:List Fm} {st:St}
theorem zi {c:Code} (h:Wk E c (ap E Q []) st):Wk E c Q st:=h
theorem gE {c:Code} {Q:Exit->St->Prop} {st':St} (hw:Weak st st') (h:Wk E c Q st'):Wk E c Q st:=fun P hT hG hm hc X a w H ts hk=>h P hT hG hm hc X a w (hw X a w H) ts hk
theorem Wk_seq {x y:Code} (h:Wk E x (ap E Q (.sk y::K)) st):Wk E (.seq x y) (ap E Q K) st:=by
 intro P hT hG hm hc X a w H ts hk;simp only [codeOk,Bool.and_eq_true] at hc;simp only [keepC,Bool.and_eq_true] at hk;refine wp_seq (wp_mono (h P hT hG hm hc.1 X a w H ts hk.1) ?_);rintro e a' w' ⟨⟨s,hs,H'⟩,hsm⟩;cases e with
 | normal=>exact wp_mono (hs P hT hG hm hc.2 X a' w' H' ts hk.2) fun e a2 w2 h2=>h2.from (hsm.resolve_left (by simp))
 | _=>exact ⟨⟨s,hs,H'⟩,hsm⟩
theorem aA {id:Nat} {c:Code} (h:Wk E c (ap E Q (.bl id::K)) st):Wk E (.block id c) (ap E Q K) st:=by
 intro P hT hG hm hc X a w H ts hk;refine wp_block (wp_mono (h P hT hG hm hc X a w H ts hk) ?_);rintro e a' w' ⟨⟨s,hs,H'⟩,hsm⟩;cases e with
 | exit i=>
  simp only [ap] at hs;simp only [Exit.inBlock];have hsm':=hsm.resolve_left (by simp);split at hs
  ·rename_i hi; rw [if_pos hi]; exact .mk' hs H' hsm'
  ·rename_i hi; rw [if_neg hi]; exact .mk' hs H' hsm'
 | _=>exact ⟨⟨s,hs,H'⟩,hsm⟩
theorem zw {c:Code} (h:Wk E c (ap E Q (.sc::K)) st):Wk E (.scope c) (ap E Q K) st:=by
 intro P hT hG hm hc X a w H ts hk;refine wp_scope_straight (wp_mono (h P hT hG hm hc X a w H ts hk) ?_);rintro e a' w' ⟨⟨s,hs,H'⟩,hsm⟩;cases e with
 | goto l=>exact hs.elim
 | _=>exact ⟨⟨s,hs,H'⟩,hsm⟩
theorem s3 {id:Nat} {ops:Array Oper} {draw:Bool} (h:RX E draw (gdOf ops) (barC ops) 0 ops.toList st (fun s=>(draw=true->finChk ops s=true)/\ap E Q K .normal s)):Wk E (.region id ops draw) (ap E Q K) st:=
 o4 (by rw [zE]; exact h)
theorem aa {id:Nat} {ops:Array Oper} (h:∀ Z:St->Prop,(∀ s,ap E Q K .normal s->Z s)->RX E false (gdOf ops) (barC ops) 0 ops.toList st Z):Wk E (.region id ops false) (ap E Q K) st:=
 s3 (h _ fun s hs=>⟨fun h=>(by cases h),hs⟩)
theorem gY {id:Nat} {ops:Array Oper} (h:∀ Z:St->Prop,(∀ s,finChk ops s=true->ap E Q K .normal s->Z s)->RX E true (gdOf ops) (barC ops) 0 ops.toList st Z):Wk E (.region id ops true) (ap E Q K) st:=
 s3 (h _ fun s hf hs=>⟨fun _=>hf,hs⟩)
theorem AJ {y:Code} (h:Wk E y (ap E Q K) st):ap E Q (.sk y::K) .normal st:=h
theorem vo {y:Code} (h:ap E Q K .ret st):ap E Q (.sk y::K) .ret st:=h
theorem ub {y:Code} {i:Nat} (h:ap E Q K (.exit i) st):ap E Q (.sk y::K) (.exit i) st:=h
theorem z8 {id:Nat} (h:ap E Q K .normal st):ap E Q (.bl id::K) .normal st:=h
theorem vu {id:Nat} (h:ap E Q K .ret st):ap E Q (.bl id::K) .ret st:=h
theorem wO {id:Nat} (h:ap E Q K .normal st):ap E Q (.bl id::K) (.exit id) st:=by rw [w5,if_pos rfl]; exact h
theorem z5 {J:St->Prop} (h:J st):ap E Q (.lp J::K) .normal st:=h
theorem vf {J:St->Prop} (h:ap E Q K .ret st):ap E Q (.lp J::K) .ret st:=h
theorem uU {J:St->Prop} {i:Nat} (h:ap E Q K (.exit i) st):ap E Q (.lp J::K) (.exit i) st:=h
theorem vt (h:ap E Q K .ret st):ap E Q (.sc::K) .ret st:=h
theorem zL {e:Exit} (h:Q e st):ap E Q [] e st:=h
class Pop (A:Prop) (B:outParam Prop):Prop where
 pop:B->A
instance {y:Code}:Pop (ap E Q (.sk y::K) .normal st) (Wk E y (ap E Q K) st):=⟨AJ⟩
instance {y:Code}:Pop (ap E Q (.sk y::K) .ret st) (ap E Q K .ret st):=⟨vo⟩
instance {y:Code} {i:Nat}:Pop (ap E Q (.sk y::K) (.exit i) st) (ap E Q K (.exit i) st):=⟨ub⟩
instance {id:Nat}:Pop (ap E Q (.bl id::K) .normal st) (ap E Q K .normal st):=⟨z8⟩
instance {id:Nat}:Pop (ap E Q (.bl id::K) .ret st) (ap E Q K .ret st):=⟨vu⟩
instance {id:Nat}:Pop (ap E Q (.bl id::K) (.exit id) st) (ap E Q K .normal st):=⟨wO⟩
instance {J:St->Prop}:Pop (ap E Q (.lp J::K) .ret st) (ap E Q K .ret st):=⟨vf⟩
instance {J:St->Prop} {i:Nat}:Pop (ap E Q (.lp J::K) (.exit i) st) (ap E Q K (.exit i) st):=⟨uU⟩
instance:Pop (ap E Q (.sc::K) .ret st) (ap E Q K .ret st):=⟨vt⟩
theorem ah (h:ap E Q K .normal st):Wk E .skip (ap E Q K) st:=o4 h
theorem zy {id:Nat} (h:ap E Q K .normal st):Wk E (.label id) (ap E Q K) st:=o4 h
theorem dj {id:Nat} (h:ap E Q K (.exit id) st):Wk E (.exit id) (ap E Q K) st:=o4 h
theorem Wk_ret (h:ap E Q K .ret st):Wk E .ret (ap E Q K) st:=o4 h
theorem my {Q:Exit->St->Prop} {c:Operand} {x y:Code} {b:Bool} (hc:st.ev c=.val (.bool b)) (h1:b=true->Wk E x Q st) (h2:b=false->Wk E y Q st):Wk E (.cond c x y) Q st:=by
 intro P hT hG hm hco X a w H ts hk;simp only [codeOk,Bool.and_eq_true] at hco;simp only [keepC,Bool.and_eq_true] at hk;have H0:=H;obtain ⟨m,HM⟩:=H;have hr:=ev_ok HM c;rw [hc] at hr;have hv:=hr.of_val;cases b with
 | true=>exact wp_cond_true hv (h1 rfl P hT hG hm hco.1 X a w H0 ts hk.1)
 | false=>exact wp_cond_false hv (h2 rfl P hT hG hm hco.2 X a w H0 ts hk.2)
theorem dC {c:Operand} {x y:Code} (hc:st.ev c=.val (.bool true)) (h:Wk E x (ap E Q K) st):Wk E (.cond c x y) (ap E Q K) st:=my hc (fun _=>h) (fun h=>by cases h)
theorem dg {c:Operand} {x y:Code} (hc:st.ev c=.val (.bool false)) (h:Wk E y (ap E Q K) st):Wk E (.cond c x y) (ap E Q K) st:=my hc (fun h=>by cases h) (fun _=>h)
theorem bG {c:Operand} {x y:Code} {p:Prop} [inst:Decidable p] (hc:st.ev c=.val (.bool (decide p))) (h1:p->Wk E x (ap E Q K) st) (h2:¬ p->Wk E y (ap E Q K) st):Wk E (.cond c x y) (ap E Q K) st:=
 my hc (fun h=>h1 (of_decide_eq_true h)) (fun h=>h2 (of_decide_eq_false h))
theorem mH {c:Operand} {x y:Code} {p:Prop} [inst:Decidable p] (hc:st.ev c=.val (.bool (!decide p))) (h1:¬ p->Wk E x (ap E Q K) st) (h2:p->Wk E y (ap E Q K) st):Wk E (.cond c x y) (ap E Q K) st:=
 my hc (fun h=>h1 (by simpa using h)) (fun h=>h2 (by simpa using h))
theorem aN {c:Operand} {x y:Code} {b:Bool} (hc:st.ev c=.val (.bool b)) (h1:b=true->Wk E x (ap E Q K) st) (h2:b=false->Wk E y (ap E Q K) st):Wk E (.cond c x y) (ap E Q K) st:=my hc h1 h2
theorem eW {c:Operand} {x y:Code} {b:Bool} (hc:st.ev c=.val (.bool (!b))) (h1:b=false->Wk E x (ap E Q K) st) (h2:b=true->Wk E y (ap E Q K) st):Wk E (.cond c x y) (ap E Q K) st:=
 my hc (fun h=>h1 (by simpa using h)) (fun h=>h2 (by simpa using h))
theorem fY {c:Code} {Q:Exit->St->Prop} (h:Real st->Wk E c Q st):Wk E c Q st:=fun P hT hG hm hc X a w H ts hk=>h ⟨X,a,w,H⟩ P hT hG hm hc X a w H ts hk
theorem sp {c:Code} {Q Q':Exit->St->Prop} (hq:∀ e s,Q e s->Q' e s) (h:Wk E c Q st):Wk E c Q' st:=
 fun P hT hG hm hc X a w H ts hk=>wp_mono (h P hT hG hm hc X a w H ts hk) fun e a' w' ⟨⟨s,hs,H'⟩,hsm⟩=>⟨⟨s,hq e s hs,H'⟩,hsm⟩
theorem sG {α:Type} (mk:α->St) (inv:α->Prop) (μ:α->Nat) (x0:α) {c:Code} (h0:Weak st (mk x0)) (hi:inv x0)
  (hr:∀ x,inv x->Real (mk x)->Wk E c (ap E Q (.lp (fun s=>∃ x',Weak s (mk x')/\inv x'/\μ x' < μ x)::K)) (mk x)):Wk E (.loop c) (ap E Q K) st:=by
 classical
 intro P hT hG hm hc X a0 w H ts hk
 let J:Act->World->Prop:=fun a w=>(∃ x,inv x/\Inv X (mk x) a w)/\Same ts a0 a
 let ν:Act->World->Nat:=fun a w=>if h:∃ k,∃ x,inv x/\Inv X (mk x) a w/\μ x=k then Classical.choose (iH _ h) else 0
 refine wp_loop J ν ⟨⟨x0,hi,h0 X a0 w H⟩,.refl _ _⟩ ?_;rintro a w ⟨⟨x1,hI1,H1⟩,hs0⟩;have hex:∃ k,∃ x,inv x/\Inv X (mk x) a w/\μ x=k:=⟨_,x1,hI1,H1,rfl⟩;obtain ⟨x2,hI2,H2,hm2⟩:=(Classical.choose_spec (iH _ hex)).1;have hν:ν a w=μ x2:=by simp only [ν]; rw [dif_pos hex,<-hm2]
 refine wp_mono (hr x2 hI2 ⟨_,_,_,H2⟩ P hT hG hm hc X a w H2 ts hk) ?_;rintro e a' w' ⟨⟨s',hs',H'⟩,hsm⟩;cases e with
 | normal=>
  obtain ⟨x',hw',hI',hlt⟩:=hs';have H'':=hw' X a' w' H';refine ⟨⟨⟨x',hI',H''⟩,hs0.trans (hsm.resolve_left (by simp))⟩,?_⟩;have hex':∃ k,∃ x,inv x/\Inv X (mk x) a' w'/\μ x=k:=⟨_,x',hI',H'',rfl⟩;have:ν a' w'<=μ x':=by simp only [ν]; rw [dif_pos hex']; exact (Classical.choose_spec (iH _ hex')).2 _ ⟨x',hI',H'',rfl⟩
  omega
 | _=>exact KQ.from (a1:=a) ⟨⟨s',hs',H'⟩,hsm⟩ hs0
theorem gh {α β ρ:Type} {l:List α} {L:List α->Nat->β->Option ρ} {r:ρ} (mk:Nat->β->St) (b0:β) {c:Code} (h:L l 0 b0=some r) (h0:Weak st (mk 0 b0))
  (hr:∀ i b,i<=l.length->L (l.drop i) i b=some r->Real (mk i b)->Wk E c (ap E Q (.lp (fun s=>i < l.length/\∃ b',Weak s (mk (i+1) b')/\L (l.drop (i+1)) (i+1) b'=some r)::K)) (mk i b)):Wk E (.loop c) (ap E Q K) st:=by
 refine sG (fun x:Nat × β=>mk x.1 x.2) (fun x=>x.1<=l.length/\L (l.drop x.1) x.1 x.2=some r) (fun x=>l.length - x.1) (0,b0) h0 ⟨Nat.zero_le _,by simpa using h⟩ ?_;rintro ⟨i,b⟩ ⟨h1,h2⟩ hreal;refine sp (po ?_) (hr i b h1 h2 hreal);rintro s ⟨g1,b',g2,g3⟩;exact ⟨(i+1,b'),g2,⟨g1,g3⟩,by simp only; omega⟩
theorem uS {β ρ:Type} {L:Nat->Nat->β->Option ρ} {r:ρ} {n s:Nat} (mk:Nat->β->St) (b0:β) {c:Code} (h:L (n - s) s b0=some r) (h0:Weak st (mk s b0))
  (hr:∀ i b,(i<=n∨i=s)->L (n - i) i b=some r->Real (mk i b)->Wk E c (ap E Q (.lp (fun s=>i < n/\∃ b',Weak s (mk (i+1) b')/\L (n - (i+1)) (i+1) b'=some r)::K)) (mk i b)):Wk E (.loop c) (ap E Q K) st:=by
 refine sG (fun x:Nat × β=>mk x.1 x.2) (fun x=>(x.1<=n∨x.1=s)/\L (n - x.1) x.1 x.2=some r) (fun x=>n - x.1) (s,b0) h0 ⟨.inr rfl,h⟩ ?_;rintro ⟨i,b⟩ ⟨h1,h2⟩ hreal;refine sp (po ?_) (hr i b h1 h2 hreal);rintro s ⟨g1,b',g2,g3⟩;exact ⟨(i+1,b'),g2,⟨.inl g1,g3⟩,by simp only; omega⟩
theorem mw {β ρ:Type} {L:Nat->β->Option ρ} {r:ρ} {n:Nat} (mk:β->St) (b0:β) {c:Code} (h:L n b0=some r) (h0:Weak st (mk b0))
  (hr:∀ n b,L n b=some r->Real (mk b)->Wk E c (ap E Q (.lp (fun s=>∃ n',n' < n/\∃ b',Weak s (mk b')/\L n' b'=some r)::K)) (mk b)):Wk E (.loop c) (ap E Q K) st:=by
 refine sG (fun x:Nat × β=>mk x.2) (fun x=>L x.1 x.2=some r) (fun x=>x.1) (n,b0) h0 h ?_;rintro ⟨n,b⟩ h1 hreal;refine sp (po ?_) (hr n b h1 hreal);rintro s ⟨n',g1,b',g2,g3⟩;exact ⟨(n',b'),g2,g3,g1⟩
theorem dE {x y:Code} {ρ:Type} {r:ρ} {T0:Type} (mk:T0->St) {g:T0->Option ρ}
  (hx:(∀ s,∀ p0,Weak s (mk p0)->g p0=some r->Wk E y (ap E Q K) s)->Wk E x (ap E Q (.sk y::K)) st)
  (hJ:∀ p0,g p0=some r->Wk E y (ap E Q K) (mk p0)):Wk E (.seq x y) (ap E Q K) st:=
 Wk_seq (hx fun s p0 hw h=>gE hw (hJ p0 h))
theorem zV {x y:Code} {ρ:Type} {r:ρ} {T0 T1:Type} (mk:T0->T1->St) {g:T0->T1->Option ρ}
  (hx:(∀ s,∀ p0 p1,Weak s (mk p0 p1)->g p0 p1=some r->Wk E y (ap E Q K) s)->Wk E x (ap E Q (.sk y::K)) st)
  (hJ:∀ p0 p1,g p0 p1=some r->Wk E y (ap E Q K) (mk p0 p1)):Wk E (.seq x y) (ap E Q K) st:=
 Wk_seq (hx fun s p0 p1 hw h=>gE hw (hJ p0 p1 h))
end
theorem AM {P:Program} {E:Env} (hT:TOk P E) (hG:GOk P E) (hmix:P.follows .mixedOrders=true) {f:FuncId} {fn:Func} {body:Code} (hf:FunOk P f fn body)
  {pure:Bool} {cs:List C} {r:C} (hn:cs.length<=fn.ntmps)
  (hW:Real (entry [] cs fn.ntmps)->Wk E body (FinW E fn.results.toList pure r) (entry [] cs fn.ntmps)):Con P f [] pure cs r:=by
 intro w S m us hl hr hinj;left;have hname':¬ fn.name = "runtime.NumGoroutine" := by simpa using hf.name
 refine ⟨by simp [callFunc,hf.get,hname',hf.bd],?_⟩;have H:=rk (n:=fn.ntmps) hl hn hr hinj;refine calls_of_wp hf.get hf.bd (wp_mono (hW ⟨_,_,_,m,H⟩ P hT hG hmix hf.ok _ _ _ ⟨m,H⟩ [] (pY _)) ?_);rintro e a' w' ⟨⟨s,⟨he,r0,hfin,hrok,hpure⟩,m',H'⟩,-⟩;have main:∃ u,(results fn a'.tmps).run P w'=.ok u w'/\Done (ctxOf w S (Owned (R0 [] cs) m)) w' r0 u:=by
  unfold finish at hfin;split at hfin
  case h_2=>simp at hfin
  rename_i cs' hres;obtain ⟨us',f1,f2,f3⟩:=sL hT H' hres;refine ⟨_,ot f1,?_⟩;split at hfin
  ·rename_i rs hpl;simp only [Option.some.injEq] at hfin;subst hfin;exact mJ hT H' f2 f3 hpl
  ·split at hfin
   ·rename_i s1 kp hprep;simp only [Option.some.injEq] at hfin;subst hfin;exact oC hT H' f2 f3 hprep
   ·simp at hfin
 obtain ⟨u,hrun,hd⟩:=main;obtain ⟨mr,d,g1,g2,g3⟩:=hd.ex;have post:a'.defers=[]/\∃ v,(results fn a'.tmps).run P w'=.ok v w'/\∃ u,Ending.returned v=.returned u/\∃ mr d,rel w' (fun b=>((pure=false/\(S b∨Owned (R0 [] cs) m b))∨w.heap.size<=b)/\¬ Own1 r mr b) L0 mr true d [] r u ∧
   (∀ q q' b,OwnAt r q->OwnAt r q'->blk (mr q)=some b->blk (mr q')=some b->q=q')/\(∀ b,Own1 r mr b->w.heap.size<=b∨Owned (R0 [] cs) m b)/\FrK w (Owned (R0 [] cs) m) w':=by
  refine ⟨H'.df,u,hrun,u,rfl,uY hrok ⟨mr,d,?_,g2,g3,⟨hd.fr.os,hd.fr.tape,hd.fr.output,hd.fr.drawn,hd.fr.size,hd.fr.block⟩⟩ (fun b h=>(fe h).elim)⟩;cases hp:pure with
  | true=>exact hpure hp w' _ _ mr d [] u g1
  | false=>exact ae (fun b _ hs=>⟨⟨hs.1.imp (fun h=>⟨rfl,h⟩) id,hs.2⟩,rfl⟩) d (fun _ _ _ h=>h) (fun _ _ _ _ _ _=>rfl) (fun _ _ _=>rfl) g1
 rcases he with rfl|rfl
 ·exact post
 ·exact post
end Go.Abs

namespace Go.Abs
section
variable {E:Env} {ops:Array Oper} {st:St} {Z:St->Prop}
variable {Q:Exit->St->Prop} {K:List Fm}
def bindS:Option St->(St->Prop)->Prop
 | some s,K=>K s
 | none,_=>False
@[go_sem] theorem Bg {s:St} {K:St->Prop}:bindS (some s) K=K s:=rfl
variable {d:Option Tmp} {ty:TypeId} {pos:String} {after:Array Edge} {op:Op} {l:List Oper} {tr:List St} {j:Nat} {want:Bool}
end
end Go.Abs

namespace Go.Abs
def rowI (k:IntKind) (n:Int):List C:=[.val (.int k n)]
def rowB (b:Bool):List C:=[.val (.bool b)]
def rowS (s:ByteArray):List C:=[.val (.string s)]
def rowL {α:Type} (es:Nat) (row:α->List C) (l:List α):List C:=[.sl false none es none (l.map row)]
def decI (k:IntKind):C->Option Int
 | .val (.int k' n)=>if k'=k then some n else none
 | _=>none
def decB:C->Option Bool
 | .val (.bool b)=>some b
 | _=>none
def decS:C->Option ByteArray
 | .val (.string s)=>some s
 | _=>none
def dA {α:Type} (d:List C->Option α):List (List C)->Option (List α)
 | []=>some []
 | r::rs=>match d r,dA d rs with
  | some x,some xs=>some (x::xs)
  | _,_=>none
def decL {α:Type} (es:Nat) (d:List C->Option α):C->Option (List α)
 | .sl _ _ es' _ rows=>if es'=es then dA d rows else none
 | .val (.slice none 0 0)=>some []
 | _=>none
def dec1 {α:Type} (d:C->Option α):List C->Option α
 | [c]=>d c
 | _=>none
theorem gl (k:IntKind) (n:Int):decI k (.val (.int k n))=some n:=by simp [decI]
theorem iv (b:Bool):decB (.val (.bool b))=some b:=rfl
theorem iw (s:ByteArray):decS (.val (.string s))=some s:=rfl
theorem bo {α:Type} {d:List C->Option α} {row:α->List C} (h:∀ x,d (row x)=some x) (l:List α):dA d (l.map row)=some l:=by
 induction l with
 | nil=>rfl
 | cons x xs ih=>simp only [List.map_cons,dA,h,ih]
theorem ja {α:Type} (es:Nat) (d:List C->Option α) (o:Bool) (nl:Option Bool) (cap:Option Nat) (rows:List (List C)):decL es d (.sl o nl es cap rows)=dA d rows:=by
 simp only [decL,if_true]
theorem zD {α:Type} (es:Nat) (d:List C->Option α):decL es d (.val (.slice none 0 0))=some []:=rfl
theorem vy {α:Type} (d:List C->Option α):dA d []=some []:=rfl
theorem jz (k:IntKind) (n:Int):dec1 (decI k) (rowI k n)=some n:=by simp [dec1,rowI,decI]
theorem lR (s:ByteArray):dec1 decS (rowS s)=some s:=rfl
theorem ag {k:IntKind} {c:C} {n:Int} (h:decI k c=some n):Le c (.val (.int k n)):=by
 unfold decI at h;split at h
 ·split at h
  ·rename_i hk; subst hk; simp only [Option.some.injEq] at h; subst h; exact Le.refl _
  ·simp at h
 ·simp at h
theorem bn {c:C} {s:ByteArray} (h:decS c=some s):Le c (.val (.string s)):=by
 unfold decS at h;split at h
 ·simp only [Option.some.injEq] at h; subst h; exact Le.refl _
 ·simp at h
theorem rT {α:Type} {d:List C->Option α} {row:α->List C} (hd:∀ r x,d r=some x->LeL r (row x)):∀ {rs:List (List C)} {l:List α},dA d rs=some l->LeLL rs (l.map row):=by
 intro rs
 induction rs with
 | nil=>intro l h; simp only [dA,Option.some.injEq] at h; subst h; exact LeLL.refl []
 | cons r rs ih=>
  intro l h;simp only [dA] at h;split at h
  ·rename_i x xs h1 h2;simp only [Option.some.injEq] at h;subst h;have t:=ih h2;refine ⟨by simp [t.len],?_⟩;intro i a b ha hb;cases i with
   | zero=>simp only [List.getElem?_cons_zero,Option.some.injEq,List.map_cons] at ha hb; subst ha; subst hb; exact hd _ _ h1
   | succ i=>exact t.get i a b (by simpa using ha) (by simpa using hb)
  ·simp at h
theorem aB {α:Type} {es:Nat} {d:List C->Option α} {row:α->List C} (hd:∀ r x,d r=some x->LeL r (row x)) {c:C} {l:List α} (h:decL es d c=some l):Le c (.sl false none es none (l.map row)):=by
 unfold decL at h;split at h
 ·split at h
  ·rename_i he; subst he; exact Le.sl (rT hd h)
  ·simp at h
 ·simp only [Option.some.injEq] at h; subst h; exact Le.nils
 ·simp at h
theorem vV {α:Type} {d:C->Option α} {row:α->C} (hd:∀ c x,d c=some x->Le c (row x)) {r:List C} {x:α} (h:dec1 d r=some x):LeL r [row x]:=by
 unfold dec1 at h;split at h
 ·exact LeL.cons (hd _ _ h) LeL.nil
 ·simp at h
def apx {α β:Type} (bytes:Nat) (a b:List α) (k:List α->Option β):Option β:=if (a.length+b.length) * (bytes+1)<=140737488355328 then k (a++b) else none
theorem pf {α β:Type} {bytes:Nat} {a b:List α} {k:List α->Option β} {r:β} (h:apx bytes a b k=some r):(a.length+b.length) * (bytes+1)<=140737488355328/\k (a++b)=some r:=by
 unfold apx at h;split at h
 ·rename_i hb; exact ⟨hb,h⟩
 ·simp at h
def slx {α β:Type} (l:List α) (lo hi:Int) (k:List α->Option β):Option β:=if 0<=lo/\0<=hi/\lo.toNat<=hi.toNat/\hi.toNat<=l.length then k ((l.drop lo.toNat).take (hi.toNat - lo.toNat)) else none
theorem pw {α β:Type} {l:List α} {lo hi:Int} {k:List α->Option β} {r:β} (h:slx l lo hi k=some r):(0<=lo/\0<=hi/\lo.toNat<=hi.toNat/\hi.toNat<=l.length)/\k ((l.drop lo.toNat).take (hi.toNat - lo.toNat))=some r:=by
 unfold slx at h;split at h
 ·rename_i hb; exact ⟨hb,h⟩
 ·simp at h
theorem yN {α:Type} (row:α->List C) (l:List α) (n:Nat):(l.map row).drop n=(l.drop n).map row:=List.map_drop.symm
theorem yD {α:Type} (row:α->List C) (l:List α) (n:Nat):(l.map row).take n=(l.take n).map row:=List.map_take.symm
theorem wx {α:Type} {row:α->List C} {l:List α} {i:Nat} {x y:α} {g:List C->List C} (hx:l[i]?=some x) (h:g (row x)=row y):(l.map row).modify i g=(l.set i y).map row:=by
 apply List.ext_getElem?;intro k;rw [gmod,List.getElem?_map,List.getElem?_map,List.getElem?_set];by_cases hk:i=k
 ·subst hk;have hlt:=(List.getElem?_eq_some_iff.1 hx).1;have he:l[i]=x:=by simpa [hlt] using hx
  simp [he,h,hlt]
 ·simp [hk]
end Go.Abs

namespace Go.Abs
structure RowOk {α:Type} (row:α->List C):Prop where
 frz:∀ x,(row x).map C.frz=row x
 ok:∀ x,(row x).all C.cellOk=true
 plain:∀ x,(row x).all plainCell=true
theorem RowOk.frzRows {α:Type} {row:α->List C} (h:RowOk row) (l:List α):Abs.frzRows (l.map row)=l.map row:=by
 simp only [Abs.frzRows,List.map_map]
 congr 1
 funext x
 exact h.frz x
theorem RowOk.all {α:Type} {row:α->List C} (h:RowOk row) (l:List α):(l.map row).all (fun r=>r.all C.cellOk)=true:=by
 simp only [List.all_map,List.all_eq_true];intro x _;exact h.ok x
theorem RowOk.allPlain {α:Type} {row:α->List C} (h:RowOk row) (l:List α):(l.map row).all (fun r=>r.all plainCell)=true:=by
 simp only [List.all_map,List.all_eq_true];intro x _;exact h.plain x
theorem va:frzRows []=[]:=rfl
theorem tU (r:List C) (rs:List (List C)):frzRows (r::rs)=r.map C.frz::frzRows rs:=rfl
theorem ef (k:IntKind):RowOk (rowI k):=⟨fun _=>rfl,fun _=>rfl,fun _=>rfl⟩
theorem fX:RowOk rowS:=⟨fun _=>rfl,fun _=>rfl,fun _=>rfl⟩
theorem vO (k:IntKind) (n:Int):rowI k n=[.val (.int k n)]:=rfl
theorem vL (b:Bool):rowB b=[.val (.bool b)]:=rfl
theorem vT (s:ByteArray):rowS s=[.val (.string s)]:=rfl
theorem vY {α:Type} (es:Nat) (row:α->List C) (l:List α):rowL es row l=[.sl false none es none (l.map row)]:=rfl
theorem bZ (k:IntKind):∀ (r:List C) (x:Int),dec1 (decI k) r=some x->LeL r (rowI k x):=fun _ _ h=>vV (row:=fun n=>.val (.int k n)) (fun _ _ h=>ag h) h
theorem js:∀ (r:List C) (x:ByteArray),dec1 decS r=some x->LeL r (rowS x):=fun _ _ h=>vV (row:=fun n=>.val (.string n)) (fun _ _ h=>bn h) h
theorem u5 {α:Type} (d:List C->Option α) (r:List C) (rs:List (List C)):dA d (r::rs)=match d r,dA d rs with
 | some x,some xs=>some (x::xs)
 | _,_=>none:=rfl
theorem yq {α:Type} (l:List α) (i n:Nat) (y:α):(l.set i y).take n=(l.take n).set i y:=by
 apply List.ext_getElem?;intro k;simp only [List.getElem?_take,List.getElem?_set,List.length_take];by_cases h2:i=k
 ·subst h2;by_cases h1:i < n
  ·by_cases h3:i < l.length
   ·have h4:i < min n l.length:=by omega
    simp only [h1,h3,h4,if_true]
   ·have h4:¬ i < min n l.length:=by omega
    simp only [h1,h3,h4,if_true,if_false]
  ·have h4:¬ i < min n l.length:=by omega
   simp only [h1,h4,if_true,if_false]
 ·simp [h2]
def apn {α β:Type} (bytes:Nat) (b:List α) (k:Option β):Option β:=if b.length * (bytes+1)<=140737488355328 then k else none
theorem pB {α β:Type} {bytes:Nat} {b:List α} {k:Option β} {r:β} (h:apn bytes b k=some r):b.length * (bytes+1)<=140737488355328/\k=some r:=by
 unfold apn at h;split at h
 ·rename_i hb; exact ⟨hb,h⟩
 ·simp at h
theorem LeLL.cons {a b:List C} {as bs:List (List C)} (h:LeL a b) (t:LeLL as bs):LeLL (a::as) (b::bs):=by
 refine ⟨by simp [t.len],?_⟩;intro i c c' h1 h2;cases i with
 | zero=>simp only [List.getElem?_cons_zero,Option.some.injEq] at h1 h2; subst h1; subst h2; exact h
 | succ i=>exact t.get i c c' (by simpa using h1) (by simpa using h2)
theorem LeLL.append {as bs as' bs':List (List C)} (h:LeLL as bs) (t:LeLL as' bs'):LeLL (as++as') (bs++bs'):=by
 refine ⟨by simp [h.len,t.len],?_⟩;intro i c c' h1 h2;by_cases hi:i < as.length
 ·rw [List.getElem?_append_left hi] at h1;rw [List.getElem?_append_left (by rw [h.len]; exact hi)] at h2;exact h.get i c c' h1 h2
 ·rw [List.getElem?_append_right (by omega)] at h1;rw [List.getElem?_append_right (by rw [h.len]; omega),h.len] at h2;exact t.get _ c c' h1 h2
theorem LeLL.mapAppend {α:Type} {row:α->List C} {as as':List (List C)} {l l':List α} (h:LeLL as (l.map row)) (t:LeLL as' (l'.map row)):LeLL (as++as') ((l++l').map row):=by
 rw [List.map_append]; exact h.append t
theorem jo:∀ c∈([]:List C),NoOwn c:=by simp
theorem iR {c:C} {cs:List C} (h:NoOwn c) (t:∀ c∈cs,NoOwn c):∀ c'∈c::cs,NoOwn c':=by
 intro c' hc;rcases List.mem_cons.1 hc with rfl|hc
 ·exact h
 ·exact t c' hc
theorem kZ:∀ c∈([]:List C),PureC c:=by simp
theorem aW {c:C} {cs:List C} (h:PureC c) (t:∀ c∈cs,PureC c):∀ c'∈c::cs,PureC c':=by
 intro c' hc;rcases List.mem_cons.1 hc with rfl|hc
 ·exact h
 ·exact t c' hc
theorem yG {α:Type} {row:α->List C} (h:∀ x,∀ c∈row x,PureC c) (l:List α):∀ r∈l.map row,∀ c∈r,PureC c:=by
 intro r hr;simp only [List.mem_map] at hr;obtain ⟨x,_,rfl⟩:=hr;exact h x
theorem yQ (k:IntKind):∀ x,∀ c∈rowI k x,PureC c:=fun x=>aW (PureC.val _) kZ
theorem yr:∀ x,∀ c∈rowS x,PureC c:=fun x=>aW (PureC.val _) kZ
@[go_sem] theorem Br (E:Env) (ts:List C) (R:Nat->C) (t k:Nat) (vs:List ResultVar):resL E ⟨ts,R⟩ (.cell t k::vs)=match E.T k with
 | some ti=>match loadC ⟨ts,R⟩ ti ((ts[t]?).getD .dead),resL E ⟨ts,R⟩ vs with
  | some c,some cs=>some (c::cs)
  | _,_=>none
 | none=>none:=by
 simp only [resL,resC];cases E.T k<;>rfl
theorem zz (c:C) (cs:List C):plainL (c::cs)=match plainR c,plainL cs with
 | some c',some cs'=>some (c'::cs')
 | _,_=>none:=rfl
theorem Le.iref1 {es j:Nat} {cs cs':List C} (h:LeL cs cs'):Le (.iref es [cs] 0 j) (.iref es [cs'] 0 j):=by
 intro w S m m' p p' d u hr;cases d with
 | zero=>exact hr.elim
 | succ d=>
  obtain ⟨b,off,arr,elem,frz,g1,g2,g3,g4,g5⟩:=hr;refine ⟨b,off,arr,elem,frz,g1,g2,g3,?_,?_⟩
  ·intro row hrow;simp only [List.mem_singleton] at hrow;subst hrow;rw [h.len];exact g4 cs (by simp)
  ·intro i' j' row c' e1 e2;cases i' with
   | succ i'=>simp at e1
   | zero=>
    simp only [List.getElem?_cons_zero,Option.some.injEq] at e1;subst e1;have hlt:j' < cs.length:=by rw [<-h.len]; exact (List.getElem?_eq_some_iff.1 e2).1
    obtain ⟨u',f1,f2⟩:=g5 0 j' cs cs[j'] rfl (by simp [hlt]);exact ⟨u',f1,h.get j' cs[j'] c' (by simp [hlt]) e2 _ _ _ _ _ _ _ _ f2⟩
end Go.Abs

namespace Go.Abs
def seOk (E:Env) (o:Oper) (st:St):Bool:=
 match bodySE E o st with
 | some e=>(e.apply st).isSome
 | none=>false
theorem zB {E:Env} {bar:Nat->Bool} {i:Nat} {o:Oper} {st:St}:okD E true bar i o st=(seOk E o st=true∨bar i=true):=by
 simp only [okD,seOk,true_implies]
 congr 1
 refine propext ⟨?_,?_⟩
 ·rintro ⟨e,s,h1,h2⟩;rw [h1]; simp [h2]
 ·intro h;split at h
  ·rename_i e he;obtain ⟨s,hs⟩:=Option.isSome_iff_exists.1 h;exact ⟨e,s,he,hs⟩
  ·simp at h
theorem eB {b:Bool} {p:Prop} (h:b=true) (k:p):b=true/\p:=⟨h,k⟩
theorem uG {α:Type} (x:α):(some x).isSome=true:=rfl
theorem uD {α:Type}:(none:Option α).isSome=false:=rfl
end Go.Abs

namespace Go.Abs
theorem lD {α:Type} {row:α->List C} {l:List α} {i:Nat} {x y:α} {rx ry:List C} {g:List C->List C} (hx:l[i]?=some x) (e1:row x=rx) (e2:row y=ry) (h:g rx=ry):(l.map row).modify i g=(l.set i y).map row:=wx hx (by rw [e1,h,e2])
theorem ua {α:Type} (l:List α) (i:Nat) (f g:α->α):(l.modify i f).modify i g=l.modify i (fun x=>g (f x)):=by
 apply List.ext_getElem?;intro k;simp only [List.getElem?_modify];cases l[k]?<;>simp
 split<;>rfl
theorem uT {α:Type} {l:List α} {i:Nat} {a b:α} (h1:l[i]?=some a) (h2:l[i]?=some b):a=b:=by rw [h1] at h2; exact Option.some.inj h2
theorem m4 {c:C} (h:plainCell c=true):NoOwn c:=by
 intro q hq;cases c with
 | sl own nl es cap rows=>
  cases own with
  | false=>cases q<;>simp [OwnAt,C.at,C.kid,C.isOwn] at hq
  | true=>simp [plainCell,C.cellOk,C.isOwn] at h
 | _=>first|(simp [plainCell,C.cellOk] at h; done)|(cases q<;>simp [OwnAt,C.at,C.kid,C.isOwn] at hq)
theorem RowOk.noOwn {α:Type} {row:α->List C} (h:RowOk row) (l:List α):∀ r∈l.map row,∀ c∈r,NoOwn c:=by
 intro r hr c hc;obtain ⟨x,_,rfl⟩:=List.mem_map.1 hr;exact m4 (List.all_eq_true.1 (h.plain x) c hc)
theorem Con_nl {P:Program} {f:FuncId} {pure:Bool} {es:Nat} {rows:List (List C)} {r:C} (hnil:rows=[]->Con P f [] pure [.val (.slice none 0 0)] r)
  (hnn:Con P f [] pure [.sl false (some false) es none rows] r):Con P f [] pure [.sl false none es none rows] r:=by
 intro w S m us hl hr hinj;obtain ⟨u,d,hu,hrel⟩:=hr 0 _ rfl;have e1:∀ (cs:List C),Owned (R0 [] cs) m=fun _=>False:=fun cs=>funext fun b=>propext ⟨fun h=>fe h,fun h=>h.elim⟩;have hinj':∀ (cs:List C),Inj (R0 [] cs) m:=by
  intro cs n p n' p' b h1;rw [qB] at h1;exact (ak h1).elim
 cases d with
 | zero=>exact hrel.elim
 | succ d=>
  obtain ⟨a,k,h1,h2,h3,h4,hz,h5,h6,h7⟩:=hrel;by_cases ha:a=none
  ·subst ha;obtain rfl:=hz.2 rfl;have hrows:rows=[]:=by
    cases rows with
    | nil=>rfl
    | cons x xs=>simp at h2
   have:=hnil hrows w S m us (by simpa using hl) (by
    intro i c hc;cases i with
    | zero=>
     simp only [List.getElem?_cons_zero,Option.some.injEq] at hc;subst hc;refine ⟨u,1,hu,?_⟩;rw [h1,hrows];rfl
    | succ i=>simp at hc) (hinj' _)
   rw [e1] at this ⊢;exact this
  ·have:=hnn w S m us (by simpa using hl) (by
    intro i c hc;cases i with
    | zero=>
     simp only [List.getElem?_cons_zero,Option.some.injEq] at hc;subst hc;refine ⟨u,d+1,hu,?_⟩;refine ⟨a,k,h1,h2,h3,h4,⟨fun b hb=>?_,hz.2⟩,h5,h6,?_⟩
     ·simp only [Option.some.injEq] at hb;subst hb;simp [ha]
     ·rw [e1] at h7 ⊢;exact h7
    | succ i=>simp at hc) (hinj' _)
   rw [e1] at this ⊢;exact this
end Go.Abs

namespace Go.Abs
theorem sm {P:Program} {f:FuncId} {fn:Func} {tS tR e:TypeId} {size:Nat} (hf:P.funcs[f]?=some fn) (hname:(fn.name == "runtime.NumGoroutine") = false)
  (hb:fn.body.isNone=true) (hn:Extern.findNext fn=none) (he:Extern.find fn=some (Extern.SlicesOverlaps.overlaps #[tS,tS] #[tR]))
  (ht:P.underlying tS=some (.slice e)) (hz0:(P.info? e).map (·.size)=some size):PeekOk P f:=by
 have hz:∀ w,(Go.sizeOf e).run P w=.ok size w:=by
  intro w;obtain ⟨i,hi,rfl⟩:=Option.map_eq_some_iff.1 hz0;simp [Go.sizeOf,typeInfo,hi]
 intro w x y la ka lb kb h;rw [run_callFunc_extern hf hname hb hn he];obtain ⟨b1,o1,arr1,e1,b2,o2,arr2,e2,rfl,rfl,h3,h4,h5,h6⟩:=h;have key:(Extern.SlicesOverlaps.overlaps #[tS,tS] #[tR] #[.slice (some ⟨b1,o1,none⟩) la ka,.slice (some ⟨b2,o2,none⟩) lb kb]).run P w=.ok (.bool false) w:=
  Go.Lib.run_overlaps_apart w tS tR e ht size hz ⟨b1,o1,none⟩ ⟨b2,o2,none⟩ la ka lb kb h3 e1 e2 arr1.size arr2.size (by simp [World.shape?,h4]) (by simp [World.shape?,h5]) h6 (by simp [World.frozen?,h4]) (by simp [World.frozen?,h4])
 rw [key];rfl
theorem RowOk.allD {α:Type} {row:α->List C} (h:RowOk row) (l:List α):(l.map row).all (fun r=>r.all plainD)=true:=by
 have:=h.allPlain l;rw [List.all_eq_true] at this ⊢;intro r hr;have:=this r hr;rw [List.all_eq_true] at this ⊢;intro c hc;simp [plainD,this c hc]
def FinO (E:Env) (vs:List ResultVar) (pure:Bool) (r:C):Exit->St->Prop:=fun e s=>(e=.ret∨e=.normal)/\∃ r0,finish E vs s=some r0/\ROk r0 r/\(∀ q,OwnAt r0 q->OwnAt r q)/\(pure=true->PureC r0)
theorem eY {E:Env} {vs:List ResultVar} {pure:Bool} {r:C} {s:St}:FinO E vs pure r .ret s=∃ r0,finish E vs s=some r0/\ROk r0 r/\(∀ q,OwnAt r0 q->OwnAt r q)/\(pure=true->PureC r0):=by simp [FinO]
theorem fp {E:Env} {vs:List ResultVar} {pure:Bool} {r:C} {s:St}:FinO E vs pure r .normal s=∃ r0,finish E vs s=some r0/\ROk r0 r/\(∀ q,OwnAt r0 q->OwnAt r q)/\(pure=true->PureC r0):=by simp [FinO]
theorem ui {nl nl':Option Bool} {es es':Nat} {cap cap':Option Nat} {rows rows':List (List C)} (h:∀ row∈rows,∀ c∈row,NoOwn c):∀ q,OwnAt (.sl true nl es cap rows) q->OwnAt (.sl true nl' es' cap' rows') q:=by
 intro q hq;cases q with
 | nil=>rfl
 | cons s q=>
  exfalso;simp only [OwnAt,C.at,C.kid] at hq;cases hr:rows[s.1]? with
  | none=>simp [hr] at hq
  | some row=>
   simp only [hr,Option.bind_some] at hq;cases hc:row[s.2]? with
   | none=>simp [hc] at hq
   | some c1=>
    simp only [hc,Option.bind_some] at hq;exact h row (List.mem_of_getElem? hr) c1 (List.mem_of_getElem? hc) q hq
theorem uf {w w':World} {S:Nat->Prop} {pure:Bool} {O:Nat->Prop} {F:Prop} {r0 r:C} {u:Value} (hok:ROk r0 r) (hkeep:∀ q,OwnAt r0 q->OwnAt r q)
  (h:∃ mr d,rel w' (fun b=>((pure=false/\S b)∨w.heap.size<=b)/\¬ Own1 r0 mr b) L0 mr true d [] r0 u ∧
   (∀ q q' b,OwnAt r0 q->OwnAt r0 q'->blk (mr q)=some b->blk (mr q')=some b->q=q') ∧
   (∀ b,Own1 r0 mr b->w.heap.size<=b∨O b)/\F) :
  ∃ mr d,rel w' (fun b=>((pure=false/\S b)∨w.heap.size<=b)/\¬ Own1 r mr b) L0 mr true d [] r u ∧
   (∀ q q' b,OwnAt r q->OwnAt r q'->blk (mr q)=some b->blk (mr q')=some b->q=q') ∧
   (∀ b,Own1 r mr b->w.heap.size<=b∨O b)/\F:=by
 obtain ⟨mr,d,h1,h2,h3,h4⟩:=h;have key:∀ q b,OwnAt r q->blk (nilM r0 mr [] q)=some b->OwnAt r0 q/\blk (mr q)=some b:=by
  intro q b hq hb;rcases hok.ownAt hq with h|h
  ·rw [lr h] at hb; exact ⟨h,hb⟩
  ·simp [nilM,h,blk] at hb
 refine ⟨nilM r0 mr [],d+1,?_,?_,?_,h4⟩
 ·refine ss (p:=[]) (p':=[]) ?_ hok d (fun q hq=>by simp) (fun q b hq hnq _=>(hnq (hkeep q hq)).elim) h1;rintro b ⟨hb,hn⟩;exact ⟨hb,fun ⟨q,hq,e⟩=>hn ⟨q,key q b hq e⟩⟩
 ·intro q q' b hq hq' e e';obtain ⟨a1,a2⟩:=key q b hq e;obtain ⟨a3,a4⟩:=key q' b hq' e';exact h2 q q' b a1 a3 a2 a4
 ·rintro b ⟨q,hq,e⟩;exact h3 b ⟨q,key q b hq e⟩
theorem sH {P:Program} {E:Env} (hT:TOk P E) (hG:GOk P E) (hmix:P.follows .mixedOrders=true) {f:FuncId} {fn:Func} {body:Code} (hf:FunOk P f fn body)
  {own:List Bool} {pure:Bool} {cs:List C} {r:C} (hn:cs.length<=fn.ntmps)
  (hW:Real (entry own cs fn.ntmps)->W E body (FinO E fn.results.toList pure r) (entry own cs fn.ntmps)):Con P f own pure cs r:=by
 intro w S m us hl hr hinj;left;have hname':¬ fn.name = "runtime.NumGoroutine" := by simpa using hf.name
 refine ⟨by simp [callFunc,hf.get,hname',hf.bd],?_⟩;have H:=rk (n:=fn.ntmps) hl hn hr hinj;refine calls_of_wp hf.get hf.bd (wp_mono (W_ok (ts:=[]) hT hG hmix body hf.ok (pY _) (hW ⟨_,_,_,m,H⟩) ⟨m,H⟩) ?_);rintro e a' w' ⟨⟨s,⟨he,r0,hfin,hrok,hkeep,hpure⟩,m',H'⟩,-⟩;have main:∃ u,(results fn a'.tmps).run P w'=.ok u w'/\Done (ctxOf w S (Owned (R0 own cs) m)) w' r0 u:=by
  unfold finish at hfin;split at hfin
  case h_2=>simp at hfin
  rename_i cs' hres;obtain ⟨us',f1,f2,f3⟩:=sL hT H' hres;refine ⟨_,ot f1,?_⟩;split at hfin
  ·rename_i rs hpl;simp only [Option.some.injEq] at hfin;subst hfin;exact mJ hT H' f2 f3 hpl
  ·split at hfin
   ·rename_i s1 kp hprep;simp only [Option.some.injEq] at hfin;subst hfin;exact oC hT H' f2 f3 hprep
   ·simp at hfin
 obtain ⟨u,hrun,hd⟩:=main;obtain ⟨mr,d,g1,g2,g3⟩:=hd.ex;have post:a'.defers=[]/\∃ v,(results fn a'.tmps).run P w'=.ok v w'/\∃ u,Ending.returned v=.returned u/\∃ mr d,rel w' (fun b=>((pure=false/\(S b∨Owned (R0 own cs) m b))∨w.heap.size<=b)/\¬ Own1 r mr b) L0 mr true d [] r u ∧
   (∀ q q' b,OwnAt r q->OwnAt r q'->blk (mr q)=some b->blk (mr q')=some b->q=q')/\(∀ b,Own1 r mr b->w.heap.size<=b∨Owned (R0 own cs) m b)/\FrK w (Owned (R0 own cs) m) w':=by
  refine ⟨H'.df,u,hrun,u,rfl,uf hrok hkeep ⟨mr,d,?_,g2,g3,⟨hd.fr.os,hd.fr.tape,hd.fr.output,hd.fr.drawn,hd.fr.size,hd.fr.block⟩⟩⟩;cases hp:pure with
  | true=>exact hpure hp w' _ _ mr d [] u g1
  | false=>exact ae (fun b _ hs=>⟨⟨hs.1.imp (fun h=>⟨rfl,h⟩) id,hs.2⟩,rfl⟩) d (fun _ _ _ h=>h) (fun _ _ _ _ _ _=>rfl) (fun _ _ _=>rfl) g1
 rcases he with rfl|rfl
 ·exact post
 ·exact post
theorem AP {nl:Option Bool} {es:Nat} {cap cap':Option Nat} {rows:List (List C)} (q:Path):OwnAt (.sl true nl es cap rows) q↔OwnAt (.sl true nl es cap' rows) q:=by
 cases q<;>rfl
theorem qI {P:Program} {f:FuncId} {own:List Bool} {pure:Bool} {nl:Option Bool} {es:Nat} {rows:List (List C)} {cs:List C} {r:C}
  (h:∀ k,rows.length<=k->k<=maxLen->Con P f (true::own) pure (.sl true nl es (some k) rows::cs) r):Con P f (true::own) pure (.sl true nl es none rows::cs) r:=by
 intro w S m us hl hr hinj;obtain ⟨u,d,hu,hrel⟩:=hr 0 _ rfl;cases d with
 | zero=>exact hrel.elim
 | succ d=>
  obtain ⟨a,k,h1,h2,h3,h4,hz,h5,h6,h7⟩:=hrel;have hR:∀ n q,OwnAt (R0 (true::own) (.sl true nl es (some k) rows::cs) n) q↔OwnAt (R0 (true::own) (.sl true nl es none rows::cs) n) q:=by
   intro n q;cases n with
   | zero=>exact AP q
   | succ n=>exact Iff.rfl
  have e1:Owned (R0 (true::own) (.sl true nl es (some k) rows::cs)) m=Owned (R0 (true::own) (.sl true nl es none rows::cs)) m:=by
   funext b
   apply propext;constructor
   ·rintro ⟨n,p,g1,g2⟩; exact ⟨n,p,(hR n p).1 g1,g2⟩
   ·rintro ⟨n,p,g1,g2⟩; exact ⟨n,p,(hR n p).2 g1,g2⟩
  have:=h k h2 h3 w S m us (by simpa using hl) (by
   intro i c hc;rw [e1];cases i with
   | zero=>
    simp only [List.getElem?_cons_zero,Option.some.injEq] at hc;subst hc;exact ⟨u,d+1,hu,a,k,h1,h2,h3,fun c hc=>by simpa using hc,hz,h5,h6,h7⟩
   | succ i=>exact hr (i+1) c (by simpa using hc)) (fun n p n' p' b g1 g2 g3 g4=>hinj n p n' p' b ((hR n p).1 g1) ((hR n' p').1 g2) g3 g4)
  rw [e1] at this;exact this
theorem sE (A B:List (List C)):frzRows (A++B)=frzRows A++frzRows B:=by simp [frzRows]
theorem oA (n es:Nat):frzRows (List.replicate n (List.replicate es C.dead))=List.replicate n (List.replicate es C.dead):=by simp [frzRows,C.frz]
def aY (A:List (List C)):Prop:=frzRows A=A/\(A.all fun r=>r.all plainD)=true
theorem dO {α:Type} {row:α->List C} (h:RowOk row) (l:List α):aY (l.map row):=⟨h.frzRows l,h.allD l⟩
theorem eD {A B:List (List C)} (h1:aY A) (h2:aY B):aY (A++B):=⟨by rw [sE,h1.1,h2.1],by rw [List.all_append,h1.2,h2.2]; rfl⟩
theorem tZ {A:List (List C)} (h:aY A) (n:Nat):aY (A.take n):=by
 refine ⟨by have:=h.1; unfold frzRows at this ⊢; rw [List.map_take,this],?_⟩;have:=h.2;rw [List.all_eq_true] at this ⊢;exact fun r hr=>this r (List.mem_of_mem_take hr)
theorem uX {A:List (List C)} (h:aY A) (n:Nat):aY (A.drop n):=by
 refine ⟨by have:=h.1; unfold frzRows at this ⊢; rw [List.map_drop,this],?_⟩;have:=h.2;rw [List.all_eq_true] at this ⊢;exact fun r hr=>this r (List.mem_of_mem_drop hr)
theorem mO (n es:Nat):aY (List.replicate n (List.replicate es C.dead)):=by
 refine ⟨oA n es,?_⟩;rw [List.all_eq_true];intro r hr;rw [List.eq_of_mem_replicate hr,List.all_eq_true];intro c hc;rw [List.eq_of_mem_replicate hc];rfl
theorem dN {A B:List (List C)} {n:Nat} (h1:aY A) (h2:aY B):aY (ar A n B):=
 eD (eD (tZ h1 n) h2) (uX h1 _)
theorem mR (n:Nat) (vs:List Value) (h:∀ v∈vs,v.oneCell'=true):aY (List.replicate n (vs.map C.val)):=by
 refine ⟨by simp [frzRows,C.frz],?_⟩;rw [List.all_eq_true];intro r hr;rw [List.eq_of_mem_replicate hr,List.all_eq_true];intro c hc;obtain ⟨v,hv,rfl⟩:=List.mem_map.1 hc;simp [plainD,isDead,Abs.plainCell,C.cellOk,C.isOwn,h v hv]
theorem rv {A:List (List C)} {D r:List C} {i n:Nat} (hn:A.length=n) (hi:i<=n) :
  ar (ar (A++[D]) (i+1) (((A++[D]).drop i).take (n - i))) i [r]=A.take i++[r]++A.drop i:=by
 have e1:((A++[D]).drop i).take (n - i)=A.drop i:=by
  rw [List.drop_append,show i - A.length=0 by omega,List.drop_zero,List.take_append,List.take_of_length_le (by simp; omega),show n - i - (A.drop i).length=0 by simp; omega];simp
 rw [e1];unfold ar;have hd:(A.drop i).length=n - i:=by simp [hn]
 have e2:(A++[D]).take (i+1)=A.take i++((A++[D]).drop i).take 1:=by
  rw [List.take_add]
  congr 1
  rw [List.take_append,show i - A.length=0 by omega];simp
 have l1:(((A++[D]).drop i).take 1).length=1:=by simp [hn]; omega
 have l0:(A.take i).length=i:=by simp [hn]; omega
 have e3:(A++[D]).drop (i+1+(A.drop i).length)=[]:=by
  apply List.drop_eq_nil_of_le;simp [hn]; omega
 rw [e3,List.append_nil,e2];have e4:(A.take i++((A++[D]).drop i).take 1++A.drop i).take i=A.take i:=by
  rw [List.append_assoc,List.take_append,l0,Nat.sub_self,List.take_zero,List.append_nil,List.take_of_length_le (by omega)]
 have e5:(A.take i++((A++[D]).drop i).take 1++A.drop i).drop (i+[r].length)=A.drop i:=by
  rw [List.drop_append,show (List.take i A++List.take 1 (List.drop i (A++[D]))).length=i+1 by rw [List.length_append,l0,l1]];rw [List.drop_eq_nil_of_le (by rw [List.length_append,l0,l1]; simp)];simp
 rw [e4,e5]
theorem si {A Z:List (List C)} {r:List C} {i n:Nat} (hn:A.length=n) (hi:i<=n) (hz:Z.length=n+1 - i) :
  ar (ar (A.take i++Z) i [r]) (i+1) (A.drop i)=A.take i++[r]++A.drop i:=by
 have l0:(A.take i).length=i:=by simp [hn]; omega
 have e1:ar (A.take i++Z) i [r]=A.take i++[r]++Z.drop 1:=by
  unfold ar;rw [List.take_append,l0,Nat.sub_self,List.take_zero,List.append_nil,List.take_of_length_le (by omega)]
  congr 1
  rw [List.drop_append,l0,List.drop_eq_nil_of_le (by simp [l0]),List.nil_append]
  congr 1
  simp
 rw [e1];unfold ar;have l2:(A.take i++[r]).length=i+1:=by simp [l0]
 rw [List.take_append,l2,Nat.sub_self,List.take_zero,List.append_nil,List.take_of_length_le (by omega)];have l3:(A.drop i).length=n - i:=by simp [hn]
 have l4:(A.take i++[r]++Z.drop 1).length=i+1+(n - i):=by rw [List.length_append,l2,List.length_drop,hz]; omega
 have e5:(A.take i++[r]++Z.drop 1).drop (i+1+(A.drop i).length)=[]:=List.drop_eq_nil_of_le (by rw [l4,l3]; omega);rw [e5,List.append_nil]
theorem jA {α:Type} {row:α->List C} (hrow:RowOk row) {nl:Option Bool} {es:Nat} {cap:Option Nat} {rows:List (List C)} {l:List α} (e:rows=l.map row) :
  ∃ r0,some (C.sl true nl es cap rows)=some r0/\ROk r0 (.sl true none es none (l.map row))/\(∀ q,OwnAt r0 q->OwnAt (.sl true none es none (l.map row)) q):=by
 subst e;exact ⟨_,rfl,ROk.own (LeLL.refl _) (hrow.noOwn l),ui (hrow.noOwn l)⟩
end Go.Abs

namespace Go.Abs
theorem R0_at (own:List Bool) (cs:List C) (n:Nat):R0 own cs n=if own.getD n false then (cs[n]?).getD .dead else .dead:=rfl
theorem Con.argsO {P:Program} {f:FuncId} {own:List Bool} {pure:Bool} {cs cs':List C} {r:C} (h:Con P f own pure cs' r) (hlen:cs'.length=cs.length)
  (hle:∀ (i:Nat) (c c':C),cs[i]?=some c->cs'[i]?=some c'->if own.getD i false=true then ROk c c'/\(∀ q,OwnAt c q->OwnAt c' q) else Le c c'):Con P f own pure cs r:=by
 intro w S m us hl hr hinj;have both:∀ i,i < cs.length->cs[i]?=some (cs[i]?.getD .dead)/\cs'[i]?=some (cs'[i]?.getD .dead):=by
  intro i hi;have hi':i < cs'.length:=by omega
  simp [hi,hi']
 obtain ⟨m',hm'⟩:∃ m':Nat->Path->Value,m'=fun i=>if own.getD i false then nilM (cs[i]?.getD .dead) (m i) [] else m i:=⟨_,rfl⟩
 have key1:∀ n q b,OwnAt (R0 own cs' n) q->blk (m' n q)=some b->OwnAt (R0 own cs n) q/\blk (m n q)=some b:=by
  intro n q b hq hb;rw [R0_at] at hq ⊢;rw [hm'] at hb;by_cases ho:own.getD n false=true
  ·simp only [ho,if_true] at hq hb ⊢;by_cases hn:n < cs.length
   ·obtain ⟨e1,e2⟩:=both n hn;have hh:=hle n _ _ e1 e2;rw [if_pos ho] at hh;rcases hh.1.ownAt hq with h1|h1
    ·rw [lr h1] at hb; exact ⟨h1,hb⟩
    ·simp [nilM,h1,blk] at hb
   ·have:cs'[n]?=none:=by simp; omega
    rw [this] at hq;exact (ak hq).elim
  ·simp only [ho] at hq;exact (ak hq).elim
 have key2:∀ n q b,OwnAt (R0 own cs n) q->blk (m n q)=some b->OwnAt (R0 own cs' n) q/\blk (m' n q)=some b:=by
  intro n q b hq hb;rw [R0_at] at hq ⊢;rw [hm'];by_cases ho:own.getD n false=true
  ·simp only [ho,if_true] at hq ⊢;by_cases hn:n < cs.length
   ·obtain ⟨e1,e2⟩:=both n hn;have hh:=hle n _ _ e1 e2;rw [if_pos ho] at hh;exact ⟨hh.2 q hq,by rw [lr hq]; exact hb⟩
   ·have:cs[n]?=none:=by simp; omega
    rw [this] at hq;exact (ak hq).elim
  ·simp only [ho] at hq;exact (ak hq).elim
 have eO:Owned (R0 own cs') m'=Owned (R0 own cs) m:=by
  funext b
  apply propext;constructor
  ·rintro ⟨n,p,g1,g2⟩; obtain ⟨f1,f2⟩:=key1 n p b g1 g2; exact ⟨n,p,f1,f2⟩
  ·rintro ⟨n,p,g1,g2⟩; obtain ⟨f1,f2⟩:=key2 n p b g1 g2; exact ⟨n,p,f1,f2⟩
 have:=h w S m' us (by rw [hl,hlen]) (by
  intro i c' hc;have hlt:i < cs.length:=by rw [<-hlen]; exact (List.getElem?_eq_some_iff.1 hc).1
  obtain ⟨e1,e2⟩:=both i hlt;obtain ⟨u,d,h1,h2⟩:=hr i _ e1;have hh:=hle i _ c' e1 hc;rw [eO];by_cases ho:own.getD i false=true
  ·rw [if_pos ho] at hh;rw [ho] at h2 ⊢;refine ⟨u,d+1,h1,ss (m:=m i) (m':=m' i) (p:=[]) (p':=[]) (fun b hb=>hb) hh.1 d (fun q hq=>?_) (fun q b hq hnq _=>(hnq (hh.2 q hq)).elim) h2⟩;rw [hm'];simp only [ho,if_true,List.nil_append]
  ·rw [if_neg ho] at hh;have ho':own.getD i false=false:=by simpa using ho
   rw [ho'] at h2 ⊢;exact ⟨u,d,h1,hh w _ (m i) (m' i) [] [] d u h2⟩) (fun n p n' p' b g1 g2 g3 g4=>hinj n p n' p' b (key1 n p b g1 g3).1 (key1 n' p' b g2 g4).1 (key1 n p b g1 g3).2 (key1 n' p' b g2 g4).2)
 rw [eO] at this;exact this
def decO {α:Type} (es:Nat) (d:List C->Option α):C->Option (List α)
 | .sl true _ es' _ rows=>if es'=es/\(rows.all fun r=>r.all Abs.plainCell)=true then dA d rows else none
 | .val (.slice none 0 0)=>some []
 | _=>none
theorem AB {α:Type} (es:Nat) (d:List C->Option α) (nl:Option Bool) (cap:Option Nat) (rows:List (List C)):decO es d (.sl true nl es cap rows)=if (rows.all fun r=>r.all Abs.plainCell)=true then dA d rows else none:=by
 simp only [decO,true_and]
theorem zk {α:Type} (es:Nat) (d:List C->Option α):decO es d (.val (.slice none 0 0))=some []:=rfl
theorem iZ {α:Type} {es:Nat} {d:List C->Option α} {row:α->List C} (hrow:RowOk row) (hd:∀ r x,d r=some x->LeL r (row x)) {c:C} {l:List α} (h:decO es d c=some l) :
  ROk c (.sl true none es none (l.map row))/\(∀ q,OwnAt c q->OwnAt (.sl true none es none (l.map row)) q):=by
 unfold decO at h;split at h
 ·rename_i nl es' cap rows;split at h
  ·rename_i hc;obtain ⟨rfl,hc⟩:=hc;refine ⟨ROk.own (rT hd h) (hrow.noOwn l),ui ?_⟩;intro r hr c hcm;rw [List.all_eq_true] at hc;exact m4 (List.all_eq_true.1 (hc r hr) c hcm)
  ·simp at h
 ·simp only [Option.some.injEq] at h;subst h;refine ⟨ROk.nil es,?_⟩;intro q hq;cases q<;>simp [OwnAt,C.at,C.kid,C.isOwn] at hq
 ·simp at h
theorem j5 {own:List Bool}:∀ (i:Nat) (c c':C),([]:List C)[i]?=some c->([]:List C)[i]?=some c'->if own.getD i false=true then ROk c c'/\(∀ q,OwnAt c q->OwnAt c' q) else Le c c':=by simp
theorem fW {own:List Bool} {c0 c0':C} {cs cs':List C} (h:ROk c0 c0'/\(∀ q,OwnAt c0 q->OwnAt c0' q))
  (t:∀ (i:Nat) (c c':C),cs[i]?=some c->cs'[i]?=some c'->if own.getD i false=true then ROk c c'/\(∀ q,OwnAt c q->OwnAt c' q) else Le c c') :
  ∀ (i:Nat) (c c':C),(c0::cs)[i]?=some c->(c0'::cs')[i]?=some c'->if (true::own).getD i false=true then ROk c c'/\(∀ q,OwnAt c q->OwnAt c' q) else Le c c':=by
 intro i c c' h1 h2;cases i with
 | zero=>simp only [List.getElem?_cons_zero,Option.some.injEq] at h1 h2; subst h1; subst h2; simpa using h
 | succ i=>simpa using t i c c' (by simpa using h1) (by simpa using h2)
theorem kY {own:List Bool} {c0 c0':C} {cs cs':List C} (h:Le c0 c0')
  (t:∀ (i:Nat) (c c':C),cs[i]?=some c->cs'[i]?=some c'->if own.getD i false=true then ROk c c'/\(∀ q,OwnAt c q->OwnAt c' q) else Le c c') :
  ∀ (i:Nat) (c c':C),(c0::cs)[i]?=some c->(c0'::cs')[i]?=some c'->if (false::own).getD i false=true then ROk c c'/\(∀ q,OwnAt c q->OwnAt c' q) else Le c c':=by
 intro i c c' h1 h2;cases i with
 | zero=>simp only [List.getElem?_cons_zero,Option.some.injEq] at h1 h2; subst h1; subst h2; simpa using h
 | succ i=>simpa using t i c c' (by simpa using h1) (by simpa using h2)
theorem z7 (k:Nat) (R:Nat->C) (n:Nat) (c:C):clr k (upd R n c)=if H0<=n/\n < H0+k then clr k R else upd (clr k R) n c:=by
 funext x
 split
 ·rename_i h;simp only [clr,upd];split
  ·rfl
  ·split
   ·rename_i h1 h2; subst h2; exact (h1 h).elim
   ·rfl
 ·rename_i h;simp only [clr,upd];by_cases hx:x=n
  ·subst hx; simp [h]
  ·simp [hx]
theorem clr_RZ (k:Nat):clr k RZ=RZ:=by funext x; simp [clr,RZ]
def insM {α β:Type} (bytes:Nat) (l:List α) (i:Int) (v:List α) (k:List α->Option β):Option β:=
 if 0<=i/\i<=l.length/\v.length=1/\(l.length+1) * (bytes+1)<=140737488355328 then k (l.take i.toNat++v++l.drop i.toNat) else none
theorem lS {α β:Type} {bytes:Nat} {l:List α} {i:Int} {v:List α} {k:List α->Option β} {r:β} (h:insM bytes l i v k=some r) :
  ∃ (n:Nat) (x:α),i=(n:Int)/\v=[x]/\n<=l.length/\(l.length+1) * (bytes+1)<=140737488355328/\k (l.take n++[x]++l.drop n)=some r:=by
 unfold insM at h;split at h
 ·rename_i hc;obtain ⟨h1,h2,h3,h4⟩:=hc
  match v,h3 with
  | [x],_=>exact ⟨i.toNat,x,by omega,rfl,by omega,h4,h⟩
 ·simp at h
theorem yj {α β:Type} (l:List α) (f:α->β) (x:β):List.take (l.length+1) (l.map f++[x])=l.map f++[x]:=List.take_of_length_le (by simp)
end Go.Abs

namespace Go.Abs
theorem At (g:Nat->Path->Bool) (cs:List C):poi g (.agg cs)=if cs.any (C.ment g 2)=true then .dead else .agg cs:=rfl
theorem Ae (g:Nat->Path->Bool) (cs:List C):poi g (.tup cs)=if cs.any (C.ment g 2)=true then .dead else .tup cs:=rfl
end Go.Abs

namespace Go.Abs
open Go.ChangeShapes Go.WideShapes Go.ChangeAt Go.RowKit
def RowRel (w:World) (cs:List Value) (r:List C):Prop:=r.length=cs.length/\∃ d,∀ (j:Nat) (c:C),r[j]?=some c->∃ u,cs[j]?=some u/\rel w (fun _=>True) L0 dm false d [] c u
def Sz (P:Program) {H:Type} (t:TypeId) (d:DataW H):Prop:=∀ n∈d.weights P t,n<=140737488351232
theorem sz_arg {P:Program} {H:Type} {ts:List TypeId} {ds:List (DataW H)} (h:(DataW.weightsEach P ts ds).all (·<=reachBytes)=true) {j:Nat} {t:TypeId} {d:DataW H} (ht:ts[j]?=some t) (hd:ds[j]?=some d):Sz P t d:=by
 intro n hn;have:=List.all_eq_true.1 h _ (DataW.weights_mem_each ht hd n hn);exact of_decide_eq_true this
def Opens (P:Program) (t:TypeId) {α:Type} (row:α->List C) (wf:α->Prop):Prop:=
 ∀ (H:Type) (enc:TypeId × Value->H) (w:World) (base:Nat) (spare:Nat->Bool) (held:Bool) (fuel:Nat) (cs:List Value) (x:DataW H × List MemPlace),
  DataW.trod enc P w base spare held fuel t cs=some x->Sz P t x.1->∃ y:α,wf y/\RowRel w cs (row y)
theorem wS {w:World} {c:C} {u:Value} {d:Nat} (h:rel w (fun _=>True) L0 dm false d [] c u):RowRel w [u] [c]:=by
 refine ⟨rfl,d,?_⟩;intro j c' hj;cases j with
 | zero=>simp only [List.getElem?_cons_zero,Option.some.injEq] at hj; subst hj; exact ⟨u,rfl,h⟩
 | succ j=>simp at hj
theorem tl {P:Program} {t:TypeId} {k:IntKind} (ht:P.underlying t=some (.int k)):Opens P t (rowI k) (fun n=>(Lit.int k n).wf=true):=by
 intro H enc w base spare held fuel cs x h _;obtain ⟨n,rfl,_,hw⟩:=DataW.trod_int ht h;exact ⟨n,hw,wS (d:=1) rfl⟩
end Go.Abs

namespace Go.Abs
open Go.ChangeShapes Go.WideShapes Go.ChangeAt Go.RowKit
theorem FrK.below {W W':World} (h:FrK W (fun _=>False) W'):Below W.heap.size W W':=⟨h.os,h.tape,h.output,h.size,fun b hb=>h.block b hb id⟩
theorem u7 {P:Program} {f:FuncId} {fn:Func} {body:Code} {pure:Bool} {cs:List C} {us:List Value} {W:World} (hf:FunOk P f fn body) (hcon:Con P f [] pure cs (.val (.bool true))) (hlen:us.length=cs.length)
  (hrel:∀ (i:Nat) (c:C),cs[i]?=some c->∃ u d,us[i]?=some u/\rel W (fun _=>True) L0 dm false d [] c u) :
  Calls P f us.toArray W fun e W'=>e=.returned (.bool true)/\FrK W (fun _=>False) W':=by
 have e1:Owned (R0 [] cs) (fun _=>dm)=fun _=>False:=funext fun b=>propext ⟨fun h=>fe h,fun h=>h.elim⟩;have hd:=hcon W (fun _=>True) (fun _=>dm) us hlen (by
  intro i c hc;obtain ⟨u,d,h1,h2⟩:=hrel i c hc;refine ⟨u,d,h1,?_⟩;rw [e1];simp only [List.getD_nil];exact ae (fun b _ _=>⟨⟨trivial,id⟩,rfl⟩) d (fun _ _ _ h=>h) (fun h=>by simp at h) (fun h=>by simp at h) h2) (by
  intro n p n' p' b h1;rw [qB] at h1;exact (ak h1).elim)
 have hname':¬ fn.name = "runtime.NumGoroutine" := by simpa using hf.name
 have henter:(callFunc f us.toArray).run P W=.ok (.enter f us.toArray) W:=by simp [callFunc,hf.get,hname',hf.bd]
 rcases hd with ⟨_,h⟩|⟨u,w',h,_⟩
 ·refine h.mono ?_;rintro e W' ⟨u,rfl,mr,d,h1,_,_,h4⟩;rw [e1] at h4;refine ⟨?_,h4⟩;cases d with
  | zero=>exact h1.elim
  | succ d=>
   have:u=.bool true:=h1;rw [this]
 ·rw [henter] at h;cases h
theorem pM {H:Type} {enc:TypeId × Value->H} {P:Program} (hl:laidOutB P=true) {W W':World} (hb:Below W.heap.size W W'):∀ {ts:List TypeId} {vs:List Value} {ds:List (DataW H)} {ps:List MemPlace},
  (∀ t∈ts,P.readableRec t=true/\t < P.types.size)->DataW.TrodAll enc P W 0 (fun _=>true) true ts vs ds ps->(∀ x∈ps,x.block < W.heap.size)->DataW.TrodAll enc P W' 0 (fun b=>decide (b < W.heap.size)) true ts vs ds ps
 | [],[],[],_,_,h,_=>h
 | t::ts,v::vs,d::ds,ps,ht,h,hlt=>by
  obtain ⟨p,q,h1,h2,rfl⟩:=h;exact ⟨p,q,Below.trod hl (ht t (by simp)).1 (ht t (by simp)).2 h1 hb (fun x hx=>hlt x (by simp [hx])),pM hl hb (fun t' h'=>ht t' (by simp [h'])) h2 (fun x hx=>hlt x (by simp [hx])),rfl⟩
theorem FrK.kept {W W':World} (h:FrK W (fun _=>False) W') (may:MemPlace->Prop):W.keptBut W' may:=by
 refine ⟨h.os,h.output,fun i hi=>?_⟩;rw [h.block i hi id];split
 ·rename_i c t fr c' t' fr' e1 e2;rw [e1] at e2;cases e2;exact ⟨rfl,rfl,rfl,fun _ _=>rfl⟩
 ·rename_i es cl es' cl' e1 e2;rw [e1] at e2;cases e2;exact .inr ⟨rfl,rfl⟩
 ·rfl
theorem zr {H:Type} {enc:TypeId × Value->H} {P:Program} {f:Func} {s:ChangeSpec} {W W':World} {args:Array Value} {ds gs:List (DataW H)} {before:List MemPlace} {tb:TypeId}
  (hl:laidOutB P=true) (hts:∀ t∈f.params.toList,P.readableRec t=true/\t < P.types.size) (hrt:f.resultTypes=#[tb]) (htb:P.underlying tb=some .bool)
  (hv:s.vars=[]) (hs:s.fn H (ds++gs)={ results:=[.lit (.bool true)],args:=ds++gs })
  (hW:DataW.Whole enc P f.params.toList s.vars false W args.toList ds gs before) (hfr:FrK W (fun _=>False) W'):s.post enc P f false true false false W args (.bool true) W':=by
 have hlt:=hW.lt;have hW':=hW;obtain ⟨p,q,hA,hV,rfl,_,_⟩:=hW;rw [hv] at hV;obtain ⟨rfl,rfl⟩:=trodVars_none hV;simp only [List.append_nil] at hs hlt hW';have hgs:(([]:List (DataW H))=[]):=rfl;refine ⟨ds,[],p,[],p,[],hW',?_,?_,?_,hfr.kept _,by simp⟩
 ·rw [List.append_nil,hs,hrt];exact trodAll_cons_mk (shut_bool htb _) trodAll_mk0
 ·rw [List.append_nil,hs];exact pM hl hfr.below hts hA hlt
 ·rw [List.append_nil,hs,hv];rfl
theorem vP {w:World} {v:Value} {c:C} (hc:v.cells=#[v]) (h:RowRel w v.cells.toList [c]):∃ d,rel w (fun _=>True) L0 dm false d [] c v:=by
 obtain ⟨_,d,h⟩:=h;obtain ⟨u,h1,h2⟩:=h 0 c rfl;rw [hc] at h1;simp only [List.getElem?_cons_zero,Option.some.injEq] at h1;subst h1;exact ⟨d,h2⟩
theorem zQ {w:World} {us:List Value}:∀ (i:Nat) (c:C),([]:List C)[i]?=some c->∃ u d,us[i]?=some u/\rel w (fun _=>True) L0 dm false d [] c u:=by simp
theorem ta {w:World} {c0:C} {u0:Value} {cs:List C} {us:List Value} (h:∃ d,rel w (fun _=>True) L0 dm false d [] c0 u0) (t:∀ (i:Nat) (c:C),cs[i]?=some c->∃ u d,us[i]?=some u/\rel w (fun _=>True) L0 dm false d [] c u) :
  ∀ (i:Nat) (c:C),(c0::cs)[i]?=some c->∃ u d,(u0::us)[i]?=some u/\rel w (fun _=>True) L0 dm false d [] c u:=by
 intro i c hc;cases i with
 | zero=>
  simp only [List.getElem?_cons_zero,Option.some.injEq] at hc;subst hc;obtain ⟨d,h⟩:=h;exact ⟨u0,d,rfl,h⟩
 | succ i=>exact t i c (by simpa using hc)
end Go.Abs

namespace Go.Abs
attribute [go_sem] St.move yB Ad zS sB AN gF Ag Ai y5
attribute [go_sem] poi_sl zN zh Ac poiAt leafC H0 List.getElem?_toArray Option.bind_some Option.bind_none List.map_cons List.map_nil
attribute [go_sem] fc lenC capC binC strBin intBin unC convC negIf bw eqCell eL
attribute [go_sem] indexC gT fieldC loadC packC pickC rf qh natC iL sliceC buildQ
attribute [go_sem] buildC setAt eH iI ir chunks sr fI St.fresh allocX boxX storeX dL iG
attribute [go_sem] C.oneC isDead St.node C.at C.kid Bool.false_eq_true List.length_map List.getElem?_cons_zero List.getElem?_cons_succ List.drop_zero List.drop_succ_cons List.drop_nil
attribute [go_sem] List.take_succ_cons List.take_zero List.take_nil List.length_cons List.length_nil List.all_cons List.all_nil List.any_cons List.any_nil C.cellOk Value.oneCell' Bool.and_self
attribute [go_sem] Bool.and_true Bool.true_and Bool.or_false Bool.false_or ek viewC decide_true decide_false Bool.not_true Bool.not_false Bool.not_not false_implies
attribute [go_sem] true_implies true_and and_true and_self C.turn List.modify_cons List.getElem?_map Option.map_some Option.map_none if_true if_false C.frz
attribute [go_sem] List.nil_append List.cons_append List.append_nil List.set_cons_zero List.set_cons_succ Int.ofNat_lt Int.natCast_nonneg Int.toNat_natCast Option.getD_some Option.getD_none Nat.zero_add Nat.add_zero
attribute [go_sem] m6 kh m3 dropsL pe St.drop List.contains_cons List.contains_nil List.elem_cons List.elem_nil
attribute [go_sem] appX jL j7 iz jE adopt grown eC callX snaps snap snap0 snapL
attribute [go_sem] bindX ownD viewD mapI gb eZ List.replicate Option.isNone_some Option.isSome_some ne_eq not_true_eq_false not_false_eq_true
attribute [go_sem] Nat.succ_ne_self List.map_append List.length_append gmod yN yD List.take_length List.isEmpty_cons gl iv iw ja
attribute [go_sem] zD vy u5 dec1 undef yq Array.size_empty List.size_toArray preJ beq_self_eq_true Bool.and_false
attribute [go_sem] Bool.false_and Nat.lt_irrefl false_and and_false true_or or_true false_or or_false or_self Go.Abs.plainCell C.isOwn va
attribute [go_sem] tU zB seOk bodySE callSE callTo boxSE kr jY gm SE.apply uG uD Int.toNat_zero
attribute [go_sem] y9 zz plainR leaves List.flatMap_cons List.flatMap_nil dK prep1 dp reb1 List.mapIdx_cons
attribute [go_sem] List.mapIdx_nil
attribute [go_sem] qD bV bI C.ment Ae At leaves List.flatMap_cons List.flatMap_nil dK prep1 dp reb1 List.mapIdx_cons List.mapIdx_nil List.singleton_append Nat.succ_eq_add_one z7 clr_RZ inter AB zk
attribute [go_sem] ua
attribute [go_sem] mkX makeX
attribute [go_sem] aj extOf roomS Ext.all
attribute [go_sem] shiftC fD St.plug Bool.or_true Bool.true_or Nat.le_refl yj
attribute [go_sem] strQ rowsC bytesC byteC
end Go.Abs

namespace Go.Abs
attribute [go_sem] List.length_set
section
variable {E:Env} {Q:Exit->St->Prop} {st:St} {K:List Fm}
instance {e:Exit}:Pop (ap E Q [] e st) (Q e st):=⟨zL⟩
instance {J:St->Prop}:Pop (ap E Q (.lp J::K) .normal st) (J st):=⟨z5⟩
class PopS (A:Prop) (B:outParam Prop):Prop where
 h:B->A
instance (priority:=low) (A:Prop):PopS A A:=⟨id⟩
instance {A B D:Prop} [p:Pop A B] [q:PopS B D]:PopS A D:=⟨fun h=>p.pop (q.h h)⟩
theorem pp {A B:Prop} [p:PopS A B] (h:B):A:=p.h h
end
class PureI (c:C):Prop where
 h:PureC c
class PureIL (l:List C):Prop where
 h:∀ c∈l,PureC c
instance (v:Value):PureI (.val v):=⟨PureC.val v⟩
instance (l:List C) [PureIL l]:PureI (.tup l):=⟨PureC.tup PureIL.h⟩
instance (l:List C) [PureIL l]:PureI (.agg l):=⟨PureC.agg PureIL.h⟩
instance:PureIL []:=⟨kZ⟩
instance (c:C) (l:List C) [PureI c] [PureIL l]:PureIL (c::l):=⟨aW PureI.h PureIL.h⟩
class PureRI {α:Type} (row:α->List C):Prop where
 h:∀ x,∀ c∈row x,PureC c
instance (k:IntKind):PureRI (rowI k):=⟨yQ k⟩
instance:PureRI rowS:=⟨yr⟩
class PureIR (l:List (List C)):Prop where
 h:∀ row∈l,∀ c∈row,PureC c
instance {α:Type} (row:α->List C) (l:List α) [h:PureRI row]:PureIR (l.map row):=⟨yG h.h l⟩
instance (nl:Option Bool) (es:Nat) (cap:Option Nat) (rows:List (List C)) [h:PureIR rows]:PureI (.sl true nl es cap rows):=⟨PureC.sl h.h⟩
class RowI {α:Type} (row:α->List C):Prop where
 ok:RowOk row
class NoIR (l:List (List C)):Prop where
 h:∀ row∈l,∀ c∈row,NoOwn c
instance {α:Type} (row:α->List C) (l:List α) [h:RowI row]:NoIR (l.map row):=⟨h.ok.noOwn l⟩
class LeI (a b:C):Prop where
 h:Le a b
class LeIL (a b:List C):Prop where
 h:LeL a b
class LeIR (a b:List (List C)):Prop where
 h:LeLL a b
instance (priority:=high) (a:C):LeI a a:=⟨Le.refl a⟩
instance:LeIL [] []:=⟨LeL.nil⟩
instance (a b:C) (as bs:List C) [LeI a b] [LeIL as bs]:LeIL (a::as) (b::bs):=⟨LeL.cons LeI.h LeIL.h⟩
instance (priority:=high) (a:List (List C)):LeIR a a:=⟨LeLL.refl a⟩
instance (o o':Bool) (nl:Option Bool) (es:Nat) (cap:Option Nat) (rows rows':List (List C)) [h:LeIR rows rows']:LeI (.sl o nl es cap rows) (.sl o' none es none rows'):=⟨Le.sl h.h⟩
class RokI (a b:C):Prop where
 h:ROk a b
class RokL (as bs:List C):Prop where
 len:bs.length=as.length
 h:∀ (i:Nat) (a b:C),as[i]?=some a->bs[i]?=some b->ROk a b
instance (priority:=high) (a:C):RokI a a:=⟨ROk.refl a⟩
instance:RokL [] []:=⟨rfl,kj⟩
instance (a b:C) (as bs:List C) [h:RokI a b] [t:RokL as bs]:RokL (a::as) (b::bs):=⟨by simp [t.len],jw h.h t.h⟩
instance (as bs:List C) [h:RokL as bs]:RokI (.agg as) (.agg bs):=⟨ROk.agg h.len h.h⟩
instance (as bs:List C) [h:RokL as bs]:RokI (.tup as) (.tup bs):=⟨ROk.tup h.len h.h⟩
instance (es:Nat):RokI (.val (.slice none 0 0)) (.sl true none es none []):=⟨ROk.nil es⟩
instance (es:Nat):RokI (.val (.slice none 0 0)) (.sl false none es none []):=⟨ROk.of _ Le.nils (NoOwn.sl _ _ _ _)⟩
instance (o:Bool) (nl:Option Bool) (es:Nat) (cap:Option Nat) (rows rows':List (List C)) [h:LeIR rows rows']:RokI (.sl o nl es cap rows) (.sl false none es none rows'):=⟨ROk.of _ (Le.sl h.h) (NoOwn.sl _ _ _ _)⟩
instance (nl:Option Bool) (es:Nat) (cap:Option Nat) (rows rows':List (List C)) [h:LeIR rows rows'] [n:NoIR rows']:RokI (.sl true nl es cap rows) (.sl true none es none rows'):=⟨ROk.own h.h n.h⟩
def glist:List (Nat × Nat × FnS)->Nat->Nat->Option FnS
 | [],_,_=>none
 | (d0,f0,fs)::l,d,f=>if d=d0/\f=f0 then some fs else glist l d f
def flist:List (Nat × Bool)->Nat->Option Bool
 | [],_=>none
 | (d0,b)::l,d=>if d=d0 then some b else flist l d
def GL (P:Program) (L:List (Nat × Nat × FnS)):Prop:=∀ d f fs,glist L d f=some fs->FSOk P f fs
theorem gn {P:Program}:GL P []:=fun d f fs h=>by cases h
theorem gc {P:Program} (d0:Nat) {f0:Nat} {fs0:FnS} {L:List (Nat × Nat × FnS)} (h0:FSOk P f0 fs0) (h:GL P L):GL P ((d0,f0,fs0)::L):=by
 intro d f fs hf;simp only [glist] at hf;split at hf
 ·rename_i hc;obtain ⟨rfl,rfl⟩:=hc;cases hf;exact h0
 ·exact h d f fs hf
@[reducible] def EE (P:Program) (G:Nat->Nat->Option FnS) (F:List (Nat × Bool)) (L:Nat->Nat->Option FnL):Env:={ T:=tiOf P,G:=G,F:=flist F,L:=L }
theorem EE_T (P:Program) (G:Nat->Nat->Option FnS) (F:List (Nat × Bool)) (L:Nat->Nat->Option FnL):(EE P G F L).T=tiOf P:=rfl
theorem EE_G (P:Program) (G:Nat->Nat->Option FnS) (F:List (Nat × Bool)) (L:Nat->Nat->Option FnL):(EE P G F L).G=G:=rfl
theorem EE_F (P:Program) (G:Nat->Nat->Option FnS) (F:List (Nat × Bool)) (L:Nat->Nat->Option FnL):(EE P G F L).F=flist F:=rfl
theorem EE_L (P:Program) (G:Nat->Nat->Option FnS) (F:List (Nat × Bool)) (L:Nat->Nat->Option FnL):(EE P G F L).L=L:=rfl
def noL:Nat->Nat->Option FnL:=fun _ _=>none
theorem noL_at (d f:Nat):noL d f=none:=rfl
def llist:List (Nat × Nat × FnL)->Nat->Nat->Option FnL
 | [],_,_=>none
 | (d0,f0,fs)::l,d,f=>if d=d0/\f=f0 then some fs else llist l d f
def LL (P:Program) (L:List (Nat × Nat × FnL)):Prop:=∀ d f fs,llist L d f=some fs->FLOk P f fs
theorem ln {P:Program}:LL P []:=fun d f fs h=>by cases h
def updL:(Nat->C)->Nat->List C->Nat->C
 | f,_,[]=>f
 | f,k,c::cs=>updL (updT f k c) (k+1) cs
theorem vX:∀ (cs:List C) (f:Nat->C) (k t:Nat),updL f k cs t=if k<=t/\t < k+cs.length then (cs[t - k]?).getD .dead else f t
 | [],f,k,t=>by simp [updL]; omega
 | c::cs,f,k,t=>by
  rw [updL,vX cs (updT f k c) (k+1) t];simp only [List.length_cons,updT];by_cases h1:t=k
  ·subst h1; rw [if_neg (by omega),if_pos rfl,if_pos (by omega)]; simp
  ·by_cases h2:k+1<=t/\t < k+1+cs.length
   ·rw [if_pos h2,if_pos (by omega),show t - k=(t - (k+1))+1 from by omega,List.getElem?_cons_succ]
   ·rw [if_neg h2,if_neg h1,if_neg (by omega)]
theorem vg (cs:List C) (h:∀ t c,cs[t]?=some c->iu [] t c=c):entryF [] cs=updL deadT 0 cs:=by
 funext t
 rw [vX];unfold entryF;cases hc:cs[t]? with
 | none=>
  have:cs.length<=t:=List.getElem?_eq_none_iff.1 hc;rw [if_neg (by omega)]; rfl
 | some c=>
  have:=(List.getElem?_eq_some_iff.1 hc).1;rw [if_pos (by omega)];simp only [Nat.sub_zero,h t c hc,Option.getD_some,hc]
attribute [go_sem] cloN callL pH oc m8 new1 newR ren1 renP cloF cloA B0 pe kh m3 glist flist llist EE_T EE_G EE_F EE_L noL_at Env.Gs updL od lentNs qA lentSh isVar asLst argOk updN iY
theorem aO {P:Program} {f:FuncId} {fn:Func} {body:Code} (hf:P.funcs[f]?=some fn) (hb:fn.body=some body) (hname:(fn.name == "runtime.NumGoroutine") = false) (hok : codeOk body = true)
  {G:Nat->Nat->Option FnS} (hG:∀ d f fs,G d f=some fs->FSOk P f fs) (F:List (Nat × Bool)) (hmix:P.follows .mixedOrders=true) {pure:Bool} {cs:List C} {r:C} (hn:cs.length<=fn.ntmps)
  (hW:Wk (EE P G F noL) body (ap (EE P G F noL) (FinW (EE P G F noL) fn.results.toList pure r) []) ⟨tab fn.ntmps (updL deadT 0 cs),RZ⟩):Con P f [] pure cs r:=by
 refine AM (E:=EE P G F noL) (fun t ti h=>oI P G t ti h) ⟨fun d f fs h=>hG d f fs h,fun _ _ _ h=>by cases h⟩ hmix ⟨hf,hb,hname,hok⟩ hn fun _=>?_;rw [lG hn,R0_RZ,vg cs (fun t c _=>by simp [iu])];exact zi hW
theorem sw {A B D:Prop} (f:A->B->D) (b:B) (a:A):D:=f a b
theorem xn {R:Nat->C}:∀ k,RZ k=R k∨RZ k=.dead:=yx
theorem xc {R R':Nat->C} {d:Nat} {c:C} (h0:R d=c) (h:∀ k,R' k=R k∨R' k=.dead):∀ k,upd R' d c k=R k∨upd R' d c k=.dead:=wU h0 h
theorem rn {n:Nat} {f R':Nat->C}:∀ t,t < n->deadT t=.dead∨(deadT t=f t/\(deadT t).ment (fun k _=>isDead (R' k)) 3=false):=yl
theorem rc {n:Nat} {f g R':Nat->C} {d:Nat} {c:C} (h0:f d=c) (hm:c.ment (fun k _=>isDead (R' k)) 3=false)
  (h:∀ t,t < n->g t=.dead∨(g t=f t/\(g t).ment (fun k _=>isDead (R' k)) 3=false)):∀ t,t < n->updT g d c t=.dead∨(updT g d c t=f t/\(updT g d c t).ment (fun k _=>isDead (R' k)) 3=false):=wA h0 hm h
end Go.Abs

namespace Go.Abs
section
variable {X:Ctx} {m:Nat->Path->Value} {st:St} {a:Act} {w:World} {P:Program}
theorem zZ {w:World} {S S':Nat->Prop} {m:Path->Value} (hS:∀ b,S b->S' b) {nl:Option Bool} {es:Nat} {cap:Option Nat} {rows rows':List (List C)} (h:LeLL rows rows') (hn:∀ row∈rows',∀ c∈row,NoOwn c) {d:Nat} {u:Value}
  (hO:∀ i j q b,OwnAt (.sl true nl es cap rows) ((i,j)::q)->blk (m ((i,j)::q))=some b->S' b)
  (hr:rel w S L0 m true d [] (.sl true nl es cap rows) u):rel w S' L0 m true (d+1) [] (.sl true nl es cap rows') u:=by
 cases d with
 | zero=>exact hr.elim
 | succ d=>
  obtain ⟨a,k,h1,h2,h3,h4,hz,h5,h6,h7⟩:=hr;refine ⟨a,k,by rw [h.len]; exact h1,by rw [h.len]; exact h2,h3,h4,hz,?_,fun _=>h6 rfl,?_⟩
  ·intro row' hrow;obtain ⟨i,hi,e⟩:=List.getElem_of_mem hrow;have hlt:i < rows.length:=by rw [<-h.len]; exact hi
   have:=h.get i rows[i] row' (by simp [hlt]) (by simp [hi,e]);rw [this.len];exact h5 _ (List.getElem_mem hlt)
  ·rcases h7 with h7|h7|⟨b,off,arr,elem,frz,g1,g2,g3,g4,g5⟩
   ·exact .inl h7
   ·simp at h7
   ·refine .inr (.inr ⟨b,off,arr,elem,frz,g1,g2,fun h=>by simp at h,g4,?_⟩);intro i j row' c' e1 e2;have hlt:i < rows.length:=by rw [<-h.len]; exact (List.getElem?_eq_some_iff.1 e1).1
    have hrow:rows[i]?=some rows[i]:=by simp [hlt]
    have hle:=h.get i rows[i] row' hrow e1;have hltj:j < rows[i].length:=by rw [<-hle.len]; exact (List.getElem?_eq_some_iff.1 e2).1
    have hc:rows[i][j]?=some rows[i][j]:=by simp [hltj]
    obtain ⟨u',e3,e4⟩:=g5 i j _ _ hrow hc;have hnc:=hn row' (List.mem_of_getElem? e1) c' (List.mem_of_getElem? e2);refine ⟨u',e3,aD d (d+1) (Nat.le_succ _) (qc d hnc (hle.get j _ c' hc e2 _ _ _ m _ [] d u' (jH (S:=S) (S':=S') (m:=m) (m':=m) (p:=[]++[(i,j)]) (p':=[]) hS d ?_ e4)))⟩;intro _ q b' hq hb;refine hO i j q b' ?_ (by simpa using hb);simp only [OwnAt,C.at,C.kid,hrow,Option.bind_some,hc]; exact hq
theorem oz {nl:Option Bool} {es:Nat} {cap:Option Nat} {rows:List (List C)} (hn:∀ row∈rows,∀ c∈row,NoOwn c) {q:Path} (h:OwnAt (.sl true nl es cap rows) q):q=[]:=by
 cases q with
 | nil=>rfl
 | cons s q=>
  exfalso;simp only [OwnAt,C.at,C.kid] at h;cases hr:rows[s.1]? with
  | none=>simp [hr] at h
  | some row=>
   simp only [hr,Option.bind_some] at h;cases hc:row[s.2]? with
   | none=>simp [hc] at h
   | some c=>
    simp only [hc,Option.bind_some] at h;exact hn row (List.mem_of_getElem? hr) c (List.mem_of_getElem? hc) q h
def inside (n:Nat):Nat->Path->Bool:=fun k p=>k == n && !p.isEmpty
theorem InvM.tell (H:InvM X m st a w) {n:Nat} {nl:Option Bool} {es:Nat} {cap:Option Nat} {rows rows':List (List C)} (hR:st.roots n=.sl true nl es cap rows) (hle:LeLL rows rows') (hn:∀ row∈rows',∀ c∈row,NoOwn c) :
  InvM X m { tmps:=st.tmps.map (poi (inside n)),roots:=upd st.roots n (.sl true nl es cap rows') } a w:=by
 have hown:∀ k p,OwnAt (upd st.roots n (.sl true nl es cap rows') k) p->OwnAt (st.roots k) p/\(k=n->p=[]):=by
  intro k p ho;by_cases e:k=n
  ·subst e;rw [af] at ho;have hp:=oz hn ho;subst hp;refine ⟨?_,fun _=>rfl⟩;rw [hR]; rfl
  ·rw [upd_ne e] at ho;exact ⟨ho,fun h=>absurd h e⟩
 have hS:∀ b,X.S st.roots m b->X.S (upd st.roots n (.sl true nl es cap rows')) m b:=by
  rintro b ⟨h1,h2⟩;refine ⟨h1,?_⟩;rintro ⟨k,p,ho,hb⟩;exact h2 ⟨k,p,(hown k p ho).1,hb⟩
 have hL:∀ v u,(∀ k p,v.place=some (k,p)->k=n->p=[])->Lv st.roots m v u->Lv (upd st.roots n (.sl true nl es cap rows')) m v u:=by
  intro v u hp hl;cases v with
  | pref k p i j=>
   obtain ⟨nl',es',cap',rows0,b,off,kk,g1,g2,g3⟩:=hl;by_cases e:k=n
   ·subst e;have:p=[]:=hp k p rfl rfl;subst this;rw [hR] at g1;simp only [C.at,Option.some.injEq,C.sl.injEq,true_and] at g1;obtain ⟨rfl,rfl,rfl,rfl⟩:=g1;exact ⟨nl,es,cap,rows',b,off,kk,by rw [af]; rfl,by rw [hle.len]; exact g2,g3⟩
   ·exact ⟨nl',es',cap',rows0,b,off,kk,by rw [upd_ne e]; exact g1,g2,g3⟩
  | pal k p lo len c=>
   obtain ⟨nl',es',cap',rows0,a0,kk,a',k',g1,g2,g3,g4⟩:=hl;by_cases e:k=n
   ·subst e;have:p=[]:=hp k p rfl rfl;subst this;rw [hR] at g1;simp only [C.at,Option.some.injEq,C.sl.injEq,true_and] at g1;obtain ⟨rfl,rfl,rfl,rfl⟩:=g1;exact ⟨nl,es,cap,rows',a0,kk,a',k',by rw [af]; rfl,by rw [hle.len]; exact g2,by rw [hle.len]; exact g3,g4⟩
   ·exact ⟨nl',es',cap',rows0,a0,kk,a',k',by rw [upd_ne e]; exact g1,g2,g3,g4⟩
  | _=>exact hl
 refine ⟨by simp [H.len],?_,?_,?_,?_,H.fr,H.df⟩
 ·intro t c hc;simp only [List.getElem?_map,Option.map_eq_some_iff] at hc;obtain ⟨c0,h0,rfl⟩:=hc;obtain ⟨u,d,h1,h2⟩:=H.tmp t c0 h0;rcases dZ (inside n) c0 with e|⟨e,hm⟩
  ·rw [e]; exact ⟨u,1,h1,trivial⟩
  ·rw [e];refine ⟨u,d,h1,ae (fun b _ hb=>⟨hS b hb,rfl⟩) d (fun v uv ho hl=>?_) (fun h=>by simp at h) (fun h=>by simp at h) h2⟩;refine hL v uv ?_ hl;intro k p hpl hk;obtain ⟨k',p',e1,e2⟩:=dM d 3 c0 v hm ho;rw [hpl] at e1;simp only [Option.some.injEq,Prod.mk.injEq] at e1;obtain ⟨rfl,rfl⟩:=e1;subst hk;simpa [inside] using e2
 ·intro k;obtain ⟨u,d,hr⟩:=H.root k;by_cases e:k=n
  ·subst e;rw [hR] at hr;refine ⟨u,d+1,?_⟩;show rel w _ L0 (m k) true (d+1) [] (upd st.roots k (.sl true nl es cap rows') k) u;rw [af];refine zZ hS hle hn (fun i j q b ho hb=>?_) hr;have ho':OwnAt (st.roots k) ((i,j)::q):=by rw [hR]; exact ho
   refine ⟨(H.own _ _ b ho' hb).elim .inr (fun h=>.inl (X.kS b h)),?_⟩;rintro ⟨k',p',ho2,hb2⟩;obtain ⟨ho3,hp⟩:=hown k' p' ho2;obtain ⟨e1,e2⟩:=H.inj _ _ _ _ b ho3 ho' hb2 hb;rw [hp e1] at e2;cases e2
  ·refine ⟨u,d,?_⟩;show rel w _ L0 (m k) true d [] (upd st.roots n (.sl true nl es cap rows') k) u;rw [upd_ne e];exact ae (fun b _ hb=>⟨hS b hb,rfl⟩) d (fun _ _ _ h=>h) (fun _ _ _ _ _ _=>rfl) (fun _ _ _=>rfl) hr
 ·intro k p k' p' b h1 h2;exact H.inj k p k' p' b (hown k p h1).1 (hown k' p' h2).1
 ·intro k p b h1;exact H.own k p b (hown k p h1).1
end
theorem sN {α:Type} {row:α->List C} {l:List α} {i:Nat} {x:α} {rx ry:List C} {g:List C->List C} (hx:l[i]?=some x) (e1:row x=rx) (h:g rx=ry):(l.map row).modify i g=(l.map row).set i ry:=by
 apply List.ext_getElem?;intro j;rw [List.getElem?_modify,List.getElem?_set];by_cases e:i=j
 ·subst e;have hlt:=(List.getElem?_eq_some_iff.1 hx).1;have hxi:l[i]=x:=by rw [List.getElem?_eq_getElem hlt] at hx; exact Option.some.inj hx
  simp [hlt,hxi,e1,h]
 ·simp [e]
theorem en {α:Type} {row:α->List C} {l:List α} {i:Nat} {x:α} (ry:List C) (hx:l[i]?=some x):((l.map row).set i ry)[i]?=some ry:=by
 have hlt:=(List.getElem?_eq_some_iff.1 hx).1;simp [hlt]
theorem gg {α:Type} {row:α->List C} {l:List α} {i:Nat} {x:α} {ry rz:List C} {g:List C->List C} (hx:l[i]?=some x) (h:g ry=rz):((l.map row).set i ry).modify i g=(l.map row).set i rz:=by
 apply List.ext_getElem?;intro j;have hlt:=(List.getElem?_eq_some_iff.1 hx).1;rw [List.getElem?_modify,List.getElem?_set,List.getElem?_set];by_cases e:i=j
 ·subst e; simp [hlt,h]
 ·simp [e]
instance over_le {α:Type} (row:α->List C) (l:List α) (i:Nat) (ry:List C) (y:α) [h:LeIL ry (row y)]:LeIR ((l.map row).set i ry) ((l.set i y).map row):=⟨by
 refine ⟨by simp,?_⟩;intro j r r' h1 h2;rw [List.getElem?_set] at h1;simp only [List.getElem?_map,List.getElem?_set] at h2;by_cases e:i=j
 ·subst e;by_cases hl:i < l.length
  ·simp only [List.length_map,hl,if_true,Option.some.injEq,Option.map_some] at h1 h2;subst h1; subst h2; exact h.h
  ·simp [hl] at h1
 ·simp only [e,if_false,List.getElem?_map] at h1 h2;rw [h1] at h2;cases h2;exact LeL.refl _⟩
class KeepI (a b:C):Prop where
 h:∀ q,OwnAt a q->OwnAt b q
instance (priority:=high) (a:C):KeepI a a:=⟨fun _ h=>h⟩
theorem yP {α:Type} {row:α->List C} [hrow:RowI row] {k n:Nat} {f:Nat->C} {R:Nat->C} {nl:Option Bool} {es:Nat} {cap:Option Nat} {l:List α} {i:Nat} {rc:List C} (y:α) (rz:List C) (hR:R n=.sl true nl es cap ((l.map row).set i rc)) (hz:row y=rz) [hle:LeIL rc rz] :
  Weak ⟨tab k f,R⟩ ⟨tab k (poiT (inside n) f),upd R n (.sl true nl es cap ((l.set i y).map row))⟩:=by
 rintro X a w ⟨m,H⟩;have h1:LeIR ((l.map row).set i rc) ((l.set i y).map row):=by
  have:LeIL rc (row y):=by rw [hz]; exact hle
  exact over_le row l i rc y
 have:=H.tell hR h1.h (hrow.ok.noOwn (l.set i y));exact ⟨m,by simpa [sB] using this⟩
theorem oh (g:Nat->Path->Bool) (f:Nat->C) (d:Nat) (c:C):poiT g (updT f d c)=updT (poiT g f) d (poi g c):=by
 funext t
 simp only [poiT,updT];split<;>rfl
theorem ml (g:Nat->Path->Bool):poiT g deadT=deadT:=rfl
attribute [go_sem] inside List.isEmpty_nil
class LeRF {α:Type} (f g:α->List C):Prop where
 h:∀ x,LeL (f x) (g x)
instance leRF_map {α:Type} (f g:α->List C) (l:List α) [h:LeRF f g]:LeIR (l.map f) (l.map g):=⟨LeLL.map h.h l⟩
def mxR {α:Type} (f g:α->List C) (i:Nat) (l:List α):List (List C):=(l.take i).map f++(l.drop i).map g
section
variable {α:Type} {f g:α->List C} {i:Nat} {l:List α}
theorem ee:(mxR f g i l).length=l.length:=by simp [mxR]; omega
theorem Ao (h:l.length<=i):mxR f g i l=l.map f:=by simp [mxR,List.take_of_length_le h,List.drop_eq_nil_of_le h]
theorem tz {x:α} (hx:l[i]?=some x):mxR f g i l=(l.take i).map f++g x::(l.drop (i+1)).map g:=by
 have hlt:=(List.getElem?_eq_some_iff.1 hx).1;have hxi:=(List.getElem?_eq_some_iff.1 hx).2;unfold mxR;rw [List.drop_eq_getElem_cons hlt,List.map_cons,hxi]
theorem mix_tl {x:α} (hx:l[i]?=some x):((l.take i).map f).length=i:=by
 have hlt:=(List.getElem?_eq_some_iff.1 hx).1;simp; omega
theorem qH {x:α} (hx:l[i]?=some x):(mxR f g i l)[i]?=some (g x):=by
 rw [tz hx,List.getElem?_append_right (by rw [mix_tl hx]; exact Nat.le_refl _),mix_tl hx,Nat.sub_self]; rfl
theorem mix_of {x:α} {rx ry:List C} {k:List C->List C} (hx:l[i]?=some x) (e1:g x=rx) (h:k rx=ry):(mxR f g i l).modify i k=(mxR f g i l).set i ry:=by
 apply List.ext_getElem?;intro j;have hlt:i < (mxR f g i l).length:=by rw [ee]; exact (List.getElem?_eq_some_iff.1 hx).1
 rw [List.getElem?_modify,List.getElem?_set];by_cases e:i=j
 ·subst e; rw [qH hx]; simp [hlt,e1,h]
 ·simp [e]
theorem lk {x:α} (ry:List C) (hx:l[i]?=some x):((mxR f g i l).set i ry)[i]?=some ry:=by
 have hlt:i < (mxR f g i l).length:=by rw [ee]; exact (List.getElem?_eq_some_iff.1 hx).1
 simp [hlt]
theorem qL {x:α} {ry rz:List C} {k:List C->List C} (hx:l[i]?=some x) (h:k ry=rz):((mxR f g i l).set i ry).modify i k=(mxR f g i l).set i rz:=by
 apply List.ext_getElem?;intro j;have hlt:i < (mxR f g i l).length:=by rw [ee]; exact (List.getElem?_eq_some_iff.1 hx).1
 rw [List.getElem?_modify,List.getElem?_set,List.getElem?_set];by_cases e:i=j
 ·subst e; simp [hlt,h]
 ·simp [e]
theorem zW {x:α} (hx:l[i]?=some x) (y:α):(mxR f g i l).set i (f y)=mxR f g (i+1) (l.set i y):=by
 have hlt:=(List.getElem?_eq_some_iff.1 hx).1;rw [tz hx,List.set_append_right _ _ (by rw [mix_tl hx]; exact Nat.le_refl _),mix_tl hx,Nat.sub_self,List.set_cons_zero];unfold mxR;have e1:(l.set i y).take (i+1)=l.take i++[y]:=by
  rw [List.take_add_one,List.getElem?_set];simp only [if_true,hlt,Option.toList_some];rw [List.take_set_of_le (Nat.le_refl i)]
 have e2:(l.set i y).drop (i+1)=l.drop (i+1):=by
  rw [List.drop_set]; simp
 rw [e1,e2,List.map_append,List.append_assoc];rfl
theorem yA (y:α):(l.map f).set i (f y)=(l.set i y).map f:=by rw [List.map_set]
end
def lenG {α β:Type} (l:List α) (i:Nat) (k:Option β):Option β:=if l.length<=i then k else none
theorem yw {α β:Type} {l:List α} {i:Nat} {k:Option β} {r:β} (h:lenG l i k=some r):l.length<=i/\k=some r:=by
 unfold lenG at h;split at h
 ·rename_i hl; exact ⟨hl,h⟩
 ·cases h
theorem sY {k n:Nat} {f f':Nat->C} {R:Nat->C} {nl:Option Bool} {es:Nat} {cap:Option Nat} {rows rows':List (List C)} (hR:R n=.sl true nl es cap rows) (he:rows=rows') (hf:poiT (inside n) f=f') :
  Weak ⟨tab k f,R⟩ ⟨tab k f',upd R n (.sl true nl es cap rows')⟩:=by
 subst he hf;have hu:upd R n (.sl true nl es cap rows)=R:=by
  funext t; unfold upd; split
  ·rename_i e; rw [e,hR]
  ·rfl
 rw [hu];rintro X a w ⟨m,H⟩;refine ⟨m,⟨by rw [H.len]; simp [kE],?_,H.root,H.inj,H.own,H.fr,H.df⟩⟩;intro t c hc;rw [gF] at hc;split at hc
 case isFalse=>simp at hc
 rename_i hlt;simp only [Option.some.injEq] at hc;subst hc;obtain ⟨u,d,h1,h2⟩:=H.tmp t (f t) (by simp only [gF,hlt,if_true]);rcases dZ (inside n) (f t) with e|⟨e,_⟩
 ·exact ⟨u,1,h1,by simp only [poiT]; rw [e]; trivial⟩
 ·exact ⟨u,d,h1,by simp only [poiT]; rw [e]; exact h2⟩
theorem ph {α:Type} {row:α->List C} {k n:Nat} {f f':Nat->C} {R:Nat->C} {nl:Option Bool} {es:Nat} {cap:Option Nat} {l:List α} {i:Nat} {rc:List C} (y:α) (hR:R n=.sl true nl es cap ((l.map row).set i rc)) (hz:row y=rc) (hf:poiT (inside n) f=f') :
  Weak ⟨tab k f,R⟩ ⟨tab k f',upd R n (.sl true nl es cap ((l.set i y).map row))⟩:=sY hR (by rw [<-hz,yA]) hf
theorem wg {α:Type} {f0 g0:α->List C} {k n:Nat} {f f':Nat->C} {R:Nat->C} {nl:Option Bool} {es:Nat} {cap:Option Nat} {l:List α} {i:Nat} {x:α} {rc:List C} (y:α) (hx:l[i]?=some x) (hR:R n=.sl true nl es cap ((mxR f0 g0 i l).set i rc)) (hz:f0 y=rc) (hf:poiT (inside n) f=f') :
  Weak ⟨tab k f,R⟩ ⟨tab k f',upd R n (.sl true nl es cap (mxR f0 g0 (i+1) (l.set i y)))⟩:=sY hR (by rw [<-hz,zW hx]) hf
theorem ma {α:Type} {row0 row:α->List C} [hrow:RowI row] [hF:LeRF row0 row] {k n:Nat} {f f':Nat->C} {R:Nat->C} {nl:Option Bool} {es:Nat} {cap:Option Nat} {l:List α} (hR:R n=.sl true nl es cap (l.map row0)) (hf:poiT (inside n) f=f') :
  Weak ⟨tab k f,R⟩ ⟨tab k f',upd R n (.sl true nl es cap (l.map row))⟩:=by
 subst hf;rintro X a w ⟨m,H⟩;have:=H.tell hR (LeLL.map hF.h l) (hrow.ok.noOwn l);exact ⟨m,by simpa [sB] using this⟩
theorem Real.lenAt {st:St} (h:Real st) (n:Nat) (p:Path) {nl:Option Bool} {es:Nat} {cap:Option Nat} {rows:List (List C)} (hc:(st.roots n).at p=some (.sl true nl es cap rows)):rows.length<=maxLen:=by
 obtain ⟨X,a,w,m,H⟩:=h;obtain ⟨u,d,hr⟩:=H.root n;obtain ⟨u',d',h2⟩:=rel_at p hr hc;obtain ⟨a1,k1,D,e1,e2,e3,e4,e5⟩:=bN h2;omega
def fn1 {A0:Type} (d0:C->Option A0) (f:A0->Option C):List C->Option C
 | [c0]=>(d0 c0).bind fun q0=>f q0
 | _=>none
theorem ok1 {P:Program} {k:FuncId} {pure:Bool} {A0:Type} {d0:C->Option A0} {f:A0->Option C} {t0:A0->C} (h:∀ q0 r,f q0=some r->Con P k [] pure [t0 q0] r) (l0:∀ {c x},d0 c=some x->Le c (t0 x)):FSOk P k ⟨[],pure,fn1 d0 f,false⟩:=by
 refine ⟨fun cs r hr=>?_,fun h=>by cases h⟩;simp only [fn1] at hr;split at hr
 ·simp only [Option.bind_eq_some_iff] at hr;obtain ⟨q0,h0,hr⟩:=hr;exact (h q0 r hr).args (LeL.cons (l0 h0) (LeL.nil))
 ·cases hr
def fn2 {A0 A1:Type} (d0:C->Option A0) (d1:C->Option A1) (f:A0->A1->Option C):List C->Option C
 | [c0,c1]=>(d0 c0).bind fun q0=>(d1 c1).bind fun q1=>f q0 q1
 | _=>none
theorem ok2 {P:Program} {k:FuncId} {pure:Bool} {A0 A1:Type} {d0:C->Option A0} {d1:C->Option A1} {f:A0->A1->Option C} {t0:A0->C} {t1:A1->C} (h:∀ q0 q1 r,f q0 q1=some r->Con P k [] pure [t0 q0,t1 q1] r) (l0:∀ {c x},d0 c=some x->Le c (t0 x)) (l1:∀ {c x},d1 c=some x->Le c (t1 x)):FSOk P k ⟨[],pure,fn2 d0 d1 f,false⟩:=by
 refine ⟨fun cs r hr=>?_,fun h=>by cases h⟩;simp only [fn2] at hr;split at hr
 ·simp only [Option.bind_eq_some_iff] at hr;obtain ⟨q0,h0,q1,h1,hr⟩:=hr;exact (h q0 q1 r hr).args (LeL.cons (l0 h0) (LeL.cons (l1 h1) (LeL.nil)))
 ·cases hr
def fn3 {A0 A1 A2:Type} (d0:C->Option A0) (d1:C->Option A1) (d2:C->Option A2) (f:A0->A1->A2->Option C):List C->Option C
 | [c0,c1,c2]=>(d0 c0).bind fun q0=>(d1 c1).bind fun q1=>(d2 c2).bind fun q2=>f q0 q1 q2
 | _=>none
theorem ok3 {P:Program} {k:FuncId} {pure:Bool} {A0 A1 A2:Type} {d0:C->Option A0} {d1:C->Option A1} {d2:C->Option A2} {f:A0->A1->A2->Option C} {t0:A0->C} {t1:A1->C} {t2:A2->C} (h:∀ q0 q1 q2 r,f q0 q1 q2=some r->Con P k [] pure [t0 q0,t1 q1,t2 q2] r) (l0:∀ {c x},d0 c=some x->Le c (t0 x)) (l1:∀ {c x},d1 c=some x->Le c (t1 x)) (l2:∀ {c x},d2 c=some x->Le c (t2 x)):FSOk P k ⟨[],pure,fn3 d0 d1 d2 f,false⟩:=by
 refine ⟨fun cs r hr=>?_,fun h=>by cases h⟩;simp only [fn3] at hr;split at hr
 ·simp only [Option.bind_eq_some_iff] at hr;obtain ⟨q0,h0,q1,h1,q2,h2,hr⟩:=hr;exact (h q0 q1 q2 r hr).args (LeL.cons (l0 h0) (LeL.cons (l1 h1) (LeL.cons (l2 h2) (LeL.nil))))
 ·cases hr
attribute [go_sem] fn1 fn2 fn3
end Go.Abs

namespace Go.Abs
section
variable {X:Ctx} {m:Nat->Path->Value} {st:St} {a:Act} {w:World} {P:Program}
attribute [go_sem] List.range'
theorem yz {n:Nat} {f:Nat->C} {R:Nat->C} (t es:Nat) (ht:f t=.val (.slice none 0 0)) :
  Weak ⟨tab n f,R⟩ ⟨tab n (updT f t (.sl false none es none [])),R⟩:=by
 rintro X a w ⟨m,H⟩;refine ⟨m,⟨by rw [H.len]; simp [kE],?_,H.root,H.inj,H.own,H.fr,H.df⟩⟩;intro t' c hc;rw [gF] at hc;split at hc
 case isFalse=>simp at hc
 rename_i hlt;simp only [Option.some.injEq] at hc;by_cases e:t'=t
 ·subst e;simp only [updT,if_true] at hc;subst hc;obtain ⟨u,dd,h1,h2⟩:=H.tmp t' (f t') (by simp only [gF,hlt,if_true]);rw [ht] at h2;cases dd with
  | zero=>exact h2.elim
  | succ dd=>
   have hu:u=.slice none 0 0:=h2;subst hu;exact ⟨_,1,h1,⟨none,0,rfl,Nat.le_refl _,by decide,by simp,by simp,by simp,by simp,.inl rfl⟩⟩
 ·simp only [updT,e,if_false] at hc;exact H.tmp t' c (by simp only [gF,hlt,if_true,hc])
def letC (n es:Nat) (rows:List (List C)):C->C
 | .pref n' [] i j=>if n'=n then .iref es rows i j else .pref n' [] i j
 | c=>poi (fun n' _=>n' == n) c
def letF (n es:Nat) (rows:List (List C)) (f:Nat->C):Nat->C:=fun t=>letC n es rows (f t)
theorem yU (n es:Nat) (rows:List (List C)) (f:Nat->C) (d:Nat) (c:C):letF n es rows (updT f d c)=updT (letF n es rows f) d (letC n es rows c):=by
 funext t
 simp only [letF,updT];split<;>rfl
theorem wj (n es:Nat) (rows:List (List C)):letF n es rows deadT=deadT:=rfl
attribute [go_sem] letC yU wj
def letD (n es:Nat) (rows:List (List C)):C->C
 | .pal n' [] lo len cap=>if n'=n then .sl false none es cap ((rows.drop lo).take len) else .pal n' [] lo len cap
 | c=>poi (fun n' _=>n' == n) c
def letG (n es:Nat) (rows:List (List C)) (f:Nat->C):Nat->C:=fun t=>letD n es rows (f t)
theorem yJ (n es:Nat) (rows:List (List C)) (f:Nat->C) (d:Nat) (c:C):letG n es rows (updT f d c)=updT (letG n es rows f) d (letD n es rows c):=by
 funext t
 simp only [letG,updT];split<;>rfl
theorem wJ (n es:Nat) (rows:List (List C)):letG n es rows deadT=deadT:=rfl
attribute [go_sem] letD yJ wJ
theorem uz {P:Program} {f:FuncId} {fn:Func} {body:Code} (hf:P.funcs[f]?=some fn) (hb:fn.body=some body) (hname:(fn.name == "runtime.NumGoroutine") = false) (hok : codeOk body = true)
  {G:Nat->Nat->Option FnS} (hG:∀ d f fs,G d f=some fs->FSOk P f fs) {L:Nat->Nat->Option FnL} (hL:∀ d f fl,L d f=some fl->FLOk P f fl) (F:List (Nat × Bool)) (hmix:P.follows .mixedOrders=true) {own:List Bool} {pure:Bool} {cs:List C} {r:C} (hn:cs.length<=fn.ntmps)
  (hW:Wk (EE P G F L) body (ap (EE P G F L) (FinO (EE P G F L) fn.results.toList pure r) []) ⟨tab fn.ntmps (entryF own cs),R0 own cs⟩):Con P f own pure cs r:=by
 intro w S m us hl hr hinj;left;have hname':¬ fn.name = "runtime.NumGoroutine" := by simpa using hname
 refine ⟨by simp [callFunc,hf,hname',hb],?_⟩;have H:=rk (n:=fn.ntmps) hl hn hr hinj;rw [lG hn] at H;have hGO:GOk P (EE P G F L):=⟨fun d f fs h=>hG d f fs h,fun d f fl h=>hL d f fl h⟩;have hTO:TOk P (EE P G F L):=fun t ti h=>oI P G t ti h;refine calls_of_wp hf hb (wp_mono (hW P hTO hGO hmix hok _ _ _ ⟨m,H⟩ [] (pY _)) ?_);rintro e a' w' ⟨⟨s,⟨he,r0,hfin,hrok,hkeep,hpure⟩,m',H'⟩,-⟩;have main:∃ u,(results fn a'.tmps).run P w'=.ok u w'/\Done (ctxOf w S (Owned (R0 own cs) m)) w' r0 u:=by
  unfold finish at hfin;split at hfin
  case h_2=>simp at hfin
  rename_i cs' hres;obtain ⟨us',f1,f2,f3⟩:=sL hTO H' hres;refine ⟨_,ot f1,?_⟩;split at hfin
  ·rename_i rs hpl;simp only [Option.some.injEq] at hfin;subst hfin;exact mJ hTO H' f2 f3 hpl
  ·split at hfin
   ·rename_i s1 kp hprep;simp only [Option.some.injEq] at hfin;subst hfin;exact oC hTO H' f2 f3 hprep
   ·simp at hfin
 obtain ⟨u,hrun,hd⟩:=main;obtain ⟨mr,d,g1,g2,g3⟩:=hd.ex;have post:a'.defers=[]/\∃ v,(results fn a'.tmps).run P w'=.ok v w'/\∃ u,Ending.returned v=.returned u/\∃ mr d,rel w' (fun b=>((pure=false/\(S b∨Owned (R0 own cs) m b))∨w.heap.size<=b)/\¬ Own1 r mr b) L0 mr true d [] r u ∧
   (∀ q q' b,OwnAt r q->OwnAt r q'->blk (mr q)=some b->blk (mr q')=some b->q=q')/\(∀ b,Own1 r mr b->w.heap.size<=b∨Owned (R0 own cs) m b)/\FrK w (Owned (R0 own cs) m) w':=by
  refine ⟨H'.df,u,hrun,u,rfl,uf hrok hkeep ⟨mr,d,?_,g2,g3,⟨hd.fr.os,hd.fr.tape,hd.fr.output,hd.fr.drawn,hd.fr.size,hd.fr.block⟩⟩⟩;cases hp:pure with
  | true=>exact hpure hp w' _ _ mr d [] u g1
  | false=>exact ae (fun b _ hs=>⟨⟨hs.1.imp (fun h=>⟨rfl,h⟩) id,hs.2⟩,rfl⟩) d (fun _ _ _ h=>h) (fun _ _ _ _ _ _=>rfl) (fun _ _ _=>rfl) g1
 rcases he with rfl|rfl
 ·exact post
 ·exact post
def clrL {α:Type} (z:α) (k:Nat) (l:List α):List α:=l.take k++List.replicate (l.length - k) z
theorem uk {α:Type} {z:α} {k:Nat} {l:List α} (h:k<=l.length):(clrL z k l).take k=l.take k:=by
 show (l.take k++List.replicate (l.length - k) z).take k=l.take k;rw [List.take_append_of_le_length (by rw [List.length_take]; omega),List.take_take,Nat.min_self]
theorem wa {α:Type} {z:α} {k:Nat} {l:List α} (h:k<=l.length):(clrL z k l).length=l.length:=by
 show (l.take k++List.replicate (l.length - k) z).length=l.length;rw [List.length_append,List.length_take,List.length_replicate]; omega
theorem uN {α:Type} {row:α->List C} {z:α} {rz:List C} {k:Nat} {l:List α} (h:k<=l.length) (hz:row z=rz):ar (l.map row) k (List.replicate (l.length - k) rz)=(clrL z k l).map row:=by
 subst hz;show (l.map row).take k++List.replicate (l.length - k) (row z)++(l.map row).drop (k+(List.replicate (l.length - k) (row z)).length)=(l.take k++List.replicate (l.length - k) z).map row;rw [List.map_append,List.map_take,List.map_replicate,List.drop_of_length_le (by simp; omega),List.append_nil]
theorem AD (g:Nat->Path->Bool) (f:Nat) (cs:List C):poi g (.clo f cs)=if (cs.any fun c=>c.ment g 2)=true then .dead else .clo f cs:=rfl
theorem yI (g:Nat->Path->Bool) (k es:Nat) (rows:List (List C)) (i j:Nat):C.ment g (k+1) (.iref es rows i j)=false:=rfl
theorem zb (g:Nat->Path->Bool) (k:Nat) (v:Value):C.ment g (k+1) (.val v)=false:=rfl
theorem yT (g:Nat->Path->Bool) (k n:Nat) (p:Path) (i j:Nat):C.ment g (k+1) (.pref n p i j)=g n p:=rfl
theorem z9 (g:Nat->Path->Bool) (k:Nat) (o:Bool) (nl:Option Bool) (es:Nat) (cap:Option Nat) (rows:List (List C)):C.ment g (k+1) (.sl o nl es cap rows)=false:=rfl
attribute [go_sem] AD yI zb yT z9
end
end Go.Abs

namespace Go.Abs
section
variable {X:Ctx} {m:Nat->Path->Value} {st:St} {a:Act} {w:World} {P:Program}
theorem InvM.nilO (H:InvM X m st a w) {n:Nat} {q:Path} (es:Nat) (hq:(st.roots n).at q=some (.val (.slice none 0 0))) :
  ∃ m',InvM X m' { st with roots:=upd st.roots n ((st.roots n).turn (fun _=>.sl true none es none []) q) } a w:=by
 obtain ⟨m',hm'⟩:∃ m':Nat->Path->Value,m'=fun n' p=>if n'=n/\p=q then .slice none 0 0 else m n' p:=⟨_,rfl⟩
 have M1:m' n q=.slice none 0 0:=by rw [hm']; simp
 have Mn:∀ n' p,¬ (n'=n/\p=q)->m' n' p=m n' p:=by intro n' p h; rw [hm']; simp [h]
 obtain ⟨R',hR'⟩:∃ R',R'=upd st.roots n ((st.roots n).turn (fun _=>.sl true none es none []) q):=⟨_,rfl⟩;have hown:∀ n' p b,OwnAt (R' n') p->blk (m' n' p)=some b->OwnAt (st.roots n') p/\blk (m n' p)=some b/\¬ (n'=n/\p=q):=by
  intro n' p b ho hb;by_cases e:n'=n
  ·subst e;rw [hR',af] at ho;rcases OwnAt.of_turn hq ho with ⟨r,rfl,h2⟩|⟨h1,h2⟩
   ·have:r=[]:=oz (rows:=[]) (by simp) h2;subst this;rw [List.append_nil,M1] at hb;simp [blk] at hb
   ·have hne:¬ (n'=n'/\p=q):=fun h=>h1 [] (by simp [h.2]);rw [Mn _ _ hne] at hb;exact ⟨h2,hb,hne⟩
  ·rw [hR',upd_ne e] at ho;have hne:¬ (n'=n/\p=q):=fun h=>e h.1;rw [Mn _ _ hne] at hb;exact ⟨ho,hb,hne⟩
 have hS:∀ b,X.S st.roots m b->X.S R' m' b:=by
  rintro b ⟨h1,h2⟩;refine ⟨h1,?_⟩;rintro ⟨n',p,ho,hb⟩;obtain ⟨g1,g2,_⟩:=hown n' p b ho hb;exact h2 ⟨n',p,g1,g2⟩
 have hnoq:∀ r,r≠[]->(st.roots n).at (q++r)=none:=by
  intro r hr;rw [C.at_append,hq];cases r with
  | nil=>exact (hr rfl).elim
  | cons x r=>rfl
 have hL:∀ v u,Lv st.roots m v u->Lv R' m' v u:=by
  intro v u hl;have key:∀ k p nl es' cap rows,(st.roots k).at p=some (.sl true nl es' cap rows)->¬ (k=n/\p=q)/\∃ rows',(R' k).at p=some (.sl true nl es' cap rows')/\rows'.length=rows.length:=by
   intro k p nl es' cap rows hk;by_cases e:k=n
   ·subst e;have hpq:∀ r,p≠q++r:=by
     rintro r rfl;by_cases hr:r=[]
     ·subst hr; rw [List.append_nil,hq] at hk; cases hk
     ·rw [hnoq r hr] at hk; cases hk
    obtain ⟨x',e1,_,e3⟩:=C.at_turn_off (fun _=>.sl true none es none []) q p (st.roots k) _ _ hq hpq hk;obtain ⟨rows',rfl,e4⟩:=e3 nl es' cap rows rfl;exact ⟨fun h=>hpq [] (by simp [h.2]),rows',by rw [hR',af]; exact e1,e4⟩
   ·exact ⟨fun h=>e h.1,rows,by rw [hR',upd_ne e]; exact hk,rfl⟩
  cases v with
  | pref k p i j=>
   obtain ⟨nl,es',cap,rows,b,off,kk,g1,g2,g3⟩:=hl;obtain ⟨hne,rows',g4,g5⟩:=key k p _ _ _ _ g1;exact ⟨nl,es',cap,rows',b,off,kk,g4,by rw [Mn _ _ hne,g5]; exact g2,g3⟩
  | pal k p lo len c=>
   obtain ⟨nl,es',cap,rows,a0,kk,a',k',g1,g2,g3,g4⟩:=hl;obtain ⟨hne,rows',g5,g6⟩:=key k p _ _ _ _ g1;exact ⟨nl,es',cap,rows',a0,kk,a',k',g5,by rw [Mn _ _ hne,g6]; exact g2,by rw [g6]; exact g3,g4⟩
  | _=>exact hl
 rw [<-hR'];refine ⟨m',⟨H.len,?_,?_,?_,?_,H.fr,H.df⟩⟩
 ·intro t c hc;obtain ⟨u,d,h1,h2⟩:=H.tmp t c hc;exact ⟨u,d,h1,ae (fun b _ hb=>⟨hS b hb,rfl⟩) d (fun v u _ h=>hL v u h) (fun h=>by simp at h) (fun h=>by simp at h) h2⟩
 ·intro k;obtain ⟨u,d,hr⟩:=H.root k;by_cases e:k=n
  ·subst e;obtain ⟨d',hd'⟩:=px (f:=fun _=>C.sl true none es none []) (m':=m' k) (S':=X.S R' m') (w':=w) (fun b _ hb=>⟨hS b hb,rfl⟩) q hr hq (fun _ _ _ _ _ _=>rfl) (by
    intro q1 ho hne;simp only [List.nil_append];exact Mn _ _ (fun h=>hne [] (by simp [h.2]))) (by
    intro u0 d0 h0;simp only [List.nil_append] at h0 ⊢;cases d0 with
    | zero=>exact h0.elim
    | succ d0=>
     have hu:u0=.slice none 0 0:=h0;subst hu;rw [<-M1];exact ⟨2,gO (d:=1) (a:=none) (k:=0) (by rw [M1]; rfl) (by simp) (by simp [maxLen]) (by simp) ⟨by simp,by simp⟩ (by simp) (.inl rfl)⟩)
   exact ⟨u,d',by show rel w _ L0 (m' k) true d' [] (R' k) u; rw [show R' k=(st.roots k).turn (fun _=>.sl true none es none []) q from by rw [hR',af]]; exact hd'⟩
  ·refine ⟨u,d,?_⟩;show rel w _ L0 (m' k) true d [] (R' k) u;rw [show R' k=st.roots k from by rw [hR',upd_ne e]];exact ae (fun b _ hb=>⟨hS b hb,rfl⟩) d (fun _ _ _ h=>h) (fun _ _ _ _ _ _=>rfl) (fun _ q0 _=>Mn _ _ (fun h=>e h.1)) hr
 ·intro k p k' p' b h1 h2 h3 h4;obtain ⟨g1,g2,_⟩:=hown k p b h1 h3;obtain ⟨g3,g4,_⟩:=hown k' p' b h2 h4;exact H.inj k p k' p' b g1 g3 g2 g4
 ·intro k p b h1 h2;obtain ⟨g1,g2,_⟩:=hown k p b h1 h2;exact H.own k p b g1 g2
theorem sR {k:Nat} {f:Nat->C} {R:Nat->C} (n:Nat) (q:Path) (es:Nat) {c':C} (hq:(R n).at q=some (.val (.slice none 0 0))) (hc:(R n).turn (fun _=>.sl true none es none []) q=c') :
  Weak ⟨tab k f,R⟩ ⟨tab k f,upd R n c'⟩:=by
 subst hc;rintro X a w ⟨m,H⟩;exact H.nilO es hq
attribute [go_sem] pack
end
end Go.Abs

namespace Go.Abs
def pickO (ops:Array Oper):List Nat->List Oper
 | []=>[]
 | i::l=>match ops[i]? with
  | some o=>o::pickO ops l
  | none=>pickO ops l
attribute [go_sem] pickO
section
variable {X:Ctx} {m:Nat->Path->Value} {st:St} {a:Act} {w:World} {P:Program}
theorem tE {E:Env} (hT:TOk P E) {s:Nat} {ti:TI} (ht:TIOk P s ti) {f:Nat} {x c:C} {u:Value} (hx:RelT X m st w x u) (hc:gT E ti f x=some c):∃ v,(∀ w2,(Instr.fieldAt s u f).run P w2=.ok v w2)/\RelT X m st w c v:=by
 obtain ⟨d,hd,hagg,hk⟩:=ht.und;unfold gT at hc;split at hc
 ·rename_i fs hkind;rw [hkind] at hk;obtain ⟨fields,rfl,hf,_⟩:=hk;split at hc
  ·rename_i o t hfs;obtain ⟨fl,h1,rfl,rfl⟩:=hf f _ _ hfs;split at hc
   ·rename_i ft hft;split at hc
    ·simp at hc
    ·rename_i hz;have hrun:∀ b o' w2,(Instr.fieldAt s (.pointer (some ⟨b,o',none⟩)) f).run P w2=.ok (.pointer (some ⟨b,o'+fl.offset,none⟩)) w2:=by
      intro b o' w2;have hsz:=(hT _ ft hft).size (w:=w2);simp [Instr.fieldAt,run_underlying hd,h1,Instr.sureAddr,fieldPlace,hsz,hz,Addr.add_lit]
     split at hc
     ·simp only [Option.some.injEq] at hc;subst hc;obtain ⟨d,hx⟩:=hx;cases d with
      | zero=>exact hx.elim
      | succ d=>
       obtain ⟨nl',es',cap',rows',b',off',k',f1,f2,rfl⟩:=hx;exact ⟨_,hrun _ _,1,nl',es',cap',rows',b',off',k',f1,f2,by simp [Nat.add_assoc]⟩
     ·simp only [Option.some.injEq] at hc;subst hc;obtain ⟨d,hx⟩:=hx;cases d with
      | zero=>exact hx.elim
      | succ d=>
       obtain ⟨b,off,arr,elem,frz,rfl,g2⟩:=hx;exact ⟨_,hrun _ _,d+1,b,off,arr,elem,frz,by simp [Nat.add_assoc],g2⟩
     ·simp at hc
   ·simp at hc
  ·simp at hc
 ·simp at hc
theorem tG (h:InvM X m st a w) {t:Nat} {ti:TI} (ht:TIOk P t ti) {x ix c:C} {u v:Value} (hx:RelT X m st w x u) (hix:RelT X m st w ix v) (hc:eL st ti x ix=some c) :
  ∃ r,(∀ w2,(Instr.indexAt t u v).run P w2=.ok r w2)/\RelT X m st w c r:=by
 obtain ⟨d,hd,hagg,hk⟩:=ht.und;unfold eL at hc;split at hc
 ·rename_i e es k i hkind;rw [hkind] at hk;obtain ⟨rfl,ie,hi1,hi2⟩:=hk;obtain rfl:=hix.of_val;have hsz:∀ w2,(sizeOf e).run P w2=.ok es w2:=by intro w2; simp [sizeOf,typeInfo,hi1,hi2]
  split at hc
  ·rename_i n p lo len cap;split at hc
   ·rename_i nl es' cap' rows hn;split at hc
    ·rename_i hcond;obtain ⟨hes,h0,h1⟩:=hcond;obtain rfl:=hes.symm;simp only [Option.some.injEq] at hc;subst hc;obtain ⟨nl',es',cap'',rows',a0,k0,a',k',g1,g2,g3,rfl,g5,g6,g7,g8,g9⟩:=bY hx;have hn':(st.roots n).at p=some (.sl true nl es cap' rows):=hn;rw [hn'] at g1;simp only [Option.some.injEq,C.sl.injEq,true_and] at g1;obtain ⟨rfl,rfl,rfl,rfl⟩:=g1;rcases g9 with g9|⟨b,off,rfl,rfl⟩
     ·omega
     ·refine ⟨.pointer (some ⟨b,off+lo * es+i.toNat * es,none⟩),?_,1,nl,es,cap',rows,b,off,k0,hn',g2,?_⟩
      ·intro w2; simp [Instr.indexAt,asIntOf,run_underlying hd,h0,h1,hsz,Addr.add_lit]
      ·simp [Nat.add_mul,Nat.add_assoc]
    ·simp at hc
   ·simp at hc
  ·rename_i own nl es' cap rows;split at hc
   ·rename_i hcond;obtain ⟨hes,h0,h1⟩:=hcond;obtain rfl:=hes.symm;simp only [Option.some.injEq] at hc;subst hc;obtain ⟨a0,k0,rfl,g2,g3,g4,gz,g5,g6⟩:=jI hx;rcases g6 with rfl|⟨b,off,arr,elem,frz,rfl,e2,e3,dd,e5⟩
    ·simp at h1; omega
    ·refine ⟨.pointer (some ⟨b,off+i.toNat * es,none⟩),?_,dd+1,b,off,arr,elem,frz,by simp,e2,e3,g5,fun i j row c' f1 f2=>?_⟩
     ·intro w2; simp [Instr.indexAt,asIntOf,run_underlying hd,h0,h1,hsz,Addr.add_lit]
     ·exact e5 i j row c' f1 f2
   ·simp at hc
  ·simp at hc
 ·rename_i n e es k i hkind;rw [hkind] at hk;obtain ⟨rfl,ie,hi1,hi2⟩:=hk;obtain rfl:=hix.of_val;have hsz:∀ w2,(sizeOf e).run P w2=.ok es w2:=by intro w2; simp [sizeOf,typeInfo,hi1,hi2]
  split at hc
  ·rename_i hcond;obtain ⟨h0,h1⟩:=hcond;have hrun:∀ b o w2,(Instr.indexAt t (.pointer (some ⟨b,o,none⟩)) (.int k i)).run P w2=.ok (.pointer (some ⟨b,o+i.toNat * es,none⟩)) w2:=by
    intro b o w2;simp [Instr.indexAt,asIntOf,run_underlying hd,Instr.sureAddr,h0,h1,hsz,Addr.add_lit]
   split at hc
   ·simp only [Option.some.injEq] at hc;subst hc;obtain ⟨nl',es',cap',rows',b',off',k',f1,f2,rfl⟩:=fU hx;exact ⟨_,hrun _ _,1,nl',es',cap',rows',b',off',k',f1,f2,by simp [Nat.add_assoc]⟩
   ·simp only [Option.some.injEq] at hc;subst hc;obtain ⟨d,hx⟩:=hx;cases d with
    | zero=>exact hx.elim
    | succ d=>
     obtain ⟨b,off,arr,elem,frz,rfl,g2⟩:=hx;exact ⟨_,hrun _ _,d+1,b,off,arr,elem,frz,by simp [Nat.add_assoc],g2⟩
   ·simp at hc
  ·simp at hc
 ·simp at hc
def quietT (o:Oper):Bool:=o.guard.isNone && match o.op with
 | .move _=>true
 | .assign _=>true
 | .extract ..=>true
 | .nilCheck _=>true
 | .fieldAddr ..=>true
 | .load ..=>true
 | .indexAddr ..=>true
 | .makeFunc ..=>true
 | .call { callee:=.builtin .len,.. }=>true
 | _=>false
def isLd (o:Oper):Bool:=match o.op with
 | .load ..=>true
 | _=>false
theorem p7 {E:Env} {o:Oper} (hq:quietT o=true) {st':St} (h:exe E o st=some st'):∃ c,qop E st o.op=some c/\st'=st.put o.dst c:=by
 obtain ⟨dst,op,ty,pos,after,guard⟩:=o;simp only [quietT,Bool.and_eq_true] at hq;obtain ⟨_,hq⟩:=hq;have key:exe E ⟨dst,op,ty,pos,after,guard⟩ st=put? ⟨dst,op,ty,pos,after,guard⟩ st (qop E st op)->∃ c,qop E st op=some c/\st'=st.put dst c:=by
  intro e;rw [e] at h;cases hc:qop E st op with
  | none=>rw [hc] at h; simp [put?] at h
  | some c=>rw [hc] at h; simp only [put?,Option.some.injEq] at h; exact ⟨c,rfl,h.symm⟩
 split at hq;all_goals first|(cases hq; done)|skip
 all_goals
  apply key;simp only [exe,preX,exe0,altX];split<;>simp_all
theorem yV {E:Env} (hT:TOk P E) (H:InvM X m st a w) {o:Oper} (hq:quietT o=true) (hl:isLd o=false) {c:C} (h:qop E st o.op=some c) {v:Value} (hv:(execOp a.eval o).run P w=.ok (.value v) w) (w2:World):(execOp a.eval o).run P w2=.ok (.value v) w2:=by
 obtain ⟨dst,op,ty,pos,after,guard⟩:=o;simp only [quietT,Bool.and_eq_true] at hq;obtain ⟨_,hq⟩:=hq;split at hq
 case h_10=>cases hq
 ·simp [execOp] at hv ⊢; exact hv
 ·simp [execOp] at hv ⊢; exact hv
 ·rename_i x ix;cases hx:a.eval x with
  | tuple vs=>
   cases hvs:vs[ix]? with
   | some v'=>simp [execOp,Instr.extract,hx,hvs] at hv ⊢; exact hv
   | none=>simp [execOp,Instr.extract,hx,hvs,stuck] at hv
  | _=>simp [execOp,Instr.extract,hx,stuck] at hv
 ·rename_i x;simp only [qop] at h;have hx:=ev_ok H x;split at h
  ·rename_i n p i j he;rw [he] at hx;obtain ⟨_,_,_,_,b,off,k,_,_,hu⟩:=fU hx;simp [execOp,hu] at hv ⊢; exact hv
  ·rename_i es rows i j he;rw [he] at hx;obtain ⟨b,off,arr,elem,frz,hu,_⟩:=sa hx;simp [execOp,hu] at hv ⊢; exact hv
  ·cases h
 ·rename_i s x f;simp only [qop] at h;obtain ⟨ti,h1,h2⟩:=Option.bind_eq_some_iff.1 h;obtain ⟨v',e1,_⟩:=tE hT (hT s ti h1) (ev_ok H x) h2;simp only [execOp,Sem.run_bind,e1,Result.andThen_ok,Sem.run_pure] at hv ⊢;simpa using hv
 ·cases hl
 ·rename_i t x ix;simp only [qop] at h;obtain ⟨ti,h1,h2⟩:=Option.bind_eq_some_iff.1 h;obtain ⟨v',e1,_⟩:=tG H (hT t ti h1) (ev_ok H x) (ev_ok H ix) h2;simp only [execOp,Sem.run_bind,e1,Result.andThen_ok,Sem.run_pure] at hv ⊢;simpa using hv
 ·rename_i fn first caps
  simp only [execOp,Instr.makeFunc] at hv ⊢;cases fn<;>simp at hv ⊢<;>first|exact hv|skip
  all_goals simp [qop] at h
 ·rename_i args tys;simp only [qop] at h;have hev:=evs_ok H args.toList;have harr:args.map a.eval=(args.toList.map a.eval).toArray:=by rw [<-Array.toList_map,Array.toArray_toList]
  have hgo:∀ w,(execOp a.eval ⟨dst,.call { callee:=.builtin .len,args:=args,argTypes:=tys },ty,pos,after,guard⟩).run P w=(do pure (.value (<-Builtin.len_ tys ty (args.toList.map a.eval).toArray)):Sem Next).run P w:=by
   intro w;simp only [execOp,resolve,Sem.run_bind,Sem.run_pure,Result.andThen_ok,invoke,builtin,harr]
  rw [hgo] at hv ⊢;generalize args.toList.map a.eval=us at *;generalize args.toList.map st.ev=cs at *;unfold fc at h;split at h
  ·obtain ⟨u,h1,h2⟩:=hev 0 _ rfl;obtain rfl:=h2.of_val;split at h
   ·rename_i ti hti;obtain ⟨t,ht0,hti⟩:=Option.bind_eq_some_iff.1 hti;obtain ⟨d,hd,_,hk⟩:=(hT t ti hti).und;split at h
    ·rename_i hkind;rw [hkind] at hk;have hk:d=.string:=hk;subst hk;simp [Builtin.len_,ht0,h1,run_underlying hd,goInt] at hv ⊢;exact hv
    ·cases h
   ·cases h
  ·rename_i x _ _;obtain ⟨u,h1,h2⟩:=hev 0 _ rfl;split at h
   ·rename_i ti hti;obtain ⟨t,ht0,hti⟩:=Option.bind_eq_some_iff.1 hti;obtain ⟨d,hd,_,hk⟩:=(hT t ti hti).und;split at h
    ·rename_i e es hkind;rw [hkind] at hk;obtain ⟨rfl,_⟩:=hk;cases hl:lenC x with
     | none=>simp [hl] at h
     | some n=>
      have:∃ ad k,u=.slice ad n k:=by
       cases x with
       | val v=>
        obtain rfl:=h2.of_val;unfold lenC at hl;split at hl<;>simp_all
       | sl own nl es cap rows=>
        obtain ⟨a0,k0,rfl,_⟩:=jI h2;simp only [lenC,Option.some.injEq] at hl;exact ⟨a0,k0,by rw [hl]⟩
       | pal n' p lo len cap=>
        obtain ⟨nl',es'',cap'',rows',a0,k0,a',k',g1,g2,g3,rfl,_⟩:=bY h2;simp only [lenC,Option.some.injEq] at hl;exact ⟨a',k',by rw [hl]⟩
       | _=>simp [lenC] at hl
      obtain ⟨ad,k,rfl⟩:=this;simp [Builtin.len_,ht0,h1,run_underlying hd,goInt] at hv ⊢;exact hv
    ·cases h
   ·cases h
  all_goals first|(cases h; done)|(exfalso; simp_all; done)
theorem rF {E:Env} (hT:TOk P E) (H:InvM X m st a w) {t:Nat} {ti:TI} (ht:TIOk P t ti) {n i j:Nat} {c:C} {u:Value} (hx:RelT X m st w (.pref n [] i j) u) (hc:loadC st ti (.pref n [] i j)=some c) {v:Value} (hv:(Instr.loadAt t u).run P w=.ok v w) :
  ∃ b,blk (m n [])=some b/\OwnAt (st.roots n) []/\∀ w2,w2.heap[b]?=w.heap[b]?->(Instr.loadAt t u).run P w2=.ok v w2:=by
 simp only [loadC] at hc;split at hc
 case h_2=>cases hc
 rename_i nl es cap rows hn;split at hc
 case h_2=>cases hc
 rename_i row hr;split at hc
 case isFalse=>cases hc
 rename_i hj;obtain ⟨nl',es',cap',rows',b',off',k',f1,f2,rfl⟩:=fU hx;have f1':st.node n []=some (.sl true nl' es' cap' rows'):=f1;rw [hn] at f1';simp only [Option.some.injEq,C.sl.injEq,true_and] at f1';obtain ⟨rfl,rfl,rfl,rfl⟩:=f1';obtain ⟨b,off,k,arr,elem,g1,g2,g3,g4,g5,g6,g7⟩:=oP H hn hr;rw [g1] at f2;simp only [Value.slice.injEq,Option.some.injEq,Addr.mk.injEq,and_true,true_and] at f2;obtain ⟨⟨rfl,rfl⟩,rfl⟩:=f2;have hrl:rows.length≠0:=by intro e; rw [List.eq_nil_of_length_eq_zero e] at hr; cases hr
 obtain ⟨u0,d0,hr0⟩:=H.root n;have hn':st.roots n=.sl true nl es cap rows:=by simpa [St.node,C.at] using hn
 rw [hn'] at hr0;obtain ⟨a1,k1,D,q1,q2,q3,_⟩:=bN hr0;have hk1:k≠0:=by
  rw [g1] at q2;simp only [Value.slice.injEq] at q2;omega
 refine ⟨b,by rw [g1]; simp [blk,hk1],by rw [hn']; rfl,?_⟩;have hcell:∀ q,q < ti.size->∃ u,arr[off+i * es+j+q]?=some u:=by
  intro q hq;have hjl:j+q < row.length:=by omega
  obtain ⟨u',e1,_⟩:=g7 (j+q) row[j+q] (List.getElem?_eq_getElem hjl);exact ⟨u',by rw [<-e1]; congr 1; omega⟩
 intro w2 hw2;have key:∃ v',∀ wz:World,wz.heap[b]?=w.heap[b]?->(Instr.loadAt t (.pointer (some ⟨b,off+i * es+j,none⟩))).run P wz=.ok v' wz:=by
  unfold packC at hc;cases hagg:ti.agg with
  | true=>
   refine ⟨.agg ((List.range ti.size).map fun q=>(arr[off+i * es+j+q]?).getD undef).toArray,fun wz hz=>?_⟩;have hlc:=run_loadCells_list (P:=P) (w:=wz) ⟨b,off+i * es+j,none⟩ ((List.range ti.size).map fun q=>(arr[off+i * es+j+q]?).getD undef) (by
    intro q v hq;rw [Addr.add_lit,eT (hz.trans g3)];simp only [List.getElem?_map,Option.map_eq_some_iff] at hq;obtain ⟨q',hq,rfl⟩:=hq;have hlt:=(List.getElem?_eq_some_iff.1 hq).1;rw [List.getElem?_range (by simpa using hlt)] at hq;cases hq;obtain ⟨u',e1⟩:=hcell q (by simpa using hlt);rw [e1]; rfl)
   simp only [List.length_map,List.length_range] at hlc;simp [Instr.loadAt,Instr.sureAddr,loadVar,ht.agg_run,hagg,ht.size,hlc]
  | false=>
   have h0:∃ u,arr[off+i * es+j]?=some u:=by
    rw [hagg] at hc;simp only [Bool.false_eq_true,if_false] at hc;have:(row.drop j).take ti.size≠[]:=by
     intro e;rw [show ek n [] i j ((row.drop j).take ti.size)=[] from by rw [e]; rfl] at hc;cases hc
    obtain ⟨q,hq⟩:∃ q,q < ti.size:=by
     cases hs:ti.size with
     | zero=>rw [hs] at this; simp at this
     | succ q=>exact ⟨0,by omega⟩
    obtain ⟨u',e⟩:=hcell 0 (by omega);exact ⟨u',by simpa using e⟩
   obtain ⟨u',hu'⟩:=h0;refine ⟨u',fun wz hz=>?_⟩;simp [Instr.loadAt,Instr.sureAddr,loadVar,ht.agg_run,hagg,eT (hz.trans g3),hu']
 obtain ⟨v',hv'⟩:=key;have:=hv' w rfl;rw [hv] at this;cases this;exact hv' w2 hw2
theorem wY {E:Env} (hT:TOk P E) (H:InvM X m st a w) {t:Nat} {ti:TI} (ht:TIOk P t ti) {n i j:Nat} {p:Path} {c:C} {u:Value} (hx:RelT X m st w (.pref n p i j) u) (hc:loadC st ti (.pref n p i j)=some c) {v:Value} (hv:(Instr.loadAt t u).run P w=.ok v w) :
  ∃ (b:Nat) (x:Obj),w.heap[b]?=some x/\∀ w2:World,w2.heap[b]?=w.heap[b]?->(Instr.loadAt t u).run P w2=.ok v w2:=by
 simp only [loadC] at hc;split at hc
 case h_2=>cases hc
 rename_i nl es cap rows hn;split at hc
 case h_2=>cases hc
 rename_i row hr;split at hc
 case isFalse=>cases hc
 rename_i hj;obtain ⟨nl',es',cap',rows',b',off',k',f1,f2,rfl⟩:=fU hx;have f1':st.node n p=some (.sl true nl' es' cap' rows'):=f1;rw [hn] at f1';simp only [Option.some.injEq,C.sl.injEq,true_and] at f1';obtain ⟨rfl,rfl,rfl,rfl⟩:=f1';obtain ⟨b,off,k,arr,elem,g1,g2,g3,g4,g5,g6,g7⟩:=oP H hn hr;rw [g1] at f2;simp only [Value.slice.injEq,Option.some.injEq,Addr.mk.injEq,and_true,true_and] at f2;obtain ⟨⟨rfl,rfl⟩,rfl⟩:=f2;refine ⟨b,_,g3,?_⟩;have hcell:∀ q,q < ti.size->∃ u,arr[off+i * es+j+q]?=some u:=by
  intro q hq;have hjl:j+q < row.length:=by omega
  obtain ⟨u',e1,_⟩:=g7 (j+q) row[j+q] (List.getElem?_eq_getElem hjl);exact ⟨u',by rw [<-e1]; congr 1; omega⟩
 intro w2 hw2;have key:∃ v',∀ wz:World,wz.heap[b]?=w.heap[b]?->(Instr.loadAt t (.pointer (some ⟨b,off+i * es+j,none⟩))).run P wz=.ok v' wz:=by
  unfold packC at hc;cases hagg:ti.agg with
  | true=>
   refine ⟨.agg ((List.range ti.size).map fun q=>(arr[off+i * es+j+q]?).getD undef).toArray,fun wz hz=>?_⟩;have hlc:=run_loadCells_list (P:=P) (w:=wz) ⟨b,off+i * es+j,none⟩ ((List.range ti.size).map fun q=>(arr[off+i * es+j+q]?).getD undef) (by
    intro q v hq;rw [Addr.add_lit,eT (hz.trans g3)];simp only [List.getElem?_map,Option.map_eq_some_iff] at hq;obtain ⟨q',hq,rfl⟩:=hq;have hlt:=(List.getElem?_eq_some_iff.1 hq).1;rw [List.getElem?_range (by simpa using hlt)] at hq;cases hq;obtain ⟨u',e1⟩:=hcell q (by simpa using hlt);rw [e1]; rfl)
   simp only [List.length_map,List.length_range] at hlc;simp [Instr.loadAt,Instr.sureAddr,loadVar,ht.agg_run,hagg,ht.size,hlc]
  | false=>
   have h0:∃ u,arr[off+i * es+j]?=some u:=by
    rw [hagg] at hc;simp only [Bool.false_eq_true,if_false] at hc;have:(row.drop j).take ti.size≠[]:=by
     intro e;rw [show ek n p i j ((row.drop j).take ti.size)=[] from by rw [e]; rfl] at hc;cases hc
    obtain ⟨q,hq⟩:∃ q,q < ti.size:=by
     cases hs:ti.size with
     | zero=>rw [hs] at this; simp at this
     | succ q=>exact ⟨0,by omega⟩
    obtain ⟨u',e⟩:=hcell 0 (by omega);exact ⟨u',by simpa using e⟩
   obtain ⟨u',hu'⟩:=h0;refine ⟨u',fun wz hz=>?_⟩;simp [Instr.loadAt,Instr.sureAddr,loadVar,ht.agg_run,hagg,eT (hz.trans g3),hu']
 obtain ⟨v',hv'⟩:=key;have:=hv' w rfl;rw [hv] at this;cases this;exact hv' w2 hw2
def baseN (s:St):C->Bool
 | .pal n [] lo len _=>match s.roots n with
  | .sl true _ _ _ rows=>decide (rows.length<=lo+len)
  | _=>true
 | .pal _ (_::_) _ _ _=>true
 | _=>false
def headB (d:Nat):C->Bool
 | .pal n _ _ _ _=>Nat.blt n H0 && !(n == d)
 | _=>false
theorem vq (l:List (List C)):(frzRows l).length=l.length:=by simp [frzRows]
theorem yi {E:Env} {d:Nat} {ti tix te:TI} {e es:Nat} {x y:Operand} {s st':St} (hk:ti.kind=.slice e es) (hte:E.T e=some te) (hh:headB d (s.ev x)=true) (hkx:tix.kind=.slice e es) (h:aj d es te tix (s.ev x) (s.ev y) s=some st'):∃ s1,j7 E d ti x y s=some s1:=by
 unfold aj at h;split at h
 case h_2=>cases h
 rename_i kk olds ex hroom hold hex;split at h
 case isFalse=>cases h
 rename_i hc;obtain ⟨_,hes,hd,hb⟩:=hc;unfold extOf at hex;rw [hkx] at hex;simp only [if_true,Option.map_eq_some_iff] at hex;obtain ⟨extra,hsr,rfl⟩:=hex;unfold headB at hh;split at hh
 case h_2=>cases hh
 rename_i n p lo len cap hx;simp only [Bool.and_eq_true,Nat.blt_eq,Bool.not_eq_true',beq_eq_false_iff_ne] at hh;rw [hx] at hold;unfold eC at hold;simp only at hold;split at hold
 case h_2=>cases hold
 rename_i nl es' cap' rows hn;split at hold
 case isFalse=>cases hold
 rename_i hes';simp only [Option.some.injEq] at hold;subst hold;rw [vq] at hb;unfold j7;rw [hk];simp only [hte];rw [if_neg (by rintro (q|q); exact hes q; exact q hd),hsr];simp only [hx,jE,hn,hes'.1,if_true];rw [if_neg hh.2,if_pos hh.1];simp only [Ext.all] at hb;simp only;rw [if_pos hb];exact ⟨_,rfl⟩
def srcB (s:St):C->Bool
 | .pal n p lo len _=>match s.node n p with
  | some (.sl true _ _ _ rows)=>((rows.drop lo).take len).all (·.all plainCell)
  | _=>false
 | _=>false
def quietA (o:Oper):Bool:=quietT o || match o.op with
 | .pick ..=>true
 | .field ..=>true
 | .index ..=>true
 | .binOp ..=>true
 | .unOp ..=>true
 | .convert ..=>true
 | .call { callee:=.builtin .max,.. }=>true
 | .call { callee:=.builtin .min,.. }=>true
 | _=>false
theorem w4 {E:Env} {o:Oper} (hq:quietA o=true) {st':St} (h:exe E o st=some st'):∃ c,qop E st o.op=some c/\st'=st.put o.dst c:=by
 unfold quietA at hq;rw [Bool.or_eq_true] at hq;rcases hq with hq|hq
 ·exact p7 hq h
 obtain ⟨dst,op,ty,pos,after,guard⟩:=o;simp only at hq;have key:exe E ⟨dst,op,ty,pos,after,guard⟩ st=put? ⟨dst,op,ty,pos,after,guard⟩ st (qop E st op)->∃ c,qop E st op=some c/\st'=st.put dst c:=by
  intro e;rw [e] at h;cases hc:qop E st op with
  | none=>rw [hc] at h; simp [put?] at h
  | some c=>rw [hc] at h; simp only [put?,Option.some.injEq] at h; exact ⟨c,rfl,h.symm⟩
 split at hq;all_goals first|(cases hq; done)|skip
 all_goals
  apply key;simp only [exe,preX,exe0,altX];split<;>simp_all
def stillO (o:Oper):Bool:=quietA o || match o.op with
 | .slice ..=>true
 | _=>false
def newO (o:Oper):Bool:=match o.op with
 | .buildSlice ..=>true
 | _=>false
def chkA (E:Env) (o:Oper) (s:St):Bool:=o.guard.isNone && match o.op with
 | .build ..=>true
 | .buildSlice ..=>true
 | .call { callee:=.builtin .append,args,argTypes }=>match o.dst,args.toList,argTypes.toList with
  | some d,[x,y],[t,tx]=>(E.F d).isNone && baseN s (s.ev x) && srcB s (s.ev y) && (headB d (s.ev x) && t == tx)
  | _,_,_=>false
 | .call { callee:=.value x,args:=_,argTypes:=_ }=>match o.dst,s.ev x with
  | some d,.clo f _=>match E.L d (cloF f),E.G d (cloF f) with
   | none,some fs=>if fs.own.isEmpty then fs.pure else !fs.peek
   | _,_=>false
  | _,_=>false
 | .slice _ _ _ hi mx=>hi.isNone || mx.isSome
 | _=>quietA o
theorem KeepV.same {dst:Option Nat} {st':St}:KeepV dst m st w m st' w:=fun _ _ _ _ _=>⟨rfl,fun _ _=>rfl⟩
theorem exeK {E:Env} (hT:TOk P E) (hG:GOk P E) (H:InvM X m st a w) {o:Oper} {st':St} (h:exe E o st=some st') (hc:chkA E o st=true) {Q:Exit->Act->World->Prop} :
  o.wp P a w (fun a' w'=>∃ m',InvM X m' st' a' w'/\KeepV o.dst m st w m' st' w'/\(stillO o=true->w'=w)/\(newO o=true->∀ b,b < w.heap.size->w'.heap[b]?=w.heap[b]?)) Q:=by
 have quiet:(∃ c,qop E st o.op=some c/\st'=st.put o.dst c)->o.wp P a w (fun a' w'=>∃ m',InvM X m' st' a' w'/\KeepV o.dst m st w m' st' w'/\(stillO o=true->w'=w)/\(newO o=true->∀ b,b < w.heap.size->w'.heap[b]?=w.heap[b]?)) Q:=by
  rintro ⟨c,hq,rfl⟩;obtain ⟨v,e1,d,e2⟩:=qop_ok hT H hq;exact dW e1 ⟨m,H.put o.dst e2,.same,fun _=>rfl,fun _ _ _=>rfl⟩
 unfold chkA at hc;simp only [Bool.and_eq_true] at hc;obtain ⟨hg,hc⟩:=hc;split at hc
 ·rename_i t parts hop;refine quiet ?_;have e:exe E o st=put? o st (qop E st o.op):=by
   simp only [exe,preX,exe0,altX,hop];split<;>simp_all
  rw [e] at h;cases hq:qop E st o.op with
  | none=>rw [hq] at h; simp [put?] at h
  | some c=>rw [hq] at h; simp only [put?,Option.some.injEq] at h; exact ⟨c,rfl,h.symm⟩
 ·rename_i t len parts hop;have e:exe E o st=exe0 E o st:=by
   simp only [exe,preX,altX,hop];split<;>simp_all
  rw [e] at h;simp only [exe0,hop] at h;split at h
  ·rename_i d ti hd hti;obtain ⟨u,w',e1,m',e2,e3,e4⟩:=pP hT H (hT t ti hti) h;refine dW (u:=u) (w':=w') ?_ ⟨m',by rw [hd]; exact e2,fun n hn hnd ho _=>⟨e3 n hn (fun e=>hnd (by rw [hd,e])),fun b hb=>e4 b (H.lt ho hb)⟩,fun q=>by simp [stillO,quietA,quietT,hop] at q,fun _ b hb=>e4 b hb⟩;simp only [execOp,hop,Sem.run_bind,e1,Result.andThen_ok,Sem.run_pure]
  ·cases h
 ·rename_i args tys hop;split at hc
  case h_2=>cases hc
  rename_i d x y t0 tx0 hd hargs htys0;simp only [Bool.and_eq_true,Option.isNone_iff_eq_none,beq_iff_eq] at hc;obtain ⟨⟨⟨hF,hb⟩,hs⟩,hhead,htt⟩:=hc;subst htt;have hpre:preX E o st=none:=by
   simp only [preX,hop,hd,hargs];split
   ·rename_i d' s' x' t tx hdd hss htys;cases hdd;cases hss;split
    ·split
     ·split
      ·rw [hF];simp only;unfold iz;split
       ·rename_i hx _;rw [hx] at hb;simp only [baseN] at hb;split
        ·rename_i hr;rw [hr] at hb;simp only [decide_eq_true_eq] at hb;rw [if_neg (by omega)]
        ·rfl
       ·rfl
      ·rfl
     ·rfl
    ·rfl
   ·rfl
  simp only [exe,hpre] at h;split at h
  ·rename_i s1 hs1;simp only [Option.some.injEq] at h;subst h;simp only [exe0,hop,hd,hargs] at hs1;split at hs1
   case h_2=>cases hs1
   rename_i t tx hd1 hargs1 htys;split at hs1
   case h_2=>cases hs1
   rename_i ti tix hti htix;split at hs1
   case h_2=>cases hs1
   rename_i e es e' es' hk1 hk2;split at hs1
   case isFalse=>cases hs1
   rename_i he;obtain ⟨rfl,rfl⟩:=he;cases hd1;cases hargs1;obtain ⟨u,w',e1,m',e2,e3⟩:=s7 (ty:=o.type) hT H (args:=args) (argTypes:=tys) (s:=x) (x:=y) (t:=t) (tx:=tx) (by rw [<-hargs]) (by rw [<-htys]) hti htix (by rw [hk1,hk2]) hs1;have hsrc:(eC st es (st.ev y)).isSome=true:=by
    unfold srcB at hs;split at hs
    ·rename_i n p lo len cap hy;split at hs
     ·rename_i nl es' cap' rows hn;have hes:es'=es:=by
       unfold j7 at hs1;rw [hk1] at hs1;simp only at hs1;split at hs1
       ·split at hs1
        ·cases hs1
        ·split at hs1
         ·rename_i hsr;rw [hy] at hsr;simp only [eC,hn] at hsr;split at hsr
          ·rename_i hh; exact hh.1
          ·cases hsr
         ·rw [hy] at hs1;split at hs1
          ·rename_i hpp;cases hpp;simp only [hn] at hs1;split at hs1
           ·split at hs1
            ·rename_i hh; exact hh
            ·cases hs1
           ·cases hs1
          ·cases hs1
       ·cases hs1
      rw [hy];simp only [eC,hn];rw [if_pos ⟨hes,hs⟩];rfl
     ·cases hs
    ·cases hs
   exact dW (u:=u) (w':=w') (by simp only [execOp,hop,resolve,Sem.run_bind,Sem.run_pure,Result.andThen_ok,invoke,builtin,e1]) ⟨m',by rw [hd]; exact e2,by rw [hd]; exact e3 ⟨e,es,hk1,hsrc⟩,fun q=>by simp [stillO,quietA,quietT,hop] at q,fun q=>by simp [newO,hop] at q⟩
  ·rename_i hs1;exfalso;simp only [altX,hop,hd,hargs,htys0] at h;simp only [exe0,hop,hd,hargs,htys0] at hs1;split at h
   case h_2=>cases h
   rename_i ti tix hti htix;rw [hti] at htix;cases htix;rw [hti] at hs1;simp only at hs1;split at h
   case h_2=>cases h
   rename_i e es hk;split at h
   case h_2=>cases h
   rename_i te hte;rw [hk] at hs1;simp only [and_self,if_true] at hs1;obtain ⟨s1,q⟩:=yi hk hte hhead hk h;rw [q] at hs1;cases hs1
 ·rename_i x args tys hop;split at hc
  case h_2=>cases hc
  rename_i d f caps hd hx;split at hc
  case h_2=>cases hc
  rename_i fs hL hfs;have e:exe E o st=exe0 E o st:=by
   simp only [exe,preX,altX,hop];split<;>simp_all
  rw [e] at h;simp only [exe0,hop,callE,callTo,hd,hx] at h;split at h
  case isFalse=>cases h
  rename_i hdH;simp only [callX,hL,hfs] at h;have hct:callTo st { callee:=.value x,args:=args,argTypes:=tys }=some (cloF f,cloA f (args.toList.map st.ev) caps):=by simp only [callTo,hx]
  rw [hd];by_cases ho:fs.own=[]
  ·rw [if_pos (by simp [ho])] at hc;rw [if_pos ho] at h;split at h
   case h_2=>cases h
   rename_i cs hsn;rw [if_pos (.inl hc)] at h;split at h
   case h_2=>cases h
   rename_i r hr;cases h;refine Oper.wp_mono (fun a' w' h'=>?_) (vS hG H hop hd hct hfs ho hsn (.inl hc) hr hdH);obtain ⟨m',h1,h2,h3⟩:=h';exact ⟨m',h1,fun n hn hnd hO _=>⟨h2 n (fun e=>hnd (by rw [e])) [],fun b hb=>h3 b (H.lt hO hb)⟩,fun q=>by simp [stillO,quietA,quietT,hop] at q,fun q=>by simp [newO,hop] at q⟩
  rw [if_neg (by simpa using ho)] at hc;have hp:fs.peek=false:=by simpa using hc
  rw [if_neg ho,if_neg (by simp [hp])] at h;refine Oper.wp_mono (fun a' w' h'=>?_) (rK hG H hop hd hct hfs h);obtain ⟨m',h1,h2⟩:=h';exact ⟨m',h1,h2,fun q=>by simp [stillO,quietA,quietT,hop] at q,fun q=>by simp [newO,hop] at q⟩
 ·rename_i t x lo hi mx hop;have e0:exe0 E o st=put? o st (qop E st o.op):=by simp only [exe0,hop]
  have p0:preX E o st=none:=by simp only [preX,hop]
  have a0:altX E o st=none:=by
   simp only [altX,hop];cases hi with
   | none=>cases lo<;>rfl
   | some hi=>cases mx with
    | none=>simp at hc
    | some mx=>cases lo<;>rfl
  simp only [exe,p0,e0,a0] at h;cases hq:qop E st o.op with
  | none=>rw [hq] at h; simp [put?] at h
  | some c=>
   rw [hq] at h;simp only [put?,Option.some.injEq] at h;exact quiet ⟨c,hq,h.symm⟩
 ·exact quiet (w4 hc h)
end
end Go.Abs

namespace Go.Abs
section
variable {P:Program} {ops:Array Oper} {Q:Exit->Act->World->Prop}
theorem yc {j:Nat} {oj:Oper} {di:Option Tmp} {v:Value} (hj:ops[j]?=some oj)
  (h1:∀ d,di=some d->d∉oj.looksAt ops) (h2:∀ d,di=some d->oj.dst≠some d) (hsj:∀ cs b,oj.op≠.select cs b)
  (hQ:∀ c a w,Q (.panic c) (a.put di v) w->Q (.panic c) a w) {Y:Act->Prop} (keep:∀ a u,Y a->Y (a.put oj.dst u))
  (keepD:∀ (a:Act) d,Y a->Y { a with defers:=d::a.defers }) {K:Act->World->Prop} {a:Act} {w:World} (hy:Y a) (h:wpOp P ops Q j K (a.put di v) w) :
  wpOp P ops Q j (fun a' w'=>Y a'/\K (a'.put di v) w') a w:=by
 unfold wpOp at *;simp only [hj] at *;rw [wanted_put oj a di v h1] at h;split
 ·rename_i hw;simp only [hw,if_true] at h;rcases h with h|⟨hasks,hlets⟩
  case inr=>exact .inr ⟨by unfold Oper.asks at *; rw [execOp_put oj hsj a di v h1] at hasks; exact hasks,hlets⟩
  refine .inl ?_;unfold Oper.wp at *;rw [execOp_put oj hsj a di v h1] at h;generalize (execOp a.eval oj).run P w=r at *;cases r with
  | ok n w'=>
   cases n<;>simp only [Oper.upon] at h ⊢
   case value u=>exact ⟨keep a u hy,by rw [<-Act.put_comm a v u h2]; exact h⟩
   case skip=>exact ⟨keep a _ hy,by rw [<-Act.put_comm a v undef h2]; exact h⟩
   case defer d=>
    refine ⟨keep _ _ (keepD a d hy),?_⟩;rw [<-Act.put_comm _ v undef h2,<-Act.put_defers];exact h
   case enter f args=>
    refine Calls.mono h fun e w'' he=>?_;cases e with
    | returned u=>exact ⟨keep a u hy,by rw [<-Act.put_comm a v u h2]; exact he⟩
    | panicked c=>exact hQ _ _ _ he
    | outgrown=>exact he
   case row row args=>exact Rows.mono h fun u w'' he=>⟨keep a u hy,by rw [<-Act.put_comm a v u h2]; exact he⟩
  | halt x w'=>
   cases x<;>simp only [Oper.upon] at h ⊢
   case panic u=>exact hQ _ _ _ h
 ·rename_i hw;simp only [hw] at h;exact ⟨keep a _ hy,by rw [<-Act.put_comm a v undef h2]; exact h⟩
def wpAnyR (P:Program) (ops:Array Oper) (Q:Exit->Act->World->Prop) (R:Nat->World->World->Prop):Nat->Array Bool->Act->World->Prop
 | 0,listed,a,w=>Region.ready .any ops listed=[]/\Q .normal a w
 | fuel+1,listed,a,w=>(Region.ready .any ops listed=[]->Q .normal a w) ∧
  ∀ i∈Region.ready .any ops listed,wpOp P ops Q i (fun a' w'=>R i w w'/\wpAnyR P ops Q R fuel (listed.setIfInBounds i true) a' w') a w
variable {R:Nat->World->World->Prop}
theorem oF:∀ (fuel:Nat) (listed:Array Bool) (a:Act) (w:World),wpAnyR P ops Q R fuel listed a w->wpAny P .any ops Q fuel listed a w:=by
 intro fuel
 induction fuel with
 | zero=>intro listed a w h; exact h
 | succ fuel ih=>intro listed a w h; exact ⟨h.1,fun i hi=>wpOp_mono (fun a' w' h'=>ih _ _ _ h'.2) (h.2 i hi)⟩
def Down (ops:Array Oper) (listed:Array Bool):Prop:=∀ i o e,listed.getD i false=true->ops[i]?=some o->e∈o.after->Region.binds .any e=true->listed.getD e.on false=true
theorem Down.ready {listed:Array Bool} {i:Nat} (h:Down ops listed) (hi:i∈Region.ready .any ops listed):Down ops (listed.setIfInBounds i true):=by
 obtain ⟨_,o,ho,hall⟩:=mem_ready.1 hi;intro k ok e hk hok he hb;by_cases e1:i=k
 ·subst e1;rw [ho] at hok;cases hok;exact getD_set_true (hall e he hb)
 ·rw [getD_set_ne false e1] at hk;exact getD_set_true (h k ok e hk hok he hb)
theorem oE {o:Oper} {f:Nat->Option Bool} (h:o.guard=none):Region.wanted o f=true:=by
 simp [Region.wanted,h]
theorem qs {i:Nat} {oi:Oper} {v:Value} (hi:ops[i]?=some oi) (hgi:oi.guard=none) (hsel:∀ (j:Nat) (o:Oper) cs b,ops[j]?=some o->o.op≠.select cs b)
  (hQ:∀ c a w,Q (.panic c) (a.put oi.dst v) w->Q (.panic c) a w) (hR0:∀ w,R i w w) {Sx:World->Prop}
  (hS:∀ listed j w w',Down ops listed->listed.getD i true=false->j∈Region.ready .any ops listed->j≠i->R j w w'->Sx w->Sx w') :
  ∀ (fuel:Nat) (listed:Array Bool) (a:Act) (w:World),Down ops listed ->
   (∀ j oj,ops[j]?=some oj->j≠i->listed.getD j true=false->(∀ e∈oj.after,Region.binds .any e=true->e.on≠i)->oi.apart ops oj=true) ->
   i∈Region.ready .any ops listed->Sx w->(∀ w,Sx w->(execOp a.eval oi).run P w=.ok (.value v) w) ->
   wpAnyR P ops Q R fuel (listed.setIfInBounds i true) (a.put oi.dst v) w->wpAnyR P ops Q R (fuel+1) listed a w:=by
 have now:∀ {fuel:Nat} {listed:Array Bool} {a:Act} {w:World},Sx w->(∀ w,Sx w->(execOp a.eval oi).run P w=.ok (.value v) w)->wpAnyR P ops Q R fuel (listed.setIfInBounds i true) (a.put oi.dst v) w ->
   wpOp P ops Q i (fun a' w'=>R i w w'/\wpAnyR P ops Q R fuel (listed.setIfInBounds i true) a' w') a w:=by
  intro fuel listed a w hs hy H;unfold wpOp;simp only [hi];rw [if_pos (oE hgi)];simp only [Oper.wp,hy w hs,Oper.upon];exact .inl ⟨hR0 w,H⟩
 intro fuel
 induction fuel with
 | zero=>
  intro listed a w hd _ hr hs hy H;refine ⟨fun h=>(by rw [h] at hr; cases hr),fun j hj=>?_⟩;by_cases hji:j=i
  ·subst hji; exact now hs hy H
  ·have:=ready_mono hj hji;rw [H.1] at this;cases this
 | succ fuel ih=>
  intro listed a w hd hfree hr hs hy H;refine ⟨fun h=>(by rw [h] at hr; cases hr),fun j hj=>?_⟩;by_cases hji:j=i
  ·subst hji; exact now hs hy H
  ·have h1:=H.2 j (ready_mono hj hji);obtain ⟨hjun,oj,hoj,hall⟩:=mem_ready.1 hj;have hiun:=(mem_ready.1 hr).1;have hnot:∀ e∈oj.after,Region.binds .any e=true->e.on≠i:=fun e he hb heq=>by
    have h1:=hall e he hb;rw [heq] at h1;rw [gC h1] at hiun;cases hiun
   have hap:=hfree j oj hoj hji hjun hnot;obtain ⟨p1,p2,p3⟩:=Oper.apart_spec hap;have h2:=yc (Y:=fun a=>∀ w,Sx w->(execOp a.eval oi).run P w=.ok (.value v) w) hoj p1 p2 (fun cs b=>hsel j oj cs b hoj) hQ
    (fun a u hy w hs=>by rw [execOp_put oi (fun cs b=>hsel i oi cs b hi) a oj.dst u p3]; exact hy w hs) (fun a d hy=>hy) hy h1
   have hfree':∀ k ok,ops[k]?=some ok->k≠i->(listed.setIfInBounds j true).getD k true=false ->
     (∀ e∈ok.after,Region.binds .any e=true->e.on≠i)->oi.apart ops ok=true:=fun k ok hk hki hun hno=>by
    refine hfree k ok hk hki ?_ hno;by_cases hjk:j=k
    ·subst hjk; exact hjun
    ·rw [getD_set_ne true hjk] at hun; exact hun
   refine wpOp_mono (fun a' w' h3=>⟨h3.2.1,ih (listed.setIfInBounds j true) a' w' (hd.ready hj) hfree' (ready_mono hr (Ne.symm hji)) (hS listed j w w' hd hiun hj hji h3.2.1 hs) h3.1 ?_⟩) h2;rw [Array.setIfInBounds_comm _ _ hji];exact h3.2.2
def chainB (ops:Array Oper):List Nat->Array Bool->Bool
 | [],listed=>(Region.ready .any ops listed).isEmpty
 | c::l,listed=>(Region.ready .any ops listed == [c]) && chainB ops l (listed.setIfInBounds c true)
def treeB (ops:Array Oper) (C2:List Nat):Nat->List (List Nat)->Array Bool->Bool
 | 0,Os,listed=>!Os.isEmpty && (Os.all (·.isEmpty) && chainB ops C2 listed)
 | n+1,Os,listed=>!Os.isEmpty && (!(Region.ready .any ops listed).isEmpty && (Region.ready .any ops listed).all fun i=>treeB ops C2 n ((Os.filter fun o=>o.head? == some i).map List.tail) (listed.setIfInBounds i true))
def stillB (ops:Array Oper) (j:Nat):Bool:=match ops[j]? with
 | some o=>stillO o
 | none=>false
def newB (ops:Array Oper) (j:Nat):Bool:=match ops[j]? with
 | some o=>newO o
 | none=>false
def fastN (ops:Array Oper) (C:List Nat) (i:Nat):Bool:=C.all fun j=>(stillB ops j || newB ops j) || ordB ops ops.size i j
def fastK (ops:Array Oper) (C:List Nat) (i:Nat):Bool:=C.all fun j=>stillB ops j || ordB ops ops.size i j
def fastL (ops:Array Oper) (C:List Nat) (i:Nat):Bool:=C.all fun j=>ordB ops ops.size i j
def chkT1 (ops:Array Oper) (C1:List Nat) (O2:List (List Nat)) (C2:List Nat):List Nat->Array Bool->Bool
 | [],listed=>treeB ops C2 C1.length (C1::O2) listed
 | i::T,listed=>(match ops[i]? with
  | some o=>quietT o && ((Region.ready .any ops listed).contains i && (Region.free .any ops listed i && ((!(isLd o) || fastL ops C2 i) && (i::T).all fun k=>match ops[k]? with
   | some ok=>match ok.dst with
    | some d=>!((o.looksAt ops).contains d)
    | none=>true
   | none=>false)))
  | none=>false) && chkT1 ops C1 O2 C2 T (listed.setIfInBounds i true)
def chkTC (ops:Array Oper) (T C1:List Nat) (O2:List (List Nat)) (C2:List Nat):Bool:=
 Region.noSelect ops && (ops.all (·.guard.isNone) && (T.length+(C1.length+C2.length) == ops.size &&
  ((List.range ops.size).all (fun j=>T.contains j || (C1.contains j || C2.contains j)) && ((C1++C2).all (fun j=>!(T.contains j)) && (C2.all (fun j=>!(C1.contains j)) && (O2.all (fun o=>o.all fun j=>C1.contains j) && chkT1 ops C1 O2 C2 T (Array.replicate ops.size false)))))))
def ownV (V:List Nat) (s:St):Bool:=V.all fun n=>(s.roots n).isOwn
def chkS (ops:Array Oper) (T C1 V:List Nat) (s:St):Bool:=
 ownV V s && (V.all (fun n=>Nat.blt n H0 && C1.all fun j=>match ops[j]? with|some o=>o.dst != some n|none=>false) &&
  T.all fun i=>match ops[i]? with
   | some o=>!(isLd o) || (fastK ops C1 i || match o.op with
    | .load _ x=>match s.ev x with
     | .pref n p _ _=>fastN ops C1 i || (p.isEmpty && V.contains n)
     | _=>false
    | _=>false)
   | none=>false)
def HopTo (E:Env) (ops:Array Oper) (V:List Nat):List Nat->St->St->Prop
 | [],s,sC=>Weak s sC
 | i::l,s,sC=>∃ o s',ops[i]?=some o/\chkA E o s=true/\exe E o s=some s'/\ownV V s'=true/\HopTo E ops V l s' sC
def HopsTo (E:Env) (ops:Array Oper) (V:List Nat):List (List Nat)->St->St->Prop
 | [],_,_=>True
 | o::os,s,sC=>HopTo E ops V o s sC/\HopsTo E ops V os s sC
def Hop (E:Env) (ops:Array Oper) (V:List Nat) (O2:List (List Nat)) (C2:List Nat) (Z:St->Prop) (s0:St):List Nat->St->Prop
 | [],s=>∃ sC,Weak s sC/\HopsTo E ops V O2 s0 sC/\RX E false (gdOf ops) (barC ops) 0 (pickO ops C2) sC Z
 | i::l,s=>∃ o s',ops[i]?=some o/\chkA E o s=true/\exe E o s=some s'/\ownV V s'=true/\Hop E ops V O2 C2 Z s0 l s'
theorem vM {E:Env} {V C2:List Nat} {Z:St->Prop} {s0 s:St} (h:RX E false (gdOf ops) (barC ops) 0 (pickO ops C2) s Z):Hop E ops V [] C2 Z s0 [] s:=⟨s,fun _ _ _ h=>h,trivial,h⟩
theorem y8 {E:Env} {s:St} {i:Nat} {Y:St->Prop} (h1:(match ops[i]? with|some o=>chkA E o s|none=>false)=true)
  (h2:RX E false (gdOf ops) (barC ops) 0 (pickO ops [i]) s Y):∃ o s',ops[i]?=some o/\chkA E o s=true/\exe E o s=some s'/\Y s':=by
 cases ho:ops[i]? with
 | none=>rw [ho] at h1; cases h1
 | some o=>
  rw [ho] at h1;simp only [pickO,ho] at h2;obtain ⟨s',g1,g2⟩:=RX_run _ _ _ _ h2;have hg:o.guard=none:=by
   simp only [chkA,Bool.and_eq_true,Option.isNone_iff_eq_none] at h1;exact h1.1
  simp only [runL,stepO,hg] at g1;refine ⟨o,s',rfl,h1,?_,g2⟩;split at g1
  ·rename_i s1 hs1; rw [hs1]; exact g1
  ·cases g1
theorem pD {E:Env} {V C2:List Nat} {O2:List (List Nat)} {Z:St->Prop} {s0 s:St} {i:Nat} {l:List Nat} (h1:(match ops[i]? with|some o=>chkA E o s|none=>false)=true)
  (h2:∀ Y:St->Prop,(∀ s',ownV V s'=true->Hop E ops V O2 C2 Z s0 l s'->Y s')->RX E false (gdOf ops) (barC ops) 0 (pickO ops [i]) s Y):Hop E ops V O2 C2 Z s0 (i::l) s:=by
 obtain ⟨o,s',a,b,c,d,e⟩:=y8 h1 (h2 (fun s'=>ownV V s'=true/\Hop E ops V O2 C2 Z s0 l s') fun s' a b=>⟨a,b⟩);exact ⟨o,s',a,b,c,d,e⟩
theorem Hop_to {E:Env} {V C2:List Nat} {O2:List (List Nat)} {Z:St->Prop} {s0:St}:∀ (l:List Nat) {s:St},Hop E ops V O2 C2 Z s0 l s->∃ sC,HopTo E ops V l s sC/\HopsTo E ops V O2 s0 sC/\RX E false (gdOf ops) (barC ops) 0 (pickO ops C2) sC Z
 | [],s,⟨sC,hw,h1,h2⟩=>⟨sC,hw,h1,h2⟩
 | i::l,s,⟨o,s',a,b,c,d,e⟩=>by
  obtain ⟨sC,e1,e2,e3⟩:=Hop_to l e;exact ⟨sC,⟨o,s',a,b,c,d,e1⟩,e2,e3⟩
theorem rV {E:Env} {V:List Nat} {s sC:St}:∀ {O2:List (List Nat)},HopsTo E ops V O2 s sC->∀ o∈O2,HopTo E ops V o s sC
 | [],_,o,ho=>by cases ho
 | o::os,h,q,hq=>by
  rcases List.mem_cons.1 hq with rfl|hq
  ·exact h.1
  ·exact rV h.2 q hq
section
variable {E:Env} {X:Ctx}
theorem qo {o:Oper} {l:List Oper} {s sf:St} (h:runL E ops (o::l) s=some sf):∃ s1,stepO E ops o s=some s1/\runL E ops l s1=some sf:=by
 simp only [runL] at h;split at h
 ·rename_i s1 h1; exact ⟨s1,h1,h⟩
 ·cases h
theorem chain2 (hT:TOk P E) (hG:GOk P E) {sf:St} (hq:∀ a w,Inv X sf a w->Q .normal a w):∀ (C2:List Nat) {listed:Array Bool} {st:St} {a:Act} {w:World},
  (∀ j∈C2,∀ w w',R j w w')->Inv X st a w->runL E ops (pickO ops C2) st=some sf->chainB ops C2 listed=true->wpAnyR P ops Q R C2.length listed a w:=by
 intro C2
 induction C2 with
 | nil=>
  intro listed st a w _ H h hc;simp only [chainB,List.isEmpty_iff] at hc;simp only [pickO,runL,Option.some.injEq] at h;subst h;exact ⟨hc,hq a w H⟩
 | cons c l ih=>
  intro listed st a w hR H h hc;simp only [chainB,Bool.and_eq_true,beq_iff_eq] at hc;have hm:c∈Region.ready .any ops listed:=by rw [hc.1]; simp
  obtain ⟨_,o,ho,_⟩:=mem_ready.1 hm;simp only [pickO,ho] at h;obtain ⟨s1,h1,h2⟩:=qo h;refine ⟨fun hr=>(by rw [hr] at hm; cases hm),fun i hi=>?_⟩;rw [hc.1] at hi;simp only [List.mem_singleton] at hi;subst hi;exact oZ hT hG H ho h1 fun a' w' H'=>⟨hR i (by simp) _ _,ih (fun j hj=>hR j (by simp [hj])) H' h2 hc.2⟩
theorem own_at {c:C} (h:c.isOwn=true):OwnAt c []:=by simp [OwnAt,C.at,h]
theorem treeR (hT:TOk P E) (hG:GOk P E) {V C1 C2:List Nat} {sC:St} {Bs:Nat->Prop} (hR:∀ j∈C1,∀ w w':World,(∀ b,Bs b->w'.heap[b]?=w.heap[b]?)->(stillB ops j=true->w'=w)->(newB ops j=true->∀ b,b < w.heap.size->w'.heap[b]?=w.heap[b]?)->R j w w') (hd:∀ j∈C1,∀ o,ops[j]?=some o->∀ n∈V,o.dst≠some n) (hV:∀ n∈V,n < H0)
  (hend:∀ listed a w,Inv X sC a w->chainB ops C2 listed=true->wpAnyR P ops Q R C2.length listed a w):∀ (n:Nat) (Os:List (List Nat)) {listed:Array Bool} {m:Nat->Path->Value} {st:St} {a:Act} {w:World},
  (∀ o∈Os,∀ j∈o,j∈C1)->InvM X m st a w->ownV V st=true->(∀ b,Bs b->∃ n∈V,blk (m n [])=some b)->(∀ o∈Os,HopTo E ops V o st sC)->treeB ops C2 n Os listed=true->wpAnyR P ops Q R (n+C2.length) listed a w:=by
 intro n
 induction n with
 | zero=>
  intro Os listed m st a w _ H _ _ h hc;simp only [treeB,Bool.and_eq_true,Bool.not_eq_true',List.isEmpty_eq_false_iff] at hc;obtain ⟨h1,h2,h3⟩:=hc;obtain ⟨o,ho⟩:=List.exists_mem_of_ne_nil _ h1;have he:o=[]:=by simpa using List.all_eq_true.1 h2 o ho
  have:=h o ho;rw [he] at this;rw [Nat.zero_add];exact hend listed a w (this X a w ⟨m,H⟩) h3
 | succ n ih=>
  intro Os listed m st a w hO H hown hb h hc;simp only [treeB,Bool.and_eq_true,Bool.not_eq_true',List.isEmpty_eq_false_iff] at hc;obtain ⟨_,hne,hall⟩:=hc;rw [show n+1+C2.length=n+C2.length+1 from by omega];refine ⟨fun hr=>absurd hr hne,fun i hi=>?_⟩;have hsub:=List.all_eq_true.1 hall i hi;have hOi:∀ o∈(Os.filter fun o=>o.head? == some i).map List.tail,(i::o)∈Os:=by
   intro o ho;simp only [List.mem_map,List.mem_filter,beq_iff_eq] at ho;obtain ⟨q,⟨h1,h2⟩,rfl⟩:=ho;cases q with
   | nil=>cases h2
   | cons x q=>
    simp only [List.head?_cons,Option.some.injEq] at h2;subst h2;exact h1
  have hex:∃ o,o∈(Os.filter fun o=>o.head? == some i).map List.tail:=by
   refine List.exists_mem_of_ne_nil _ fun e=>?_;rw [e] at hsub;cases n<;>simp [treeB] at hsub
  obtain ⟨o0,ho0⟩:=hex;obtain ⟨o,s',ho,hca,he,hown',_⟩:=h _ (hOi o0 ho0);have hg:o.guard=none:=by
   simp only [chkA,Bool.and_eq_true,Option.isNone_iff_eq_none] at hca;exact hca.1
  have hiC:i∈C1:=hO _ (hOi o0 ho0) i (by simp);unfold wpOp;simp only [ho];rw [if_pos (oE hg)];refine .inl (Oper.wp_mono (fun a' w' h'=>?_) (exeK hT hG H he hca));obtain ⟨m',H',hk,hstill,hnew⟩:=h';have hkeep:∀ n∈V,m' n []=m n []/\∀ b,blk (m n [])=some b->w'.heap[b]?=w.heap[b]?:=fun n hn=>
   hk n (hV n hn) (hd i hiC o ho n hn) (own_at (List.all_eq_true.1 hown n hn)) (own_at (List.all_eq_true.1 hown' n hn))
  refine ⟨hR i hiC _ _ (fun b hB=>?_) (fun q=>hstill (by simpa only [stillB,ho] using q)) (fun q=>hnew (by simpa only [newB,ho] using q)),ih _ (fun q hq j hj=>hO _ (hOi q hq) j (by simp [hj])) H' hown' (fun b hB=>?_) (fun q hq=>?_) hsub⟩
  ·obtain ⟨n,hn,e⟩:=hb b hB;exact (hkeep n hn).2 b e
  ·obtain ⟨n,hn,e⟩:=hb b hB;exact ⟨n,hn,by rw [(hkeep n hn).1]; exact e⟩
  ·obtain ⟨o2,s2,g1,_,g3,_,g5⟩:=h _ (hOi q hq);rw [ho] at g1;cases g1;rw [he] at g3;cases g3;exact g5
theorem tA {o:Oper} (hg:o.guard=none) {st st':St} (h:stepO E ops o st=some st'):exe E o st=some st':=by
 simpa [stepO,hg] using h
theorem km {o:Oper} (h:quietT o=true):o.guard=none:=by
 simp only [quietT,Bool.and_eq_true,Option.isNone_iff_eq_none] at h;exact h.1
theorem ev_put {st:St} {d:Option Tmp} {c:C} {x:Operand} (h:∀ t,d=some t->x≠.tmp t):(st.put d c).ev x=st.ev x:=by
 cases d with
 | none=>rfl
 | some d=>
  cases x with
  | tmp t=>
   have:d≠t:=fun e=>h d rfl (by rw [e]);simp [St.ev,St.put,List.getElem?_set_ne this]
  | _=>rfl
theorem sS {o:Oper} {x:Operand} (hx:x∈o.op.operands) {t:Tmp} (e:x=.tmp t):t∈o.looksAt ops:=by
 subst e;exact List.mem_append_left _ (List.mem_filterMap.2 ⟨.tmp t,by simpa using hx,rfl⟩)
theorem zv:∀ (T:List Nat) {st sT:St} {o:Oper},T.all (fun k=>match ops[k]? with|some ok=>quietT ok && (match ok.dst with|some d=>!((o.looksAt ops).contains d)|none=>true)|none=>false)=true ->
  runL E ops (pickO ops T) st=some sT->sT.roots=st.roots/\∀ x∈o.op.operands,sT.ev x=st.ev x:=by
 intro T
 induction T with
 | nil=>
  intro st sT o _ h;simp only [pickO,runL,Option.some.injEq] at h;subst h;exact ⟨rfl,fun _ _=>rfl⟩
 | cons k T ih=>
  intro st sT o hall h;simp only [List.all_cons,Bool.and_eq_true] at hall;obtain ⟨h1,h2⟩:=hall;split at h1
  case h_2=>cases h1
  rename_i ok hok;simp only [Bool.and_eq_true] at h1;simp only [pickO,hok] at h;obtain ⟨s1,g1,g2⟩:=qo h;obtain ⟨c,_,rfl⟩:=p7 h1.1 (tA (km h1.1) g1);obtain ⟨e1,e2⟩:=ih h2 g2;refine ⟨e1.trans (by cases ok.dst<;>rfl),fun x hx=>(e2 x hx).trans (ev_put fun t ht e=>?_)⟩
  have:=h1.2;rw [ht] at this;simp only [Bool.not_eq_true',<-Bool.not_eq_true] at this;exact this (by simpa using sS hx e)
theorem vh {C1 C2:List Nat} {O2:List (List Nat)}:∀ (T:List Nat) {listed:Array Bool},chkT1 ops C1 O2 C2 T listed=true->∀ i∈T,∃ o,ops[i]?=some o/\quietT o=true:=by
 intro T
 induction T with
 | nil=>intro _ _ i hi; cases hi
 | cons k T ih=>
  intro listed h i hi;simp only [chkT1,Bool.and_eq_true] at h;rcases List.mem_cons.1 hi with rfl|hi
  ·have h1:=h.1;split at h1
   ·rename_i o ho; simp only [Bool.and_eq_true] at h1; exact ⟨o,ho,h1.1⟩
   ·cases h1
  ·exact ih h.2 i hi
theorem T_run (hT:TOk P E) {T0 C1 C2 V:List Nat} {O2:List (List Nat)} (hsel:Region.noSelect ops=true) (hcov:(List.range ops.size).all (fun j=>T0.contains j || (C1.contains j || C2.contains j))=true)
  (hdis:(C1++C2).all (fun j=>!(T0.contains j))=true) (hQ:∀ c a w,¬ Q (.panic c) a w) {m:Nat->Path->Value} {sT:St} {w:World} {fuel:Nat} {Bs:Nat->Prop}
  (hB:∀ n∈V,∀ b,blk (m n [])=some b->Bs b)
  (hR:∀ j w w',R j w w'↔(if T0.contains j=true then w'=w else if C1.contains j=true then (∀ b,Bs b->w'.heap[b]?=w.heap[b]?)/\(stillB ops j=true->w'=w)/\(newB ops j=true->∀ b,b < w.heap.size->w'.heap[b]?=w.heap[b]?) else True)):∀ (T:List Nat) {listed:Array Bool} {st:St} {a:Act},
  (∀ i∈T,i∈T0)->Down ops listed->InvM X m st a w->runL E ops (pickO ops T) st=some sT->chkT1 ops C1 O2 C2 T listed=true ->
  (T.all fun i=>match ops[i]? with
   | some o=>!(isLd o) || (fastK ops C1 i || match o.op with
    | .load _ x=>match sT.ev x with
     | .pref n p _ _=>fastN ops C1 i || (p.isEmpty && V.contains n)
     | _=>false
    | _=>false)
   | none=>false)=true ->
  (∀ listed a',InvM X m sT a' w->treeB ops C2 C1.length (C1::O2) listed=true->wpAnyR P ops Q R fuel listed a' w)->wpAnyR P ops Q R (T.length+fuel) listed a w:=by
 intro T
 induction T with
 | nil=>
  intro listed st a _ _ H h hc _ hk;simp only [pickO,runL,Option.some.injEq] at h;subst h;simpa using hk listed a H hc
 | cons i T ih=>
  intro listed st a hT0 hd H h hc hs hk;have hq:=vh (i::T) hc;simp only [chkT1,Bool.and_eq_true] at hc;obtain ⟨hc1,hc2⟩:=hc;split at hc1
  case h_2=>cases hc1
  rename_i o ho;simp only [Bool.and_eq_true] at hc1;obtain ⟨hqt,hrd,hfr,hld,hno⟩:=hc1;simp only [List.all_cons,Bool.and_eq_true,ho] at hs;obtain ⟨hs1,hs2⟩:=hs;simp only [pickO,ho] at h;obtain ⟨s1,g1,g2⟩:=qo h;obtain ⟨c,gq,rfl⟩:=p7 hqt (tA (km hqt) g1);obtain ⟨v,e1,e2⟩:=qop_ok hT H gq;have hrd:i∈Region.ready .any ops listed:=by simpa using hrd
  obtain ⟨dd,e2⟩:=e2;have next:=ih (fun j hj=>hT0 j (by simp [hj])) (hd.ready hrd) (H.put o.dst e2) g2 hc2 hs2 hk
  rw [show (i::T).length+fuel=T.length+fuel+1 from by simp; omega];have hiT:T0.contains i=true:=by simpa using hT0 i (by simp)
  have hready:∀ (l:Array Bool) j,Down ops l->l.getD i true=false->j∈Region.ready .any ops l->fastK ops C1 i=true->C1.contains j=true->stillB ops j=true:=by
   intro l j hdl hun hj hf hcj;have hor:=List.all_eq_true.1 hf j (by simpa using hcj);rw [Bool.or_eq_true] at hor;rcases hor with hor|hor
   ·exact hor
   ·exfalso;obtain ⟨_,oj,hoj,hall⟩:=mem_ready.1 hj;rw [gC (ko hdl ops.size i j oj hoj hall hor)] at hun;cases hun
  have hready2:∀ (l:Array Bool) j,Down ops l->l.getD i true=false->j∈Region.ready .any ops l->fastL ops C2 i=true->C2.contains j=false:=by
   intro l j hdl hun hj hf;cases hcj:C2.contains j with
   | false=>rfl
   | true=>
    exfalso;have hor:ordB ops ops.size i j=true:=List.all_eq_true.1 hf j (by simpa using hcj);obtain ⟨_,oj,hoj,hall⟩:=mem_ready.1 hj;rw [gC (ko hdl ops.size i j oj hoj hall hor)] at hun;cases hun
  have hcover:∀ (l:Array Bool) j,j∈Region.ready .any ops l->T0.contains j=false->C1.contains j=false->C2.contains j=true:=by
   intro l j hj h1 h2;obtain ⟨_,oj,hoj,_⟩:=mem_ready.1 hj;have:=List.all_eq_true.1 hcov j (by simpa using (Array.getElem?_eq_some_iff.1 hoj).1);simpa only [h1,h2,Bool.false_or] using this
  have first:∀ (Sx:World->Prop),(∀ listed j w w',Down ops listed->listed.getD i true=false->j∈Region.ready .any ops listed->j≠i->R j w w'->Sx w->Sx w')->Sx w ->
    (∀ w,Sx w->(execOp a.eval o).run P w=.ok (.value v) w)->wpAnyR P ops Q R (T.length+fuel+1) listed a w:=fun Sx h1 h2 h3=>
   qs ho (km hqt) (Region.noSelect_spec hsel) (fun c a w hp=>(hQ c _ _ hp).elim) (fun w=>(hR i w w).2 (by rw [if_pos hiT])) h1 _ _ _ _ hd (Region.free_spec ho hfr) hrd h2 h3 next
  cases hl:isLd o with
  | false=>exact first (fun _=>True) (fun _ _ _ _ _ _ _ _ _ _=>trivial) trivial (fun w2 _=>yV hT H hqt hl gq e1 w2)
  | true=>
   simp only [hl,Bool.not_true,Bool.false_or] at hld hs1;cases hf:fastK ops C1 i with
   | true=>
    refine first (fun w2=>w2=w) ?_ rfl (fun w2 e=>by rw [e]; exact e1)
    intro l j w1 w2 hdl hun hj hji hRj hw;have h2:=hready2 l j hdl hun hj hld;cases h0:T0.contains j with
    | true=>rw [hR,if_pos h0] at hRj; exact hRj.trans hw
    | false=>
     cases h1:C1.contains j with
     | false=>rw [hcover l j hj h0 h1] at h2; cases h2
     | true=>
      rw [hR,if_neg (by rw [h0]; simp),if_pos h1] at hRj;exact (hRj.2.1 (hready l j hdl hun hj hf h1)).trans hw
   | false=>
    simp only [hf,Bool.false_or] at hs1;split at hs1
    case h_2=>cases hs1
    rename_i t x hop;split at hs1
    case h_2=>cases hs1
    rename_i n pp ii jj hev;have hquiet:T.all (fun k=>match ops[k]? with|some ok=>quietT ok && (match ok.dst with|some d=>!((o.looksAt ops).contains d)|none=>true)|none=>false)=true:=by
     rw [List.all_eq_true] at hno ⊢;intro k hk';have h1:=hno k (by simp [hk']);obtain ⟨ok,hok,hqk⟩:=hq k (by simp [hk']);rw [hok] at h1 ⊢;simp only at h1 ⊢;rw [hqk];simpa using h1
    have hnoself:∀ tt,o.dst=some tt->x≠.tmp tt:=by
     intro tt htt e;have h1:=List.all_eq_true.1 hno i (by simp);rw [ho] at h1;simp only [htt,Bool.not_eq_true',<-Bool.not_eq_true] at h1;exact h1 (by simpa using sS (by rw [hop]; simp [Op.operands]) e)
    obtain ⟨_,q2⟩:=zv T hquiet g2;have hevx:st.ev x=.pref n pp ii jj:=by
     rw [<-ev_put (d:=o.dst) (c:=c) hnoself,<-q2 x (by rw [hop]; simp [Op.operands])];exact hev
    simp only [hop,qop] at gq;obtain ⟨ti,p1,p2⟩:=Option.bind_eq_some_iff.1 gq;rw [hevx] at p2;have hx:=ev_ok H x;rw [hevx] at hx;have e1':(Instr.loadAt t (a.eval x)).run P w=.ok v w:=by
     simp only [execOp,hop,Sem.run_bind] at e1;cases hr:(Instr.loadAt t (a.eval x)).run P w with
     | ok v' w'=>
      rw [hr] at e1;simp only [Result.andThen_ok,Sem.run_pure,Result.ok.injEq,Next.value.injEq] at e1;rw [e1.1,e1.2]
     | halt e w'=>rw [hr] at e1; cases e1
    have one:∀ b:Nat,(∀ w2:World,w2.heap[b]?=w.heap[b]?->(Instr.loadAt t (a.eval x)).run P w2=.ok v w2)->∀ w2:World,w2.heap[b]?=w.heap[b]?->(execOp a.eval o).run P w2=.ok (.value v) w2:=by
     intro b b3 w2 hw2;simp only [execOp,hop,Sem.run_bind,b3 w2 hw2,Result.andThen_ok,Sem.run_pure]
    cases hN:fastN ops C1 i with
    | true=>
     obtain ⟨b,y,b1,b3⟩:=wY hT H (hT t ti p1) hx p2 e1';refine first (fun w2=>w2.heap[b]?=w.heap[b]?) ?_ rfl (one b b3)
     intro l j w1 w2 hdl hun hj hji hRj hw;have h2:=hready2 l j hdl hun hj hld;rw [hR] at hRj;cases h0:T0.contains j with
     | true=>rw [if_pos h0] at hRj; rw [hRj]; exact hw
     | false=>
      rw [if_neg (by rw [h0]; simp)] at hRj;cases h1:C1.contains j with
      | false=>rw [hcover l j hj h0 h1] at h2; cases h2
      | true=>
       rw [if_pos h1] at hRj;have hor:=List.all_eq_true.1 hN j (by simpa using h1);rw [Bool.or_eq_true,Bool.or_eq_true] at hor;rcases hor with (hor|hor)|hor
       ·rw [hRj.2.1 hor]; exact hw
       ·refine (hRj.2.2 hor b ?_).trans hw;rw [b1] at hw;exact (Array.getElem?_eq_some_iff.1 hw).1
       ·exfalso;obtain ⟨_,oj,hoj,hall⟩:=mem_ready.1 hj;rw [gC (ko hdl ops.size i j oj hoj hall hor)] at hun;cases hun
    | false=>
     simp only [hN,Bool.false_or,Bool.and_eq_true,List.isEmpty_iff] at hs1;obtain ⟨hpp,hs1⟩:=hs1;subst hpp;obtain ⟨b,b1,_,b3⟩:=rF hT H (hT t ti p1) hx p2 e1';refine first (fun w2=>w2.heap[b]?=w.heap[b]?) ?_ rfl (one b b3)
     intro l j w1 w2 hdl hun hj hji hRj hw;have h2:=hready2 l j hdl hun hj hld;rw [hR] at hRj;cases h0:T0.contains j with
     | true=>rw [if_pos h0] at hRj; rw [hRj]; exact hw
     | false=>
      rw [if_neg (by rw [h0]; simp)] at hRj;cases h1:C1.contains j with
      | true=>rw [if_pos h1] at hRj; exact (hRj.1 b (hB n (by simpa using hs1) b b1)).trans hw
      | false=>rw [hcover l j hj h0 h1] at h2; cases h2
variable {st:St} {K:List Fm}
theorem wZ {Q:Exit->St->Prop} {id:Nat} {ops:Array Oper} (T C1:List Nat) (O2:List (List Nat)) (C2 V:List Nat) (hc:chkTC ops T C1 O2 C2=true)
  (h:∀ Z:St->Prop,(∀ s,ap E Q K .normal s->Z s)->∀ Y:St->Prop,(∀ s,chkS ops T C1 V s=true->Hop E ops V O2 C2 Z s C1 s->Y s)->RX E false (gdOf ops) (barC ops) 0 (pickO ops T) st Y):Wk E (.region id ops true) (ap E Q K) st:=by
 intro P hT hG hm hco X a w H ts hk;obtain ⟨m,H⟩:=H;obtain ⟨sT,h1,h2,h3⟩:=RX_run _ _ _ _ (h (fun s=>ap E Q K .normal s) (fun _ h=>h) (fun s=>chkS ops T C1 V s=true/\Hop E ops V O2 C2 (fun s=>ap E Q K .normal s) s C1 s) fun _ a b=>⟨a,b⟩);simp only [chkTC,Bool.and_eq_true,beq_iff_eq] at hc;obtain ⟨c1,c2,c3,c4,c5,c6,c8,c7⟩:=hc;simp only [chkS,Bool.and_eq_true] at h2;obtain ⟨k1,k2,k3⟩:=h2;rw [List.all_eq_true] at k2;refine wp_mono (wp_region_any hm (mu (Q:=fun e a' w'=>e=.normal/\∃ s,ap E Q K .normal s/\Inv X s a' w') hk _ _ _ _ (.refl _ _) (oF
  (R:=fun j w w'=>if T.contains j=true then w'=w else if C1.contains j=true then (∀ b,(∃ n∈V,blk (m n [])=some b)->w'.heap[b]?=w.heap[b]?)/\(stillB ops j=true->w'=w)/\(newB ops j=true->∀ b,b < w.heap.size->w'.heap[b]?=w.heap[b]?) else True) _ _ _ _ ?_))) ?_
 ·rw [<-c3];refine T_run hT (T0:=T) (C1:=C1) (C2:=C2) (V:=V) (Bs:=fun b=>∃ n∈V,blk (m n [])=some b) c1 c4 c5 (fun c a w hp=>by cases hp.1) (fun n hn b hb=>⟨n,hn,hb⟩) (fun j w w'=>Iff.rfl) T (fun i hi=>hi) ?_ (H.world rfl rfl rfl rfl) h1 (by rw [<-c3] at c7; rw [c3] at c7 ⊢; exact c7) k3 ?_
  ·intro i o e hi;have:(Array.replicate ops.size false).getD i false=false:=by
    simp only [Array.getD_eq_getD_getElem?,Array.getElem?_replicate];split<;>rfl
   rw [c3,this] at hi;cases hi
  ·intro listed a' H' hch;rw [List.all_eq_true] at c5 c6;have ht:∀ j∈C1++C2,T.contains j=false:=fun j hj=>by simpa using c5 j hj
   obtain ⟨sC,g1,g2,g3⟩:=Hop_to C1 h3;obtain ⟨sf,q1,q2⟩:=RX_run _ _ _ _ g3;refine treeR hT hG (C1:=C1) (sC:=sC) (Bs:=fun b=>∃ n∈V,blk (m n [])=some b) ?_ ?_ ?_ (fun listed a w Hs hch=>chain2 hT hG (sf:=sf) (fun a w H'=>⟨rfl,sf,q2,H'⟩) C2 (fun j hj w w'=>?_) Hs q1 hch) C1.length (C1::O2) ?_ H' k1 (fun b hb=>hb) ?_ hch
   ·intro j hj w w' hb hst hnw;rw [if_neg (by rw [ht j (by simp [hj])]; simp),if_pos (by simpa using hj)];exact ⟨hb,hst,hnw⟩
   ·intro j hj o ho n hn;have:=(k2 n hn);simp only [Bool.and_eq_true,List.all_eq_true] at this;have:=this.2 j hj;rw [ho] at this;simpa using this
   ·intro n hn;have:=(k2 n hn);simp only [Bool.and_eq_true,Nat.blt_eq] at this;exact this.1
   ·rw [if_neg (by rw [ht j (by simp [hj])]; simp),if_neg (by simpa using c6 j hj)]
    trivial
   ·intro o ho j hj;rcases List.mem_cons.1 ho with rfl|ho
    ·exact hj
    ·simpa using List.all_eq_true.1 (List.all_eq_true.1 c8 o ho) j hj
   ·intro o ho;rcases List.mem_cons.1 ho with rfl|ho
    ·exact g1
    ·exact rV g2 o ho
 ·rintro e a' w' ⟨⟨rfl,s,hz,Hf⟩,hsm⟩;exact ⟨⟨s,hz,Hf⟩,hsm⟩
end
end
end Go.Abs

namespace Go.Abs
def bL (V:List (List Value)):List (List C):=V.map (·.map .val)
def pick {α:Type} (idx:List Nat) (L:List (List α)):List (List α):=idx.map fun k=>(L[k]?).getD []
structure RowsOf (w:World) (S:Nat->Prop) (m:Path->Value) (rows:List (List C)) (V:List (List Value)) (D:Nat):Prop where
 len:V.length=rows.length
 cell:∀ (i j:Nat) row c,rows[i]?=some row->row[j]?=some c->∃ vr v,V[i]?=some vr/\vr[j]?=some v/\rel w S L0 m true D [(i,j)] c v
 wid:∀ (i:Nat) row vr,rows[i]?=some row->V[i]?=some vr->vr.length=row.length
theorem yH (V:List (List Value)):∀ row∈bL V,∀ c∈row,NoOwn c:=by
 intro row hr c hc;obtain ⟨vr,_,rfl⟩:=List.mem_map.1 hr;obtain ⟨v,_,rfl⟩:=List.mem_map.1 hc;exact NoOwn.val v
theorem rawOf {w:World} {S S':Nat->Prop} {m:Path->Value} {nl:Option Bool} {es:Nat} {cap:Option Nat} {rows:List (List C)} {u:Value} {d:Nat} (h:rel w S L0 m true d [] (.sl true nl es cap rows) u) :
  ∃ V D,RowsOf w S m rows V D/\(∀ vr∈V,vr.length=es)/\rel w S' L0 m true 2 [] (.sl true nl es cap (bL V)) u:=by
 cases d with
 | zero=>exact h.elim
 | succ d=>
 obtain ⟨a,k,h1,h2,h3,h4,hz,h5,h6,h7⟩:=h;rcases h7 with hk|⟨hb,_⟩|⟨b,off,arr,elem,frz,g1,g2,g3,g4,g5⟩
 ·have hr:rows=[]:=List.length_eq_zero_iff.1 (by omega);subst hr;exact ⟨[],0,⟨rfl,by simp,by simp⟩,by simp,⟨a,k,h1,h2,h3,h4,hz,by simp [bL],h6,.inl hk⟩⟩
 ·simp at hb
 ·have hlen:∀ i (hi:i < rows.length),rows[i].length=es:=fun i hi=>h5 _ (List.getElem_mem hi);refine ⟨rows.mapIdx fun i row=>row.mapIdx fun j _=>(arr[off+i * es+j]?).getD undef,d,⟨by simp,?_,?_⟩,?_,?_⟩
  ·intro i j row c hi hj;obtain ⟨u',e1,e2⟩:=g5 i j row c hi hj;refine ⟨_,u',by rw [List.getElem?_mapIdx,hi]; rfl,by rw [List.getElem?_mapIdx,hj,e1]; rfl,?_⟩;simpa using e2
  ·intro i row vr hi hv;rw [List.getElem?_mapIdx,hi] at hv;simp only [Option.map_some,Option.some.injEq] at hv;subst hv; simp
  ·intro vr hv;obtain ⟨i,hi⟩:=List.mem_iff_getElem?.1 hv;rw [List.getElem?_mapIdx] at hi;cases hr:rows[i]? with
   | none=>rw [hr] at hi; simp at hi
   | some row=>
    rw [hr] at hi;simp only [Option.map_some,Option.some.injEq] at hi;subst hi;simp only [List.length_mapIdx];exact h5 _ (List.mem_of_getElem? hr)
  ·refine ⟨a,k,by simpa [bL] using h1,by simpa [bL] using h2,h3,h4,hz,?_,h6,.inr (.inr ⟨b,off,arr,elem,frz,g1,g2,by simp,g4,?_⟩)⟩
   ·intro row hrow;obtain ⟨vr,hv,rfl⟩:=List.mem_map.1 hrow;obtain ⟨i,hi⟩:=List.mem_iff_getElem?.1 hv;rw [List.getElem?_mapIdx] at hi;cases hr:rows[i]? with
    | none=>rw [hr] at hi; simp at hi
    | some row=>
     rw [hr] at hi;simp only [Option.map_some,Option.some.injEq] at hi;subst hi;simp only [List.length_map,List.length_mapIdx];exact h5 _ (List.mem_of_getElem? hr)
   ·intro i j row c' hi hj;simp only [bL,List.getElem?_map,List.getElem?_mapIdx] at hi;cases hr:rows[i]? with
    | none=>rw [hr] at hi; simp at hi
    | some row0=>
     rw [hr] at hi;simp only [Option.map_some,Option.some.injEq] at hi;subst hi;simp only [List.getElem?_map,List.getElem?_mapIdx] at hj;cases hc:row0[j]? with
     | none=>rw [hc] at hj; simp at hj
     | some c0=>
      rw [hc] at hj;simp only [Option.map_some,Option.some.injEq] at hj;subst hj;obtain ⟨u',e1,_⟩:=g5 i j row0 c0 hr hc;exact ⟨u',e1,by rw [e1]; rfl⟩
def oneR (c:C):Bool:=match c with
 | .val v=>v.oneCell'
 | .sl ..=>true
 | _=>false
theorem AU {w:World} {S:Nat->Prop} {L:C->Value->Prop} {m:Path->Value} {o:Bool} {d:Nat} {p:Path} {c:C} {u:Value} (h:rel w S L m o d p c u) (hc:oneR c=true):u.oneCell'=true:=by
 cases d with
 | zero=>exact h.elim
 | succ d=>
  cases c<;>simp only [oneR] at hc
  case val v=>have:u=v:=h; rw [this]; exact hc
  case sl=>obtain ⟨a,k,h1,_⟩:=h; rw [h1]; rfl
  all_goals cases hc
theorem RowsOf.one {w:World} {S:Nat->Prop} {m:Path->Value} {rows:List (List C)} {V:List (List Value)} {D:Nat} (h:RowsOf w S m rows V D) (hr:∀ row∈rows,∀ c∈row,oneR c=true):∀ vr∈V,∀ v∈vr,v.oneCell'=true:=by
 intro vr hvr v hv;obtain ⟨i,hi⟩:=List.mem_iff_getElem?.1 hvr;obtain ⟨j,hj⟩:=List.mem_iff_getElem?.1 hv;have hil:i < rows.length:=by rw [<-h.len]; exact (List.getElem?_eq_some_iff.1 hi).1
 have hrow:rows[i]?=some rows[i]:=List.getElem?_eq_getElem hil;have hjl:j < rows[i].length:=by rw [<-h.wid i _ _ hrow hi]; exact (List.getElem?_eq_some_iff.1 hj).1
 have hc:rows[i][j]?=some rows[i][j]:=List.getElem?_eq_getElem hjl;obtain ⟨vr',v',e1,e2,e3⟩:=h.cell i j _ _ hrow hc;rw [hi] at e1; cases e1;rw [hj] at e2; cases e2;exact AU e3 (hr _ (List.getElem_mem _) _ (List.getElem_mem _))
def pickM (idx:List Nat) (m0:Value) (m:Path->Value):Path->Value
 | []=>m0
 | (i,j)::q=>m ((idx.getD i 0,j)::q)
theorem wK {es:Nat} {nl nl':Option Bool} {cap cap':Option Nat} {idx:List Nat} {R:List (List C)} {i j:Nat} {q:Path} (h:OwnAt (.sl true nl es cap (pick idx R)) ((i,j)::q)) :
  i < idx.length/\OwnAt (.sl true nl' es cap' R) ((idx.getD i 0,j)::q):=by
 simp only [OwnAt,C.at,C.kid,pick,List.getElem?_map] at h;cases hi:idx[i]? with
 | none=>simp [hi] at h
 | some k=>
  have hlt:=(List.getElem?_eq_some_iff.1 hi).1;refine ⟨hlt,?_⟩;have hk:idx.getD i 0=k:=by simp [List.getD_eq_getElem?_getD,hi]
  simp only [hi,Option.map_some,Option.bind_some] at h;simp only [OwnAt,C.at,C.kid,hk];cases hr:R[k]? with
  | none=>simp [hr] at h
  | some row=>simpa [hr] using h
theorem vR {own:List Bool} {c:C} {cs:List C} (h0:own.getD 0 false=true) (h1:∀ n,0 < n->own.getD n false=false) (n:Nat):R0 own (c::cs) n=if n=0 then c else .dead:=by
 rw [R0_at];cases n with
 | zero=>rw [if_pos h0,if_pos rfl]; rfl
 | succ n=>rw [h1 (n+1) (by omega)]; simp
theorem rel_lt {w:World} {S:Nat->Prop} {m:Path->Value} {d:Nat} {c:C} {u:Value} {q:Path} {b:Nat} (hr:rel w S L0 m true d [] c u) (ho:OwnAt c q) (hb:blk (m q)=some b):b < w.heap.size:=by
 unfold OwnAt at ho;cases hc:c.at q with
 | none=>simp [hc] at ho
 | some c1=>
  obtain ⟨u',d',hr'⟩:=rel_at q hr hc;simp only [hc,Option.map_some,Option.some.injEq] at ho;cases c1 with
  | sl own nl es cap rows=>
   cases own with
   | false=>simp [C.isOwn] at ho
   | true=>
    obtain ⟨a,k,D,e1,e2,e3,e4,e5,e6,e7,e8⟩:=bN hr';rw [List.nil_append] at e2;rw [e2] at hb;rcases e8 with e8|⟨b',off,arr,elem,f1,f2,_⟩
    ·cases a<;>simp [blk,e8] at hb
    ·subst f1;simp only [blk] at hb;split at hb
     ·simp at hb
     ·simp only [Option.some.injEq] at hb;subst hb;exact (Array.getElem?_eq_some_iff.1 f2).1
  | _=>simp [C.isOwn] at ho
theorem zq {α:Type} (a b:List Nat) (L:List (List α)):pick (a++b) L=pick a L++pick b L:=by simp [pick]
end Go.Abs

namespace Go.Abs
abbrev OV:={v:Value // v.oneCell'=true}
def OV.nil:OV:=⟨.slice none 0 0,rfl⟩
theorem OV.cell (v:OV):(C.val v.1).cellOk=true:=v.2
theorem OV.plain (v:OV):plainCell (.val v.1)=true:=by simp only [plainCell,OV.cell,C.isOwn,Bool.not_false,Bool.and_true]
def decV:C->Option OV
 | .val v=>if h:v.oneCell'=true then some ⟨v,h⟩ else none
 | _=>none
theorem mD (v:OV):decV (.val v.1)=some v:=by simp only [decV,dif_pos v.2]
theorem Ax {c:C} {v:OV} (h:decV c=some v):c=.val v.1:=by
 cases c<;>simp only [decV] at h<;>try cases h
 split at h
 ·cases h; rfl
 ·cases h
theorem jJ {c:C} {v:OV} (h:decV c=some v):Le c (.val v.1):=Le.eq (Ax h)
attribute [go_sem] mD
theorem OV.mt (v:OV):Value.oneCell'.match_1 (fun _=>Bool) v.1 (fun _=>false) (fun _=>false) (fun _=>true)=true:=v.2
attribute [go_sem] OV.mt
theorem Le.dead (c:C):Le c .dead:=by
 intro w S m m' p p' d u h;cases d with
 | zero=>exact h.elim
 | succ d=>trivial
end Go.Abs
