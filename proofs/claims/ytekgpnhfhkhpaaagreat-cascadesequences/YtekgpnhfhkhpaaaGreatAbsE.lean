/- A library of readings of Go values with their ownership,and of walks on them. No statement of the program. -/
import Derived.Test.YtekgpnhfhkhpaaaGreatAbsD
import Derived.Lib.Overlaps
import Derived.WalkKit
import Derived.ProofKit
import Derived.OpenShut
import Derived.ReadAgain
import Derived.ChangeArms
import Derived.SizedLaws
import Derived.Carry
import Derived.LoopN
set_option linter.unusedSimpArgs false
set_option linter.unusedVariables false
namespace Go.Abs
def stepR (E:Env) (draw:Bool) (bar:Nat->Bool) (i:Nat) (o:Oper) (st:St):Option St:=
 match draw with
 | false=>exe E o st
 | true=>match bodySE E o st with
  | some e=>match e.apply st with
   | some s=>some s
   | none=>if bar i=true then exe E o st else none
  | none=>if bar i=true then exe E o st else none
def RX (E:Env) (draw:Bool) (gd:Nat->Option Tmp) (bar:Nat->Bool):Nat->List Oper->St->(St->Prop)->Prop
 | _,[],st,Z=>Z st
 | i,o::l,st,Z=>match o.guard with
  | none=>match stepR E draw bar i o st with
   | some st'=>RX E draw gd bar (i+1) l st' Z
   | none=>False
  | some (j,want)=>match gd j with
   | some t=>match st.tmps[t]? with
    | some (.val (.bool b))=>if b=want then match stepR E draw bar i o st with
      | some st'=>RX E draw gd bar (i+1) l st' Z
      | none=>False
     else RX E draw gd bar (i+1) l (st.put o.dst (.val undef)) Z
    | some (.val (.tuple _))=>RX E draw gd bar (i+1) l (st.put o.dst (.val undef)) Z
    | _=>False
   | none=>False
def gdOf (ops:Array Oper) (j:Nat):Option Tmp:=(ops[j]?).bind (·.dst)
theorem RX_run {E:Env} {ops:Array Oper}:∀ (l:List Oper) (i:Nat) (st:St) (Z:St->Prop),RX E false (gdOf ops) (barC ops) i l st Z->∃ st',runL E ops l st=some st'/\Z st':=by
 intro l
 induction l with
 | nil=>intro i st Z h; exact ⟨st,rfl,h⟩
 | cons o l ih=>
  intro i st Z h;have go:∀ s,stepO E ops o st=some s->RX E false (gdOf ops) (barC ops) (i+1) l s Z->∃ st',runL E ops (o::l) st=some st'/\Z st':=by
   intro s hs hr;obtain ⟨s2,h1,h2⟩:=ih _ _ _ hr;exact ⟨s2,by simp [runL,hs,h1],h2⟩
  unfold RX at h;split at h
  ·rename_i hg;split at h
   ·rename_i s hs;exact go s (by simpa [stepO,hg,stepR] using hs) h
   ·exact h.elim
  ·rename_i j want hg;split at h
   case h_2=>exact h.elim
   rename_i t ht;simp only [gdOf] at ht;split at h
   ·rename_i b hb;split at h
    ·rename_i hbw;split at h
     ·rename_i s hs;exact go s (by simpa [stepO,hg,ht,hb,hbw,stepR] using hs) h
     ·exact h.elim
    ·rename_i hbw;exact go _ (by simp [stepO,hg,ht,hb,hbw]) h
   ·rename_i vs hb;exact go _ (by simp [stepO,hg,ht,hb]) h
   ·exact h.elim
theorem Gp {E:Env} {ops:Array Oper}:∀ (l:List Oper) (i:Nat) (st:St) (Z:St->Prop),RX E true (gdOf ops) (barC ops) i l st Z->∃ st',runDL E ops i l st=some st'/\Z st':=by
 intro l
 induction l with
 | nil=>intro i st Z h; exact ⟨st,rfl,h⟩
 | cons o l ih=>
  intro i st Z h;have go:∀ s,stepE E ops i o st=some s->RX E true (gdOf ops) (barC ops) (i+1) l s Z->∃ st',runDL E ops i (o::l) st=some st'/\Z st':=by
   intro s hs hr;obtain ⟨s2,h1,h2⟩:=ih _ _ _ hr;exact ⟨s2,by simp [runDL,hs,h1],h2⟩
  have run:∀ s,(∀ x,bodySE E o st=x->seff E ops o st=x)->(∀ x,exe E o st=x->stepO E ops o st=x)->stepR E true (barC ops) i o st=some s->stepE E ops i o st=some s:=by
   intro s h1 h2 hs;unfold stepE bh;rw [h1 _ rfl];simp only [stepR] at hs;split at hs
   ·rename_i e he;simp only [he];split at hs
    ·rename_i s0 hs0; simp only [hs0]; exact hs
    ·rename_i hs0;simp only [hs0];split at hs
     ·rename_i hb; rw [if_pos hb]; exact h2 _ hs
     ·simp at hs
   ·rename_i he;simp only [he];split at hs
    ·rename_i hb; rw [if_pos hb]; exact h2 _ hs
    ·simp at hs
  unfold RX at h;split at h
  ·rename_i hg;split at h
   ·rename_i s hs;exact go s (run s (fun x hx=>by simpa [seff,hg] using hx) (fun x hx=>by simpa [stepO,hg] using hx) hs) h
   ·exact h.elim
  ·rename_i j want hg;split at h
   case h_2=>exact h.elim
   rename_i t ht;simp only [gdOf] at ht;have skip:seff E ops o st=some (.q o.dst (.val undef))->stepE E ops i o st=some (st.put o.dst (.val undef)):=by
    intro hs; simp [stepE,bh,hs,SE.apply]
   split at h
   ·rename_i b hb;split at h
    ·rename_i hbw;split at h
     ·rename_i s hs;exact go s (run s (fun x hx=>by simpa [seff,hg,ht,hb,hbw] using hx) (fun x hx=>by simpa [stepO,hg,ht,hb,hbw] using hx) hs) h
     ·exact h.elim
    ·rename_i hbw;exact go _ (skip (by simp [seff,hg,ht,hb,hbw])) h
   ·rename_i vs hb;exact go _ (skip (by simp [seff,hg,ht,hb])) h
   ·exact h.elim
theorem run_RX {E:Env} {ops:Array Oper}:∀ (l:List Oper) (i:Nat) (st st':St) (Z:St->Prop),runL E ops l st=some st'->Z st'->RX E false (gdOf ops) (barC ops) i l st Z:=by
 intro l
 induction l with
 | nil=>intro i st st' Z h hz; simp only [runL,Option.some.injEq] at h; subst h; exact hz
 | cons o l ih=>
  intro i st st' Z h hz;simp only [runL] at h;split at h
  case h_2=>simp at h
  rename_i s hs;have hr:=ih (i+1) s st' Z h hz;unfold stepO at hs;rw [RX];split at hs
  ·rename_i hg;simp only [hg,stepR,hs];exact hr
  ·rename_i j want hg;simp only [hg,gdOf];split at hs
   case h_2=>simp at hs
   rename_i t ht;simp only [ht];split at hs
   ·rename_i b hb;simp only [hb];split at hs
    ·rename_i hbw;simp only [hbw,if_true,stepR,hs];exact hr
    ·rename_i hbw;simp only [hbw,if_false];simp only [Option.some.injEq] at hs;subst hs;exact hr
   ·rename_i vs hb;simp only [hb];simp only [Option.some.injEq] at hs;subst hs;exact hr
   ·simp at hs
theorem FB {E:Env} {ops:Array Oper}:∀ (l:List Oper) (i:Nat) (st st':St) (Z:St->Prop),runDL E ops i l st=some st'->Z st'->RX E true (gdOf ops) (barC ops) i l st Z:=by
 intro l
 induction l with
 | nil=>intro i st st' Z h hz; simp only [runDL,Option.some.injEq] at h; subst h; exact hz
 | cons o l ih=>
  intro i st st' Z h hz;simp only [runDL] at h;split at h
  case h_2=>simp at h
  rename_i s hs;have hr:=ih (i+1) s st' Z h hz;have body:(∀ x,bodySE E o st=x->seff E ops o st=x)->(∀ x,exe E o st=x->stepO E ops o st=x)->stepR E true (barC ops) i o st=some s:=by
   intro h1 h2;unfold stepE bh at hs;rw [h1 _ rfl] at hs;rw [h2 _ rfl] at hs;simp only [stepR];cases hb:bodySE E o st with
   | none=>simp only [hb] at hs ⊢; exact hs
   | some e=>
    simp only [hb] at hs ⊢;cases he:e.apply st with
    | none=>simp only [he] at hs ⊢; exact hs
    | some s1=>simp only [he] at hs ⊢; exact hs
  rw [RX];split
  ·rename_i hg;simp only [body (fun x hx=>by simpa [seff,hg] using hx) (fun x hx=>by simpa [stepO,hg] using hx)];exact hr
  ·rename_i j want hg;have skip:∀ s':St,seff E ops o st=some (.q o.dst (.val undef))->s=st.put o.dst (.val undef):=by
    intro s' h1;simp only [stepE,bh,h1,SE.apply,Option.some.injEq] at hs;exact hs.symm
   have dead:seff E ops o st=none->stepO E ops o st=none->False:=by
    intro h1 h2;simp [stepE,bh,h1,h2] at hs
   simp only [gdOf];cases ht:(ops[j]?).bind (·.dst) with
   | none=>exact dead (by simp [seff,hg,ht]) (by simp [stepO,hg,ht])
   | some t=>
    simp only;split
    ·rename_i b hb;split
     ·rename_i hbw;simp only [body (fun x hx=>by simpa [seff,hg,ht,hb,hbw] using hx) (fun x hx=>by simpa [stepO,hg,ht,hb,hbw] using hx)];exact hr
     ·rename_i hbw;have:=skip st (by simp [seff,hg,ht,hb,hbw]);rw [<-this];exact hr
    ·rename_i vs hb;have:=skip st (by simp [seff,hg,ht,hb]);rw [<-this];exact hr
    ·rename_i h1 h2;refine dead ?_ ?_
     ·simp only [seff,hg,ht];try split
     ·simp only [stepO,hg,ht];try split
inductive Fm where
 | sq (y:Code)
 | bl (id:Nat)
 | lp (J:St->Prop)
 | sc
 | sk (y:Code)
def ap (E:Env) (Q:Exit->St->Prop):List Fm->Exit->St->Prop
 | [],e,s=>Q e s
 | .sq y::K,e,s=>match e with
  | .normal=>W E y (ap E Q K) s
  | e=>ap E Q K e s
 | .bl id::K,e,s=>match e with
  | .exit i=>if i=id then ap E Q K .normal s else ap E Q K (.exit i) s
  | e=>ap E Q K e s
 | .lp J::K,e,s=>match e with
  | .normal=>J s
  | e=>ap E Q K e s
 | .sc::K,e,s=>match e with
  | .goto _=>False
  | e=>ap E Q K e s
 | .sk y::K,e,s=>match e with
  | .normal=>Wk E y (ap E Q K) s
  | e=>ap E Q K e s
section
variable {E:Env} {Q:Exit->St->Prop} {K:List Fm} {st:St}
theorem Gg {c:Code} (h:W E c (ap E Q []) st):W E c Q st:=h
@[go_sem] theorem W_skip:W E .skip (ap E Q K) st=ap E Q K .normal st:=rfl
@[go_sem] theorem W_seq {x y:Code}:W E (.seq x y) (ap E Q K) st=W E x (ap E Q (.sq y::K)) st:=by
 simp only [W]
 congr 1
@[go_sem] theorem W_exit {id:Nat}:W E (.exit id) (ap E Q K) st=ap E Q K (.exit id) st:=rfl
@[go_sem] theorem Hw {id:Nat}:W E (.label id) (ap E Q K) st=ap E Q K .normal st:=rfl
@[go_sem] theorem W_ret:W E .ret (ap E Q K) st=ap E Q K .ret st:=rfl
@[go_sem] theorem ap_nil {e:Exit}:ap E Q [] e st=Q e st:=rfl
@[go_sem] theorem ap_sq {y:Code}:ap E Q (.sq y::K) .normal st=W E y (ap E Q K) st:=rfl
@[go_sem] theorem G2 {y:Code}:ap E Q (.sq y::K) .ret st=ap E Q K .ret st:=rfl
@[go_sem] theorem GU {y:Code} {i:Nat}:ap E Q (.sq y::K) (.exit i) st=ap E Q K (.exit i) st:=rfl
@[go_sem] theorem ap_bl {id:Nat}:ap E Q (.bl id::K) .normal st=ap E Q K .normal st:=rfl
@[go_sem] theorem G4 {id:Nat}:ap E Q (.bl id::K) .ret st=ap E Q K .ret st:=rfl
@[go_sem] theorem C6 {id i:Nat}:ap E Q (.bl id::K) (.exit i) st=if i=id then ap E Q K .normal st else ap E Q K (.exit i) st:=rfl
@[go_sem] theorem ap_lp {J:St->Prop}:ap E Q (.lp J::K) .normal st=J st:=rfl
@[go_sem] theorem GW {J:St->Prop}:ap E Q (.lp J::K) .ret st=ap E Q K .ret st:=rfl
@[go_sem] theorem GK {J:St->Prop} {i:Nat}:ap E Q (.lp J::K) (.exit i) st=ap E Q K (.exit i) st:=rfl
@[go_sem] theorem ap_sk {y:Code}:ap E Q (.sk y::K) .normal st=Wk E y (ap E Q K) st:=rfl
@[go_sem] theorem G1 {y:Code}:ap E Q (.sk y::K) .ret st=ap E Q K .ret st:=rfl
@[go_sem] theorem GP {y:Code} {i:Nat}:ap E Q (.sk y::K) (.exit i) st=ap E Q K (.exit i) st:=rfl
@[go_sem] theorem ap_sc:ap E Q (.sc::K) .normal st=ap E Q K .normal st:=rfl
@[go_sem] theorem G3:ap E Q (.sc::K) .ret st=ap E Q K .ret st:=rfl
@[go_sem] theorem GO {i:Nat}:ap E Q (.sc::K) (.exit i) st=ap E Q K (.exit i) st:=rfl
@[go_sem] theorem Fi {id:Nat} {ops:Array Oper} {draw:Bool}:W E (.region id ops draw) (ap E Q K) st=RX E draw (gdOf ops) (barC ops) 0 ops.toList st (fun s=>(draw=true->finChk ops s=true)/\ap E Q K .normal s):=by
 refine propext ⟨?_,fun h=>?_⟩
 ·rintro ⟨st',h1,h2⟩;cases draw with
  | true=>
   simp only [tK] at h1;split at h1
   case h_2=>simp at h1
   rename_i s hs;split at h1
   case isFalse=>simp at h1
   rename_i hf;simp only [Option.some.injEq] at h1;subst h1;exact FB _ _ _ _ _ hs ⟨fun _=>hf,h2⟩
  | false=>exact run_RX _ _ _ _ _ h1 ⟨fun h=>(by cases h),h2⟩
 ·cases draw with
  | true=>
   obtain ⟨s,h1,h2,h3⟩:=Gp ops.toList 0 st _ h;exact ⟨s,by simp only [tK,h1,h2 rfl,if_true],h3⟩
  | false=>
   obtain ⟨s,h1,_,h3⟩:=RX_run ops.toList 0 st _ h;exact ⟨s,h1,h3⟩
theorem W_cond {c:Operand} {x y:Code} {b:Bool} (hc:st.ev c=.val (.bool b)) (h1:b=true->W E x (ap E Q K) st) (h2:b=false->W E y (ap E Q K) st):W E (.cond c x y) (ap E Q K) st:=by
 simp only [W,hc];exact ⟨h1,h2⟩
section
variable {draw:Bool} {gd:Nat->Option Tmp} {bar:Nat->Bool} {i:Nat} {l:List Oper} {Z:St->Prop} {d:Option Tmp} {ty:TypeId} {pos:String} {after:Array Edge}
theorem RX_put {o:Oper} {c:C} (hg:o.guard=none) (hp:preX E o st=none) (h1:exe0 E o st=put? o st (some c)) (h2:bodySE E o st=qSE o (some c)):RX E draw gd bar i (o::l) st Z=RX E draw gd bar (i+1) l (st.put o.dst c) Z:=by
 rw [RX,hg];simp only [stepR,exe,hp,h1,h2];cases draw<;>simp [put?,qSE,SE.apply]
theorem kL {o:Oper} (hg:o.guard=none) (hp:preX E o st=none) (ha:altX E o st=none) (h1:exe0 E o st=put? o st none) (h2:bodySE E o st=qSE o none):RX E draw gd bar i (o::l) st Z=False:=by
 rw [RX,hg];simp only [stepR,exe,hp,ha,h1,h2];cases draw<;>simp [put?,qSE]
theorem RX_alt {o:Oper} {q:Option C} (hg:o.guard=none) (hp:preX E o st=none) (h1:exe0 E o st=put? o st q) (h2:bodySE E o st=qSE o q):RX E draw gd bar i (o::l) st Z=match (generalizing:=false) q with
  | some c=>RX E draw gd bar (i+1) l (st.put o.dst c) Z
  | none=>match altX E o st with
   | some s=>(draw=true->bar i=true)/\RX E draw gd bar (i+1) l s Z
   | none=>False:=by
 cases q with
 | some c=>exact RX_put hg hp h1 h2
 | none=>
  rw [RX,hg];simp only [stepR,exe,hp,h1,h2,qSE,put?];cases draw with
  | false=>cases altX E o st<;>simp
  | true=>
   by_cases hb:bar i=true
   ·simp only [hb,if_true]; cases altX E o st<;>simp
   ·simp only [hb]; cases altX E o st<;>simp
@[go_sem] theorem RX_nil:RX E draw gd bar i [] st Z=Z st:=rfl
theorem yf {j:Nat} {want:Bool} {op:Op}:RX E draw gd bar i ({ dst:=d,op:=op,type:=ty,pos:=pos,after:=after,guard:=some (j,want) }::l) st Z =
  match gd j with
   | some t=>match st.ev (.tmp t) with
    | .val (.bool b)=>if b=want then RX E draw gd bar i ({ dst:=d,op:=op,type:=ty,pos:=pos,after:=after,guard:=none }::l) st Z else RX E draw gd bar (i+1) l (st.put d (.val undef)) Z
    | .val (.tuple _)=>RX E draw gd bar (i+1) l (st.put d (.val undef)) Z
    | _=>False
   | none=>False:=by
 rw [RX];simp only;cases hg:gd j with
 | none=>rfl
 | some t=>
  simp only [St.ev];have same:∀ o o':Oper,o.op=o'.op->o.dst=o'.dst->stepR E draw bar i o st=stepR E draw bar i o' st:=by
   rintro ⟨d1,o1,t1,p1,a1,g1⟩ ⟨d2,o2,t2,p2,a2,g2⟩ h1 h2;simp only at h1 h2;subst h1; subst h2;rfl
  cases ht:st.tmps[t]? with
  | none=>simp
  | some c=>
   cases c with
   | val v=>
    cases v<;>simp only [Option.getD_some]
    rename_i b;split
    ·rw [RX];simp only;rw [same];all_goals rfl
    ·rfl
   | _=>simp
def guardV (gd:Nat->Option Tmp) (st:St) (j:Nat):Option (Option Bool):=
 match gd j with
 | some t=>match st.ev (.tmp t) with
  | .val (.bool b)=>some (some b)
  | .val (.tuple _)=>some none
  | _=>none
 | none=>none
@[go_sem] theorem GD {j:Nat} {want:Bool} {op:Op} (h:guardV gd st j=some (some want)):RX E draw gd bar i ({ dst:=d,op:=op,type:=ty,pos:=pos,after:=after,guard:=some (j,want) }::l) st Z =
  RX E draw gd bar i ({ dst:=d,op:=op,type:=ty,pos:=pos,after:=after,guard:=none }::l) st Z:=by
 rw [yf];unfold guardV at h;cases ht:gd j with
 | none=>simp [ht] at h
 | some t=>
  simp only [ht] at h ⊢;split at h<;>simp_all
@[go_sem] theorem Gy {j:Nat} {want:Bool} {op:Op} (h:guardV gd st j=some (some (!want))):RX E draw gd bar i ({ dst:=d,op:=op,type:=ty,pos:=pos,after:=after,guard:=some (j,want) }::l) st Z =
  RX E draw gd bar (i+1) l (st.put d (.val undef)) Z:=by
 rw [yf];unfold guardV at h;cases ht:gd j with
 | none=>simp [ht] at h
 | some t=>
  simp only [ht] at h ⊢;split at h<;>simp_all
@[go_sem] theorem GB {j:Nat} {want:Bool} {op:Op} (h:guardV gd st j=some none):RX E draw gd bar i ({ dst:=d,op:=op,type:=ty,pos:=pos,after:=after,guard:=some (j,want) }::l) st Z =
  RX E draw gd bar (i+1) l (st.put d (.val undef)) Z:=by
 rw [yf];unfold guardV at h;cases ht:gd j with
 | none=>simp [ht] at h
 | some t=>
  simp only [ht] at h ⊢;split at h<;>simp_all
def pickC (c a b:C):Option C:=
 match c with
 | .val (.bool t)=>some (if t then a else b)
 | _=>none
def yE (c:C) (k:Nat):Option C:=
 match c with
 | .tup cs=>cs[k]?
 | _=>none
def vW (c:C):Option C:=
 match c with
 | .pref n p i j=>some (.pref n p i j)
 | .iref es rows i j=>some (.iref es rows i j)
 | _=>none
@[go_sem] theorem Hu {x:Operand}:RX E draw gd bar i ({ dst:=d,op:=.move x,type:=ty,pos:=pos,after:=after,guard:=none }::l) st Z=RX E draw gd bar (i+1) l (st.put d (st.ev x)) Z:=
 RX_put rfl rfl rfl rfl
@[go_sem] theorem G0 {x:Operand}:RX E draw gd bar i ({ dst:=d,op:=.assign x,type:=ty,pos:=pos,after:=after,guard:=none }::l) st Z=RX E draw gd bar (i+1) l (st.put d (st.ev x)) Z:=
 RX_put rfl rfl rfl rfl
@[go_sem] theorem Hr {c a b:Operand}:RX E draw gd bar i ({ dst:=d,op:=.pick c a b,type:=ty,pos:=pos,after:=after,guard:=none }::l) st Z=match (pickC (st.ev c) (st.ev a) (st.ev b)) with
   | some c=>RX E draw gd bar (i+1) l (st.put d c) Z
   | none=>False:=by
 cases h:(pickC (st.ev c) (st.ev a) (st.ev b)) with
 | none=>exact kL rfl rfl rfl (congrArg (put? _ st) h) (congrArg (qSE _) h)
 | some c=>exact RX_put rfl rfl (congrArg (put? _ st) h) (congrArg (qSE _) h)
@[go_sem] theorem Hn {t:TypeId} {x:Operand}:RX E draw gd bar i ({ dst:=d,op:=.load t x,type:=ty,pos:=pos,after:=after,guard:=none }::l) st Z=match ((E.T t).bind fun ti=>loadC st ti (st.ev x)) with
   | some c=>RX E draw gd bar (i+1) l (st.put d c) Z
   | none=>False:=by
 cases h:((E.T t).bind fun ti=>loadC st ti (st.ev x)) with
 | none=>exact kL rfl rfl rfl (congrArg (put? _ st) h) (congrArg (qSE _) h)
 | some c=>exact RX_put rfl rfl (congrArg (put? _ st) h) (congrArg (qSE _) h)
@[go_sem] theorem GC {t:TypeId} {x:Operand} {f:Nat}:RX E draw gd bar i ({ dst:=d,op:=.fieldAddr t x f,type:=ty,pos:=pos,after:=after,guard:=none }::l) st Z=match ((E.T t).bind fun ti=>lT E ti f (st.ev x)) with
   | some c=>RX E draw gd bar (i+1) l (st.put d c) Z
   | none=>False:=by
 cases h:((E.T t).bind fun ti=>lT E ti f (st.ev x)) with
 | none=>exact kL rfl rfl rfl (congrArg (put? _ st) h) (congrArg (qSE _) h)
 | some c=>exact RX_put rfl rfl (congrArg (put? _ st) h) (congrArg (qSE _) h)
@[go_sem] theorem GF {t:TypeId} {x ix:Operand}:RX E draw gd bar i ({ dst:=d,op:=.indexAddr t x ix,type:=ty,pos:=pos,after:=after,guard:=none }::l) st Z=match ((E.T t).bind fun ti=>iU st ti (st.ev x) (st.ev ix)) with
   | some c=>RX E draw gd bar (i+1) l (st.put d c) Z
   | none=>False:=by
 cases h:((E.T t).bind fun ti=>iU st ti (st.ev x) (st.ev ix)) with
 | none=>exact kL rfl rfl rfl (congrArg (put? _ st) h) (congrArg (qSE _) h)
 | some c=>exact RX_put rfl rfl (congrArg (put? _ st) h) (congrArg (qSE _) h)
@[go_sem] theorem Hh {t:TypeId} {x ix:Operand}:RX E draw gd bar i ({ dst:=d,op:=.index t x ix,type:=ty,pos:=pos,after:=after,guard:=none }::l) st Z=match ((E.T t).bind fun ti=>indexC E ti (st.ev x) (st.ev ix)) with
   | some c=>RX E draw gd bar (i+1) l (st.put d c) Z
   | none=>False:=by
 cases h:((E.T t).bind fun ti=>indexC E ti (st.ev x) (st.ev ix)) with
 | none=>exact kL rfl rfl rfl (congrArg (put? _ st) h) (congrArg (qSE _) h)
 | some c=>exact RX_put rfl rfl (congrArg (put? _ st) h) (congrArg (qSE _) h)
@[go_sem] theorem Hb {bop:BinOp} {t t':TypeId} {x y:Operand}:RX E draw gd bar i ({ dst:=d,op:=.binOp bop t x y t',type:=ty,pos:=pos,after:=after,guard:=none }::l) st Z=match (binC (E.T t) bop (st.ev x) (st.ev y)) with
   | some c=>RX E draw gd bar (i+1) l (st.put d c) Z
   | none=>False:=by
 cases h:(binC (E.T t) bop (st.ev x) (st.ev y)) with
 | none=>exact kL rfl rfl rfl (congrArg (put? _ st) h) (congrArg (qSE _) h)
 | some c=>exact RX_put rfl rfl (congrArg (put? _ st) h) (congrArg (qSE _) h)
@[go_sem] theorem Hq {uop:UnOp} {t:TypeId} {x:Operand}:RX E draw gd bar i ({ dst:=d,op:=.unOp uop t x,type:=ty,pos:=pos,after:=after,guard:=none }::l) st Z=match (unC uop (st.ev x)) with
   | some c=>RX E draw gd bar (i+1) l (st.put d c) Z
   | none=>False:=by
 cases h:(unC uop (st.ev x)) with
 | none=>exact kL rfl rfl rfl (congrArg (put? _ st) h) (congrArg (qSE _) h)
 | some c=>exact RX_put rfl rfl (congrArg (put? _ st) h) (congrArg (qSE _) h)
@[go_sem] theorem GQ {t t':TypeId} {x:Operand}:RX E draw gd bar i ({ dst:=d,op:=.convert t t' x,type:=ty,pos:=pos,after:=after,guard:=none }::l) st Z=match (match (if (E.T t).isSome then (E.T t').bind fun ti=>convC ti (st.ev x) else none) with
   | some c=>some c
   | none=>strQ E st t t' (st.ev x)) with
   | some c=>RX E draw gd bar (i+1) l (st.put d c) Z
   | none=>False:=by
 cases h:(match (if (E.T t).isSome then (E.T t').bind fun ti=>convC ti (st.ev x) else none) with
   | some c=>some c
   | none=>strQ E st t t' (st.ev x)) with
 | none=>exact kL rfl rfl rfl (congrArg (put? _ st) h) (congrArg (qSE _) h)
 | some c=>exact RX_put rfl rfl (congrArg (put? _ st) h) (congrArg (qSE _) h)
@[go_sem] theorem GR {x:Operand} {k:Nat}:RX E draw gd bar i ({ dst:=d,op:=.extract x k,type:=ty,pos:=pos,after:=after,guard:=none }::l) st Z=match (yE (st.ev x) k) with
   | some c=>RX E draw gd bar (i+1) l (st.put d c) Z
   | none=>False:=by
 cases h:(yE (st.ev x) k) with
 | none=>exact kL rfl rfl rfl (congrArg (put? _ st) h) (congrArg (qSE _) h)
 | some c=>exact RX_put rfl rfl (congrArg (put? _ st) h) (congrArg (qSE _) h)
@[go_sem] theorem G9 {t:TypeId} {x:Operand} {lo hi mx:Option Operand}:RX E draw gd bar i ({ dst:=d,op:=.slice t x lo hi mx,type:=ty,pos:=pos,after:=after,guard:=none }::l) st Z=match ((E.T t).bind fun ti=>sliceC st ti (st.ev x) (lo.map st.ev) (hi.map st.ev) (mx.map st.ev)) with
   | some c=>RX E draw gd bar (i+1) l (st.put d c) Z
   | none=>match altX E { dst:=d,op:=.slice t x lo hi mx,type:=ty,pos:=pos,after:=after,guard:=none } st with
    | some s=>(draw=true->bar i=true)/\RX E draw gd bar (i+1) l s Z
    | none=>False:=
 RX_alt (o:={ dst:=d,op:=.slice t x lo hi mx,type:=ty,pos:=pos,after:=after,guard:=none }) rfl rfl rfl rfl
@[go_sem] theorem GH {f:FuncId} {first caps:Array Operand}:RX E draw gd bar i ({ dst:=d,op:=.makeFunc (.func f) first caps,type:=ty,pos:=pos,after:=after,guard:=none }::l) st Z=match (if first.size=0/\f < B0 then some (C.clo f (caps.toList.map st.ev)) else if caps.size=0 then some (C.clo (f+B0) (first.toList.map st.ev)) else none) with
   | some c=>RX E draw gd bar (i+1) l (st.put d c) Z
   | none=>False:=by
 cases h:(if first.size=0/\f < B0 then some (C.clo f (caps.toList.map st.ev)) else if caps.size=0 then some (C.clo (f+B0) (first.toList.map st.ev)) else none) with
 | none=>exact kL rfl rfl rfl (congrArg (put? _ st) h) (congrArg (qSE _) h)
 | some c=>exact RX_put rfl rfl (congrArg (put? _ st) h) (congrArg (qSE _) h)
@[go_sem] theorem GI {x:Operand}:RX E draw gd bar i ({ dst:=d,op:=.nilCheck x,type:=ty,pos:=pos,after:=after,guard:=none }::l) st Z=match (vW (st.ev x)) with
   | some c=>RX E draw gd bar (i+1) l (st.put d c) Z
   | none=>False:=by
 cases h:(vW (st.ev x)) with
 | none=>exact kL rfl rfl rfl (congrArg (put? _ st) h) (congrArg (qSE _) h)
 | some c=>exact RX_put rfl rfl (congrArg (put? _ st) h) (congrArg (qSE _) h)
@[go_sem] theorem Hc {t:TypeId} {parts:Array (Nat × Operand)}:RX E draw gd bar i ({ dst:=d,op:=.build t parts,type:=ty,pos:=pos,after:=after,guard:=none }::l) st Z=match ((E.T t).bind fun ti=>buildQ E ti (parts.toList.map fun x=>(x.1,st.ev x.2))) with
   | some c=>RX E draw gd bar (i+1) l (st.put d c) Z
   | none=>False:=by
 cases h:((E.T t).bind fun ti=>buildQ E ti (parts.toList.map fun x=>(x.1,st.ev x.2))) with
 | none=>exact kL rfl rfl rfl (congrArg (put? _ st) h) (congrArg (qSE _) h)
 | some c=>exact RX_put rfl rfl (congrArg (put? _ st) h) (congrArg (qSE _) h)
end
end
end Go.Abs

namespace Go.Abs
section
variable {E:Env} {st:St} {draw:Bool} {gd:Nat->Option Tmp} {bar:Nat->Bool} {i:Nat} {l:List Oper} {Z:St->Prop} {d:Tmp} {ty:TypeId} {pos:String} {after:Array Edge}
def okD (E:Env) (draw:Bool) (bar:Nat->Bool) (i:Nat) (o:Oper) (st:St):Prop:=
 draw=true->(∃ e s,bodySE E o st=some e/\e.apply st=some s)∨bar i=true
theorem EF {o:Oper} {e:SE} {s:St} (h1:bodySE E o st=some e) (h2:e.apply st=some s):exe E o st=some s:=by
 obtain ⟨d1,o1,t1,p1,a1,g1⟩:=o;have:=qL (E:=E) (ops:=#[]) (o:=⟨d1,o1,t1,p1,a1,none⟩) (st:=st) (st':=s);have h3:bodySE E ⟨d1,o1,t1,p1,a1,none⟩ st=some e:=h1;exact this (by simp [bh,seff,h3,h2])
theorem RX_exe {o:Oper} (hg:o.guard=none):RX E draw gd bar i (o::l) st Z=match exe E o st with
  | some s=>okD E draw bar i o st/\RX E draw gd bar (i+1) l s Z
  | none=>False:=by
 rw [RX,hg];simp only;cases draw with
 | false=>
  simp only [stepR];cases exe E o st<;>simp [okD]
 | true=>
  simp only [stepR];cases hb:bodySE E o st with
  | none=>
   simp only;cases hx:exe E o st with
   | none=>simp
   | some s=>
    by_cases hbar:bar i=true
    ·simp [hbar,okD]
    ·simp [hbar,okD,hb]
  | some e=>
   simp only;cases hap:e.apply st with
   | none=>
    simp only;cases hx:exe E o st with
    | none=>simp
    | some s=>
     by_cases hbar:bar i=true
     ·simp [hbar,okD]
     ·simp [hbar,okD,hb,hap]
   | some s=>
    simp only [EF hb hap];refine propext ⟨fun h=>⟨fun _=>.inl ⟨e,s,hb,hap⟩,h⟩,fun h=>h.2⟩
@[go_sem] theorem G6 {t:TypeId}:RX E draw gd bar i ({ dst:=some d,op:=.alloc t,type:=ty,pos:=pos,after:=after,guard:=none }::l) st Z=match E.T t with
  | some ti=>(draw=true->isDead (st.roots d)=true∨bar i=true)/\RX E draw gd bar (i+1) l (allocX d ti st) Z
  | none=>False:=by
 rw [RX_exe rfl];simp only [exe,preX,exe0,altX];cases ht:E.T t with
 | none=>rfl
 | some ti=>
  simp only
  congr 1
  simp only [okD,bodySE,ht];refine propext (imp_congr_right fun _=>or_congr ⟨?_,?_⟩ Iff.rfl)
  ·rintro ⟨e,s,h1,h2⟩;simp only [Option.some.injEq] at h1;subst h1;simp only [SE.apply] at h2;split at h2
   ·rename_i h; exact h
   ·simp at h2
  ·intro h;exact ⟨_,_,rfl,by simp only [SE.apply]; rw [h]⟩
@[go_sem] theorem RX_box {t:TypeId} {x:Operand}:RX E draw gd bar i ({ dst:=some d,op:=.box t x,type:=ty,pos:=pos,after:=after,guard:=none }::l) st Z=match E.T t with
  | some ti=>match boxX d ti x st with
   | some s=>okD E draw bar i { dst:=some d,op:=.box t x,type:=ty,pos:=pos,after:=after,guard:=none } st/\RX E draw gd bar (i+1) l s Z
   | none=>False
  | none=>False:=by
 rw [RX_exe rfl];simp only [exe,preX,exe0,altX];cases ht:E.T t with
 | none=>rfl
 | some ti=>simp only; cases boxX d ti x st<;>rfl
@[go_sem] theorem GA {t:TypeId} {len:Nat} {parts:Array (Nat × Operand)}:RX E draw gd bar i ({ dst:=some d,op:=.buildSlice t len parts,type:=ty,pos:=pos,after:=after,guard:=none }::l) st Z=match E.T t with
  | some ti=>match iI E d ti len parts.toList st with
   | some s=>okD E draw bar i { dst:=some d,op:=.buildSlice t len parts,type:=ty,pos:=pos,after:=after,guard:=none } st/\RX E draw gd bar (i+1) l s Z
   | none=>False
  | none=>False:=by
 rw [RX_exe rfl];simp only [exe,preX,exe0,altX];cases ht:E.T t with
 | none=>rfl
 | some ti=>simp only; cases iI E d ti len parts.toList st<;>rfl
def wH (E:Env) (t:TypeId) (x v:Operand) (st:St):Bool:=
 match rQ E { dst:=none,op:=.store t x v,type:=0,pos := "", after := #[], guard := none } t x v st with
 | some e=>(e.apply st).isSome
 | none=>false
@[go_sem] theorem G8 {t:TypeId} {x v:Operand}:RX E draw gd bar i ({ dst:=none,op:=.store t x v,type:=ty,pos:=pos,after:=after,guard:=none }::l) st Z=match E.T t with
  | some ti=>match storeX ti (st.ev x) (st.ev v) st with
   | some s=>(draw=true->(bar i || wH E t x v st)=true)/\RX E draw gd bar (i+1) l s Z
   | none=>False
  | none=>False:=by
 rw [RX_exe rfl];simp only [exe,preX,exe0,altX];cases ht:E.T t with
 | none=>rfl
 | some ti=>
  simp only;cases hs:storeX ti (st.ev x) (st.ev v) st with
  | none=>rfl
  | some s=>
   simp only [okD,bodySE]
   congr 1
   refine propext ⟨fun h hd=>?_,fun h hd=>?_⟩
   ·rcases h hd with ⟨e,s',h1,h2⟩|h
    ·have:wH E t x v st=true:=by
      unfold wH;have h1':rQ E { dst:=none,op:=.store t x v,type:=0,pos := "", after := #[], guard := none } t x v st = some e := h1;rw [h1'];simp [h2]
     simp [this]
    ·simp [h]
   ·have:=h hd;rw [Bool.or_eq_true] at this;rcases this with h|h
    ·exact .inr h
    ·unfold wH at h;split at h
     ·rename_i e he;obtain ⟨s',hs'⟩:=Option.isSome_iff_exists.1 h;exact .inl ⟨e,s',he,hs'⟩
     ·simp at h
def appX (E:Env) (d:Nat) (t tx:TypeId) (s x:Operand) (st:St):Option St:=
 match E.T t,E.T tx with
 | some ti,some tix=>match ti.kind with
  | .slice e es=>match (match tix.kind with
    | .slice e' es'=>if e=e'/\es=es' then (match (match E.F d with
      | some false=>(match E.T e with
       | some te=>oF d es te (st.ev s) (st.ev x) st
       | none=>none)
      | some true=>(match E.T e with
       | some te=>gH d es te tix (st.ev s) (st.ev x) st
       | none=>none)
      | none=>mb d es (st.ev s) (st.ev x) st) with
     | some s'=>some s'
     | none=>pE E d ti s x st) else none
    | _=>none) with
   | some s'=>some s'
   | none=>match E.T e with
    | some te=>gH d es te tix (st.ev s) (st.ev x) st
    | none=>none
  | _=>none
 | _,_=>none
@[go_sem] theorem GY {s x:Operand} {t tx:TypeId}:RX E draw gd bar i ({ dst:=some d,op:=.call { callee:=.builtin .append,args:=#[s,x],argTypes:=#[t,tx] },type:=ty,pos:=pos,after:=after,guard:=none }::l) st Z=match appX E d t tx s x st with
  | some s=>(draw=true->bar i=true)/\RX E draw gd bar (i+1) l s Z
  | none=>False:=by
 rw [RX_exe rfl];have e:exe E { dst:=some d,op:=.call { callee:=.builtin .append,args:=#[s,x],argTypes:=#[t,tx] },type:=ty,pos:=pos,after:=after,guard:=none } st=appX E d t tx s x st:=by
  simp only [exe,preX,exe0,altX,appX];cases ht:E.T t with
  | none=>rfl
  | some ti=>
   cases htx:E.T tx with
   | none=>rfl
   | some tix=>
    simp only;cases hk:ti.kind<;>cases hkx:tix.kind<;>(try simp only)<;>(try rfl)
    rename_i e es e' es';by_cases he:e=e'/\es=es'
    ·obtain ⟨rfl,rfl⟩:=he;simp only [and_self,if_true];cases E.F d with
     | some b=>
      cases b with
      | false=>
       simp only;cases E.T e with
       | none=>rfl
       | some te=>simp only; cases oF d es te (st.ev s) (st.ev x) st<;>rfl
      | true=>
       simp only;cases E.T e with
       | none=>rfl
       | some te=>simp only; cases gH d es te tix (st.ev s) (st.ev x) st<;>rfl
     | none=>simp only; cases mb d es (st.ev s) (st.ev x) st<;>rfl
    ·simp only [he,if_false];rfl
 rw [e];cases appX E d t tx s x st with
 | none=>rfl
 | some s=>
  simp only [okD,bodySE]
  congr 1
  simp
def plainB:Builtin->Bool
 | .append=>false
 | .copy=>false
 | .cap=>false
 | _=>true
theorem u6 {b:Builtin} {args:Array Operand} {tys:Array TypeId} (hb:plainB b=true):RX E draw gd bar i ({ dst:=some d,op:=.call { callee:=.builtin b,args:=args,argTypes:=tys },type:=ty,pos:=pos,after:=after,guard:=none }::l) st Z =
  match jq ((tys[0]?).bind E.T) b (args.toList.map st.ev) with
   | some c=>RX E draw gd bar (i+1) l (st.put (some d) c) Z
   | none=>False:=by
 have h0:preX E { dst:=some d,op:=.call { callee:=.builtin b,args:=args,argTypes:=tys },type:=ty,pos:=pos,after:=after,guard:=none } st=none:=by
  cases b<;>first|rfl|simp [plainB] at hb
 have h3:altX E { dst:=some d,op:=.call { callee:=.builtin b,args:=args,argTypes:=tys },type:=ty,pos:=pos,after:=after,guard:=none } st=none:=by
  cases b<;>first|rfl|simp [plainB] at hb
 have h1:exe0 E { dst:=some d,op:=.call { callee:=.builtin b,args:=args,argTypes:=tys },type:=ty,pos:=pos,after:=after,guard:=none } st=put? { dst:=some d,op:=.call { callee:=.builtin b,args:=args,argTypes:=tys },type:=ty,pos:=pos,after:=after,guard:=none } st (jq ((tys[0]?).bind E.T) b (args.toList.map st.ev)):=by
  cases b<;>first|rfl|simp [plainB] at hb
 have h2:bodySE E { dst:=some d,op:=.call { callee:=.builtin b,args:=args,argTypes:=tys },type:=ty,pos:=pos,after:=after,guard:=none } st=qSE { dst:=some d,op:=.call { callee:=.builtin b,args:=args,argTypes:=tys },type:=ty,pos:=pos,after:=after,guard:=none } (jq ((tys[0]?).bind E.T) b (args.toList.map st.ev)):=by
  cases b<;>first|rfl|simp [plainB] at hb
 cases h:jq ((tys[0]?).bind E.T) b (args.toList.map st.ev) with
 | none=>exact kL rfl h0 h3 (by rw [h1,h]) (by rw [h2,h])
 | some c=>exact RX_put rfl h0 (by rw [h1,h]) (by rw [h2,h])
@[go_sem] theorem RX_len {args:Array Operand} {tys:Array TypeId}:RX E draw gd bar i ({ dst:=some d,op:=.call { callee:=.builtin .len,args:=args,argTypes:=tys },type:=ty,pos:=pos,after:=after,guard:=none }::l) st Z =
  match jq ((tys[0]?).bind E.T) .len (args.toList.map st.ev) with
   | some c=>RX E draw gd bar (i+1) l (st.put (some d) c) Z
   | none=>False:=u6 rfl
@[go_sem] theorem RX_min {args:Array Operand} {tys:Array TypeId}:RX E draw gd bar i ({ dst:=some d,op:=.call { callee:=.builtin .min,args:=args,argTypes:=tys },type:=ty,pos:=pos,after:=after,guard:=none }::l) st Z =
  match jq ((tys[0]?).bind E.T) .min (args.toList.map st.ev) with
   | some c=>RX E draw gd bar (i+1) l (st.put (some d) c) Z
   | none=>False:=u6 rfl
@[go_sem] theorem RX_max {args:Array Operand} {tys:Array TypeId}:RX E draw gd bar i ({ dst:=some d,op:=.call { callee:=.builtin .max,args:=args,argTypes:=tys },type:=ty,pos:=pos,after:=after,guard:=none }::l) st Z =
  match jq ((tys[0]?).bind E.T) .max (args.toList.map st.ev) with
   | some c=>RX E draw gd bar (i+1) l (st.put (some d) c) Z
   | none=>False:=u6 rfl
@[go_sem] theorem RX_cap {x:Operand} {t:TypeId}:RX E draw gd bar i ({ dst:=some d,op:=.call { callee:=.builtin .cap,args:=#[x],argTypes:=#[t] },type:=ty,pos:=pos,after:=after,guard:=none }::l) st Z =
  match jq (E.T t) .cap [st.ev x] with
   | some c=>RX E draw gd bar (i+1) l (st.put (some d) c) Z
   | none=>match altX E { dst:=some d,op:=.call { callee:=.builtin .cap,args:=#[x],argTypes:=#[t] },type:=ty,pos:=pos,after:=after,guard:=none } st with
    | some s=>(draw=true->bar i=true)/\RX E draw gd bar (i+1) l s Z
    | none=>False:=
 RX_alt (o:={ dst:=some d,op:=.call { callee:=.builtin .cap,args:=#[x],argTypes:=#[t] },type:=ty,pos:=pos,after:=after,guard:=none }) rfl rfl rfl rfl
@[go_sem] theorem Ho {x s:Operand} {t tx:TypeId} {d:Option Tmp}:RX E draw gd bar i ({ dst:=d,op:=.call { callee:=.builtin .copy,args:=#[s,x],argTypes:=#[t,tx] },type:=ty,pos:=pos,after:=after,guard:=none }::l) st Z =
  match altX E { dst:=d,op:=.call { callee:=.builtin .copy,args:=#[s,x],argTypes:=#[t,tx] },type:=ty,pos:=pos,after:=after,guard:=none } st with
   | some s=>(draw=true->bar i=true)/\RX E draw gd bar (i+1) l s Z
   | none=>False:=
 RX_alt (q:=none) (o:={ dst:=d,op:=.call { callee:=.builtin .copy,args:=#[s,x],argTypes:=#[t,tx] },type:=ty,pos:=pos,after:=after,guard:=none }) rfl rfl rfl rfl
@[go_sem] theorem sd {x:Operand} {t:TypeId} {d:Option Tmp}:RX E draw gd bar i ({ dst:=d,op:=.call { callee:=.builtin .clear,args:=#[x],argTypes:=#[t] },type:=ty,pos:=pos,after:=after,guard:=none }::l) st Z =
  match altX E { dst:=d,op:=.call { callee:=.builtin .clear,args:=#[x],argTypes:=#[t] },type:=ty,pos:=pos,after:=after,guard:=none } st with
   | some s=>(draw=true->bar i=true)/\RX E draw gd bar (i+1) l s Z
   | none=>False:=
 RX_alt (q:=none) (o:={ dst:=d,op:=.call { callee:=.builtin .clear,args:=#[x],argTypes:=#[t] },type:=ty,pos:=pos,after:=after,guard:=none }) rfl rfl rfl rfl
@[go_sem] theorem GE {t:TypeId} {x c:Operand}:RX E draw gd bar i ({ dst:=some d,op:=.makeSlice t x c,type:=ty,pos:=pos,after:=after,guard:=none }::l) st Z =
  match mkX E d t (st.ev x) (st.ev c) st with
   | some s=>(draw=true->bar i=true)/\RX E draw gd bar (i+1) l s Z
   | none=>False:=
 RX_alt (q:=none) (o:={ dst:=some d,op:=.makeSlice t x c,type:=ty,pos:=pos,after:=after,guard:=none }) rfl rfl rfl rfl
@[go_sem] theorem Hm {x:Operand} {args:Array Operand} {tys:Array TypeId}:RX E draw gd bar i ({ dst:=some d,op:=.call { callee:=.value x,args:=args,argTypes:=tys },type:=ty,pos:=pos,after:=after,guard:=none }::l) st Z =
  match st.ev x with
   | .clo f caps=>if d < H0 then match callX E d (cloF f) (cloA f (args.toList.map st.ev) caps) st with
     | some s=>okD E draw bar i { dst:=some d,op:=.call { callee:=.value x,args:=args,argTypes:=tys },type:=ty,pos:=pos,after:=after,guard:=none } st/\RX E draw gd bar (i+1) l s Z
     | none=>False
    else False
   | _=>False:=by
 rw [RX_exe rfl];simp only [exe,preX,exe0,altX,callE,callTo];cases hx:st.ev x<;>simp only
 by_cases hd:d < H0
 ·simp only [hd,if_true];cases callX E d (cloF _) (cloA _ (List.map st.ev args.toList) _) st<;>rfl
 ·simp only [hd,if_false]
theorem EB {o:Oper}:okD E false bar i o st:=fun h=>by simp at h
theorem DF {o:Oper}:okD E false bar i o st=True:=eq_true EB
end
end Go.Abs

namespace Go.Abs
@[go_sem] theorem Hi (ts:List C) (R:Nat->C) (d:Nat) (c:C):St.put ⟨ts,R⟩ (some d) c=⟨ts.set d c,R⟩:=rfl
@[go_sem] theorem Ha (st:St) (c:C):st.put none c=st:=rfl
@[go_sem] theorem ev_tmp (ts:List C) (R:Nat->C) (t:Nat):St.ev ⟨ts,R⟩ (.tmp t)=(ts[t]?).getD .dead:=rfl
@[go_sem] theorem ev_int (st:St) (k:IntKind) (n:Int):st.ev (.const (.int k n))=.val (.int k n):=rfl
@[go_sem] theorem Hp (st:St) (b:Bool):st.ev (.const (.bool b))=.val (.bool b):=rfl
@[go_sem] theorem G5 (st:St) (b:ByteArray):st.ev (.const (.string b))=.val (.string b):=rfl
@[go_sem] theorem ev_nil (st:St) (n k:Nat):st.ev (.const (.slice none n k))=.val (.slice none n k):=rfl
@[go_sem] theorem ev_agg (st:St) (cs:Array Value):st.ev (.const (.agg cs))=.agg (cs.toList.map .val):=rfl
@[go_sem] theorem Ht (st:St) (f:FuncId):st.ev (.func f)=.clo (cloN f) []:=rfl
@[go_sem] theorem Hv (ops:Array Oper) (j:Nat):gdOf ops j=(ops[j]?).bind (·.dst):=rfl
@[go_sem] theorem GX (gd:Nat->Option Tmp) (st:St) (j:Nat):guardV gd st j=match gd j with
 | some t=>match st.ev (.tmp t) with
  | .val (.bool b)=>some (some b)
  | .val (.tuple _)=>some none
  | _=>none
 | none=>none:=rfl
def RZ:Nat->C:=fun _=>.dead
@[go_sem] theorem R0_RZ (cs:List C):R0 [] cs=RZ:=by funext n; simp [R0,RZ]
@[go_sem] theorem RZ_at (n:Nat):RZ n=.dead:=rfl
@[go_sem] theorem Hl (R:Nat->C) (d:Nat) (a b:C):upd (upd R d a) d b=upd R d b:=by funext n; simp only [upd]; split<;>rfl
@[go_sem] theorem upd_RZ (d:Nat):upd RZ d .dead=RZ:=by funext n; simp [upd,RZ]
@[go_sem] theorem upd_at (R:Nat->C) (d:Nat) (a:C) (n:Nat):upd R d a n=if n=d then a else R n:=rfl
theorem Weak.refl (s:St):Weak s s:=fun _ _ _ h=>h
theorem Weak.trans {s s' s'':St} (h1:Weak s s') (h2:Weak s' s''):Weak s s'':=fun X a w h=>h2 X a w (h1 X a w h)
end Go.Abs

namespace Go.Abs
section
variable {E:Env} {st:St} {draw:Bool} {gd:Nat->Option Tmp} {bar:Nat->Bool} {i:Nat} {l:List Oper} {Z:St->Prop} {d:Option Tmp} {ty:TypeId} {pos:String} {after:Array Edge}
theorem bF {j:Nat} {want:Bool} {p:Prop} [inst:Decidable p] {op:Op} (h:guardV gd st j=some (some (decide p)))
  (h1:p->RX E draw gd bar i ({ dst:=d,op:=op,type:=ty,pos:=pos,after:=after,guard:=some (j,want) }::l) st Z)
  (h2:¬ p->RX E draw gd bar i ({ dst:=d,op:=op,type:=ty,pos:=pos,after:=after,guard:=some (j,want) }::l) st Z) :
  RX E draw gd bar i ({ dst:=d,op:=op,type:=ty,pos:=pos,after:=after,guard:=some (j,want) }::l) st Z:=by
 by_cases hp:p
 ·exact h1 hp
 ·exact h2 hp
variable {Q:Exit->St->Prop} {K:List Fm}
theorem Dk {c:Operand} {x y:Code} {p:Prop} [inst:Decidable p] (hc:st.ev c=.val (.bool (decide p))) (h1:p->W E x (ap E Q K) st) (h2:¬ p->W E y (ap E Q K) st):W E (.cond c x y) (ap E Q K) st:=
 W_cond hc (fun h=>h1 (of_decide_eq_true h)) (fun h=>h2 (of_decide_eq_false h))
@[go_sem] theorem GV (E:Env) (vs:List ResultVar) (ts:List C) (R:Nat->C):finish E vs ⟨ts,R⟩=match resL E ⟨ts,R⟩ vs with
 | some cs=>match plainL cs with
  | some rs=>some (pack rs)
  | none=>match gY (cs.flatMap leaves).length H0 (cs.flatMap leaves) .dead ⟨ts,R⟩ with
   | some (s1,_)=>some (pack (fv s1.roots H0 cs))
   | none=>none
 | none=>none:=rfl
@[go_sem] theorem Hj (E:Env) (s:St):resL E s []=some []:=rfl
@[go_sem] theorem He (E:Env) (ts:List C) (R:Nat->C) (t:Nat) (vs:List ResultVar):resL E ⟨ts,R⟩ (.tmp t::vs)=match resL E ⟨ts,R⟩ vs with
 | some cs=>some ((ts[t]?).getD .dead::cs)
 | none=>none:=by
 simp only [resL,resC];cases resL E ⟨ts,R⟩ vs<;>rfl
@[go_sem] theorem GT:plainL []=some []:=rfl
@[go_sem] theorem GN (k:IntKind) (n:Int) (cs:List C):plainL (.val (.int k n)::cs)=match plainL cs with
 | some rs=>some (.val (.int k n)::rs)
 | none=>none:=by
 simp only [plainL,plainR,C.cellOk,Value.oneCell',if_true,C.frz];cases plainL cs<;>rfl
@[go_sem] theorem GJ (b:Bool) (cs:List C):plainL (.val (.bool b)::cs)=match plainL cs with
 | some rs=>some (.val (.bool b)::rs)
 | none=>none:=by
 simp only [plainL,plainR,C.cellOk,Value.oneCell',if_true,C.frz];cases plainL cs<;>rfl
@[go_sem] theorem Gz (b:ByteArray) (cs:List C):plainL (.val (.string b)::cs)=match plainL cs with
 | some rs=>some (.val (.string b)::rs)
 | none=>none:=by
 simp only [plainL,plainR,C.cellOk,Value.oneCell',if_true,C.frz];cases plainL cs<;>rfl
@[go_sem] theorem GG (cs:List C):plainL (.val (.slice none 0 0)::cs)=match plainL cs with
 | some rs=>some (.val (.slice none 0 0)::rs)
 | none=>none:=by
 simp only [plainL,plainR,C.cellOk,Value.oneCell',if_true,C.frz];cases plainL cs<;>rfl
@[go_sem] theorem G7 (c:C):pack [c]=c:=rfl
@[go_sem] theorem Hg (c c':C) (cs:List C):pack (c::c'::cs)=.tup (c::c'::cs):=rfl
end
end Go.Abs

namespace Go.Abs
def tab (n:Nat) (f:Nat->C):List C:=(List.range n).map f
def updT (f:Nat->C) (d:Nat) (c:C):Nat->C:=fun t=>if t=d then c else f t
def deadT:Nat->C:=fun _=>.dead
theorem oP (n:Nat) (f:Nat->C):(tab n f).length=n:=by simp [tab]
theorem jY (n:Nat) (f:Nat->C) (t:Nat):(tab n f)[t]?=if t < n then some (f t) else none:=by
 simp only [tab,List.getElem?_map,List.getElem?_range'];by_cases h:t < n
 ·simp [h]
 ·simp [h]
theorem FA (f:Nat->C) (d:Nat) (c:C) (t:Nat):updT f d c t=if t=d then c else f t:=rfl
theorem E5 (t:Nat):deadT t=.dead:=rfl
theorem Fy (n:Nat) (f:Nat->C) (d:Nat) (c:C):(tab n f).set d c=tab n (updT f d c):=by
 apply List.ext_getElem?;intro t;rw [List.getElem?_set,jY,jY,oP];by_cases h:d=t
 ·subst h;by_cases h2:d < n<;>simp [h2,updT]
 ·have h':¬ t=d:=fun e=>h e.symm;simp only [h,h',if_false,updT]
theorem F5 (n:Nat) (f:Nat->C) (g:C->C):(tab n f).map g=tab n (fun t=>g (f t)):=by
 simp [tab,Function.comp_def]
def poiT (g:Nat->Path->Bool) (f:Nat->C):Nat->C:=fun t=>poi g (f t)
theorem FX (g:Nat->Path->Bool) (f:Nat->C) (t:Nat):poiT g f t=poi g (f t):=rfl
theorem zo (n:Nat) (f:Nat->C) (g:Nat->Path->Bool):(tab n f).map (poi g)=tab n (poiT g f):=F5 n f (poi g)
theorem FSq (g:Nat->Path->Bool) (v:Value):poi g (.val v)=.val v:=rfl
theorem EM (g:Nat->Path->Bool):poi g .dead=.dead:=rfl
theorem poi_sl (g:Nat->Path->Bool) (o:Bool) (nl:Option Bool) (es:Nat) (cap:Option Nat) (rows:List (List C)):poi g (.sl o nl es cap rows)=.sl o nl es cap rows:=rfl
theorem ET (g:Nat->Path->Bool) (es:Nat) (rows:List (List C)) (i j:Nat):poi g (.iref es rows i j)=.iref es rows i j:=rfl
theorem Fv (g:Nat->Path->Bool) (n:Nat) (p:Path) (i j:Nat):poi g (.pref n p i j)=if g n p=true then .dead else .pref n p i j:=rfl
theorem FG (g:Nat->Path->Bool) (n:Nat) (p:Path) (lo len:Nat) (cap:Option Nat):poi g (.pal n p lo len cap)=if g n p=true then .dead else .pal n p lo len cap:=rfl
def entryF (own:List Bool) (cs:List C):Nat->C:=fun t=>match cs[t]? with
 | some c=>iW own t c
 | none=>.dead
theorem qZ {own:List Bool} {cs:List C} {n:Nat} (h:cs.length<=n):entry own cs n=⟨tab n (entryF own cs),R0 own cs⟩:=by
 unfold entry
 congr 1
 apply List.ext_getElem?;intro t;rw [jY];by_cases h1:t < cs.length
 ·rw [List.getElem?_append_left (by rw [jD]; exact h1),uW];rw [if_pos (by omega)];simp [entryF,h1]
 ·rw [List.getElem?_append_right (by rw [jD]; omega),jD];by_cases h2:t < n
  ·rw [if_pos h2];have:t - cs.length < n - cs.length:=by omega
   simp [this,entryF,h1]
  ·rw [if_neg h2];simp; omega
end Go.Abs

namespace Go.Abs
def Le (c c':C):Prop:=∀ (w:World) (S:Nat->Prop) (m m':Path->Value) (p p':Path) (d:Nat) (u:Value),rel w S L0 m false d p c u->rel w S L0 m' false d p' c' u
def NoOwn (c:C):Prop:=∀ q,¬ OwnAt c q
structure LeL (cs cs':List C):Prop where
 len:cs'.length=cs.length
 get:∀ (i:Nat) (c c':C),cs[i]?=some c->cs'[i]?=some c'->Le c c'
structure LeLL (rs rs':List (List C)):Prop where
 len:rs'.length=rs.length
 get:∀ (i:Nat) (r r':List C),rs[i]?=some r->rs'[i]?=some r'->LeL r r'
theorem Le.refl (c:C):Le c c:=fun w S m m' p p' d u h=>bN h
theorem LeL.refl (cs:List C):LeL cs cs:=⟨rfl,fun i c c' h h'=>by rw [h] at h'; simp only [Option.some.injEq] at h'; exact h' ▸ Le.refl c⟩
theorem LeLL.refl (rs:List (List C)):LeLL rs rs:=⟨rfl,fun i c c' h h'=>by rw [h] at h'; simp only [Option.some.injEq] at h'; exact h' ▸ LeL.refl c⟩
theorem LeL.nil:LeL [] []:=LeL.refl []
theorem LeL.cons {a b:C} {as bs:List C} (h:Le a b) (t:LeL as bs):LeL (a::as) (b::bs):=by
 refine ⟨by simp [t.len],?_⟩;intro i c c' h1 h2;cases i with
 | zero=>simp only [List.getElem?_cons_zero,Option.some.injEq] at h1 h2; subst h1; subst h2; exact h
 | succ i=>exact t.get i c c' (by simpa using h1) (by simpa using h2)
theorem LeLL.map {α:Type} {f g:α->List C} (h:∀ x,LeL (f x) (g x)) (l:List α):LeLL (l.map f) (l.map g):=by
 refine ⟨by simp,?_⟩;intro i r r' h1 h2;simp only [List.getElem?_map,Option.map_eq_some_iff] at h1 h2;obtain ⟨x,e1,rfl⟩:=h1;obtain ⟨y,e2,rfl⟩:=h2;rw [e1] at e2;simp only [Option.some.injEq] at e2;subst e2;exact h x
theorem Le.nils {o:Bool} {es:Nat}:Le (.val (.slice none 0 0)) (.sl o none es none []):=by
 intro w S m m' p p' d u h;cases d with
 | zero=>exact h.elim
 | succ d=>
  have hu:u=.slice none 0 0:=h;subst hu;exact ⟨none,0,rfl,Nat.le_refl _,by decide,by simp,by simp,by simp,by simp,.inl rfl⟩
theorem Le.sl {o o':Bool} {nl:Option Bool} {es:Nat} {cap:Option Nat} {rows rows':List (List C)} (h:LeLL rows rows'):Le (.sl o nl es cap rows) (.sl o' none es none rows'):=by
 intro w S m m' p p' d u hr;cases d with
 | zero=>exact hr.elim
 | succ d=>
  obtain ⟨a,k,h1,h2,h3,h4,hz,h5,h6,h7⟩:=hr;refine ⟨a,k,by rw [h.len]; exact h1,by rw [h.len]; exact h2,h3,by simp,⟨by simp,hz.2⟩,?_,by simp,?_⟩
  ·intro row hrow;obtain ⟨i,hi⟩:=List.mem_iff_getElem?.1 hrow;have hlt:i < rows.length:=by rw [<-h.len]; exact (List.getElem?_eq_some_iff.1 hi).1
   have hle:=h.get i rows[i] row (by simp [hlt]) hi;rw [hle.len];exact h5 _ (List.getElem_mem hlt)
  ·rcases h7 with h7|h7|⟨b,off,arr,elem,frz,g1,g2,g3,g4,g5⟩
   ·exact .inl h7
   ·refine .inr (.inl ⟨by simp,?_⟩);have:=h.len;rw [h7.2] at this;exact List.length_eq_zero_iff.1 this
   ·refine .inr (.inr ⟨b,off,arr,elem,frz,g1,g2,fun _=>g3 (by simp),by simp,?_⟩);intro i j row' c' e1 e2;have hlt:i < rows.length:=by rw [<-h.len]; exact (List.getElem?_eq_some_iff.1 e1).1
    have hle:=h.get i rows[i] row' (by simp [hlt]) e1;have hlt2:j < rows[i].length:=by rw [<-hle.len]; exact (List.getElem?_eq_some_iff.1 e2).1
    have hle2:=hle.get j rows[i][j] c' (by simp [hlt2]) e2;obtain ⟨u',f1,f2⟩:=g5 i j rows[i] rows[i][j] (by simp [hlt]) (by simp [hlt2]);refine ⟨u',f1,?_⟩;simp only [Bool.and_false] at f2 ⊢;exact hle2 _ _ _ _ _ _ _ _ f2
theorem Le.agg {cs cs':List C} (h:LeL cs cs'):Le (.agg cs) (.agg cs'):=by
 intro w S m m' p p' d u hr;cases d with
 | zero=>exact hr.elim
 | succ d=>
  obtain ⟨arr,h1,h2,h3⟩:=hr;refine ⟨arr,h1,by rw [h.len]; exact h2,fun j c' e=>?_⟩;have hlt:j < cs.length:=by rw [<-h.len]; exact (List.getElem?_eq_some_iff.1 e).1
  obtain ⟨u',f1,f2⟩:=h3 j cs[j] (by simp [hlt]);exact ⟨u',f1,h.get j cs[j] c' (by simp [hlt]) e _ _ _ _ _ _ _ _ f2⟩
theorem Le.tup {cs cs':List C} (h:LeL cs cs'):Le (.tup cs) (.tup cs'):=by
 intro w S m m' p p' d u hr;cases d with
 | zero=>exact hr.elim
 | succ d=>
  obtain ⟨arr,h1,h2,h3⟩:=hr;refine ⟨arr,h1,by rw [h.len]; exact h2,fun j c' e=>?_⟩;have hlt:j < cs.length:=by rw [<-h.len]; exact (List.getElem?_eq_some_iff.1 e).1
  obtain ⟨u',f1,f2⟩:=h3 j cs[j] (by simp [hlt]);exact ⟨u',f1,h.get j cs[j] c' (by simp [hlt]) e _ _ _ _ _ _ _ _ f2⟩
theorem Le.clo {f:Nat} {cs cs':List C} (h:LeL cs cs'):Le (.clo f cs) (.clo f cs'):=by
 intro w S m m' p p' d u hr;cases d with
 | zero=>exact hr.elim
 | succ d=>
  obtain ⟨arr,h1,h2,h3⟩:=hr;refine ⟨arr,h1,by rw [h.len]; exact h2,fun j c' e=>?_⟩;have hlt:j < cs.length:=by rw [<-h.len]; exact (List.getElem?_eq_some_iff.1 e).1
  obtain ⟨u',f1,f2⟩:=h3 j cs[j] (by simp [hlt]);exact ⟨u',f1,h.get j cs[j] c' (by simp [hlt]) e _ _ _ _ _ _ _ _ f2⟩
theorem NoOwn.val (v:Value):NoOwn (.val v):=by
 intro q h; cases q<;>simp [OwnAt,C.at,C.kid,C.isOwn] at h
theorem NoOwn.sl (nl:Option Bool) (es:Nat) (cap:Option Nat) (rows:List (List C)):NoOwn (.sl false nl es cap rows):=by
 intro q h; cases q<;>simp [OwnAt,C.at,C.kid,C.isOwn] at h
theorem NoOwn.agg {cs:List C} (h:∀ c∈cs,NoOwn c):NoOwn (.agg cs):=by
 intro q hq;cases q with
 | nil=>simp [OwnAt,C.at,C.isOwn] at hq
 | cons s q=>
  simp only [OwnAt,C.at,C.kid] at hq;split at hq
  ·cases hc:cs[s.2]? with
   | none=>rw [hc] at hq; simp at hq
   | some c=>rw [hc] at hq; exact h c (List.mem_of_getElem? hc) q hq
  ·simp at hq
theorem NoOwn.tup {cs:List C} (h:∀ c∈cs,NoOwn c):NoOwn (.tup cs):=by
 intro q hq;cases q with
 | nil=>simp [OwnAt,C.at,C.isOwn] at hq
 | cons s q=>
  simp only [OwnAt,C.at,C.kid] at hq;split at hq
  ·cases hc:cs[s.2]? with
   | none=>rw [hc] at hq; simp at hq
   | some c=>rw [hc] at hq; exact h c (List.mem_of_getElem? hc) q hq
  ·simp at hq
theorem wc {w:World} {S:Nat->Prop}:∀ (d:Nat) {m m':Path->Value} {p p':Path} {c:C} {u:Value},NoOwn c->rel w S L0 m false d p c u->rel w S L0 m' true d p' c u:=by
 intro d
 induction d with
 | zero=>intro m m' p p' c u _ h; exact h.elim
 | succ d ih=>
  intro m m' p p' c u hn h;cases c with
  | dead=>trivial
  | val v=>exact h
  | sl own nl es cap rows=>
   have ho:own=false:=by
    cases own with
    | false=>rfl
    | true=>exact (hn [] (by simp [OwnAt,C.at,C.isOwn])).elim
   subst ho;obtain ⟨a,k,h1,h2,h3,h4,hz,h5,h6,h7⟩:=h;refine ⟨a,k,h1,h2,h3,h4,hz,h5,by simp,?_⟩;rcases h7 with h7|h7|⟨b,off,arr,elem,frz,g1,g2,g3,g4,g5⟩
   ·exact .inl h7
   ·exact .inr (.inl ⟨by simp,h7.2⟩)
   ·refine .inr (.inr ⟨b,off,arr,elem,frz,g1,g2,fun _=>g3 (by simp),by simp,?_⟩);intro i j row c' e1 e2;obtain ⟨u',e3,e4⟩:=g5 i j row c' e1 e2;exact ⟨u',e3,bN e4⟩
  | agg cs=>
   obtain ⟨arr,h1,h2,h3⟩:=h;refine ⟨arr,h1,h2,fun j c' e=>?_⟩;obtain ⟨u',e1,e2⟩:=h3 j c' e;refine ⟨u',e1,ih ?_ e2⟩;intro q hq;exact hn ((0,j)::q) (by simp only [OwnAt,C.at,C.kid,if_true,e,Option.bind_some]; exact hq)
  | tup cs=>
   obtain ⟨arr,h1,h2,h3⟩:=h;refine ⟨arr,h1,h2,fun j c' e=>?_⟩;obtain ⟨u',e1,e2⟩:=h3 j c' e;refine ⟨u',e1,ih ?_ e2⟩;intro q hq;exact hn ((0,j)::q) (by simp only [OwnAt,C.at,C.kid,if_true,e,Option.bind_some]; exact hq)
  | clo f cs=>
   obtain ⟨arr,h1,h2,h3⟩:=h;exact ⟨arr,h1,h2,fun j c' e=>let ⟨u',e1,e2⟩:=h3 j c' e; ⟨u',e1,bN e2⟩⟩
  | iref es rows i j=>
   obtain ⟨b,off,arr,elem,frz,g1,g2,g3,g4,g5⟩:=h;exact ⟨b,off,arr,elem,frz,g1,g2,g3,g4,fun i j row c' e1 e2=>let ⟨u',e3,e4⟩:=g5 i j row c' e1 e2; ⟨u',e3,bN e4⟩⟩
  | pref n p i j=>exact h
  | pal n p lo len cap=>exact h
theorem wD (cs:List C):R0 [] cs=fun _=>.dead:=by funext n; simp [R0]
theorem jx {cs:List C} {m:Nat->Path->Value} {b:Nat}:¬ Owned (R0 [] cs) m b:=by
 rintro ⟨n,p,h1,h2⟩;rw [wD] at h1;exact aA h1
theorem Con.args {P:Program} {f:FuncId} {pure:Bool} {cs cs':List C} {r:C} (h:Con P f [] pure cs' r) (hle:LeL cs cs'):Con P f [] pure cs r:=by
 intro w S m us hl hr hinj;have key:∀ (i:Nat) (c:C),cs'[i]?=some c->∃ u d,us[i]?=some u/\rel w (fun b=>S b/\¬ Owned (R0 [] cs') m b) L0 (m i) (([]:List Bool).getD i false) d [] c u:=by
  intro i c' hc;have hlt:i < cs.length:=by rw [<-hle.len]; exact (List.getElem?_eq_some_iff.1 hc).1
  obtain ⟨u,d,h1,h2⟩:=hr i cs[i] (by simp [hlt]);refine ⟨u,d,h1,?_⟩;simp only [List.getD_nil] at h2 ⊢;have h3:=hle.get i cs[i] c' (by simp [hlt]) hc w _ (m i) (m i) [] [] d u h2;exact aq (fun b _ hb=>⟨⟨hb.1,jx⟩,rfl⟩) d (fun _ _ _ h=>h) (fun h=>by simp at h) (fun h=>by simp at h) h3
 have hinj':Inj (R0 [] cs') m:=by
  intro n p n' p' b h1;rw [wD] at h1;exact (aA h1).elim
 have:=h w S m us (by rw [hl,hle.len]) key hinj';have e:∀ b,Owned (R0 [] cs') m b↔Owned (R0 [] cs) m b:=fun b=>⟨fun h=>(jx h).elim,fun h=>(jx h).elim⟩;have e2:Owned (R0 [] cs') m=Owned (R0 [] cs) m:=funext fun b=>propext (e b);rw [e2] at this;exact this
inductive ROk:C->C->Prop
 | refl (r:C):ROk r r
 | of (r:C) {r0:C} (h:Le r0 r) (hn:NoOwn r):ROk r0 r
 | nil (es:Nat):ROk (.val (.slice none 0 0)) (.sl true none es none [])
 | own {nl:Option Bool} {es:Nat} {cap:Option Nat} {rows rows':List (List C)} (h:LeLL rows rows') (hn:∀ row∈rows',∀ c∈row,NoOwn c):ROk (.sl true nl es cap rows) (.sl true none es none rows')
 | agg {as bs:List C} (hl:bs.length=as.length) (h:∀ (i:Nat) (a b:C),as[i]?=some a->bs[i]?=some b->ROk a b):ROk (.agg as) (.agg bs)
 | tup {as bs:List C} (hl:bs.length=as.length) (h:∀ (i:Nat) (a b:C),as[i]?=some a->bs[i]?=some b->ROk a b):ROk (.tup as) (.tup bs)
theorem qv:∀ (i:Nat) (a b:C),([]:List C)[i]?=some a->([]:List C)[i]?=some b->ROk a b:=fun i a b h=>by simp at h
theorem pw {a b:C} {as bs:List C} (h:ROk a b) (t:∀ (i:Nat) (a b:C),as[i]?=some a->bs[i]?=some b->ROk a b):∀ (i:Nat) (c d:C),(a::as)[i]?=some c->(b::bs)[i]?=some d->ROk c d:=by
 intro i c d h1 h2;cases i with
 | zero=>simp only [List.getElem?_cons_zero,Option.some.injEq] at h1 h2; subst h1; subst h2; exact h
 | succ i=>exact t i c d (by simpa using h1) (by simpa using h2)
theorem ROk.ownAt {c c':C} (h:ROk c c'):∀ {q:Path},OwnAt c' q->OwnAt c q∨c.at q=some (.val (.slice none 0 0)):=by
 induction h with
 | refl r=>intro q hq; exact .inl hq
 | of r hle hn=>intro q hq; exact (hn q hq).elim
 | nil es=>
  intro q hq;cases q with
  | nil=>exact .inr rfl
  | cons s q=>simp [OwnAt,C.at,C.kid] at hq
 | own h hn=>
  rename_i nl es cap rows rows';intro q hq;cases q with
  | nil=>exact .inl rfl
  | cons s q=>
   simp only [OwnAt,C.at,C.kid] at hq;cases hr:rows'[s.1]? with
   | none=>simp [hr] at hq
   | some row=>
    simp only [hr,Option.bind_some] at hq;cases hc:row[s.2]? with
    | none=>simp [hc] at hq
    | some c1=>
     simp only [hc,Option.bind_some] at hq;exact (hn row (List.mem_of_getElem? hr) c1 (List.mem_of_getElem? hc) q hq).elim
 | agg hl h ih=>
  rename_i cs ds;intro q hq;cases q with
  | nil=>simp [OwnAt,C.at,C.isOwn] at hq
  | cons s q=>
   simp only [OwnAt,C.at,C.kid] at hq;by_cases hs:s.1=0
   ·simp only [hs,if_true] at hq;cases hd:ds[s.2]? with
    | none=>simp [hd] at hq
    | some b=>
     simp only [hd,Option.bind_some] at hq;have hlt:=(List.getElem?_eq_some_iff.1 hd).1;rw [hl] at hlt;have ha:cs[s.2]?=some cs[s.2]:=by simp [hlt]
     rcases ih s.2 _ _ ha hd hq with h1|h1
     ·left; simp only [OwnAt,C.at,C.kid,hs,if_true,ha,Option.bind_some]; exact h1
     ·right; simp only [C.at,C.kid,hs,if_true,ha,Option.bind_some]; exact h1
   ·simp [hs] at hq
 | tup hl h ih=>
  rename_i cs ds;intro q hq;cases q with
  | nil=>simp [OwnAt,C.at,C.isOwn] at hq
  | cons s q=>
   simp only [OwnAt,C.at,C.kid] at hq;by_cases hs:s.1=0
   ·simp only [hs,if_true] at hq;cases hd:ds[s.2]? with
    | none=>simp [hd] at hq
    | some b=>
     simp only [hd,Option.bind_some] at hq;have hlt:=(List.getElem?_eq_some_iff.1 hd).1;rw [hl] at hlt;have ha:cs[s.2]?=some cs[s.2]:=by simp [hlt]
     rcases ih s.2 _ _ ha hd hq with h1|h1
     ·left; simp only [OwnAt,C.at,C.kid,hs,if_true,ha,Option.bind_some]; exact h1
     ·right; simp only [C.at,C.kid,hs,if_true,ha,Option.bind_some]; exact h1
   ·simp [hs] at hq
open Classical in
noncomputable def nilM (c:C) (m:Path->Value) (p:Path) (q:Path):Value:=if c.at q=some (.val (.slice none 0 0)) then .slice none 0 0 else m (p++q)
open Classical in
theorem qw {c:C} {m:Path->Value} {p q:Path} (h:OwnAt c q):nilM c m p q=m (p++q):=by
 unfold nilM;split
 ·rename_i e; rw [OwnAt,e] at h; simp [C.isOwn] at h
 ·rfl
theorem zl {w:World} {S S':Nat->Prop} {m m':Path->Value} (hS:∀ b,S b->S' b) {c c':C} (h:ROk c c'):∀ (d:Nat) {p p':Path} {u:Value},
  (∀ q,OwnAt c' q->m' (p'++q)=nilM c m p q)->(∀ q b,OwnAt c q->¬ OwnAt c' q->blk (m (p++q))=some b->S' b) ->
  rel w S L0 m true d p c u->rel w S' L0 m' true (d+1) p' c' u:=by
 induction h with
 | refl r=>
  intro d p p' u hm _ hr;exact aL d (d+1) (Nat.le_succ _) (aq (fun b _ hb=>⟨hS b hb,rfl⟩) d (fun _ _ _ h=>h) (fun _ _ _ _ _ _=>rfl) (fun _ q hq=>by rw [hm q hq,qw hq]) hr)
 | of r hle hn=>
  intro d p p' u hm hO hr;have a1:=mE (S:=S) (S':=S') (m:=m) (m':=m) (p:=p) (p':=p) hS d (fun _ q b hq hb=>hO q b hq (hn q) hb) hr;exact aL d (d+1) (Nat.le_succ _) (wc d hn (hle _ _ _ m _ p d u a1))
 | nil es=>
  intro d p p' u hm hO hr;cases d with
  | zero=>exact hr.elim
  | succ d=>
   have hu:u=.slice none 0 0:=hr;refine ⟨none,0,hu,Nat.le_refl _,Nat.zero_le _,by simp,⟨by simp,by simp⟩,by simp,?_,.inl rfl⟩;intro _;have:=hm [] rfl;rw [List.append_nil] at this;rw [hu,this];simp [nilM,C.at]
 | own h hn=>
  rename_i nl es cap rows rows';intro d p p' u hm hO hr;cases d with
  | zero=>exact hr.elim
  | succ d=>
   obtain ⟨a,k,h1,h2,h3,h4,hz,h5,h6,h7⟩:=hr;have hm0:m' p'=m p:=by
    have:=hm [] rfl;rw [qw (c:=.sl true nl es cap rows) (q:=[]) rfl] at this;simpa using this
   refine ⟨a,k,by rw [h.len]; exact h1,by rw [h.len]; exact h2,h3,by simp,⟨by simp,hz.2⟩,?_,fun _=>by rw [hm0]; exact h6 rfl,?_⟩
   ·intro row' hrow;obtain ⟨i,hi,e⟩:=List.getElem_of_mem hrow;have hlt:i < rows.length:=by rw [<-h.len]; exact hi
    have:=h.get i rows[i] row' (by simp [hlt]) (by simp [hi,e]);rw [this.len];exact h5 _ (List.getElem_mem hlt)
   ·rcases h7 with h7|h7|⟨b,off,arr,elem,frz,g1,g2,g3,g4,g5⟩
    ·exact .inl h7
    ·simp at h7
    ·refine .inr (.inr ⟨b,off,arr,elem,frz,g1,g2,fun h=>by simp at h,g4,?_⟩);intro i j row' c' e1 e2;have hlt:i < rows.length:=by rw [<-h.len]; exact (List.getElem?_eq_some_iff.1 e1).1
     have hrow:rows[i]?=some rows[i]:=by simp [hlt]
     have hle:=h.get i rows[i] row' hrow e1;have hltj:j < rows[i].length:=by rw [<-hle.len]; exact (List.getElem?_eq_some_iff.1 e2).1
     have hc:rows[i][j]?=some rows[i][j]:=by simp [hltj]
     obtain ⟨u',e3,e4⟩:=g5 i j _ _ hrow hc;have hnc:=hn row' (List.mem_of_getElem? e1) c' (List.mem_of_getElem? e2);refine ⟨u',e3,aL d (d+1) (Nat.le_succ _) (wc d hnc (hle.get j _ c' hc e2 _ _ _ m _ p d u' (mE (S:=S) (S':=S') (m:=m) (m':=m) (p:=p++[(i,j)]) (p':=p) hS d ?_ e4)))⟩;intro _ q b' hq hb;refine hO ((i,j)::q) b' ?_ ?_ (by simpa using hb)
     ·simp only [OwnAt,C.at,C.kid,hrow,Option.bind_some,hc]; exact hq
     ·simp only [OwnAt,C.at,C.kid,e1,Option.bind_some,e2]; exact hnc q
 | agg hl h ih=>
  rename_i cs ds;intro d p p' u hm hO hr;cases d with
  | zero=>exact hr.elim
  | succ d=>
   obtain ⟨arr,h1,h2,h3⟩:=hr;refine ⟨arr,h1,by rw [hl]; exact h2,fun j c' e=>?_⟩;have hlt:=(List.getElem?_eq_some_iff.1 e).1;rw [hl] at hlt;have ha:cs[j]?=some cs[j]:=by simp [hlt]
   obtain ⟨u',e1,e2⟩:=h3 j _ ha;refine ⟨u',e1,ih j _ _ ha e d ?_ ?_ e2⟩
   ·intro q hq;have:=hm ((0,j)::q) (by simp only [OwnAt,C.at,C.kid,if_true,e,Option.bind_some]; exact hq);have e3:(C.agg cs).at ((0,j)::q)=cs[j].at q:=by simp only [C.at,C.kid,if_true,ha,Option.bind_some]
    unfold nilM at this ⊢;rw [e3] at this;simpa using this
   ·intro q b hq hnq hb;refine hO ((0,j)::q) b (by simp only [OwnAt,C.at,C.kid,if_true,ha,Option.bind_some]; exact hq) ?_ (by simpa using hb);simp only [OwnAt,C.at,C.kid,if_true,e,Option.bind_some]; exact hnq
 | tup hl h ih=>
  rename_i cs ds;intro d p p' u hm hO hr;cases d with
  | zero=>exact hr.elim
  | succ d=>
   obtain ⟨arr,h1,h2,h3⟩:=hr;refine ⟨arr,h1,by rw [hl]; exact h2,fun j c' e=>?_⟩;have hlt:=(List.getElem?_eq_some_iff.1 e).1;rw [hl] at hlt;have ha:cs[j]?=some cs[j]:=by simp [hlt]
   obtain ⟨u',e1,e2⟩:=h3 j _ ha;refine ⟨u',e1,ih j _ _ ha e d ?_ ?_ e2⟩
   ·intro q hq;have:=hm ((0,j)::q) (by simp only [OwnAt,C.at,C.kid,if_true,e,Option.bind_some]; exact hq);have e3:(C.tup cs).at ((0,j)::q)=cs[j].at q:=by simp only [C.at,C.kid,if_true,ha,Option.bind_some]
    unfold nilM at this ⊢;rw [e3] at this;simpa using this
   ·intro q b hq hnq hb;refine hO ((0,j)::q) b (by simp only [OwnAt,C.at,C.kid,if_true,ha,Option.bind_some]; exact hq) ?_ (by simpa using hb);simp only [OwnAt,C.at,C.kid,if_true,e,Option.bind_some]; exact hnq
theorem Bz {w w':World} {S:Nat->Prop} {pure:Bool} {O:Nat->Prop} {F:Prop} {r0 r:C} {u:Value} (hok:ROk r0 r)
  (h:∃ mr d,rel w' (fun b=>((pure=false/\S b)∨w.heap.size<=b)/\¬ Own1 r0 mr b) L0 mr true d [] r0 u ∧
   (∀ q q' b,OwnAt r0 q->OwnAt r0 q'->blk (mr q)=some b->blk (mr q')=some b->q=q') ∧
   (∀ b,Own1 r0 mr b->w.heap.size<=b∨O b)/\F) (hO:∀ b,O b->(pure=false/\S b)∨w.heap.size<=b) :
  ∃ mr d,rel w' (fun b=>((pure=false/\S b)∨w.heap.size<=b)/\¬ Own1 r mr b) L0 mr true d [] r u ∧
   (∀ q q' b,OwnAt r q->OwnAt r q'->blk (mr q)=some b->blk (mr q')=some b->q=q') ∧
   (∀ b,Own1 r mr b->w.heap.size<=b∨O b)/\F:=by
 obtain ⟨mr,d,h1,h2,h3,h4⟩:=h;have key:∀ q b,OwnAt r q->blk (nilM r0 mr [] q)=some b->OwnAt r0 q/\blk (mr q)=some b:=by
  intro q b hq hb;rcases hok.ownAt hq with h|h
  ·rw [qw h] at hb; exact ⟨h,hb⟩
  ·simp [nilM,h,blk] at hb
 refine ⟨nilM r0 mr [],d+1,?_,?_,?_,h4⟩
 ·refine zl (p:=[]) (p':=[]) ?_ hok d (fun q hq=>by simp) ?_ h1
  ·rintro b ⟨hb,hn⟩;exact ⟨hb,fun ⟨q,hq,e⟩=>hn ⟨q,key q b hq e⟩⟩
  ·intro q b hq hnq hb;simp only [List.nil_append] at hb;refine ⟨?_,?_⟩
   ·rcases h3 b ⟨q,hq,hb⟩ with h|h
    ·exact .inr h
    ·exact hO b h
   ·rintro ⟨q',hq',e⟩;obtain ⟨e1,e2⟩:=key q' b hq' e;obtain rfl:=h2 q q' b hq e1 hb e2;exact hnq hq'
 ·intro q q' b hq hq' e e';obtain ⟨a1,a2⟩:=key q b hq e;obtain ⟨a3,a4⟩:=key q' b hq' e';exact h2 q q' b a1 a3 a2 a4
 ·rintro b ⟨q,hq,e⟩;exact h3 b ⟨q,key q b hq e⟩
theorem Does.mono {P:Program} {f:FuncId} {us:List Value} {w:World} {Q Q':Value->World->Prop} (h:Does P f us w Q) (hq:∀ u w',Q u w'->Q' u w'):Does P f us w Q':=by
 rcases h with ⟨h1,h2⟩|⟨u,w',h1,h2⟩
 ·exact .inl ⟨h1,h2.mono fun e w' ⟨u,e1,e2⟩=>⟨u,e1,hq u w' e2⟩⟩
 ·exact .inr ⟨u,w',h1,hq u w' h2⟩
theorem Con.res {P:Program} {f:FuncId} {pure:Bool} {cs:List C} {r0 r:C} (h:Con P f [] pure cs r0) (hok:ROk r0 r):Con P f [] pure cs r:=by
 intro w S m us hl hr hinj;exact (h w S m us hl hr hinj).mono fun u w' hq=>Bz hok hq (fun b h=>(jx h).elim)
def FinW (E:Env) (vs:List ResultVar) (pure:Bool) (r:C):Exit->St->Prop:=fun e s=>(e=.ret∨e=.normal)/\∃ r0,finish E vs s=some r0/\ROk r0 r/\(pure=true->PureC r0)
theorem Fe {E:Env} {vs:List ResultVar} {pure:Bool} {r:C} {s:St}:FinW E vs pure r .ret s=∃ r0,finish E vs s=some r0/\ROk r0 r/\(pure=true->PureC r0):=by simp [FinW]
structure FunOk (P:Program) (f:FuncId) (fn:Func) (body:Code):Prop where
 get:P.funcs[f]?=some fn
 bd:fn.body=some body
 name:(fn.name == "runtime.NumGoroutine") = false
 ok:codeOk body=true
theorem PureC.val (v:Value):PureC (.val v):=by
 intro w S S' m d p u h;cases d with
 | zero=>exact h.elim
 | succ d=>exact h
theorem PureC.agg {cs:List C} (h:∀ c∈cs,PureC c):PureC (.agg cs):=by
 intro w S S' m d p u hr;cases d with
 | zero=>exact hr.elim
 | succ d=>
  obtain ⟨arr,h1,h2,h3⟩:=hr;exact ⟨arr,h1,h2,fun j c' e=>let ⟨u',e1,e2⟩:=h3 j c' e; ⟨u',e1,h c' (List.mem_of_getElem? e) _ _ _ _ _ _ _ e2⟩⟩
theorem PureC.tup {cs:List C} (h:∀ c∈cs,PureC c):PureC (.tup cs):=by
 intro w S S' m d p u hr;cases d with
 | zero=>exact hr.elim
 | succ d=>
  obtain ⟨arr,h1,h2,h3⟩:=hr;exact ⟨arr,h1,h2,fun j c' e=>let ⟨u',e1,e2⟩:=h3 j c' e; ⟨u',e1,h c' (List.mem_of_getElem? e) _ _ _ _ _ _ _ e2⟩⟩
theorem PureC.sl {nl:Option Bool} {es:Nat} {cap:Option Nat} {rows:List (List C)} (h:∀ row∈rows,∀ c∈row,PureC c):PureC (.sl true nl es cap rows):=by
 intro w S S' m d p u hr;cases d with
 | zero=>exact hr.elim
 | succ d=>
  obtain ⟨a,k,h1,h2,h3,h4,hz,h5,h6,h7⟩:=hr;refine ⟨a,k,h1,h2,h3,h4,hz,h5,h6,?_⟩;rcases h7 with h7|h7|⟨b,off,arr,elem,frz,g1,g2,g3,g4,g5⟩
  ·exact .inl h7
  ·exact .inr (.inl h7)
  ·refine .inr (.inr ⟨b,off,arr,elem,frz,g1,g2,fun e=>by simp at e,g4,fun i j row c' e1 e2=>?_⟩);obtain ⟨u',e3,e4⟩:=g5 i j row c' e1 e2;exact ⟨u',e3,h row (List.mem_of_getElem? e1) c' (List.mem_of_getElem? e2) _ _ _ _ _ _ _ e4⟩
theorem Real.len {s:St} (h:Real s) {t:Nat} {o:Bool} {nl:Option Bool} {es:Nat} {cap:Option Nat} {rows:List (List C)} (ht:s.tmps[t]?=some (.sl o nl es cap rows)):rows.length<=maxLen:=by
 obtain ⟨X,a,w,m,H⟩:=h;obtain ⟨u,d,h1,h2⟩:=H.tmp t _ ht;cases d with
 | zero=>exact h2.elim
 | succ d=>obtain ⟨a,k,h1,h2,h3,_⟩:=h2; omega
theorem Real.lenR {s:St} (h:Real s) {n:Nat} {o:Bool} {nl:Option Bool} {es:Nat} {cap:Option Nat} {rows:List (List C)} (ht:s.roots n=.sl o nl es cap rows):rows.length<=maxLen:=by
 obtain ⟨X,a,w,m,H⟩:=h;obtain ⟨u,d,h2⟩:=H.root n;rw [ht] at h2;cases d with
 | zero=>exact h2.elim
 | succ d=>obtain ⟨a,k,h1,h2,h3,_⟩:=h2; omega
end Go.Abs

namespace Go.Abs
theorem C3 {n:Nat} {f g:Nat->C} {R R':Nat->C} (hr:∀ k,R' k=R k∨R' k=.dead)
  (ht:∀ t,t < n->g t=.dead∨(g t=f t/\(g t).ment (fun k _=>isDead (R' k)) 3=false)):Weak ⟨tab n f,R⟩ ⟨tab n g,R'⟩:=by
 rintro X a w ⟨m,H⟩;have hown:∀ k p,OwnAt (R' k) p->OwnAt (R k) p/\R' k=R k:=by
  intro k p ho;rcases hr k with h|h
  ·exact ⟨by rw [<-h]; exact ho,h⟩
  ·rw [h] at ho; exact (aA ho).elim
 have hS:∀ b,b < w.heap.size->X.S R m b->X.S R' m b/\w.heap[b]?=w.heap[b]?:=by
  intro b _ hs;exact ⟨⟨hs.1,fun ⟨k,p,h1,h2⟩=>hs.2 ⟨k,p,(hown k p h1).1,h2⟩⟩,rfl⟩
 refine ⟨m,⟨by rw [H.len]; simp [oP],?_,?_,?_,?_,H.fr,H.df⟩⟩
 ·intro t c hc;rw [jY] at hc;split at hc
  case isFalse=>simp at hc
  rename_i hlt;simp only [Option.some.injEq] at hc;subst hc;have hsz:t < a.tmps.size:=by rw [H.len]; simp [oP,hlt]
  rcases ht t hlt with h|⟨h,hm⟩
  ·exact ⟨a.tmps[t],1,by simp [hsz],by rw [h]; trivial⟩
  ·obtain ⟨u,d,h1,h2⟩:=H.tmp t (f t) (by simp only [jY,hlt,if_true]);refine ⟨u,d,h1,?_⟩;rw [h];rw [h] at hm;refine aq hS d ?_ (fun h=>by simp at h) (fun h=>by simp at h) h2;intro v uv ho hl;obtain ⟨k,p,e1,e2⟩:=iT d 3 (f t) v hm ho;refine i5 e1 rfl ?_ hl;intro nl es cap rows he;rcases hr k with h'|h'
   ·exact ⟨cap,rows,by simp only [h']; exact he,rfl⟩
   ·rw [h'] at e2; simp [isDead] at e2
 ·intro k;rcases hr k with h|h
  ·obtain ⟨u,d,h1⟩:=H.root k;refine ⟨u,d,?_⟩;simp only [h];refine aq hS d (fun _ _ _ h=>h) (fun _ q b ho hb hlt=>rfl) (fun _ q ho=>rfl) h1
  ·exact ⟨undef,1,by simp only [h]; trivial⟩
 ·intro k p k' p' b h1 h2 h3 h4;exact H.inj k p k' p' b (hown k p h1).1 (hown k' p' h2).1 h3 h4
 ·intro k p b h1 h2;exact H.own k p b (hown k p h1).1 h2
theorem DD {n:Nat} {f R':Nat->C}:∀ t,t < n->deadT t=.dead∨(deadT t=f t/\(deadT t).ment (fun k _=>isDead (R' k)) 3=false):=fun _ _=>.inl rfl
theorem Dq {n:Nat} {f g R':Nat->C} {d:Nat} {c:C} (h0:f d=c) (hm:c.ment (fun k _=>isDead (R' k)) 3=false)
  (h:∀ t,t < n->g t=.dead∨(g t=f t/\(g t).ment (fun k _=>isDead (R' k)) 3=false)):∀ t,t < n->updT g d c t=.dead∨(updT g d c t=f t/\(updT g d c t).ment (fun k _=>isDead (R' k)) 3=false):=by
 intro t ht;simp only [updT];split
 ·rename_i e; subst e; exact .inr ⟨h0.symm,hm⟩
 ·exact h t ht
theorem DE {R:Nat->C}:∀ k,RZ k=R k∨RZ k=.dead:=fun _=>.inr rfl
theorem C4 {R R':Nat->C} {d:Nat} {c:C} (h0:R d=c) (h:∀ k,R' k=R k∨R' k=.dead):∀ k,upd R' d c k=R k∨upd R' d c k=.dead:=by
 intro k;simp only [upd];split
 ·rename_i e; subst e; exact .inl h0.symm
 ·exact h k
theorem ko {n:Nat} {f:Nat->C} {R:Nat->C} (t d es:Nat) (hd:R d=.dead) (ht:f t=.val (.slice none 0 0)) :
  Weak ⟨tab n f,R⟩ ⟨tab n (updT f t (.pal d [] 0 0 none)),upd R d (.sl true none es none [])⟩:=by
 rintro X a w ⟨m,H⟩;obtain ⟨H1,_⟩:=H.adopt (d:=d) hd es none;refine ⟨_,⟨by rw [H.len]; simp [oP],?_,H1.root,H1.inj,H1.own,H1.fr,H1.df⟩⟩;intro t' c hc;rw [jY] at hc;split at hc
 case isFalse=>simp at hc
 rename_i hlt;simp only [Option.some.injEq] at hc;by_cases e:t'=t
 ·subst e;simp only [updT,if_true] at hc;subst hc;obtain ⟨u,dd,h1,h2⟩:=H.tmp t' (f t') (by simp only [jY,hlt,if_true]);rw [ht] at h2;have hu:u=.slice none 0 0:=by
   cases dd with
   | zero=>exact h2.elim
   | succ dd=>exact h2
  subst hu;refine ⟨_,1,h1,?_⟩;simp only [rel,Lv];refine ⟨none,es,none,[],none,0,none,0,by simp [av,C.at],by simp [bf],by simp,rfl,by omega,by omega,by simp,by simp,.inl rfl⟩
 ·simp only [updT,e,if_false] at hc;exact H1.tmp t' c (by simp only [adopt,jY,hlt,if_true,hc])
end Go.Abs

namespace Go.Abs
theorem Aj {n:Int} (h1:-9223372036854775808<=n) (h2:n<=9223372036854775807):IntKind.i64.wrap n=n:=
 Fz ⟨h1,h2⟩
theorem bu {i n:Nat} (h:i < n) (hn:n<=maxLen):IntKind.i64.wrap ((i:Int)+1)=((i+1:Nat):Int):=by
 unfold maxLen at hn;rw [Aj (by omega) (by omega)];rfl
def gx {α β:Type} (l:List α) (i:Int) (k:α->Option β):Option β:=if 0<=i/\i < l.length then l[i.toNat]?.bind k else none
theorem aI {α β:Type} {l:List α} {i:Int} {k:α->Option β} {r:β} (h:gx l i k=some r):∃ x,(0<=i/\i < l.length)/\l[i.toNat]?=some x/\k x=some r:=by
 unfold gx at h;split at h
 ·rename_i hb;simp only [Option.bind_eq_some_iff] at h;obtain ⟨x,hx,h⟩:=h;exact ⟨x,hb,hx,h⟩
 ·simp at h
theorem gx_nat {α β:Type} {l:List α} {i:Nat} {k:α->Option β} {x:α} (h:l[i]?=some x):gx l (i:Int) k=k x:=by
 have hlt:=(List.getElem?_eq_some_iff.1 h).1;unfold gx;rw [if_pos ⟨by omega,by omega⟩,Int.toNat_natCast,h];rfl
theorem bq {α:Type} (l:List α) (i:Nat) (h:i<=l.length):(∃ x,i < l.length/\l[i]?=some x/\l.drop i=x::l.drop (i+1))∨(¬ i < l.length/\i=l.length/\l.drop i=[]):=by
 by_cases hi:i < l.length
 ·exact .inl ⟨l[i],hi,by simp [hi],List.drop_eq_getElem_cons hi⟩
 ·exact .inr ⟨hi,by omega,List.drop_eq_nil_of_le (by omega)⟩
theorem tu (n i:Nat):(i < n/\n - i=n - (i+1)+1)∨(¬ i < n/\n - i=0):=by
 by_cases h:i < n
 ·exact .inl ⟨h,by omega⟩
 ·exact .inr ⟨h,by omega⟩
theorem rO {α:Type} {l:List α} {i:Nat} {x y:α} (h:l[i]?=some x):(l.set i y)[i]?=some y:=by
 have hlt:=(List.getElem?_eq_some_iff.1 h).1;simp [hlt]
section
variable {E:Env} {Q:Exit->St->Prop} {K:List Fm} {st:St}
theorem uw {J J':St->Prop} (h:∀ s,J s->J' s) (e:Exit) (s:St):ap E Q (.lp J::K) e s->ap E Q (.lp J'::K) e s:=by
 cases e with
 | normal=>exact h s
 | _=>exact id
variable {draw:Bool} {gd:Nat->Option Tmp} {bar:Nat->Bool} {i:Nat} {l:List Oper} {Z:St->Prop} {o:List Oper}
theorem jb {j:Nat} {want:Bool} {p:Prop} [inst:Decidable p] {d:Option Tmp} {ty:TypeId} {pos:String} {after:Array Edge} {op:Op} (_:guardV gd st j=some (some (!decide p)))
  (h1:¬ p->RX E draw gd bar i ({ dst:=d,op:=op,type:=ty,pos:=pos,after:=after,guard:=some (j,want) }::l) st Z)
  (h2:p->RX E draw gd bar i ({ dst:=d,op:=op,type:=ty,pos:=pos,after:=after,guard:=some (j,want) }::l) st Z) :
  RX E draw gd bar i ({ dst:=d,op:=op,type:=ty,pos:=pos,after:=after,guard:=some (j,want) }::l) st Z:=by
 by_cases hp:p
 ·exact h2 hp
 ·exact h1 hp
theorem bR {j:Nat} {want:Bool} {b:Bool} {d:Option Tmp} {ty:TypeId} {pos:String} {after:Array Edge} {op:Op} (_:guardV gd st j=some (some b))
  (h1:b=true->RX E draw gd bar i ({ dst:=d,op:=op,type:=ty,pos:=pos,after:=after,guard:=some (j,want) }::l) st Z)
  (h2:b=false->RX E draw gd bar i ({ dst:=d,op:=op,type:=ty,pos:=pos,after:=after,guard:=some (j,want) }::l) st Z) :
  RX E draw gd bar i ({ dst:=d,op:=op,type:=ty,pos:=pos,after:=after,guard:=some (j,want) }::l) st Z:=by
 cases hb:b
 ·exact h2 hb
 ·exact h1 hb
theorem eY {j:Nat} {want:Bool} {b:Bool} {d:Option Tmp} {ty:TypeId} {pos:String} {after:Array Edge} {op:Op} (_:guardV gd st j=some (some (!b)))
  (h1:b=false->RX E draw gd bar i ({ dst:=d,op:=op,type:=ty,pos:=pos,after:=after,guard:=some (j,want) }::l) st Z)
  (h2:b=true->RX E draw gd bar i ({ dst:=d,op:=op,type:=ty,pos:=pos,after:=after,guard:=some (j,want) }::l) st Z) :
  RX E draw gd bar i ({ dst:=d,op:=op,type:=ty,pos:=pos,after:=after,guard:=some (j,want) }::l) st Z:=by
 cases hb:b
 ·exact h1 hb
 ·exact h2 hb
theorem Real.lenT {n:Nat} {f:Nat->C} {R:Nat->C} (h:Real ⟨tab n f,R⟩) (t:Nat) {o:Bool} {nl:Option Bool} {es:Nat} {cap:Option Nat} {rows:List (List C)} (hlt:t < n) (ht:f t=.sl o nl es cap rows):rows.length<=maxLen:=
 h.len (t:=t) (o:=o) (nl:=nl) (es:=es) (cap:=cap) (by simp only [jY,hlt,if_true,ht])
theorem Real.lenX {n:Nat} {f:Nat->C} {R:Nat->C} (h:Real ⟨tab n f,R⟩) (k:Nat) {o:Bool} {nl:Option Bool} {es:Nat} {cap:Option Nat} {rows:List (List C)} (ht:R k=.sl o nl es cap rows):rows.length<=maxLen:=
 h.lenR (n:=k) ht
theorem Real.cell {n:Nat} {f:Nat->C} {R:Nat->C} (h:Real ⟨tab n f,R⟩) (k j:Nat) {o o':Bool} {nl nl':Option Bool} {es es':Nat} {cap cap':Option Nat} {row:List C} {rows:List (List C)} (ht:R k=.sl o nl es cap [row]) (hj:row[j]?=some (.sl o' nl' es' cap' rows)):rows.length<=maxLen:=by
 obtain ⟨X,a,w,m,H⟩:=h;obtain ⟨u,d,h2⟩:=H.root k;rw [show (St.mk (tab n f) R).roots k=R k from rfl,ht] at h2;cases d with
 | zero=>exact h2.elim
 | succ d=>
  obtain ⟨a1,k1,h1,h2,h3,h4,hz,h5,h6,h7⟩:=h2;have hk:k1≠0:=by simp at h2; omega
  rcases h7 with h7|h7|⟨b,off,arr,elem,frz,g1,g2,g3,g4,g5⟩
  ·exact absurd h7 hk
  ·simp at h7
  ·obtain ⟨u',_,e2⟩:=g5 0 j row _ rfl hj;cases d with
   | zero=>exact e2.elim
   | succ d=>obtain ⟨a2,k2,e1,e2,e3,_⟩:=e2; omega
end
end Go.Abs

namespace Go.Abs
section
variable {E:Env} {Q:Exit->St->Prop} {K:List Fm} {st:St}
theorem AL {c:Code} (h:Wk E c (ap E Q []) st):Wk E c Q st:=h
theorem gp {c:Code} {Q:Exit->St->Prop} {st':St} (hw:Weak st st') (h:Wk E c Q st'):Wk E c Q st:=fun P hT hG hm hc X a w H ts hk=>h P hT hG hm hc X a w (hw X a w H) ts hk
theorem Wk_seq {x y:Code} (h:Wk E x (ap E Q (.sk y::K)) st):Wk E (.seq x y) (ap E Q K) st:=by
 intro P hT hG hm hc X a w H ts hk;simp only [codeOk,Bool.and_eq_true] at hc;simp only [keepC,Bool.and_eq_true] at hk;refine wp_seq (wp_mono (h P hT hG hm hc.1 X a w H ts hk.1) ?_);rintro e a' w' ⟨⟨s,hs,H'⟩,hsm⟩;cases e with
 | normal=>exact wp_mono (hs P hT hG hm hc.2 X a' w' H' ts hk.2) fun e a2 w2 h2=>h2.from (hsm.resolve_left (by simp))
 | _=>exact ⟨⟨s,hs,H'⟩,hsm⟩
theorem al {id:Nat} {c:Code} (h:Wk E c (ap E Q (.bl id::K)) st):Wk E (.block id c) (ap E Q K) st:=by
 intro P hT hG hm hc X a w H ts hk;refine wp_block (wp_mono (h P hT hG hm hc X a w H ts hk) ?_);rintro e a' w' ⟨⟨s,hs,H'⟩,hsm⟩;cases e with
 | exit i=>
  simp only [ap] at hs;simp only [Exit.inBlock];have hsm':=hsm.resolve_left (by simp);split at hs
  ·rename_i hi; rw [if_pos hi]; exact .mk' hs H' hsm'
  ·rename_i hi; rw [if_neg hi]; exact .mk' hs H' hsm'
 | _=>exact ⟨⟨s,hs,H'⟩,hsm⟩
theorem Al {id:Nat} {ops:Array Oper} {draw:Bool} (h:RX E draw (gdOf ops) (barC ops) 0 ops.toList st (fun s=>(draw=true->finChk ops s=true)/\ap E Q K .normal s)):Wk E (.region id ops draw) (ap E Q K) st:=
 wy (by rw [Fi]; exact h)
theorem ai {id:Nat} {ops:Array Oper} (h:∀ Z:St->Prop,(∀ s,ap E Q K .normal s->Z s)->RX E false (gdOf ops) (barC ops) 0 ops.toList st Z):Wk E (.region id ops false) (ap E Q K) st:=
 Al (h _ fun s hs=>⟨fun h=>(by cases h),hs⟩)
theorem bU {id:Nat} {ops:Array Oper} (h:∀ Z:St->Prop,(∀ s,finChk ops s=true->ap E Q K .normal s->Z s)->RX E true (gdOf ops) (barC ops) 0 ops.toList st Z):Wk E (.region id ops true) (ap E Q K) st:=
 Al (h _ fun s hf hs=>⟨fun _=>hf,hs⟩)
theorem FD {y:Code} (h:Wk E y (ap E Q K) st):ap E Q (.sk y::K) .normal st:=h
theorem Cf {y:Code} (h:ap E Q K .ret st):ap E Q (.sk y::K) .ret st:=h
theorem Bi {y:Code} {i:Nat} (h:ap E Q K (.exit i) st):ap E Q (.sk y::K) (.exit i) st:=h
theorem Gj {id:Nat} (h:ap E Q K .normal st):ap E Q (.bl id::K) .normal st:=h
theorem Ca {id:Nat} (h:ap E Q K .ret st):ap E Q (.bl id::K) .ret st:=h
theorem CV {id:Nat} (h:ap E Q K .normal st):ap E Q (.bl id::K) (.exit id) st:=by rw [C6,if_pos rfl]; exact h
theorem FH {J:St->Prop} (h:J st):ap E Q (.lp J::K) .normal st:=h
theorem BV {J:St->Prop} (h:ap E Q K .ret st):ap E Q (.lp J::K) .ret st:=h
theorem Bt {J:St->Prop} {i:Nat} (h:ap E Q K (.exit i) st):ap E Q (.lp J::K) (.exit i) st:=h
theorem Ey {e:Exit} (h:Q e st):ap E Q [] e st:=h
class Pop (A:Prop) (B:outParam Prop):Prop where
 pop:B->A
instance {y:Code}:Pop (ap E Q (.sk y::K) .normal st) (Wk E y (ap E Q K) st):=⟨FD⟩
instance {y:Code}:Pop (ap E Q (.sk y::K) .ret st) (ap E Q K .ret st):=⟨Cf⟩
instance {y:Code} {i:Nat}:Pop (ap E Q (.sk y::K) (.exit i) st) (ap E Q K (.exit i) st):=⟨Bi⟩
instance {id:Nat}:Pop (ap E Q (.bl id::K) .normal st) (ap E Q K .normal st):=⟨Gj⟩
instance {id:Nat}:Pop (ap E Q (.bl id::K) .ret st) (ap E Q K .ret st):=⟨Ca⟩
instance {id:Nat}:Pop (ap E Q (.bl id::K) (.exit id) st) (ap E Q K .normal st):=⟨CV⟩
instance {J:St->Prop}:Pop (ap E Q (.lp J::K) .ret st) (ap E Q K .ret st):=⟨BV⟩
instance {J:St->Prop} {i:Nat}:Pop (ap E Q (.lp J::K) (.exit i) st) (ap E Q K (.exit i) st):=⟨Bt⟩
theorem ak (h:ap E Q K .normal st):Wk E .skip (ap E Q K) st:=wy h
theorem aP {id:Nat} (h:ap E Q K (.exit id) st):Wk E (.exit id) (ap E Q K) st:=wy h
theorem Wk_ret (h:ap E Q K .ret st):Wk E .ret (ap E Q K) st:=wy h
theorem rS {Q:Exit->St->Prop} {c:Operand} {x y:Code} {b:Bool} (hc:st.ev c=.val (.bool b)) (h1:b=true->Wk E x Q st) (h2:b=false->Wk E y Q st):Wk E (.cond c x y) Q st:=by
 intro P hT hG hm hco X a w H ts hk;simp only [codeOk,Bool.and_eq_true] at hco;simp only [keepC,Bool.and_eq_true] at hk;have H0:=H;obtain ⟨m,HM⟩:=H;have hr:=ev_ok HM c;rw [hc] at hr;have hv:=hr.of_val;cases b with
 | true=>exact wp_cond_true hv (h1 rfl P hT hG hm hco.1 X a w H0 ts hk.1)
 | false=>exact wp_cond_false hv (h2 rfl P hT hG hm hco.2 X a w H0 ts hk.2)
theorem bm {c:Operand} {x y:Code} (hc:st.ev c=.val (.bool true)) (h:Wk E x (ap E Q K) st):Wk E (.cond c x y) (ap E Q K) st:=rS hc (fun _=>h) (fun h=>by cases h)
theorem bc {c:Operand} {x y:Code} (hc:st.ev c=.val (.bool false)) (h:Wk E y (ap E Q K) st):Wk E (.cond c x y) (ap E Q K) st:=rS hc (fun h=>by cases h) (fun _=>h)
theorem am {c:Operand} {x y:Code} {p:Prop} [inst:Decidable p] (hc:st.ev c=.val (.bool (decide p))) (h1:p->Wk E x (ap E Q K) st) (h2:¬ p->Wk E y (ap E Q K) st):Wk E (.cond c x y) (ap E Q K) st:=
 rS hc (fun h=>h1 (of_decide_eq_true h)) (fun h=>h2 (of_decide_eq_false h))
theorem oq {c:Operand} {x y:Code} {p:Prop} [inst:Decidable p] (hc:st.ev c=.val (.bool (!decide p))) (h1:¬ p->Wk E x (ap E Q K) st) (h2:p->Wk E y (ap E Q K) st):Wk E (.cond c x y) (ap E Q K) st:=
 rS hc (fun h=>h1 (by simpa using h)) (fun h=>h2 (by simpa using h))
theorem au {c:Operand} {x y:Code} {b:Bool} (hc:st.ev c=.val (.bool b)) (h1:b=true->Wk E x (ap E Q K) st) (h2:b=false->Wk E y (ap E Q K) st):Wk E (.cond c x y) (ap E Q K) st:=rS hc h1 h2
theorem bQ {c:Operand} {x y:Code} {b:Bool} (hc:st.ev c=.val (.bool (!b))) (h1:b=false->Wk E x (ap E Q K) st) (h2:b=true->Wk E y (ap E Q K) st):Wk E (.cond c x y) (ap E Q K) st:=
 rS hc (fun h=>h1 (by simpa using h)) (fun h=>h2 (by simpa using h))
theorem dt {c:Code} {Q:Exit->St->Prop} (h:Real st->Wk E c Q st):Wk E c Q st:=fun P hT hG hm hc X a w H ts hk=>h ⟨X,a,w,H⟩ P hT hG hm hc X a w H ts hk
theorem zG {c:Code} {Q Q':Exit->St->Prop} (hq:∀ e s,Q e s->Q' e s) (h:Wk E c Q st):Wk E c Q' st:=
 fun P hT hG hm hc X a w H ts hk=>wp_mono (h P hT hG hm hc X a w H ts hk) fun e a' w' ⟨⟨s,hs,H'⟩,hsm⟩=>⟨⟨s,hq e s hs,H'⟩,hsm⟩
theorem zL {α:Type} (mk:α->St) (inv:α->Prop) (μ:α->Nat) (x0:α) {c:Code} (h0:Weak st (mk x0)) (hi:inv x0)
  (hr:∀ x,inv x->Real (mk x)->Wk E c (ap E Q (.lp (fun s=>∃ x',Weak s (mk x')/\inv x'/\μ x' < μ x)::K)) (mk x)):Wk E (.loop c) (ap E Q K) st:=by
 classical
 intro P hT hG hm hc X a0 w H ts hk
 let J:Act->World->Prop:=fun a w=>(∃ x,inv x/\Inv X (mk x) a w)/\Same ts a0 a
 let ν:Act->World->Nat:=fun a w=>if h:∃ k,∃ x,inv x/\Inv X (mk x) a w/\μ x=k then Classical.choose (mi _ h) else 0
 refine wp_loop J ν ⟨⟨x0,hi,h0 X a0 w H⟩,.refl _ _⟩ ?_;rintro a w ⟨⟨x1,hI1,H1⟩,hs0⟩;have hex:∃ k,∃ x,inv x/\Inv X (mk x) a w/\μ x=k:=⟨_,x1,hI1,H1,rfl⟩;obtain ⟨x2,hI2,H2,hm2⟩:=(Classical.choose_spec (mi _ hex)).1;have hν:ν a w=μ x2:=by simp only [ν]; rw [dif_pos hex,<-hm2]
 refine wp_mono (hr x2 hI2 ⟨_,_,_,H2⟩ P hT hG hm hc X a w H2 ts hk) ?_;rintro e a' w' ⟨⟨s',hs',H'⟩,hsm⟩;cases e with
 | normal=>
  obtain ⟨x',hw',hI',hlt⟩:=hs';have H'':=hw' X a' w' H';refine ⟨⟨⟨x',hI',H''⟩,hs0.trans (hsm.resolve_left (by simp))⟩,?_⟩;have hex':∃ k,∃ x,inv x/\Inv X (mk x) a' w'/\μ x=k:=⟨_,x',hI',H'',rfl⟩;have:ν a' w'<=μ x':=by simp only [ν]; rw [dif_pos hex']; exact (Classical.choose_spec (mi _ hex')).2 _ ⟨x',hI',H'',rfl⟩
  omega
 | _=>exact KQ.from (a1:=a) ⟨⟨s',hs',H'⟩,hsm⟩ hs0
theorem dg {α β ρ:Type} {l:List α} {L:List α->Nat->β->Option ρ} {r:ρ} (mk:Nat->β->St) (b0:β) {c:Code} (h:L l 0 b0=some r) (h0:Weak st (mk 0 b0))
  (hr:∀ i b,i<=l.length->L (l.drop i) i b=some r->Real (mk i b)->Wk E c (ap E Q (.lp (fun s=>i < l.length/\∃ b',Weak s (mk (i+1) b')/\L (l.drop (i+1)) (i+1) b'=some r)::K)) (mk i b)):Wk E (.loop c) (ap E Q K) st:=by
 refine zL (fun x:Nat × β=>mk x.1 x.2) (fun x=>x.1<=l.length/\L (l.drop x.1) x.1 x.2=some r) (fun x=>l.length - x.1) (0,b0) h0 ⟨Nat.zero_le _,by simpa using h⟩ ?_;rintro ⟨i,b⟩ ⟨h1,h2⟩ hreal;refine zG (uw ?_) (hr i b h1 h2 hreal);rintro s ⟨g1,b',g2,g3⟩;exact ⟨(i+1,b'),g2,⟨g1,g3⟩,by simp only; omega⟩
theorem yx {β ρ:Type} {L:Nat->Nat->β->Option ρ} {r:ρ} {n s:Nat} (mk:Nat->β->St) (b0:β) {c:Code} (h:L (n - s) s b0=some r) (h0:Weak st (mk s b0))
  (hr:∀ i b,(i<=n∨i=s)->L (n - i) i b=some r->Real (mk i b)->Wk E c (ap E Q (.lp (fun s=>i < n/\∃ b',Weak s (mk (i+1) b')/\L (n - (i+1)) (i+1) b'=some r)::K)) (mk i b)):Wk E (.loop c) (ap E Q K) st:=by
 refine zL (fun x:Nat × β=>mk x.1 x.2) (fun x=>(x.1<=n∨x.1=s)/\L (n - x.1) x.1 x.2=some r) (fun x=>n - x.1) (s,b0) h0 ⟨.inr rfl,h⟩ ?_;rintro ⟨i,b⟩ ⟨h1,h2⟩ hreal;refine zG (uw ?_) (hr i b h1 h2 hreal);rintro s ⟨g1,b',g2,g3⟩;exact ⟨(i+1,b'),g2,⟨.inl g1,g3⟩,by simp only; omega⟩
theorem fV {β ρ:Type} {L:Nat->β->Option ρ} {r:ρ} {n:Nat} (mk:β->St) (b0:β) {c:Code} (h:L n b0=some r) (h0:Weak st (mk b0))
  (hr:∀ n b,L n b=some r->Real (mk b)->Wk E c (ap E Q (.lp (fun s=>∃ n',n' < n/\∃ b',Weak s (mk b')/\L n' b'=some r)::K)) (mk b)):Wk E (.loop c) (ap E Q K) st:=by
 refine zL (fun x:Nat × β=>mk x.2) (fun x=>L x.1 x.2=some r) (fun x=>x.1) (n,b0) h0 h ?_;rintro ⟨n,b⟩ h1 hreal;refine zG (uw ?_) (hr n b h1 hreal);rintro s ⟨n',g1,b',g2,g3⟩;exact ⟨(n',b'),g2,g3,g1⟩
theorem bS {x y:Code} {ρ:Type} {r:ρ} {T0:Type} (mk:T0->St) {g:T0->Option ρ}
  (hx:(∀ s,∀ p0,Weak s (mk p0)->g p0=some r->Wk E y (ap E Q K) s)->Wk E x (ap E Q (.sk y::K)) st)
  (hJ:∀ p0,g p0=some r->Wk E y (ap E Q K) (mk p0)):Wk E (.seq x y) (ap E Q K) st:=
 Wk_seq (hx fun s p0 hw h=>gp hw (hJ p0 h))
theorem oA {x y:Code} {ρ:Type} {r:ρ} {T0 T1:Type} (mk:T0->T1->St) {g:T0->T1->Option ρ}
  (hx:(∀ s,∀ p0 p1,Weak s (mk p0 p1)->g p0 p1=some r->Wk E y (ap E Q K) s)->Wk E x (ap E Q (.sk y::K)) st)
  (hJ:∀ p0 p1,g p0 p1=some r->Wk E y (ap E Q K) (mk p0 p1)):Wk E (.seq x y) (ap E Q K) st:=
 Wk_seq (hx fun s p0 p1 hw h=>gp hw (hJ p0 p1 h))
theorem EC {x y:Code} {ρ:Type} {r:ρ} {T0 T1 T2 T3 T4 T5 T6:Type} (mk:T0->T1->T2->T3->T4->T5->T6->St) {g:T0->T1->T2->T3->T4->T5->T6->Option ρ}
  (hx:(∀ s,∀ p0 p1 p2 p3 p4 p5 p6,Weak s (mk p0 p1 p2 p3 p4 p5 p6)->g p0 p1 p2 p3 p4 p5 p6=some r->Wk E y (ap E Q K) s)->Wk E x (ap E Q (.sk y::K)) st)
  (hJ:∀ p0 p1 p2 p3 p4 p5 p6,g p0 p1 p2 p3 p4 p5 p6=some r->Wk E y (ap E Q K) (mk p0 p1 p2 p3 p4 p5 p6)):Wk E (.seq x y) (ap E Q K) st:=
 Wk_seq (hx fun s p0 p1 p2 p3 p4 p5 p6 hw h=>gp hw (hJ p0 p1 p2 p3 p4 p5 p6 h))
end
theorem Cy {P:Program} {E:Env} (hT:TOk P E) (hG:GOk P E) (hmix:P.follows .mixedOrders=true) {f:FuncId} {fn:Func} {body:Code} (hf:FunOk P f fn body)
  {pure:Bool} {cs:List C} {r:C} (hn:cs.length<=fn.ntmps)
  (hW:Real (entry [] cs fn.ntmps)->Wk E body (FinW E fn.results.toList pure r) (entry [] cs fn.ntmps)):Con P f [] pure cs r:=by
 intro w S m us hl hr hinj;left;have hname':¬ fn.name = "runtime.NumGoroutine" := by simpa using hf.name
 refine ⟨by simp [callFunc,hf.get,hname',hf.bd],?_⟩;have H:=uK (n:=fn.ntmps) hl hn hr hinj;refine calls_of_wp hf.get hf.bd (wp_mono (hW ⟨_,_,_,m,H⟩ P hT hG hmix hf.ok _ _ _ ⟨m,H⟩ [] (sD _)) ?_);rintro e a' w' ⟨⟨s,⟨he,r0,hfin,hrok,hpure⟩,m',H'⟩,-⟩;have main:∃ u,(results fn a'.tmps).run P w'=.ok u w'/\Done (ctxOf w S (Owned (R0 [] cs) m)) w' r0 u:=by
  unfold finish at hfin;split at hfin
  case h_2=>simp at hfin
  rename_i cs' hres;obtain ⟨us',f1,f2,f3⟩:=tN hT H' hres;refine ⟨_,o8 f1,?_⟩;split at hfin
  ·rename_i rs hpl;simp only [Option.some.injEq] at hfin;subst hfin;exact sm hT H' f2 f3 hpl
  ·split at hfin
   ·rename_i s1 kp hprep;simp only [Option.some.injEq] at hfin;subst hfin;exact tI hT H' f2 f3 hprep
   ·simp at hfin
 obtain ⟨u,hrun,hd⟩:=main;obtain ⟨mr,d,g1,g2,g3⟩:=hd.ex;have post:a'.defers=[]/\∃ v,(results fn a'.tmps).run P w'=.ok v w'/\∃ u,Ending.returned v=.returned u/\∃ mr d,rel w' (fun b=>((pure=false/\(S b∨Owned (R0 [] cs) m b))∨w.heap.size<=b)/\¬ Own1 r mr b) L0 mr true d [] r u ∧
   (∀ q q' b,OwnAt r q->OwnAt r q'->blk (mr q)=some b->blk (mr q')=some b->q=q')/\(∀ b,Own1 r mr b->w.heap.size<=b∨Owned (R0 [] cs) m b)/\FrK w (Owned (R0 [] cs) m) w':=by
  refine ⟨H'.df,u,hrun,u,rfl,Bz hrok ⟨mr,d,?_,g2,g3,⟨hd.fr.os,hd.fr.tape,hd.fr.output,hd.fr.drawn,hd.fr.size,hd.fr.block⟩⟩ (fun b h=>(jx h).elim)⟩;cases hp:pure with
  | true=>exact hpure hp w' _ _ mr d [] u g1
  | false=>exact aq (fun b _ hs=>⟨⟨hs.1.imp (fun h=>⟨rfl,h⟩) id,hs.2⟩,rfl⟩) d (fun _ _ _ h=>h) (fun _ _ _ _ _ _=>rfl) (fun _ _ _=>rfl) g1
 rcases he with rfl|rfl
 ·exact post
 ·exact post
end Go.Abs

namespace Go.Abs
section
variable {E:Env} {ops:Array Oper} {st:St} {Z:St->Prop}
variable {Q:Exit->St->Prop} {K:List Fm}
def bindS:Option St->(St->Prop)->Prop
 | some s,K=>K s
 | none,_=>False
@[go_sem] theorem GM {s:St} {K:St->Prop}:bindS (some s) K=K s:=rfl
variable {d:Option Tmp} {ty:TypeId} {pos:String} {after:Array Edge} {op:Op} {l:List Oper} {tr:List St} {j:Nat} {want:Bool}
end
end Go.Abs

namespace Go.Abs
def rowI (k:IntKind) (n:Int):List C:=[.val (.int k n)]
def rowB (b:Bool):List C:=[.val (.bool b)]
def rowS (s:ByteArray):List C:=[.val (.string s)]
def rowL {α:Type} (es:Nat) (row:α->List C) (l:List α):List C:=[.sl false none es none (l.map row)]
def decI (k:IntKind):C->Option Int
 | .val (.int k' n)=>if k'=k then some n else none
 | _=>none
def decB:C->Option Bool
 | .val (.bool b)=>some b
 | _=>none
def decS:C->Option ByteArray
 | .val (.string s)=>some s
 | _=>none
def bv {α:Type} (d:List C->Option α):List (List C)->Option (List α)
 | []=>some []
 | r::rs=>match d r,bv d rs with
  | some x,some xs=>some (x::xs)
  | _,_=>none
def decL {α:Type} (es:Nat) (d:List C->Option α):C->Option (List α)
 | .sl _ _ es' _ rows=>if es'=es then bv d rows else none
 | .val (.slice none 0 0)=>some []
 | _=>none
def dec1 {α:Type} (d:C->Option α):List C->Option α
 | [c]=>d c
 | _=>none
theorem gg (k:IntKind) (n:Int):decI k (.val (.int k n))=some n:=by simp [decI]
theorem ge (b:Bool):decB (.val (.bool b))=some b:=rfl
theorem gf (s:ByteArray):decS (.val (.string s))=some s:=rfl
theorem aC {α:Type} {d:List C->Option α} {row:α->List C} (h:∀ x,d (row x)=some x) (l:List α):bv d (l.map row)=some l:=by
 induction l with
 | nil=>rfl
 | cons x xs ih=>simp only [List.map_cons,bv,h,ih]
theorem lD {α:Type} (es:Nat) (d:List C->Option α) (o:Bool) (nl:Option Bool) (cap:Option Nat) (rows:List (List C)):decL es d (.sl o nl es cap rows)=bv d rows:=by
 simp only [decL,if_true]
theorem Ft {α:Type} (es:Nat) (d:List C->Option α):decL es d (.val (.slice none 0 0))=some []:=rfl
theorem BW {α:Type} (d:List C->Option α):bv d []=some []:=rfl
theorem iv (k:IntKind) (n:Int):dec1 (decI k) (rowI k n)=some n:=by simp [dec1,rowI,decI]
theorem s9 (b:Bool):dec1 decB (rowB b)=some b:=rfl
theorem ay {k:IntKind} {c:C} {n:Int} (h:decI k c=some n):Le c (.val (.int k n)):=by
 unfold decI at h;split at h
 ·split at h
  ·rename_i hk; subst hk; simp only [Option.some.injEq] at h; subst h; exact Le.refl _
  ·simp at h
 ·simp at h
theorem Ck {c:C} {b:Bool} (h:decB c=some b):Le c (.val (.bool b)):=by
 unfold decB at h;split at h
 ·simp only [Option.some.injEq] at h; subst h; exact Le.refl _
 ·simp at h
theorem uT {α:Type} {d:List C->Option α} {row:α->List C} (hd:∀ r x,d r=some x->LeL r (row x)):∀ {rs:List (List C)} {l:List α},bv d rs=some l->LeLL rs (l.map row):=by
 intro rs
 induction rs with
 | nil=>intro l h; simp only [bv,Option.some.injEq] at h; subst h; exact LeLL.refl []
 | cons r rs ih=>
  intro l h;simp only [bv] at h;split at h
  ·rename_i x xs h1 h2;simp only [Option.some.injEq] at h;subst h;have t:=ih h2;refine ⟨by simp [t.len],?_⟩;intro i a b ha hb;cases i with
   | zero=>simp only [List.getElem?_cons_zero,Option.some.injEq,List.map_cons] at ha hb; subst ha; subst hb; exact hd _ _ h1
   | succ i=>exact t.get i a b (by simpa using ha) (by simpa using hb)
  ·simp at h
theorem ar {α:Type} {es:Nat} {d:List C->Option α} {row:α->List C} (hd:∀ r x,d r=some x->LeL r (row x)) {c:C} {l:List α} (h:decL es d c=some l):Le c (.sl false none es none (l.map row)):=by
 unfold decL at h;split at h
 ·split at h
  ·rename_i he; subst he; exact Le.sl (uT hd h)
  ·simp at h
 ·simp only [Option.some.injEq] at h; subst h; exact Le.nils
 ·simp at h
theorem Cx {α:Type} {d:C->Option α} {row:α->C} (hd:∀ c x,d c=some x->Le c (row x)) {r:List C} {x:α} (h:dec1 d r=some x):LeL r [row x]:=by
 unfold dec1 at h;split at h
 ·exact LeL.cons (hd _ _ h) LeL.nil
 ·simp at h
def apx {α β:Type} (bytes:Nat) (a b:List α) (k:List α->Option β):Option β:=if (a.length+b.length) * (bytes+1)<=140737488355328 then k (a++b) else none
theorem bk {α β:Type} {bytes:Nat} {a b:List α} {k:List α->Option β} {r:β} (h:apx bytes a b k=some r):(a.length+b.length) * (bytes+1)<=140737488355328/\k (a++b)=some r:=by
 unfold apx at h;split at h
 ·rename_i hb; exact ⟨hb,h⟩
 ·simp at h
def dvx {β:Type} (b:Int) (k:Option β):Option β:=if b=0 then none else k
theorem ED {β:Type} {b:Int} {k:Option β} {r:β} (h:dvx b k=some r):¬ b=0/\k=some r:=by
 unfold dvx at h;split at h
 ·simp at h
 ·rename_i hb; exact ⟨hb,h⟩
def slx {α β:Type} (l:List α) (lo hi:Int) (k:List α->Option β):Option β:=if 0<=lo/\0<=hi/\lo.toNat<=hi.toNat/\hi.toNat<=l.length then k ((l.drop lo.toNat).take (hi.toNat - lo.toNat)) else none
theorem gR {α β:Type} {l:List α} {lo hi:Int} {k:List α->Option β} {r:β} (h:slx l lo hi k=some r):(0<=lo/\0<=hi/\lo.toNat<=hi.toNat/\hi.toNat<=l.length)/\k ((l.drop lo.toNat).take (hi.toNat - lo.toNat))=some r:=by
 unfold slx at h;split at h
 ·rename_i hb; exact ⟨hb,h⟩
 ·simp at h
def slt {α β:Type} (l:List α) (hi:Int) (k:List α->Option β):Option β:=if 0<=hi/\hi.toNat<=l.length then k (l.take hi.toNat) else none
theorem uG {α β:Type} {l:List α} {hi:Int} {k:List α->Option β} {r:β} (h:slt l hi k=some r):(0<=hi/\hi.toNat<=l.length)/\((hi.toNat=(l.take hi.toNat).length)=True)/\k (l.take hi.toNat)=some r:=by
 unfold slt at h;split at h
 ·rename_i hb; exact ⟨hb,by simp; omega,h⟩
 ·simp at h
theorem slt_lt {a b:Nat} (h:(a=b)=True):(a < b+1)=True:=by
 have:a=b:=by rw [h]; trivial
 subst this;exact eq_true (Nat.lt_succ_self _)
def gxs {β:Type} (s:ByteArray) (i:Int) (k:UInt8->Option β):Option β:=if 0<=i then s[i.toNat]?.bind k else none
theorem EG {β:Type} {s:ByteArray} {i:Int} {k:UInt8->Option β} {r:β} (h:gxs s i k=some r):∃ x,0<=i/\s[i.toNat]?=some x/\k x=some r:=by
 unfold gxs at h;split at h
 ·rename_i hb;simp only [Option.bind_eq_some_iff] at h;obtain ⟨x,hx,h⟩:=h;exact ⟨x,hb,hx,h⟩
 ·simp at h
theorem DH {α:Type} (row:α->List C) (l:List α) (n:Nat):(l.map row).drop n=(l.drop n).map row:=List.map_drop.symm
theorem DU {α:Type} (row:α->List C) (l:List α) (n:Nat):(l.map row).take n=(l.take n).map row:=List.map_take.symm
theorem CU {α:Type} {row:α->List C} {l:List α} {i:Nat} {x y:α} {g:List C->List C} (hx:l[i]?=some x) (h:g (row x)=row y):(l.map row).modify i g=(l.set i y).map row:=by
 apply List.ext_getElem?;intro k;rw [gmod,List.getElem?_map,List.getElem?_map,List.getElem?_set];by_cases hk:i=k
 ·subst hk;have hlt:=(List.getElem?_eq_some_iff.1 hx).1;have he:l[i]=x:=by simpa [hlt] using hx
  simp [he,h,hlt]
 ·simp [hk]
end Go.Abs

namespace Go.Abs
structure RowOk {α:Type} (row:α->List C):Prop where
 frz:∀ x,(row x).map C.frz=row x
 ok:∀ x,(row x).all C.cellOk=true
 plain:∀ x,(row x).all plainCell=true
theorem RowOk.frzRows {α:Type} {row:α->List C} (h:RowOk row) (l:List α):Abs.frzRows (l.map row)=l.map row:=by
 simp only [Abs.frzRows,List.map_map]
 congr 1
 funext x
 exact h.frz x
theorem RowOk.all {α:Type} {row:α->List C} (h:RowOk row) (l:List α):(l.map row).all (fun r=>r.all C.cellOk)=true:=by
 simp only [List.all_map,List.all_eq_true];intro x _;exact h.ok x
theorem RowOk.allPlain {α:Type} {row:α->List C} (h:RowOk row) (l:List α):(l.map row).all (fun r=>r.all plainCell)=true:=by
 simp only [List.all_map,List.all_eq_true];intro x _;exact h.plain x
theorem Ci:frzRows []=[]:=rfl
theorem A7 (r:List C) (rs:List (List C)):frzRows (r::rs)=r.map C.frz::frzRows rs:=rfl
theorem fy (k:IntKind):RowOk (rowI k):=⟨fun _=>rfl,fun _=>rfl,fun _=>rfl⟩
theorem zK:RowOk rowB:=⟨fun _=>rfl,fun _=>rfl,fun _=>rfl⟩
theorem Ge (k:IntKind) (n:Int):rowI k n=[.val (.int k n)]:=rfl
theorem Gx (b:Bool):rowB b=[.val (.bool b)]:=rfl
theorem F3 (s:ByteArray):rowS s=[.val (.string s)]:=rfl
theorem F6 {α:Type} (es:Nat) (row:α->List C) (l:List α):rowL es row l=[.sl false none es none (l.map row)]:=rfl
theorem aJ (k:IntKind):∀ (r:List C) (x:Int),dec1 (decI k) r=some x->LeL r (rowI k x):=fun _ _ h=>Cx (row:=fun n=>.val (.int k n)) (fun _ _ h=>ay h) h
theorem E4:∀ (r:List C) (x:Bool),dec1 decB r=some x->LeL r (rowB x):=fun _ _ h=>Cx (row:=fun n=>.val (.bool n)) (fun _ _ h=>Ck h) h
theorem wh {α:Type} (d:List C->Option α) (r:List C) (rs:List (List C)):bv d (r::rs)=match d r,bv d rs with
 | some x,some xs=>some (x::xs)
 | _,_=>none:=rfl
theorem zt {α:Type} (d:List C->Option α) (as bs:List (List C)):bv d (as++bs)=match bv d as,bv d bs with
 | some x,some y=>some (x++y)
 | _,_=>none:=by
 induction as with
 | nil=>simp only [List.nil_append,bv]; cases bv d bs<;>simp
 | cons a as ih=>
  simp only [List.cons_append,bv,ih];cases d a<;>cases bv d as<;>cases bv d bs<;>simp
def apn {α β:Type} (bytes:Nat) (b:List α) (k:Option β):Option β:=if b.length * (bytes+1)<=140737488355328 then k else none
theorem rW {α β:Type} {bytes:Nat} {b:List α} {k:Option β} {r:β} (h:apn bytes b k=some r):b.length * (bytes+1)<=140737488355328/\k=some r:=by
 unfold apn at h;split at h
 ·rename_i hb; exact ⟨hb,h⟩
 ·simp at h
theorem LeLL.cons {a b:List C} {as bs:List (List C)} (h:LeL a b) (t:LeLL as bs):LeLL (a::as) (b::bs):=by
 refine ⟨by simp [t.len],?_⟩;intro i c c' h1 h2;cases i with
 | zero=>simp only [List.getElem?_cons_zero,Option.some.injEq] at h1 h2; subst h1; subst h2; exact h
 | succ i=>exact t.get i c c' (by simpa using h1) (by simpa using h2)
theorem LeLL.append {as bs as' bs':List (List C)} (h:LeLL as bs) (t:LeLL as' bs'):LeLL (as++as') (bs++bs'):=by
 refine ⟨by simp [h.len,t.len],?_⟩;intro i c c' h1 h2;by_cases hi:i < as.length
 ·rw [List.getElem?_append_left hi] at h1;rw [List.getElem?_append_left (by rw [h.len]; exact hi)] at h2;exact h.get i c c' h1 h2
 ·rw [List.getElem?_append_right (by omega)] at h1;rw [List.getElem?_append_right (by rw [h.len]; omega),h.len] at h2;exact t.get _ c c' h1 h2
theorem LeLL.mapAppend {α:Type} {row:α->List C} {as as':List (List C)} {l l':List α} (h:LeLL as (l.map row)) (t:LeLL as' (l'.map row)):LeLL (as++as') ((l++l').map row):=by
 rw [List.map_append]; exact h.append t
theorem pU:∀ c∈([]:List C),NoOwn c:=by simp
theorem oM {c:C} {cs:List C} (h:NoOwn c) (t:∀ c∈cs,NoOwn c):∀ c'∈c::cs,NoOwn c':=by
 intro c' hc;rcases List.mem_cons.1 hc with rfl|hc
 ·exact h
 ·exact t c' hc
theorem eC:∀ c∈([]:List C),PureC c:=by simp
theorem aR {c:C} {cs:List C} (h:PureC c) (t:∀ c∈cs,PureC c):∀ c'∈c::cs,PureC c':=by
 intro c' hc;rcases List.mem_cons.1 hc with rfl|hc
 ·exact h
 ·exact t c' hc
theorem bG {α:Type} {row:α->List C} (h:∀ x,∀ c∈row x,PureC c) (l:List α):∀ r∈l.map row,∀ c∈r,PureC c:=by
 intro r hr;simp only [List.mem_map] at hr;obtain ⟨x,_,rfl⟩:=hr;exact h x
theorem kP {as bs:List (List C)} (h:∀ r∈as,∀ c∈r,PureC c) (t:∀ r∈bs,∀ c∈r,PureC c):∀ r∈as++bs,∀ c∈r,PureC c:=by
 intro r hr;rcases List.mem_append.1 hr with h1|h1
 ·exact h r h1
 ·exact t r h1
theorem mO:∀ r∈([]:List (List C)),∀ c∈r,PureC c:=by simp
theorem mq {a:List C} {as:List (List C)} (h:∀ c∈a,PureC c) (t:∀ r∈as,∀ c∈r,PureC c):∀ r∈a::as,∀ c∈r,PureC c:=by
 intro r hr;rcases List.mem_cons.1 hr with rfl|hr
 ·exact h
 ·exact t r hr
theorem sY (k:IntKind):∀ x,∀ c∈rowI k x,PureC c:=fun x=>aR (PureC.val _) eC
theorem DA:∀ x,∀ c∈rowB x,PureC c:=fun x=>aR (PureC.val _) eC
@[go_sem] theorem GZ (E:Env) (ts:List C) (R:Nat->C) (t k:Nat) (vs:List ResultVar):resL E ⟨ts,R⟩ (.cell t k::vs)=match E.T k with
 | some ti=>match loadC ⟨ts,R⟩ ti ((ts[t]?).getD .dead),resL E ⟨ts,R⟩ vs with
  | some c,some cs=>some (c::cs)
  | _,_=>none
 | none=>none:=by
 simp only [resL,resC];cases E.T k<;>rfl
theorem Ff (c:C) (cs:List C):plainL (c::cs)=match plainR c,plainL cs with
 | some c',some cs'=>some (c'::cs')
 | _,_=>none:=rfl
theorem Le.iref1 {es j:Nat} {cs cs':List C} (h:LeL cs cs'):Le (.iref es [cs] 0 j) (.iref es [cs'] 0 j):=by
 intro w S m m' p p' d u hr;cases d with
 | zero=>exact hr.elim
 | succ d=>
  obtain ⟨b,off,arr,elem,frz,g1,g2,g3,g4,g5⟩:=hr;refine ⟨b,off,arr,elem,frz,g1,g2,g3,?_,?_⟩
  ·intro row hrow;simp only [List.mem_singleton] at hrow;subst hrow;rw [h.len];exact g4 cs (by simp)
  ·intro i' j' row c' e1 e2;cases i' with
   | succ i'=>simp at e1
   | zero=>
    simp only [List.getElem?_cons_zero,Option.some.injEq] at e1;subst e1;have hlt:j' < cs.length:=by rw [<-h.len]; exact (List.getElem?_eq_some_iff.1 e2).1
    obtain ⟨u',f1,f2⟩:=g5 0 j' cs cs[j'] rfl (by simp [hlt]);exact ⟨u',f1,h.get j' cs[j'] c' (by simp [hlt]) e2 _ _ _ _ _ _ _ _ f2⟩
end Go.Abs

namespace Go.Abs
def seOk (E:Env) (o:Oper) (st:St):Bool:=
 match bodySE E o st with
 | some e=>(e.apply st).isSome
 | none=>false
theorem E9 {E:Env} {bar:Nat->Bool} {i:Nat} {o:Oper} {st:St}:okD E true bar i o st=(seOk E o st=true∨bar i=true):=by
 simp only [okD,seOk,true_implies]
 congr 1
 refine propext ⟨?_,?_⟩
 ·rintro ⟨e,s,h1,h2⟩;rw [h1]; simp [h2]
 ·intro h;split at h
  ·rename_i e he;obtain ⟨s,hs⟩:=Option.isSome_iff_exists.1 h;exact ⟨e,s,he,hs⟩
  ·simp at h
theorem dN {b:Bool} {p:Prop} (h:b=true) (k:p):b=true/\p:=⟨h,k⟩
theorem AS {α:Type} (x:α):(some x).isSome=true:=rfl
theorem AN {α:Type}:(none:Option α).isSome=false:=rfl
end Go.Abs

namespace Go.Abs
theorem mV {α:Type} {row:α->List C} {l:List α} {i:Nat} {x y:α} {rx ry:List C} {g:List C->List C} (hx:l[i]?=some x) (e1:row x=rx) (e2:row y=ry) (h:g rx=ry):(l.map row).modify i g=(l.set i y).map row:=CU hx (by rw [e1,h,e2])
theorem A3 {α:Type} (l:List α) (i:Nat) (f g:α->α):(l.modify i f).modify i g=l.modify i (fun x=>g (f x)):=by
 apply List.ext_getElem?;intro k;simp only [List.getElem?_modify];cases l[k]?<;>simp
 split<;>rfl
theorem AU {α:Type} {l:List α} {i:Nat} {a b:α} (h1:l[i]?=some a) (h2:l[i]?=some b):a=b:=by rw [h1] at h2; exact Option.some.inj h2
theorem qa {c:C} (h:plainCell c=true):NoOwn c:=by
 intro q hq;cases c with
 | sl own nl es cap rows=>
  cases own with
  | false=>cases q<;>simp [OwnAt,C.at,C.kid,C.isOwn] at hq
  | true=>simp [plainCell,C.cellOk,C.isOwn] at h
 | _=>first|(simp [plainCell,C.cellOk] at h; done)|(cases q<;>simp [OwnAt,C.at,C.kid,C.isOwn] at hq)
theorem RowOk.noOwn {α:Type} {row:α->List C} (h:RowOk row) (l:List α):∀ r∈l.map row,∀ c∈r,NoOwn c:=by
 intro r hr c hc;obtain ⟨x,_,rfl⟩:=List.mem_map.1 hr;exact qa (List.all_eq_true.1 (h.plain x) c hc)
theorem Con_nl {P:Program} {f:FuncId} {pure:Bool} {es:Nat} {rows:List (List C)} {r:C} (hnil:rows=[]->Con P f [] pure [.val (.slice none 0 0)] r)
  (hnn:Con P f [] pure [.sl false (some false) es none rows] r):Con P f [] pure [.sl false none es none rows] r:=by
 intro w S m us hl hr hinj;obtain ⟨u,d,hu,hrel⟩:=hr 0 _ rfl;have e1:∀ (cs:List C),Owned (R0 [] cs) m=fun _=>False:=fun cs=>funext fun b=>propext ⟨fun h=>jx h,fun h=>h.elim⟩;have hinj':∀ (cs:List C),Inj (R0 [] cs) m:=by
  intro cs n p n' p' b h1;rw [wD] at h1;exact (aA h1).elim
 cases d with
 | zero=>exact hrel.elim
 | succ d=>
  obtain ⟨a,k,h1,h2,h3,h4,hz,h5,h6,h7⟩:=hrel;by_cases ha:a=none
  ·subst ha;obtain rfl:=hz.2 rfl;have hrows:rows=[]:=by
    cases rows with
    | nil=>rfl
    | cons x xs=>simp at h2
   have:=hnil hrows w S m us (by simpa using hl) (by
    intro i c hc;cases i with
    | zero=>
     simp only [List.getElem?_cons_zero,Option.some.injEq] at hc;subst hc;refine ⟨u,1,hu,?_⟩;rw [h1,hrows];rfl
    | succ i=>simp at hc) (hinj' _)
   rw [e1] at this ⊢;exact this
  ·have:=hnn w S m us (by simpa using hl) (by
    intro i c hc;cases i with
    | zero=>
     simp only [List.getElem?_cons_zero,Option.some.injEq] at hc;subst hc;refine ⟨u,d+1,hu,?_⟩;refine ⟨a,k,h1,h2,h3,h4,⟨fun b hb=>?_,hz.2⟩,h5,h6,?_⟩
     ·simp only [Option.some.injEq] at hb;subst hb;simp [ha]
     ·rw [e1] at h7 ⊢;exact h7
    | succ i=>simp at hc) (hinj' _)
   rw [e1] at this ⊢;exact this
end Go.Abs

namespace Go.Abs
theorem RowOk.allD {α:Type} {row:α->List C} (h:RowOk row) (l:List α):(l.map row).all (fun r=>r.all plainD)=true:=by
 have:=h.allPlain l;rw [List.all_eq_true] at this ⊢;intro r hr;have:=this r hr;rw [List.all_eq_true] at this ⊢;intro c hc;simp [plainD,this c hc]
def FinO (E:Env) (vs:List ResultVar) (pure:Bool) (r:C):Exit->St->Prop:=fun e s=>(e=.ret∨e=.normal)/\∃ r0,finish E vs s=some r0/\ROk r0 r/\(∀ q,OwnAt r0 q->OwnAt r q)/\(pure=true->PureC r0)
theorem fJ {E:Env} {vs:List ResultVar} {pure:Bool} {r:C} {s:St}:FinO E vs pure r .ret s=∃ r0,finish E vs s=some r0/\ROk r0 r/\(∀ q,OwnAt r0 q->OwnAt r q)/\(pure=true->PureC r0):=by simp [FinO]
theorem tq {E:Env} {vs:List ResultVar} {pure:Bool} {r:C} {s:St}:FinO E vs pure r .normal s=∃ r0,finish E vs s=some r0/\ROk r0 r/\(∀ q,OwnAt r0 q->OwnAt r q)/\(pure=true->PureC r0):=by simp [FinO]
theorem Bk {nl nl':Option Bool} {es es':Nat} {cap cap':Option Nat} {rows rows':List (List C)} (h:∀ row∈rows,∀ c∈row,NoOwn c):∀ q,OwnAt (.sl true nl es cap rows) q->OwnAt (.sl true nl' es' cap' rows') q:=by
 intro q hq;cases q with
 | nil=>rfl
 | cons s q=>
  exfalso;simp only [OwnAt,C.at,C.kid] at hq;cases hr:rows[s.1]? with
  | none=>simp [hr] at hq
  | some row=>
   simp only [hr,Option.bind_some] at hq;cases hc:row[s.2]? with
   | none=>simp [hc] at hq
   | some c1=>
    simp only [hc,Option.bind_some] at hq;exact h row (List.mem_of_getElem? hr) c1 (List.mem_of_getElem? hc) q hq
theorem BH {w w':World} {S:Nat->Prop} {pure:Bool} {O:Nat->Prop} {F:Prop} {r0 r:C} {u:Value} (hok:ROk r0 r) (hkeep:∀ q,OwnAt r0 q->OwnAt r q)
  (h:∃ mr d,rel w' (fun b=>((pure=false/\S b)∨w.heap.size<=b)/\¬ Own1 r0 mr b) L0 mr true d [] r0 u ∧
   (∀ q q' b,OwnAt r0 q->OwnAt r0 q'->blk (mr q)=some b->blk (mr q')=some b->q=q') ∧
   (∀ b,Own1 r0 mr b->w.heap.size<=b∨O b)/\F) :
  ∃ mr d,rel w' (fun b=>((pure=false/\S b)∨w.heap.size<=b)/\¬ Own1 r mr b) L0 mr true d [] r u ∧
   (∀ q q' b,OwnAt r q->OwnAt r q'->blk (mr q)=some b->blk (mr q')=some b->q=q') ∧
   (∀ b,Own1 r mr b->w.heap.size<=b∨O b)/\F:=by
 obtain ⟨mr,d,h1,h2,h3,h4⟩:=h;have key:∀ q b,OwnAt r q->blk (nilM r0 mr [] q)=some b->OwnAt r0 q/\blk (mr q)=some b:=by
  intro q b hq hb;rcases hok.ownAt hq with h|h
  ·rw [qw h] at hb; exact ⟨h,hb⟩
  ·simp [nilM,h,blk] at hb
 refine ⟨nilM r0 mr [],d+1,?_,?_,?_,h4⟩
 ·refine zl (p:=[]) (p':=[]) ?_ hok d (fun q hq=>by simp) (fun q b hq hnq _=>(hnq (hkeep q hq)).elim) h1;rintro b ⟨hb,hn⟩;exact ⟨hb,fun ⟨q,hq,e⟩=>hn ⟨q,key q b hq e⟩⟩
 ·intro q q' b hq hq' e e';obtain ⟨a1,a2⟩:=key q b hq e;obtain ⟨a3,a4⟩:=key q' b hq' e';exact h2 q q' b a1 a3 a2 a4
 ·rintro b ⟨q,hq,e⟩;exact h3 b ⟨q,key q b hq e⟩
theorem FW {P:Program} {E:Env} (hT:TOk P E) (hG:GOk P E) (hmix:P.follows .mixedOrders=true) {f:FuncId} {fn:Func} {body:Code} (hf:FunOk P f fn body)
  {own:List Bool} {pure:Bool} {cs:List C} {r:C} (hn:cs.length<=fn.ntmps)
  (hW:Real (entry own cs fn.ntmps)->W E body (FinO E fn.results.toList pure r) (entry own cs fn.ntmps)):Con P f own pure cs r:=by
 intro w S m us hl hr hinj;left;have hname':¬ fn.name = "runtime.NumGoroutine" := by simpa using hf.name
 refine ⟨by simp [callFunc,hf.get,hname',hf.bd],?_⟩;have H:=uK (n:=fn.ntmps) hl hn hr hinj;refine calls_of_wp hf.get hf.bd (wp_mono (W_ok (ts:=[]) hT hG hmix body hf.ok (sD _) (hW ⟨_,_,_,m,H⟩) ⟨m,H⟩) ?_);rintro e a' w' ⟨⟨s,⟨he,r0,hfin,hrok,hkeep,hpure⟩,m',H'⟩,-⟩;have main:∃ u,(results fn a'.tmps).run P w'=.ok u w'/\Done (ctxOf w S (Owned (R0 own cs) m)) w' r0 u:=by
  unfold finish at hfin;split at hfin
  case h_2=>simp at hfin
  rename_i cs' hres;obtain ⟨us',f1,f2,f3⟩:=tN hT H' hres;refine ⟨_,o8 f1,?_⟩;split at hfin
  ·rename_i rs hpl;simp only [Option.some.injEq] at hfin;subst hfin;exact sm hT H' f2 f3 hpl
  ·split at hfin
   ·rename_i s1 kp hprep;simp only [Option.some.injEq] at hfin;subst hfin;exact tI hT H' f2 f3 hprep
   ·simp at hfin
 obtain ⟨u,hrun,hd⟩:=main;obtain ⟨mr,d,g1,g2,g3⟩:=hd.ex;have post:a'.defers=[]/\∃ v,(results fn a'.tmps).run P w'=.ok v w'/\∃ u,Ending.returned v=.returned u/\∃ mr d,rel w' (fun b=>((pure=false/\(S b∨Owned (R0 own cs) m b))∨w.heap.size<=b)/\¬ Own1 r mr b) L0 mr true d [] r u ∧
   (∀ q q' b,OwnAt r q->OwnAt r q'->blk (mr q)=some b->blk (mr q')=some b->q=q')/\(∀ b,Own1 r mr b->w.heap.size<=b∨Owned (R0 own cs) m b)/\FrK w (Owned (R0 own cs) m) w':=by
  refine ⟨H'.df,u,hrun,u,rfl,BH hrok hkeep ⟨mr,d,?_,g2,g3,⟨hd.fr.os,hd.fr.tape,hd.fr.output,hd.fr.drawn,hd.fr.size,hd.fr.block⟩⟩⟩;cases hp:pure with
  | true=>exact hpure hp w' _ _ mr d [] u g1
  | false=>exact aq (fun b _ hs=>⟨⟨hs.1.imp (fun h=>⟨rfl,h⟩) id,hs.2⟩,rfl⟩) d (fun _ _ _ h=>h) (fun _ _ _ _ _ _=>rfl) (fun _ _ _=>rfl) g1
 rcases he with rfl|rfl
 ·exact post
 ·exact post
theorem zM (A B:List (List C)):frzRows (A++B)=frzRows A++frzRows B:=by simp [frzRows]
def jS (A:List (List C)):Prop:=frzRows A=A/\(A.all fun r=>r.all plainD)=true
theorem yd {α:Type} {row:α->List C} (h:RowOk row) (l:List α):jS (l.map row):=⟨h.frzRows l,h.allD l⟩
theorem ub {A B:List (List C)} (h1:jS A) (h2:jS B):jS (A++B):=⟨by rw [zM,h1.1,h2.1],by rw [List.all_append,h1.2,h2.2]; rfl⟩
theorem Be {A:List (List C)} (h:jS A) (n:Nat):jS (A.take n):=by
 refine ⟨by have:=h.1; unfold frzRows at this ⊢; rw [List.map_take,this],?_⟩;have:=h.2;rw [List.all_eq_true] at this ⊢;exact fun r hr=>this r (List.mem_of_mem_take hr)
theorem A5 {A:List (List C)} (h:jS A) (n:Nat):jS (A.drop n):=by
 refine ⟨by have:=h.1; unfold frzRows at this ⊢; rw [List.map_drop,this],?_⟩;have:=h.2;rw [List.all_eq_true] at this ⊢;exact fun r hr=>this r (List.mem_of_mem_drop hr)
theorem yb {A B:List (List C)} {n:Nat} (h1:jS A) (h2:jS B):jS (dq A n B):=
 ub (ub (Be h1 n) h2) (A5 h1 _)
theorem Bo (n:Nat) (vs:List Value) (h:∀ v∈vs,v.oneCell'=true):jS (List.replicate n (vs.map C.val)):=by
 refine ⟨by simp [frzRows,C.frz],?_⟩;rw [List.all_eq_true];intro r hr;rw [List.eq_of_mem_replicate hr,List.all_eq_true];intro c hc;obtain ⟨v,hv,rfl⟩:=List.mem_map.1 hc;simp [plainD,isDead,Abs.plainCell,C.cellOk,C.isOwn,h v hv]
theorem CA {α:Type} {row:α->List C} (hrow:RowOk row) {nl:Option Bool} {es:Nat} {cap:Option Nat} {rows:List (List C)} {l:List α} (e:rows=l.map row) :
  ∃ r0,some (C.sl true nl es cap rows)=some r0/\ROk r0 (.sl true none es none (l.map row))/\(∀ q,OwnAt r0 q->OwnAt (.sl true none es none (l.map row)) q):=by
 subst e;exact ⟨_,rfl,ROk.own (LeLL.refl _) (hrow.noOwn l),Bk (hrow.noOwn l)⟩
end Go.Abs

namespace Go.Abs
theorem R0_at (own:List Bool) (cs:List C) (n:Nat):R0 own cs n=if own.getD n false then (cs[n]?).getD .dead else .dead:=rfl
theorem Con.argsO {P:Program} {f:FuncId} {own:List Bool} {pure:Bool} {cs cs':List C} {r:C} (h:Con P f own pure cs' r) (hlen:cs'.length=cs.length)
  (hle:∀ (i:Nat) (c c':C),cs[i]?=some c->cs'[i]?=some c'->if own.getD i false=true then ROk c c'/\(∀ q,OwnAt c q->OwnAt c' q) else Le c c'):Con P f own pure cs r:=by
 intro w S m us hl hr hinj;have both:∀ i,i < cs.length->cs[i]?=some (cs[i]?.getD .dead)/\cs'[i]?=some (cs'[i]?.getD .dead):=by
  intro i hi;have hi':i < cs'.length:=by omega
  simp [hi,hi']
 obtain ⟨m',hm'⟩:∃ m':Nat->Path->Value,m'=fun i=>if own.getD i false then nilM (cs[i]?.getD .dead) (m i) [] else m i:=⟨_,rfl⟩
 have key1:∀ n q b,OwnAt (R0 own cs' n) q->blk (m' n q)=some b->OwnAt (R0 own cs n) q/\blk (m n q)=some b:=by
  intro n q b hq hb;rw [R0_at] at hq ⊢;rw [hm'] at hb;by_cases ho:own.getD n false=true
  ·simp only [ho,if_true] at hq hb ⊢;by_cases hn:n < cs.length
   ·obtain ⟨e1,e2⟩:=both n hn;have hh:=hle n _ _ e1 e2;rw [if_pos ho] at hh;rcases hh.1.ownAt hq with h1|h1
    ·rw [qw h1] at hb; exact ⟨h1,hb⟩
    ·simp [nilM,h1,blk] at hb
   ·have:cs'[n]?=none:=by simp; omega
    rw [this] at hq;exact (aA hq).elim
  ·simp only [ho] at hq;exact (aA hq).elim
 have key2:∀ n q b,OwnAt (R0 own cs n) q->blk (m n q)=some b->OwnAt (R0 own cs' n) q/\blk (m' n q)=some b:=by
  intro n q b hq hb;rw [R0_at] at hq ⊢;rw [hm'];by_cases ho:own.getD n false=true
  ·simp only [ho,if_true] at hq ⊢;by_cases hn:n < cs.length
   ·obtain ⟨e1,e2⟩:=both n hn;have hh:=hle n _ _ e1 e2;rw [if_pos ho] at hh;exact ⟨hh.2 q hq,by rw [qw hq]; exact hb⟩
   ·have:cs[n]?=none:=by simp; omega
    rw [this] at hq;exact (aA hq).elim
  ·simp only [ho] at hq;exact (aA hq).elim
 have eO:Owned (R0 own cs') m'=Owned (R0 own cs) m:=by
  funext b
  apply propext;constructor
  ·rintro ⟨n,p,g1,g2⟩; obtain ⟨f1,f2⟩:=key1 n p b g1 g2; exact ⟨n,p,f1,f2⟩
  ·rintro ⟨n,p,g1,g2⟩; obtain ⟨f1,f2⟩:=key2 n p b g1 g2; exact ⟨n,p,f1,f2⟩
 have:=h w S m' us (by rw [hl,hlen]) (by
  intro i c' hc;have hlt:i < cs.length:=by rw [<-hlen]; exact (List.getElem?_eq_some_iff.1 hc).1
  obtain ⟨e1,e2⟩:=both i hlt;obtain ⟨u,d,h1,h2⟩:=hr i _ e1;have hh:=hle i _ c' e1 hc;rw [eO];by_cases ho:own.getD i false=true
  ·rw [if_pos ho] at hh;rw [ho] at h2 ⊢;refine ⟨u,d+1,h1,zl (m:=m i) (m':=m' i) (p:=[]) (p':=[]) (fun b hb=>hb) hh.1 d (fun q hq=>?_) (fun q b hq hnq _=>(hnq (hh.2 q hq)).elim) h2⟩;rw [hm'];simp only [ho,if_true,List.nil_append]
  ·rw [if_neg ho] at hh;have ho':own.getD i false=false:=by simpa using ho
   rw [ho'] at h2 ⊢;exact ⟨u,d,h1,hh w _ (m i) (m' i) [] [] d u h2⟩) (fun n p n' p' b g1 g2 g3 g4=>hinj n p n' p' b (key1 n p b g1 g3).1 (key1 n' p' b g2 g4).1 (key1 n p b g1 g3).2 (key1 n' p' b g2 g4).2)
 rw [eO] at this;exact this
def decO {α:Type} (es:Nat) (d:List C->Option α):C->Option (List α)
 | .sl true _ es' _ rows=>if es'=es/\(rows.all fun r=>r.all Abs.plainCell)=true then bv d rows else none
 | .val (.slice none 0 0)=>some []
 | _=>none
theorem FI {α:Type} (es:Nat) (d:List C->Option α) (nl:Option Bool) (cap:Option Nat) (rows:List (List C)):decO es d (.sl true nl es cap rows)=if (rows.all fun r=>r.all Abs.plainCell)=true then bv d rows else none:=by
 simp only [decO,true_and]
theorem Fq {α:Type} (es:Nat) (d:List C->Option α):decO es d (.val (.slice none 0 0))=some []:=rfl
theorem qE {α:Type} {es:Nat} {d:List C->Option α} {row:α->List C} (hrow:RowOk row) (hd:∀ r x,d r=some x->LeL r (row x)) {c:C} {l:List α} (h:decO es d c=some l) :
  ROk c (.sl true none es none (l.map row))/\(∀ q,OwnAt c q->OwnAt (.sl true none es none (l.map row)) q):=by
 unfold decO at h;split at h
 ·rename_i nl es' cap rows;split at h
  ·rename_i hc;obtain ⟨rfl,hc⟩:=hc;refine ⟨ROk.own (uT hd h) (hrow.noOwn l),Bk ?_⟩;intro r hr c hcm;rw [List.all_eq_true] at hc;exact qa (List.all_eq_true.1 (hc r hr) c hcm)
  ·simp at h
 ·simp only [Option.some.injEq] at h;subst h;refine ⟨ROk.nil es,?_⟩;intro q hq;cases q<;>simp [OwnAt,C.at,C.kid,C.isOwn] at hq
 ·simp at h
theorem oB {own:List Bool}:∀ (i:Nat) (c c':C),([]:List C)[i]?=some c->([]:List C)[i]?=some c'->if own.getD i false=true then ROk c c'/\(∀ q,OwnAt c q->OwnAt c' q) else Le c c':=by simp
theorem oD {own:List Bool} {c0 c0':C} {cs cs':List C} (h:ROk c0 c0'/\(∀ q,OwnAt c0 q->OwnAt c0' q))
  (t:∀ (i:Nat) (c c':C),cs[i]?=some c->cs'[i]?=some c'->if own.getD i false=true then ROk c c'/\(∀ q,OwnAt c q->OwnAt c' q) else Le c c') :
  ∀ (i:Nat) (c c':C),(c0::cs)[i]?=some c->(c0'::cs')[i]?=some c'->if (true::own).getD i false=true then ROk c c'/\(∀ q,OwnAt c q->OwnAt c' q) else Le c c':=by
 intro i c c' h1 h2;cases i with
 | zero=>simp only [List.getElem?_cons_zero,Option.some.injEq] at h1 h2; subst h1; subst h2; simpa using h
 | succ i=>simpa using t i c c' (by simpa using h1) (by simpa using h2)
theorem qH {own:List Bool} {c0 c0':C} {cs cs':List C} (h:Le c0 c0')
  (t:∀ (i:Nat) (c c':C),cs[i]?=some c->cs'[i]?=some c'->if own.getD i false=true then ROk c c'/\(∀ q,OwnAt c q->OwnAt c' q) else Le c c') :
  ∀ (i:Nat) (c c':C),(c0::cs)[i]?=some c->(c0'::cs')[i]?=some c'->if (false::own).getD i false=true then ROk c c'/\(∀ q,OwnAt c q->OwnAt c' q) else Le c c':=by
 intro i c c' h1 h2;cases i with
 | zero=>simp only [List.getElem?_cons_zero,Option.some.injEq] at h1 h2; subst h1; subst h2; simpa using h
 | succ i=>simpa using t i c c' (by simpa using h1) (by simpa using h2)
theorem FC (k:Nat) (R:Nat->C) (n:Nat) (c:C):clr k (upd R n c)=if H0<=n/\n < H0+k then clr k R else upd (clr k R) n c:=by
 funext x
 split
 ·rename_i h;simp only [clr,upd];split
  ·rfl
  ·split
   ·rename_i h1 h2; subst h2; exact (h1 h).elim
   ·rfl
 ·rename_i h;simp only [clr,upd];by_cases hx:x=n
  ·subst hx; simp [h]
  ·simp [hx]
theorem clr_RZ (k:Nat):clr k RZ=RZ:=by funext x; simp [clr,RZ]
def delM {α β:Type} (l:List α) (i j:Int) (k:List α->Option β):Option β:=
 if 0<=i/\i<=j/\j<=l.length then k (l.take i.toNat++l.drop j.toNat) else none
theorem DY {α β:Type} {l:List α} {i j:Int} {k:List α->Option β} {r:β} (h:delM l i j k=some r) :
  ∃ (n m:Nat),i=(n:Int)/\j=(m:Int)/\n<=m/\m<=l.length/\k (l.take n++l.drop m)=some r:=by
 unfold delM at h;split at h
 ·rename_i hc;obtain ⟨h1,h2,h3⟩:=hc;exact ⟨i.toNat,j.toNat,by omega,by omega,by omega,by omega,h⟩
 ·simp at h
theorem ES {L:List (List C)} {i j:Nat} (Z:List (List C)) (hij:i<=j) (hj:j<=L.length) :
  (dq (dq L i (L.drop j)) (i+(L.length - j)) Z).take (i+(L.length - j))=L.take i++L.drop j:=by
 have l0:(L.take i).length=i:=by simp; omega
 have l1:(L.take i++L.drop j).length=i+(L.length - j):=by simp; omega
 have e1:(dq L i (L.drop j)).take (i+(L.length - j))=L.take i++L.drop j:=by
  unfold dq;rw [List.take_append,l1,Nat.sub_self,List.take_zero,List.append_nil,List.take_of_length_le (by omega)]
 have l2:((dq L i (L.drop j)).take (i+(L.length - j))).length=i+(L.length - j):=by rw [e1,l1]
 unfold dq at *;rw [List.append_assoc,List.take_append,l2,Nat.sub_self,List.take_zero,List.append_nil,List.take_of_length_le (by omega),e1]
theorem pd (a:Nat):(∀ c:Nat,c∈(none:Option Nat)->a<=c)=True:=by simp
theorem pq (a b:Nat):(∀ c:Nat,c∈(some b:Option Nat)->a<=c)=(a<=b):=by simp
theorem DB {α β:Type} (l:List α) (f:α->β) (x:β):List.take (l.length+1) (l.map f++[x])=l.map f++[x]:=List.take_of_length_le (by simp)
theorem El {α β γ:Type} (f:α->γ) (g:β->γ) (a:List α) (x:γ) (b:List β):List.take (a.length+1+b.length) (a.map f++[x]++b.map g)=a.map f++[x]++b.map g:=List.take_of_length_le (by simp; omega)
theorem DV {α γ β:Type} (l:List α) (k:List γ) (f:α->β) (g:γ->β):List.take (l.length+k.length) (l.map f++k.map g)=l.map f++k.map g:=List.take_of_length_le (by simp)
end Go.Abs

namespace Go.Abs
theorem qO {n:Nat} {f:Nat->C} {R:Nat->C} (t s d:Nat) {nl:Option Bool} {es:Nat} {cap:Option Nat} {rows:List (List C)} {len:Nat} (htn:t < n) (hne:d≠s) (hd:R d=.dead) (hs:R s=.sl true nl es cap rows)
  (ht:f t=.pal s [] 0 len none) (hlen:len=rows.length) :
  Weak ⟨tab n f,R⟩ ⟨tab n (updT (poiT (fun k _=>k == s) f) t (.pal d [] 0 len none)),upd (upd R s .dead) d (.sl true none es none rows)⟩:=by
 rintro X a w ⟨m,H⟩;obtain ⟨u,dd,h1,h2⟩:=H.tmp t (f t) (by simp only [jY,htn,if_true]);rw [ht] at h2;have hv:Lv R m (.pal s [] 0 len none) u:=dP ⟨dd,h2⟩;obtain ⟨M1,M2,M3⟩:=H.move (h:=d) (n:=s) (p:=[]) hd hne (by rw [C.at]; exact congrArg some hs) hv;have e1:(St.move ⟨tab n f,R⟩ s [] 0 len none d es rows)=⟨tab n (poiT (fun k _=>k == s) f),upd (upd R s .dead) d (.sl true none es none rows)⟩:=by
  have e0:(fun (n':Nat) (p':Path)=>n' == s && preJ [] p')=(fun (k:Nat) (_:Path)=>k == s):=by funext x y; simp [preJ]
  have e2:(R s).turn (fun _=>C.dead) []=C.dead:=by rw [hs]; rfl
  simp only [St.move,zo,hlen,List.drop_zero,List.take_length,e0,e2]
 rw [e1] at M1 M2;refine ⟨_,⟨by rw [H.len]; simp [oP],?_,M1.root,M1.inj,M1.own,M1.fr,M1.df⟩⟩;intro t' c hc;rw [jY] at hc;split at hc
 case isFalse=>simp at hc
 rename_i hlt;simp only [Option.some.injEq] at hc;by_cases e:t'=t
 ·subst e;simp only [updT,if_true] at hc;subst hc;refine ⟨u,1,h1,?_⟩;obtain ⟨nl',es',cap',rows',ad,k,a',k',g1,g2,g3,g4,g5,g6,g7,g8,g9⟩:=hv;simp only [C.at,Option.some.injEq,hs,C.sl.injEq,true_and] at g1;obtain ⟨rfl,rfl,rfl,rfl⟩:=g1;simp only [rel,Lv];refine ⟨none,es,none,rows,a',k',a',k',by simp [av,C.at],?_,by omega,g4,g5,by omega,by simp,by simp,?_⟩
  ·simp only [moveM,if_true]; rw [g4,hlen]
  ·rcases g9 with g9|⟨b,off,rfl,rfl⟩
   ·exact .inl g9
   ·exact .inr ⟨_,_,rfl,by simp⟩
 ·simp only [updT,e,if_false] at hc;exact M1.tmp t' c (by simp only [jY,hlt,if_true,hc])
theorem FJ (g:Nat->Path->Bool) (cs:List C):poi g (.agg cs)=if cs.any (C.ment g 2)=true then .dead else .agg cs:=rfl
theorem Ga (g:Nat->Path->Bool) (cs:List C):poi g (.tup cs)=if cs.any (C.ment g 2)=true then .dead else .tup cs:=rfl
end Go.Abs

namespace Go.Abs
open Go.ChangeShapes Go.WideShapes Go.ChangeAt Go.RowKit
def RowRel (w:World) (cs:List Value) (r:List C):Prop:=r.length=cs.length/\∃ d,∀ (j:Nat) (c:C),r[j]?=some c->∃ u,cs[j]?=some u/\rel w (fun _=>True) L0 dm false d [] c u
def Sz (P:Program) {H:Type} (t:TypeId) (d:DataW H):Prop:=∀ n∈d.weights P t,n<=140737488351232
theorem sz_all {P:Program} {H:Type} {e:TypeId}:∀ {ds:List (DataW H)} {i:Nat} {d:DataW H},ds[i]?=some d->∀ n∈d.weights P e,n∈DataW.weightsAll P e ds
 | d0::ds,0,d,h,n,hn=>by
  simp only [List.getElem?_cons_zero,Option.some.injEq] at h;subst h;simp only [DataW.weightsAll,List.mem_append];exact .inl hn
 | d0::ds,i+1,d,h,n,hn=>by
  simp only [List.getElem?_cons_succ] at h;simp only [DataW.weightsAll,List.mem_append];exact .inr (sz_all h n hn)
theorem yp {P:Program} {H:Type} {t t':TypeId} {fs:Array Field} {ds:List (DataW H)} (ht:P.underlying t=some (.struct fs)) (h:Sz P t (.agg ds)) {i:Nat} {d:DataW H} (hi:(fs.toList.map (·.type))[i]?=some t') (hd:ds[i]?=some d):Sz P t' d:=by
 intro n hn;refine h n ?_;simp only [DataW.weights,ht];exact DataW.weights_mem_each hi hd n hn
theorem sz_arg {P:Program} {H:Type} {ts:List TypeId} {ds:List (DataW H)} (h:(DataW.weightsEach P ts ds).all (·<=reachBytes)=true) {j:Nat} {t:TypeId} {d:DataW H} (ht:ts[j]?=some t) (hd:ds[j]?=some d):Sz P t d:=by
 intro n hn;have:=List.all_eq_true.1 h _ (DataW.weights_mem_each ht hd n hn);exact of_decide_eq_true this
def Opens (P:Program) (t:TypeId) {α:Type} (row:α->List C) (wf:α->Prop):Prop:=
 ∀ (H:Type) (enc:TypeId × Value->H) (w:World) (base:Nat) (spare:Nat->Bool) (held:Bool) (fuel:Nat) (cs:List Value) (x:DataW H × List MemPlace),
  DataW.trod enc P w base spare held fuel t cs=some x->Sz P t x.1->∃ y:α,wf y/\RowRel w cs (row y)
theorem uZ {w:World} {c:C} {u:Value} {d:Nat} (h:rel w (fun _=>True) L0 dm false d [] c u):RowRel w [u] [c]:=by
 refine ⟨rfl,d,?_⟩;intro j c' hj;cases j with
 | zero=>simp only [List.getElem?_cons_zero,Option.some.injEq] at hj; subst hj; exact ⟨u,rfl,h⟩
 | succ j=>simp at hj
theorem CK {w:World}:RowRel w [] []:=⟨rfl,0,by simp⟩
theorem Aw {w:World} {cs cs':List Value} {r r':List C} (h:RowRel w cs r) (h':RowRel w cs' r'):RowRel w (cs++cs') (r++r'):=by
 obtain ⟨hl,d,h⟩:=h;obtain ⟨hl',d',h'⟩:=h';refine ⟨by simp [hl,hl'],max d d',?_⟩;intro j c hj;by_cases hlt:j < r.length
 ·rw [List.getElem?_append_left hlt] at hj;obtain ⟨u,e1,e2⟩:=h j c hj;exact ⟨u,by rw [List.getElem?_append_left (by omega)]; exact e1,aL _ _ (by omega) e2⟩
 ·rw [List.getElem?_append_right (by omega)] at hj;obtain ⟨u,e1,e2⟩:=h' _ c hj;exact ⟨u,by rw [List.getElem?_append_right (by omega),<-hl]; exact e1,aL _ _ (by omega) e2⟩
theorem sG {P:Program} {t:TypeId} {k:IntKind} (ht:P.underlying t=some (.int k)):Opens P t (rowI k) (fun n=>(Lit.int k n).wf=true):=by
 intro H enc w base spare held fuel cs x h _;obtain ⟨n,rfl,_,hw⟩:=DataW.trod_int ht h;exact ⟨n,hw,uZ (d:=1) rfl⟩
theorem Gb {P:Program} {e:TypeId} {α:Type} {row:α->List C} {wf:α->Prop} (he:Opens P e row wf) {H:Type} {enc:TypeId × Value->H} {w:World} {base:Nat} {spare:Nat->Bool} {held:Bool} {fuel:Nat} {css:Nat->List Value} :
  ∀ (n:Nat),(∀ i,i < n->∃ x,DataW.trod enc P w base spare held fuel e (css i)=some x/\Sz P e x.1)->∃ l:List α,l.length=n/\(∀ y∈l,wf y)/\∃ d,∀ (i:Nat) (y:α),l[i]?=some y ->
   (row y).length=(css i).length/\∀ (j:Nat) (c:C),(row y)[j]?=some c->∃ u,(css i)[j]?=some u/\rel w (fun _=>True) L0 dm false d [] c u:=by
 intro n
 induction n with
 | zero=>intro _; exact ⟨[],rfl,by simp,0,by simp⟩
 | succ n ih=>
  intro h;obtain ⟨l,e1,e2,d,e3⟩:=ih (fun i hi=>h i (by omega));obtain ⟨x,hx,hz⟩:=h n (by omega);obtain ⟨y,hy,hl,d',hr⟩:=he H enc w base spare held fuel _ x hx hz;refine ⟨l++[y],by simp [e1],?_,max d d',?_⟩
  ·intro z hz;rcases List.mem_append.1 hz with hz|hz
   ·exact e2 z hz
   ·rw [List.mem_singleton.1 hz]; exact hy
  ·intro i z hz;by_cases hlt:i < l.length
   ·rw [List.getElem?_append_left hlt] at hz;obtain ⟨f1,f2⟩:=e3 i z hz;exact ⟨f1,fun j c hj=>let ⟨u,g1,g2⟩:=f2 j c hj; ⟨u,g1,aL _ _ (by omega) g2⟩⟩
   ·rw [List.getElem?_append_right (by omega)] at hz;have:i=n:=by
     have:=(List.getElem?_eq_some_iff.1 hz).1;simp at this;omega
    subst this;rw [e1] at hz;simp only [Nat.sub_self,List.getElem?_cons_zero,Option.some.injEq] at hz;subst hz;exact ⟨hl,fun j c hj=>let ⟨u,g1,g2⟩:=hr j c hj; ⟨u,g1,aL _ _ (by omega) g2⟩⟩
theorem Bh (a:Addr) (n:Nat):(a.add n).off=a.off+n:=by
 unfold Addr.add;split
 ·rename_i h; rw [h]; rfl
 ·rfl
theorem Cb {P:Program} {t e:TypeId} {α:Type} {row:α->List C} {wf:α->Prop} {es:Nat} (ht:P.underlying t=some (.slice e)) (hes:P.cellsOf e=es) (hpos:0 < es) {b:Nat} (hby:P.bytesOf e=b) (he:Opens P e row wf) :
  Opens P t (rowL es row) (fun l=>l.length * b<=140737488351232/\∀ x∈l,wf x):=by
 intro H enc w base spare held fuel cs x h hz;rcases DataW.trod_slice ht h with ⟨rfl,_⟩|⟨a,len,cap,elems,rest,n,_,rfl,rfl,hb,hl,hc,hlen,hel,_,_⟩
 ·refine ⟨[],⟨by simp,by simp⟩,uZ (d:=1) ?_⟩;exact ⟨none,0,rfl,Nat.le_refl _,Nat.zero_le _,by simp,⟨by simp,by simp⟩,by simp,by simp,.inl rfl⟩
 ·rw [hes] at hel;simp only [Sz,DataW.weights,ht,hby] at hz;have hcells:∀ i,i < len->∃ c x,w.cells? base (a.add (i * es)) es=some c/\DataW.trod enc P w base spare held n e c=some x/\Sz P e x.1:=by
   intro i hi;have h1:=hel i hi;have h2:elems[i]?=some elems[i]:=by simp [hlen,hi]
   rw [h2,Option.bind_eq_some_iff] at h1;obtain ⟨c,f1,f2⟩:=h1;refine ⟨c,_,f1,f2,fun m hm=>hz m ?_⟩;have:=sz_all (P:=P) (e:=e) (ds:=elems.map (·.1)) (i:=i) (d:=elems[i].1) (by rw [List.getElem?_map,h2]; rfl) m hm;simp only [List.mem_cons,List.mem_append];exact .inr (.inl this)
  obtain ⟨css,hcss⟩:∃ css:Nat->List Value,css=fun i=>(w.cells? base (a.add (i * es)) es).getD []:=⟨_,rfl⟩;have hcs:∀ i,i < len->w.cells? base (a.add (i * es)) es=some (css i):=by
   intro i hi;obtain ⟨c,x,f1,f2,_⟩:=hcells i hi;simp [hcss,f1]
  obtain ⟨l,e1,e2,d,e3⟩:=Gb he (css:=css) (H:=H) (enc:=enc) (w:=w) (base:=base) (spare:=spare) (held:=held) (fuel:=n) len (fun i hi=>by
   obtain ⟨c,x,f1,f2⟩:=hcells i hi;rw [hcs i hi] at f1;obtain rfl:=Option.some.inj f1;exact ⟨x,f2⟩)
  refine ⟨l,⟨?_,e2⟩,uZ (d:=d+1) ?_⟩
  ·have h0:=hz _ (List.mem_cons_self);have h1:l.length * b<=((elems.map (·.1)).length+(rest.map (·.1)).length) * b:=Nat.mul_le_mul_right _ (by simp only [List.length_map,e1,hlen]; omega);exact Nat.le_trans h1 h0
  refine ⟨some a,cap,by simp [e1],by simp [e1]; omega,hc,by simp,⟨by simp,by simp⟩,?_,by simp,?_⟩
  ·intro r hr;obtain ⟨y,hy,rfl⟩:=List.mem_map.1 hr;obtain ⟨i,hi⟩:=List.getElem?_of_mem hy;have hlt:=(List.getElem?_eq_some_iff.1 hi).1;obtain ⟨f1,_⟩:=e3 i y hi;rw [f1];have:=hcs i (by omega);exact (World.cells?_some this).2.1
  ·by_cases h0:len=0
   ·refine .inr (.inl ⟨by simp,?_⟩);have:l=[]:=List.eq_nil_of_length_eq_zero (by omega);rw [this]; rfl
   ·have hcell:∀ i j,i < len->j < es->w.cell? ((a.add (i * es)).add j)=(css i)[j]?:=by
     intro i j hi hj;obtain ⟨g1,g2,g3⟩:=World.cells?_some (hcs i hi);exact g3 j hj
    have h00:=hcell 0 0 (by omega) hpos;have hsome:((css 0)[0]?).isSome=true:=by
     have:=(World.cells?_some (hcs 0 (by omega))).2.1;simp [this,hpos]
    rw [<-h00] at hsome;simp only [Nat.zero_mul,Addr.add,if_true] at hsome;unfold World.cell? at hsome;split at hsome
    case h_2=>simp at hsome
    rename_i arr elem frz hheap;split at hsome
    case isTrue=>simp at hsome
    rename_i hspot;refine .inr (.inr ⟨a.block,a.off,arr,elem,frz,?_,hheap,fun _=>trivial,by simp,?_⟩)
    ·obtain ⟨ab,ao,asp⟩:=a;simp only [Option.some.injEq,Addr.mk.injEq,true_and];simpa using hspot
    ·intro i j r c' h1 h2;simp only [List.getElem?_map,Option.map_eq_some_iff] at h1;obtain ⟨y,hy,rfl⟩:=h1;have hlt:=(List.getElem?_eq_some_iff.1 hy).1;obtain ⟨f1,f2⟩:=e3 i y hy;obtain ⟨u,g1,g2⟩:=f2 j c' h2;refine ⟨u,?_,bN g2⟩;have hj:j < es:=by
      have:=(List.getElem?_eq_some_iff.1 g1).1;rw [(World.cells?_some (hcs i (by omega))).2.1] at this;exact this
     have:=hcell i j (by omega) hj;rw [g1] at this;unfold World.cell? at this;have hblk:((a.add (i * es)).add j).block=a.block:=by unfold Addr.add; split<;>split<;>rfl
     rw [hblk,hheap] at this;simp only at this;split at this
     ·simp at this
     ·have hoff:((a.add (i * es)).add j).off=a.off+i * es+j:=by rw [Bh,Bh]
      rw [hoff] at this;exact this
end Go.Abs

namespace Go.Abs
open Go.ChangeShapes Go.WideShapes Go.ChangeAt Go.RowKit
theorem FrK.below {W W':World} (h:FrK W (fun _=>False) W'):Below W.heap.size W W':=⟨h.os,h.tape,h.output,h.size,fun b hb=>h.block b hb id⟩
theorem AV {P:Program} {f:FuncId} {fn:Func} {body:Code} {pure:Bool} {cs:List C} {us:List Value} {W:World} (hf:FunOk P f fn body) (hcon:Con P f [] pure cs (.val (.bool true))) (hlen:us.length=cs.length)
  (hrel:∀ (i:Nat) (c:C),cs[i]?=some c->∃ u d,us[i]?=some u/\rel W (fun _=>True) L0 dm false d [] c u) :
  Calls P f us.toArray W fun e W'=>e=.returned (.bool true)/\FrK W (fun _=>False) W':=by
 have e1:Owned (R0 [] cs) (fun _=>dm)=fun _=>False:=funext fun b=>propext ⟨fun h=>jx h,fun h=>h.elim⟩;have hd:=hcon W (fun _=>True) (fun _=>dm) us hlen (by
  intro i c hc;obtain ⟨u,d,h1,h2⟩:=hrel i c hc;refine ⟨u,d,h1,?_⟩;rw [e1];simp only [List.getD_nil];exact aq (fun b _ _=>⟨⟨trivial,id⟩,rfl⟩) d (fun _ _ _ h=>h) (fun h=>by simp at h) (fun h=>by simp at h) h2) (by
  intro n p n' p' b h1;rw [wD] at h1;exact (aA h1).elim)
 have hname':¬ fn.name = "runtime.NumGoroutine" := by simpa using hf.name
 have henter:(callFunc f us.toArray).run P W=.ok (.enter f us.toArray) W:=by simp [callFunc,hf.get,hname',hf.bd]
 rcases hd with ⟨_,h⟩|⟨u,w',h,_⟩
 ·refine h.mono ?_;rintro e W' ⟨u,rfl,mr,d,h1,_,_,h4⟩;rw [e1] at h4;refine ⟨?_,h4⟩;cases d with
  | zero=>exact h1.elim
  | succ d=>
   have:u=.bool true:=h1;rw [this]
 ·rw [henter] at h;cases h
theorem vm {H:Type} {enc:TypeId × Value->H} {P:Program} (hl:laidOutB P=true) {W W':World} (hb:Below W.heap.size W W'):∀ {ts:List TypeId} {vs:List Value} {ds:List (DataW H)} {ps:List MemPlace},
  (∀ t∈ts,P.readableRec t=true/\t < P.types.size)->DataW.TrodAll enc P W 0 (fun _=>true) true ts vs ds ps->(∀ x∈ps,x.block < W.heap.size)->DataW.TrodAll enc P W' 0 (fun b=>decide (b < W.heap.size)) true ts vs ds ps
 | [],[],[],_,_,h,_=>h
 | t::ts,v::vs,d::ds,ps,ht,h,hlt=>by
  obtain ⟨p,q,h1,h2,rfl⟩:=h;exact ⟨p,q,Below.trod hl (ht t (by simp)).1 (ht t (by simp)).2 h1 hb (fun x hx=>hlt x (by simp [hx])),vm hl hb (fun t' h'=>ht t' (by simp [h'])) h2 (fun x hx=>hlt x (by simp [hx])),rfl⟩
theorem FrK.kept {W W':World} (h:FrK W (fun _=>False) W') (may:MemPlace->Prop):W.keptBut W' may:=by
 refine ⟨h.os,h.output,fun i hi=>?_⟩;rw [h.block i hi id];split
 ·rename_i c t fr c' t' fr' e1 e2;rw [e1] at e2;cases e2;exact ⟨rfl,rfl,rfl,fun _ _=>rfl⟩
 ·rename_i es cl es' cl' e1 e2;rw [e1] at e2;cases e2;exact .inr ⟨rfl,rfl⟩
 ·rfl
theorem Fc {H:Type} {enc:TypeId × Value->H} {P:Program} {f:Func} {s:ChangeSpec} {W W':World} {args:Array Value} {ds gs:List (DataW H)} {before:List MemPlace} {tb:TypeId}
  (hl:laidOutB P=true) (hts:∀ t∈f.params.toList,P.readableRec t=true/\t < P.types.size) (hrt:f.resultTypes=#[tb]) (htb:P.underlying tb=some .bool)
  (hv:s.vars=[]) (hs:s.fn H (ds++gs)={ results:=[.lit (.bool true)],args:=ds++gs })
  (hW:DataW.Whole enc P f.params.toList s.vars false W args.toList ds gs before) (hfr:FrK W (fun _=>False) W'):s.post enc P f false true false false W args (.bool true) W':=by
 have hlt:=hW.lt;have hW':=hW;obtain ⟨p,q,hA,hV,rfl,_,_⟩:=hW;rw [hv] at hV;obtain ⟨rfl,rfl⟩:=trodVars_none hV;simp only [List.append_nil] at hs hlt hW';have hgs:(([]:List (DataW H))=[]):=rfl;refine ⟨ds,[],p,[],p,[],hW',?_,?_,?_,hfr.kept _,by simp⟩
 ·rw [List.append_nil,hs,hrt];exact trodAll_cons_mk (shut_bool htb _) trodAll_mk0
 ·rw [List.append_nil,hs];exact vm hl hfr.below hts hA hlt
 ·rw [List.append_nil,hs,hv];rfl
theorem uB {w:World} {cs:List Value} {o s:Nat} {r rs:List C} (h:RowRel w ((cs.drop o).take s) r) (h':RowRel w (cs.drop (o+s)) rs):RowRel w (cs.drop o) (r++rs):=by
 have:=Aw h h'
 rwa [<-List.drop_drop,List.take_append_drop] at this
theorem CZ {w:World} {cs:List Value} {o:Nat} (h:cs.length<=o):RowRel w (cs.drop o) []:=by
 rw [List.drop_eq_nil_of_le h]; exact CK
theorem Cs {w:World} {v:Value} {c:C} (hc:v.cells=#[v]) (h:RowRel w v.cells.toList [c]):∃ d,rel w (fun _=>True) L0 dm false d [] c v:=by
 obtain ⟨_,d,h⟩:=h;obtain ⟨u,h1,h2⟩:=h 0 c rfl;rw [hc] at h1;simp only [List.getElem?_cons_zero,Option.some.injEq] at h1;subst h1;exact ⟨d,h2⟩
theorem EP {w:World} {us:List Value}:∀ (i:Nat) (c:C),([]:List C)[i]?=some c->∃ u d,us[i]?=some u/\rel w (fun _=>True) L0 dm false d [] c u:=by simp
theorem Av {w:World} {c0:C} {u0:Value} {cs:List C} {us:List Value} (h:∃ d,rel w (fun _=>True) L0 dm false d [] c0 u0) (t:∀ (i:Nat) (c:C),cs[i]?=some c->∃ u d,us[i]?=some u/\rel w (fun _=>True) L0 dm false d [] c u) :
  ∀ (i:Nat) (c:C),(c0::cs)[i]?=some c->∃ u d,(u0::us)[i]?=some u/\rel w (fun _=>True) L0 dm false d [] c u:=by
 intro i c hc;cases i with
 | zero=>
  simp only [List.getElem?_cons_zero,Option.some.injEq] at hc;subst hc;obtain ⟨d,h⟩:=h;exact ⟨u0,d,rfl,h⟩
 | succ i=>exact t i c (by simpa using hc)
end Go.Abs

namespace Go.Abs
attribute [go_sem] St.move DF FA E5 zo Fy jY FX FSq EM
attribute [go_sem] poi_sl ET Fv FG poiAt leafC H0 List.getElem?_toArray Option.bind_some Option.bind_none List.map_cons List.map_nil
attribute [go_sem] jq lenC capC binC strBin intBin unC convC negIf bZ eqCell iU
attribute [go_sem] indexC lT fieldC loadC packC pickC yE vW natC mj sliceC buildQ
attribute [go_sem] buildC setAt iI mn me chunks zr jZ St.fresh allocX boxX storeX fF mu
attribute [go_sem] C.oneC isDead St.node C.at C.kid Bool.false_eq_true List.length_map List.getElem?_cons_zero List.getElem?_cons_succ List.drop_zero List.drop_succ_cons List.drop_nil
attribute [go_sem] List.take_succ_cons List.take_zero List.take_nil List.length_cons List.length_nil List.all_cons List.all_nil List.any_cons List.any_nil C.cellOk Value.oneCell' Bool.and_self
attribute [go_sem] Bool.and_true Bool.true_and Bool.or_false Bool.false_or iR viewC decide_true decide_false Bool.not_true Bool.not_false Bool.not_not false_implies
attribute [go_sem] true_implies true_and and_true and_self C.turn List.modify_cons List.getElem?_map Option.map_some Option.map_none if_true if_false C.frz
attribute [go_sem] List.nil_append List.cons_append List.append_nil List.set_cons_zero List.set_cons_succ Int.ofNat_lt Int.natCast_nonneg Int.toNat_natCast Option.getD_some Option.getD_none Nat.zero_add Nat.add_zero
attribute [go_sem] sZ pT ta dropsL uI St.drop List.contains_cons List.contains_nil List.elem_cons List.elem_nil
attribute [go_sem] appX oF pE mb oN adopt grown il callX snaps snap snap0 snapL
attribute [go_sem] bindX ownD viewD mapI kG ju List.replicate Option.isNone_some Option.isSome_some ne_eq not_true_eq_false not_false_eq_true
attribute [go_sem] Nat.succ_ne_self List.map_append List.length_append gmod DH DU List.take_length List.isEmpty_cons gg ge gf lD
attribute [go_sem] Ft BW wh zt dec1 undef Array.size_empty List.size_toArray preJ beq_self_eq_true Bool.and_false
attribute [go_sem] Bool.false_and Nat.lt_irrefl false_and and_false true_or or_true false_or or_false or_self Go.Abs.plainCell C.isOwn Ci
attribute [go_sem] A7 E9 seOk bodySE callSE callTo boxSE qf pt k8 SE.apply AS AN Int.toNat_zero
attribute [go_sem] Fe Ff plainR leaves List.flatMap_cons List.flatMap_nil gY prep1 fv reb1 List.mapIdx_cons
attribute [go_sem] List.mapIdx_nil
attribute [go_sem] wF iA fm C.ment Ga FJ leaves List.flatMap_cons List.flatMap_nil gY prep1 fv reb1 List.mapIdx_cons List.mapIdx_nil List.singleton_append Nat.succ_eq_add_one FC clr_RZ inter FI Fq
attribute [go_sem] A3
attribute [go_sem] mkX makeX
attribute [go_sem] gH extOf roomS Ext.all
attribute [go_sem] shiftC jT St.plug Bool.or_true Bool.true_or Nat.le_refl DB DV El
attribute [go_sem] strQ rowsC bytesC byteC
end Go.Abs

namespace Go.Abs
attribute [go_sem] List.length_set
section
variable {E:Env} {Q:Exit->St->Prop} {st:St} {K:List Fm}
instance {e:Exit}:Pop (ap E Q [] e st) (Q e st):=⟨Ey⟩
instance {J:St->Prop}:Pop (ap E Q (.lp J::K) .normal st) (J st):=⟨FH⟩
class PopS (A:Prop) (B:outParam Prop):Prop where
 h:B->A
instance (priority:=low) (A:Prop):PopS A A:=⟨id⟩
instance {A B D:Prop} [p:Pop A B] [q:PopS B D]:PopS A D:=⟨fun h=>p.pop (q.h h)⟩
theorem pp {A B:Prop} [p:PopS A B] (h:B):A:=p.h h
end
class PureI (c:C):Prop where
 h:PureC c
class PureIL (l:List C):Prop where
 h:∀ c∈l,PureC c
instance (v:Value):PureI (.val v):=⟨PureC.val v⟩
instance (l:List C) [PureIL l]:PureI (.tup l):=⟨PureC.tup PureIL.h⟩
instance:PureIL []:=⟨eC⟩
instance (c:C) (l:List C) [PureI c] [PureIL l]:PureIL (c::l):=⟨aR PureI.h PureIL.h⟩
class PureRI {α:Type} (row:α->List C):Prop where
 h:∀ x,∀ c∈row x,PureC c
instance (k:IntKind):PureRI (rowI k):=⟨sY k⟩
instance:PureRI rowB:=⟨DA⟩
class PureIR (l:List (List C)):Prop where
 h:∀ row∈l,∀ c∈row,PureC c
instance:PureIR []:=⟨mO⟩
instance (r:List C) (l:List (List C)) [PureIL r] [PureIR l]:PureIR (r::l):=⟨mq PureIL.h PureIR.h⟩
instance (a b:List (List C)) [PureIR a] [PureIR b]:PureIR (a++b):=⟨kP PureIR.h PureIR.h⟩
instance {α:Type} (row:α->List C) (l:List α) [h:PureRI row]:PureIR (l.map row):=⟨bG h.h l⟩
instance (nl:Option Bool) (es:Nat) (cap:Option Nat) (rows:List (List C)) [h:PureIR rows]:PureI (.sl true nl es cap rows):=⟨PureC.sl h.h⟩
class RowI {α:Type} (row:α->List C):Prop where
 ok:RowOk row
class LeI (a b:C):Prop where
 h:Le a b
class LeIL (a b:List C):Prop where
 h:LeL a b
class LeIR (a b:List (List C)):Prop where
 h:LeLL a b
instance (priority:=high) (a:List (List C)):LeIR a a:=⟨LeLL.refl a⟩
class RokI (a b:C):Prop where
 h:ROk a b
class RokL (as bs:List C):Prop where
 len:bs.length=as.length
 h:∀ (i:Nat) (a b:C),as[i]?=some a->bs[i]?=some b->ROk a b
instance (priority:=high) (a:C):RokI a a:=⟨ROk.refl a⟩
instance:RokL [] []:=⟨rfl,qv⟩
instance (a b:C) (as bs:List C) [h:RokI a b] [t:RokL as bs]:RokL (a::as) (b::bs):=⟨by simp [t.len],pw h.h t.h⟩
instance (as bs:List C) [h:RokL as bs]:RokI (.tup as) (.tup bs):=⟨ROk.tup h.len h.h⟩
instance (es:Nat):RokI (.val (.slice none 0 0)) (.sl true none es none []):=⟨ROk.nil es⟩
instance (es:Nat):RokI (.val (.slice none 0 0)) (.sl false none es none []):=⟨ROk.of _ Le.nils (NoOwn.sl _ _ _ _)⟩
instance (o:Bool) (nl:Option Bool) (es:Nat) (cap:Option Nat) (rows rows':List (List C)) [h:LeIR rows rows']:RokI (.sl o nl es cap rows) (.sl false none es none rows'):=⟨ROk.of _ (Le.sl h.h) (NoOwn.sl _ _ _ _)⟩
def glist:List (Nat × Nat × FnS)->Nat->Nat->Option FnS
 | [],_,_=>none
 | (d0,f0,fs)::l,d,f=>if d=d0/\f=f0 then some fs else glist l d f
def flist:List (Nat × Bool)->Nat->Option Bool
 | [],_=>none
 | (d0,b)::l,d=>if d=d0 then some b else flist l d
def GL (P:Program) (L:List (Nat × Nat × FnS)):Prop:=∀ d f fs,glist L d f=some fs->FSOk P f fs
theorem gn {P:Program}:GL P []:=fun d f fs h=>by cases h
theorem gc {P:Program} (d0:Nat) {f0:Nat} {fs0:FnS} {L:List (Nat × Nat × FnS)} (h0:FSOk P f0 fs0) (h:GL P L):GL P ((d0,f0,fs0)::L):=by
 intro d f fs hf;simp only [glist] at hf;split at hf
 ·rename_i hc;obtain ⟨rfl,rfl⟩:=hc;cases hf;exact h0
 ·exact h d f fs hf
@[reducible] def EE (P:Program) (G:Nat->Nat->Option FnS) (F:List (Nat × Bool)) (L:Nat->Nat->Option FnL):Env:={ T:=tiOf P,G:=G,F:=flist F,L:=L }
theorem EE_T (P:Program) (G:Nat->Nat->Option FnS) (F:List (Nat × Bool)) (L:Nat->Nat->Option FnL):(EE P G F L).T=tiOf P:=rfl
theorem EE_G (P:Program) (G:Nat->Nat->Option FnS) (F:List (Nat × Bool)) (L:Nat->Nat->Option FnL):(EE P G F L).G=G:=rfl
theorem EE_F (P:Program) (G:Nat->Nat->Option FnS) (F:List (Nat × Bool)) (L:Nat->Nat->Option FnL):(EE P G F L).F=flist F:=rfl
theorem EE_L (P:Program) (G:Nat->Nat->Option FnS) (F:List (Nat × Bool)) (L:Nat->Nat->Option FnL):(EE P G F L).L=L:=rfl
def noL:Nat->Nat->Option FnL:=fun _ _=>none
theorem noL_at (d f:Nat):noL d f=none:=rfl
def llist:List (Nat × Nat × FnL)->Nat->Nat->Option FnL
 | [],_,_=>none
 | (d0,f0,fs)::l,d,f=>if d=d0/\f=f0 then some fs else llist l d f
def LL (P:Program) (L:List (Nat × Nat × FnL)):Prop:=∀ d f fs,llist L d f=some fs->FLOk P f fs
theorem ln {P:Program}:LL P []:=fun d f fs h=>by cases h
theorem lc {P:Program} (d0:Nat) {f0:Nat} {fs0:FnL} {L:List (Nat × Nat × FnL)} (h0:FLOk P f0 fs0) (h:LL P L):LL P ((d0,f0,fs0)::L):=by
 intro d f fs hf;simp only [llist] at hf;split at hf
 ·rename_i hc;obtain ⟨rfl,rfl⟩:=hc;cases hf;exact h0
 ·exact h d f fs hf
def updL:(Nat->C)->Nat->List C->Nat->C
 | f,_,[]=>f
 | f,k,c::cs=>updL (updT f k c) (k+1) cs
theorem zw:∀ (cs:List C) (f:Nat->C) (k t:Nat),updL f k cs t=if k<=t/\t < k+cs.length then (cs[t - k]?).getD .dead else f t
 | [],f,k,t=>by simp [updL]; omega
 | c::cs,f,k,t=>by
  rw [updL,zw cs (updT f k c) (k+1) t];simp only [List.length_cons,updT];by_cases h1:t=k
  ·subst h1; rw [if_neg (by omega),if_pos rfl,if_pos (by omega)]; simp
  ·by_cases h2:k+1<=t/\t < k+1+cs.length
   ·rw [if_pos h2,if_pos (by omega),show t - k=(t - (k+1))+1 from by omega,List.getElem?_cons_succ]
   ·rw [if_neg h2,if_neg h1,if_neg (by omega)]
theorem tG (cs:List C) (h:∀ t c,cs[t]?=some c->iW [] t c=c):entryF [] cs=updL deadT 0 cs:=by
 funext t
 rw [zw];unfold entryF;cases hc:cs[t]? with
 | none=>
  have:cs.length<=t:=List.getElem?_eq_none_iff.1 hc;rw [if_neg (by omega)]; rfl
 | some c=>
  have:=(List.getElem?_eq_some_iff.1 hc).1;rw [if_pos (by omega)];simp only [Nat.sub_zero,h t c hc,Option.getD_some,hc]
attribute [go_sem] cloN callL uE sF s6 new1 newR ren1 renP cloF cloA B0 uI pT ta glist flist llist EE_T EE_G EE_F EE_L noL_at Env.Gs updL th lentNs wu lentSh isVar asLst argOk updN mW
theorem aV {P:Program} {f:FuncId} {fn:Func} {body:Code} (hf:P.funcs[f]?=some fn) (hb:fn.body=some body) (hname:(fn.name == "runtime.NumGoroutine") = false) (hok : codeOk body = true)
  {G:Nat->Nat->Option FnS} (hG:∀ d f fs,G d f=some fs->FSOk P f fs) (F:List (Nat × Bool)) (hmix:P.follows .mixedOrders=true) {pure:Bool} {cs:List C} {r:C} (hn:cs.length<=fn.ntmps)
  (hW:Wk (EE P G F noL) body (ap (EE P G F noL) (FinW (EE P G F noL) fn.results.toList pure r) []) ⟨tab fn.ntmps (updL deadT 0 cs),RZ⟩):Con P f [] pure cs r:=by
 refine Cy (E:=EE P G F noL) (fun t ti h=>rR P G t ti h) ⟨fun d f fs h=>hG d f fs h,fun _ _ _ h=>by cases h⟩ hmix ⟨hf,hb,hname,hok⟩ hn fun _=>?_;rw [qZ hn,R0_RZ,tG cs (fun t c _=>by simp [iW])];exact AL hW
theorem kI {P:Program} {f:FuncId} {fn:Func} {body:Code} (hf:P.funcs[f]?=some fn) (hb:fn.body=some body) (hname:(fn.name == "runtime.NumGoroutine") = false) (hok : codeOk body = true)
  {G:Nat->Nat->Option FnS} (hG:∀ d f fs,G d f=some fs->FSOk P f fs) {L:Nat->Nat->Option FnL} (hL:∀ d f fl,L d f=some fl->FLOk P f fl) (F:List (Nat × Bool)) (hmix:P.follows .mixedOrders=true) {pure:Bool} {cs:List C} {r:C} (hn:cs.length<=fn.ntmps)
  (hW:Wk (EE P G F L) body (ap (EE P G F L) (FinW (EE P G F L) fn.results.toList pure r) []) ⟨tab fn.ntmps (updL deadT 0 cs),RZ⟩):Con P f [] pure cs r:=by
 refine Cy (E:=EE P G F L) (fun t ti h=>rR P G t ti h) ⟨fun d f fs h=>hG d f fs h,fun d f fl h=>hL d f fl h⟩ hmix ⟨hf,hb,hname,hok⟩ hn fun _=>?_;rw [qZ hn,R0_RZ,tG cs (fun t c _=>by simp [iW])];exact AL hW
theorem sw {A B D:Prop} (f:A->B->D) (b:B) (a:A):D:=f a b
theorem xn {R:Nat->C}:∀ k,RZ k=R k∨RZ k=.dead:=DE
theorem xc {R R':Nat->C} {d:Nat} {c:C} (h0:R d=c) (h:∀ k,R' k=R k∨R' k=.dead):∀ k,upd R' d c k=R k∨upd R' d c k=.dead:=C4 h0 h
theorem rn {n:Nat} {f R':Nat->C}:∀ t,t < n->deadT t=.dead∨(deadT t=f t/\(deadT t).ment (fun k _=>isDead (R' k)) 3=false):=DD
theorem rc {n:Nat} {f g R':Nat->C} {d:Nat} {c:C} (h0:f d=c) (hm:c.ment (fun k _=>isDead (R' k)) 3=false)
  (h:∀ t,t < n->g t=.dead∨(g t=f t/\(g t).ment (fun k _=>isDead (R' k)) 3=false)):∀ t,t < n->updT g d c t=.dead∨(updT g d c t=f t/\(updT g d c t).ment (fun k _=>isDead (R' k)) 3=false):=Dq h0 hm h
end Go.Abs

namespace Go.Abs
section
variable {X:Ctx} {m:Nat->Path->Value} {st:St} {a:Act} {w:World} {P:Program}
theorem Fh {w:World} {S S':Nat->Prop} {m:Path->Value} (hS:∀ b,S b->S' b) {nl:Option Bool} {es:Nat} {cap:Option Nat} {rows rows':List (List C)} (h:LeLL rows rows') (hn:∀ row∈rows',∀ c∈row,NoOwn c) {d:Nat} {u:Value}
  (hO:∀ i j q b,OwnAt (.sl true nl es cap rows) ((i,j)::q)->blk (m ((i,j)::q))=some b->S' b)
  (hr:rel w S L0 m true d [] (.sl true nl es cap rows) u):rel w S' L0 m true (d+1) [] (.sl true nl es cap rows') u:=by
 cases d with
 | zero=>exact hr.elim
 | succ d=>
  obtain ⟨a,k,h1,h2,h3,h4,hz,h5,h6,h7⟩:=hr;refine ⟨a,k,by rw [h.len]; exact h1,by rw [h.len]; exact h2,h3,h4,hz,?_,fun _=>h6 rfl,?_⟩
  ·intro row' hrow;obtain ⟨i,hi,e⟩:=List.getElem_of_mem hrow;have hlt:i < rows.length:=by rw [<-h.len]; exact hi
   have:=h.get i rows[i] row' (by simp [hlt]) (by simp [hi,e]);rw [this.len];exact h5 _ (List.getElem_mem hlt)
  ·rcases h7 with h7|h7|⟨b,off,arr,elem,frz,g1,g2,g3,g4,g5⟩
   ·exact .inl h7
   ·simp at h7
   ·refine .inr (.inr ⟨b,off,arr,elem,frz,g1,g2,fun h=>by simp at h,g4,?_⟩);intro i j row' c' e1 e2;have hlt:i < rows.length:=by rw [<-h.len]; exact (List.getElem?_eq_some_iff.1 e1).1
    have hrow:rows[i]?=some rows[i]:=by simp [hlt]
    have hle:=h.get i rows[i] row' hrow e1;have hltj:j < rows[i].length:=by rw [<-hle.len]; exact (List.getElem?_eq_some_iff.1 e2).1
    have hc:rows[i][j]?=some rows[i][j]:=by simp [hltj]
    obtain ⟨u',e3,e4⟩:=g5 i j _ _ hrow hc;have hnc:=hn row' (List.mem_of_getElem? e1) c' (List.mem_of_getElem? e2);refine ⟨u',e3,aL d (d+1) (Nat.le_succ _) (wc d hnc (hle.get j _ c' hc e2 _ _ _ m _ [] d u' (mE (S:=S) (S':=S') (m:=m) (m':=m) (p:=[]++[(i,j)]) (p':=[]) hS d ?_ e4)))⟩;intro _ q b' hq hb;refine hO i j q b' ?_ (by simpa using hb);simp only [OwnAt,C.at,C.kid,hrow,Option.bind_some,hc]; exact hq
theorem tp {nl:Option Bool} {es:Nat} {cap:Option Nat} {rows:List (List C)} (hn:∀ row∈rows,∀ c∈row,NoOwn c) {q:Path} (h:OwnAt (.sl true nl es cap rows) q):q=[]:=by
 cases q with
 | nil=>rfl
 | cons s q=>
  exfalso;simp only [OwnAt,C.at,C.kid] at h;cases hr:rows[s.1]? with
  | none=>simp [hr] at h
  | some row=>
   simp only [hr,Option.bind_some] at h;cases hc:row[s.2]? with
   | none=>simp [hc] at h
   | some c=>
    simp only [hc,Option.bind_some] at h;exact hn row (List.mem_of_getElem? hr) c (List.mem_of_getElem? hc) q h
end
theorem jU {α:Type} {row:α->List C} {l:List α} {i:Nat} {x:α} {rx ry:List C} {g:List C->List C} (hx:l[i]?=some x) (e1:row x=rx) (h:g rx=ry):(l.map row).modify i g=(l.map row).set i ry:=by
 apply List.ext_getElem?;intro j;rw [List.getElem?_modify,List.getElem?_set];by_cases e:i=j
 ·subst e;have hlt:=(List.getElem?_eq_some_iff.1 hx).1;have hxi:l[i]=x:=by rw [List.getElem?_eq_getElem hlt] at hx; exact Option.some.inj hx
  simp [hlt,hxi,e1,h]
 ·simp [e]
theorem dj {α:Type} {row:α->List C} {l:List α} {i:Nat} {x:α} (ry:List C) (hx:l[i]?=some x):((l.map row).set i ry)[i]?=some ry:=by
 have hlt:=(List.getElem?_eq_some_iff.1 hx).1;simp [hlt]
theorem ga {α:Type} {row:α->List C} {l:List α} {i:Nat} {x:α} {ry rz:List C} {g:List C->List C} (hx:l[i]?=some x) (h:g ry=rz):((l.map row).set i ry).modify i g=(l.map row).set i rz:=by
 apply List.ext_getElem?;intro j;have hlt:=(List.getElem?_eq_some_iff.1 hx).1;rw [List.getElem?_modify,List.getElem?_set,List.getElem?_set];by_cases e:i=j
 ·subst e; simp [hlt,h]
 ·simp [e]
class KeepI (a b:C):Prop where
 h:∀ q,OwnAt a q->OwnAt b q
instance (priority:=high) (a:C):KeepI a a:=⟨fun _ h=>h⟩
theorem jd (g:Nat->Path->Bool) (f:Nat->C) (d:Nat) (c:C):poiT g (updT f d c)=updT (poiT g f) d (poi g c):=by
 funext t
 simp only [poiT,updT];split<;>rfl
theorem gG (g:Nat->Path->Bool):poiT g deadT=deadT:=rfl
theorem CP {k:Nat} {f f':Nat->C} {R:Nat->C} (d:Nat) (hf:poiT (fun n _=>n == d) f=f'):Weak ⟨tab k f,R⟩ ⟨tab k f',upd R d .dead⟩:=by
 subst hf;rintro X a w ⟨m,H⟩;exact ⟨m,by simpa [zo,St.drop] using H.drop d⟩
attribute [go_sem] List.isEmpty_nil
class LeRF {α:Type} (f g:α->List C):Prop where
 h:∀ x,LeL (f x) (g x)
def mxR {α:Type} (f g:α->List C) (i:Nat) (l:List α):List (List C):=(l.take i).map f++(l.drop i).map g
section
variable {α:Type} {f g:α->List C} {i:Nat} {l:List α}
theorem dy:(mxR f g i l).length=l.length:=by simp [mxR]; omega
end
def fn1 {A0:Type} (d0:C->Option A0) (f:A0->Option C):List C->Option C
 | [c0]=>(d0 c0).bind fun q0=>f q0
 | _=>none
theorem ok1 {P:Program} {k:FuncId} {pure:Bool} {A0:Type} {d0:C->Option A0} {f:A0->Option C} {t0:A0->C} (h:∀ q0 r,f q0=some r->Con P k [] pure [t0 q0] r) (l0:∀ {c x},d0 c=some x->Le c (t0 x)):FSOk P k ⟨[],pure,fn1 d0 f,false⟩:=by
 refine ⟨fun cs r hr=>?_,fun h=>by cases h⟩;simp only [fn1] at hr;split at hr
 ·simp only [Option.bind_eq_some_iff] at hr;obtain ⟨q0,h0,hr⟩:=hr;exact (h q0 r hr).args (LeL.cons (l0 h0) (LeL.nil))
 ·cases hr
def fn2 {A0 A1:Type} (d0:C->Option A0) (d1:C->Option A1) (f:A0->A1->Option C):List C->Option C
 | [c0,c1]=>(d0 c0).bind fun q0=>(d1 c1).bind fun q1=>f q0 q1
 | _=>none
theorem ok2 {P:Program} {k:FuncId} {pure:Bool} {A0 A1:Type} {d0:C->Option A0} {d1:C->Option A1} {f:A0->A1->Option C} {t0:A0->C} {t1:A1->C} (h:∀ q0 q1 r,f q0 q1=some r->Con P k [] pure [t0 q0,t1 q1] r) (l0:∀ {c x},d0 c=some x->Le c (t0 x)) (l1:∀ {c x},d1 c=some x->Le c (t1 x)):FSOk P k ⟨[],pure,fn2 d0 d1 f,false⟩:=by
 refine ⟨fun cs r hr=>?_,fun h=>by cases h⟩;simp only [fn2] at hr;split at hr
 ·simp only [Option.bind_eq_some_iff] at hr;obtain ⟨q0,h0,q1,h1,hr⟩:=hr;exact (h q0 q1 r hr).args (LeL.cons (l0 h0) (LeL.cons (l1 h1) (LeL.nil)))
 ·cases hr
def fn3 {A0 A1 A2:Type} (d0:C->Option A0) (d1:C->Option A1) (d2:C->Option A2) (f:A0->A1->A2->Option C):List C->Option C
 | [c0,c1,c2]=>(d0 c0).bind fun q0=>(d1 c1).bind fun q1=>(d2 c2).bind fun q2=>f q0 q1 q2
 | _=>none
theorem ok3 {P:Program} {k:FuncId} {pure:Bool} {A0 A1 A2:Type} {d0:C->Option A0} {d1:C->Option A1} {d2:C->Option A2} {f:A0->A1->A2->Option C} {t0:A0->C} {t1:A1->C} {t2:A2->C} (h:∀ q0 q1 q2 r,f q0 q1 q2=some r->Con P k [] pure [t0 q0,t1 q1,t2 q2] r) (l0:∀ {c x},d0 c=some x->Le c (t0 x)) (l1:∀ {c x},d1 c=some x->Le c (t1 x)) (l2:∀ {c x},d2 c=some x->Le c (t2 x)):FSOk P k ⟨[],pure,fn3 d0 d1 d2 f,false⟩:=by
 refine ⟨fun cs r hr=>?_,fun h=>by cases h⟩;simp only [fn3] at hr;split at hr
 ·simp only [Option.bind_eq_some_iff] at hr;obtain ⟨q0,h0,q1,h1,q2,h2,hr⟩:=hr;exact (h q0 q1 q2 r hr).args (LeL.cons (l0 h0) (LeL.cons (l1 h1) (LeL.cons (l2 h2) (LeL.nil))))
 ·cases hr
attribute [go_sem] fn1 fn2 fn3
end Go.Abs

namespace Go.Abs
def lentT (n:Nat):C->C
 | .sl true _ _ (some 1) [_]=>.pref n [] 0 0
 | .sl true none _ none rows=>.pal n [] 0 rows.length none
 | _=>.dead
def lentV:List Nat->List C->List C
 | n::ns,c::cs=>lentT n c::lentV ns cs
 | _,cs=>cs
def FinL (E:Env) (vs:List ResultVar) (k:Nat) (r:C) (ls:List C):Exit->St->Prop:=fun e s=>(e=.ret∨e=.normal)/\∃ s',Weak s s'/\∃ cs rs,resL E s' vs=some cs/\plainL cs=some rs/\Le (pack rs) r ∧
 ∀ (i:Nat) (c:C),ls[i]?=some c->s'.tmps[i]?=some (lentT i c)/\s'.roots i=c
section
variable {X:Ctx} {m:Nat->Path->Value} {st:St} {a:Act} {w:World} {P:Program}
theorem Dz {k:Nat} {cs:List C} {us:List Value} {S:Nat->Prop} {n:Nat} (hl:us.length=cs.length) (hn:cs.length<=n) (hone:∀ (i:Nat) (c:C),cs[i]?=some c->i < k->∃ x,lentSh c=some x)
  (hp:∀ (i:Nat) (c:C),cs[i]?=some c->k<=i->∃ u d,us[i]?=some u/\rel w (fun b=>S b/\¬ Owned (Rl k cs) m b) L0 dm false d [] c u)
  (hr:∀ (i:Nat) (c:C),cs[i]?=some c->i < k->∃ u d,us[i]?=some u/\Hd c u (m i [])/\rel w (fun b=>S b/\¬ Owned (Rl k cs) m b) L0 (m i) true d [] c (m i []))
  (hinj:Inj (Rl k cs) m) (f:Nat->C) (hf:∀ t,f t=if t < k/\t < cs.length then lentT t ((cs[t]?).getD .dead) else (cs[t]?).getD .dead) :
  InvM (ctxOf w S (Owned (Rl k cs) m)) m ⟨tab n f,Rl k cs⟩ { tmps:=us.toArray++Array.replicate (n - us.toArray.size) undef,defers:=[] } w:=by
 have hS:∀ b,b < w.heap.size->(S b/\¬ Owned (Rl k cs) m b)->Ctx.S (ctxOf w S (Owned (Rl k cs) m)) (Rl k cs) m b/\w.heap[b]?=w.heap[b]?:=fun b _ hb=>⟨⟨.inl (.inl hb.1),hb.2⟩,rfl⟩;refine ⟨?_,?_,?_,hinj,?_,⟨rfl,rfl,rfl,Nat.le_refl _,Nat.le_refl _,fun _ _ _=>rfl⟩,rfl⟩
 ·simp only [oP,Array.size_append,List.size_toArray,Array.size_replicate]; omega
 ·intro t c ht;rw [jY] at ht;split at ht
  case isFalse=>cases ht
  rename_i htn;simp only [Option.some.injEq] at ht;subst ht;rw [hf];by_cases hlt:t < cs.length
  ·have hc:cs[t]?=some cs[t]:=List.getElem?_eq_getElem hlt;have hu:∀ u,us[t]?=some u->(us.toArray++Array.replicate (n - us.toArray.size) undef)[t]?=some u:=by
    intro u e1;rw [Array.getElem?_append_left (by simp; omega)]; simpa using e1
   by_cases hk:t < k
   ·rw [if_pos ⟨hk,hlt⟩];obtain ⟨u,d,e1,e2,e3⟩:=hr t _ hc hk;obtain ⟨⟨es,x⟩,g2⟩:=hone t _ hc hk;simp only [Hd,g2] at e2;obtain ⟨nl,cap,rows,g3,g4⟩:=pc g2;rcases g4 with ⟨rfl,rfl,row,rfl⟩|⟨rfl,rfl,rfl⟩
    ·obtain ⟨b,off,rfl,e4⟩:=e2;refine ⟨_,1,hu _ e1,?_⟩;rw [hc,Option.getD_some,g3];refine ⟨nl,es,some 1,[row],b,off,1,?_,e4,by simp⟩;simp [C.at,Rl,hk,hc,g3]
    ·rw [g3] at e3;obtain ⟨a1,k1,D,q1,q2,q3,q4,q5,q6,q7,q8⟩:=dM e3;refine ⟨u,1,hu _ e1,?_⟩;rw [hc,Option.getD_some,g3];have hat:(Rl k cs t).at []=some (.sl true none es none rows):=by simp [C.at,Rl,hk,hc,g3]
     rcases e2 with e2|⟨a,a',e2,e4⟩
     ·refine ⟨none,es,none,rows,a1,k1,a1,k1,hat,q2,by omega,by rw [e2,q2],q3,by omega,(fun c h=>by cases h),fun _=>by omega,?_⟩;rcases q8 with q8|⟨b,off,_,_,q8,_⟩
      ·exact .inl q8
      ·exact .inr ⟨b,off,q8,by simpa using q8⟩
     ·rw [e4] at q2;simp only [Value.slice.injEq] at q2;obtain ⟨q9,q10,q11⟩:=q2;refine ⟨none,es,none,rows,a',0,a,0,hat,by rw [e4,q10],by omega,by rw [e2,q10],by omega,by omega,(fun c h=>by cases h),fun _=>rfl,.inl rfl⟩
   ·rw [if_neg (fun h=>hk h.1),hc];obtain ⟨u,d,e1,e2⟩:=hp t _ hc (by omega);exact ⟨u,d,hu u e1,aq hS d (fun _ _ _ h=>h.elim) (fun h=>by simp at h) (fun h=>by simp at h) e2⟩
  ·rw [if_neg (fun h=>hlt h.2),List.getElem?_eq_none (by omega)];refine ⟨undef,1,?_,trivial⟩;rw [Array.getElem?_append_right (by simp; omega)];simp only [List.size_toArray,Array.getElem?_replicate];rw [if_pos (by omega)]
 ·intro i;by_cases hk:i < k
  ·cases hc:cs[i]? with
   | none=>exact ⟨undef,1,by simp only [Rl,hk,if_true,hc]; trivial⟩
   | some c=>
    obtain ⟨u,d,e1,e2,e3⟩:=hr i c hc hk;refine ⟨m i [],d,?_⟩;have eR:Rl k cs i=c:=by simp [Rl,hk,hc]
    show rel w (Ctx.S (ctxOf w S (Owned (Rl k cs) m)) (Rl k cs) m) L0 (m i) true d [] (Rl k cs i) (m i []);rw [eR];exact aq (m:=m i) (m':=m i) (p:=[]) (p':=[]) hS d (fun _ _ _ h=>h) (fun _ _ _ _ _ _=>rfl) (fun _ _ _=>rfl) e3
  ·exact ⟨undef,1,by simp only [Rl,hk,if_false]; trivial⟩
 ·intro i p b ho hb;exact .inr ⟨i,p,ho,hb⟩
theorem Gf (k:Nat):∀ (cs:List C),k<=cs.length->∀ j,updN (List.range' j k) cs RZ=fun n=>if j<=n/\n < j+k then (cs[n - j]?).getD .dead else .dead:=by
 induction k with
 | zero=>intro cs _ j; funext n; rw [if_neg (by omega)]; cases cs<;>rfl
 | succ k ih=>
  intro cs hk j;cases cs with
  | nil=>simp at hk
  | cons c cs=>
   simp only [List.length_cons] at hk;simp only [List.range'_succ,updN];rw [ih cs (by omega) (j+1)]
   funext n
   by_cases e:n=j
   ·subst e; simp [upd]
   ·simp only [upd,e,if_false];by_cases h:j+1<=n/\n < j+1+k
    ·rw [if_pos h,if_pos (by omega),show n - j=(n - (j+1))+1 by omega,List.getElem?_cons_succ]
    ·rw [if_neg h,if_neg (by omega)]
theorem vG (k:Nat):∀ (cs:List C),k<=cs.length->∀ j t,(lentV (List.range' j k) cs)[t]?=if t < k then some (lentT (j+t) ((cs[t]?).getD .dead)) else cs[t]?:=by
 induction k with
 | zero=>intro cs _ j t; simp [lentV]
 | succ k ih=>
  intro cs hk j t;cases cs with
  | nil=>simp at hk
  | cons c cs=>
   simp only [List.length_cons] at hk;simp only [List.range'_succ,lentV];cases t with
   | zero=>simp
   | succ t=>
    rw [List.getElem?_cons_succ,ih cs (by omega) (j+1) t];by_cases h:t < k
    ·rw [if_pos h,if_pos (by omega),show j+1+t=j+(t+1) by omega,List.getElem?_cons_succ]
    ·rw [if_neg h,if_neg (by omega),List.getElem?_cons_succ]
theorem BI (k:Nat) (cs:List C) (h:k<=cs.length) (j:Nat):(lentV (List.range' j k) cs).length=cs.length:=by
 apply Nat.le_antisymm
 ·apply List.getElem?_eq_none_iff.1;rw [vG k cs h,if_neg (by omega)]; simp
 ·apply Nat.le_of_not_lt;intro hlt;have h1:(lentV (List.range' j k) cs)[(lentV (List.range' j k) cs).length]?=none:=by simp
  rw [vG k cs h] at h1;split at h1
  ·cases h1
  ·rw [List.getElem?_eq_getElem hlt] at h1; cases h1
theorem Ew {f:FuncId} {fn:Func} {body:Code} (hf:P.funcs[f]?=some fn) (hb:fn.body=some body) (hname:(fn.name == "runtime.NumGoroutine") = false) (hok : codeOk body = true) (k : Nat) (hkeep : keepC (List.range' 0 k) body = true)
  {G:Nat->Nat->Option FnS} (hG:∀ d f fs,G d f=some fs->FSOk P f fs) {L:Nat->Nat->Option FnL} (hL:∀ d f fl,L d f=some fl->FLOk P f fl) (F:List (Nat × Bool)) (hmix:P.follows .mixedOrders=true) {cs ls:List C} {r:C} (hn:cs.length<=fn.ntmps) (hk:k<=cs.length)
  (hone:∀ (i:Nat) (c:C),cs[i]?=some c->i < k->∃ x,lentSh c=some x) (hls:ls.map lentSh=(cs.take k).map lentSh)
  (hW:Wk (EE P G F L) body (ap (EE P G F L) (FinL (EE P G F L) fn.results.toList k r ls) []) ⟨tab fn.ntmps (updL deadT 0 (lentV (List.range' 0 k) cs)),updN (List.range' 0 k) cs RZ⟩):ConL P f k cs r ls:=by
 intro w S m us hl hp hr hinj;left;have hname':¬ fn.name = "runtime.NumGoroutine" := by simpa using hname
 refine ⟨by simp [callFunc,hf,hname',hb],?_⟩;have eR:updN (List.range' 0 k) cs RZ=Rl k cs:=by
  rw [Gf k cs hk 0]
  funext n
  unfold Rl;by_cases h:n < k
  ·rw [if_pos (by omega),if_pos h]; simp
  ·rw [if_neg (by omega),if_neg h]
 rw [eR] at hW;have H:=Dz (n:=fn.ntmps) hl hn hone hp hr hinj (updL deadT 0 (lentV (List.range' 0 k) cs)) (by
  intro t;rw [zw,BI k cs hk 0];by_cases h:t < cs.length
  ·rw [if_pos ⟨by omega,by omega⟩,vG k cs hk 0];simp only [Nat.sub_zero,Nat.zero_add,h,and_true];split
   ·rename_i h1; simp
   ·rename_i h1; rfl
  ·rw [if_neg (by omega),if_neg (by omega),List.getElem?_eq_none (by omega)]; rfl)
 have hGO:GOk P (EE P G F L):=⟨fun d f fs h=>hG d f fs h,fun d f fl h=>hL d f fl h⟩;have hTO:TOk P (EE P G F L):=fun t ti h=>rR P G t ti h;refine calls_of_wp hf hb (wp_mono (hW P hTO hGO hmix hok _ _ _ ⟨m,H⟩ (List.range' 0 k) hkeep) ?_);rintro e a' w' ⟨⟨s,⟨he,s',hwk,cs',rs,hres,hpl,hle,hend⟩,H1⟩,hsm⟩;have hsm':Same (List.range' 0 k) { tmps:=us.toArray++Array.replicate (fn.ntmps - us.toArray.size) undef,defers:=[] } a':=hsm.resolve_left (by rcases he with rfl|rfl<;>simp)
 obtain ⟨m',H'⟩:=hwk _ _ _ H1;obtain ⟨us',f1,f2,f3⟩:=tN hTO H' hres;obtain ⟨⟨D,hrel⟩,hno⟩:=yY hTO H' f2 f3 hpl;have hlsl:ls.length=k:=by have:=congrArg List.length hls; simpa [hk] using this
 have hRl:∀ i p,OwnAt (Rl k ls i) p->∃ c,ls[i]?=some c/\i < k/\s'.roots i=c/\OwnAt (s'.roots i) p:=by
  intro i p ho;unfold Rl at ho;split at ho
  ·rename_i hi;have hc:ls[i]?=some ls[i]:=List.getElem?_eq_getElem (by omega);rw [hc] at ho;obtain ⟨_,e2⟩:=hend i _ hc;exact ⟨_,hc,hi,e2,by rw [e2]; exact ho⟩
  ·exact (aA ho).elim
 have hOw:∀ b,Owned (Rl k ls) m' b->Owned s'.roots m' b:=by
  rintro b ⟨i,p,ho,hb⟩;obtain ⟨c,_,_,_,h2⟩:=hRl i p ho;exact ⟨i,p,h2,hb⟩
 have hS:∀ b,b < w'.heap.size->Ctx.S (ctxOf w S (Owned (Rl k cs) m)) s'.roots m' b->((S b∨Owned (Rl k cs) m b∨w.heap.size<=b)/\¬ Owned (Rl k ls) m' b)/\w'.heap[b]?=w'.heap[b]?:=by
  intro b _ hs;refine ⟨⟨?_,fun h=>hs.2 (hOw b h)⟩,rfl⟩;rcases hs.1 with h|h
  ·rcases h with h|h
   ·exact .inl h
   ·exact .inr (.inl h)
  ·exact .inr (.inr h)
 have hkey:∀ (i:Nat) (c:C),ls[i]?=some c->(m' i []=m i [])∨(∃ a a2 es,m i []=.slice a 0 0/\m' i []=.slice a2 0 0/\c=.sl true none es none []):=by
  intro i c hc;have hi:i < k:=by have:=(List.getElem?_eq_some_iff.1 hc).1; omega
  obtain ⟨e1,e2⟩:=hend i _ hc;have hci:cs[i]?=some cs[i]:=List.getElem?_eq_getElem (by omega);obtain ⟨u,d0,g1,g2,g3⟩:=hr i _ hci hi;obtain ⟨⟨es,y⟩,q1⟩:=hone i _ hci hi;have q2:lentSh c=some (es,y):=by
   have:=congrArg (fun l=>l[i]?) hls;simp only [List.getElem?_map,hc,Option.map_some,List.getElem?_take_of_lt hi,hci,Option.some.injEq] at this;rw [this,q1]
  simp only [Hd,q1] at g2;obtain ⟨uv,dv,k1,k2⟩:=H'.tmp i _ e1;have hs2:=hsm' i (by simp only [List.mem_range'_1]; omega);rw [k1,Array.getElem?_append_left (by simp; omega)] at hs2;simp only [List.getElem?_toArray,g1,Option.some.injEq] at hs2;subst hs2;obtain ⟨nl,cap,rows,y1,y2⟩:=pc q2;rcases y2 with ⟨rfl,rfl,row,rfl⟩|⟨rfl,rfl,rfl⟩
  ·left;obtain ⟨b0,off0,rfl,g4⟩:=g2;rw [y1] at k2;obtain ⟨nl',es',cap',rows',b',off',kk,p1,p2,p3⟩:=jL ⟨dv,k2⟩;simp only [Value.pointer.injEq,Option.some.injEq,Addr.mk.injEq,Nat.zero_mul,Nat.add_zero,and_true] at p3;obtain ⟨rfl,rfl⟩:=p3;obtain ⟨u0,dd,hr0⟩:=H'.root i;rw [e2,y1] at hr0;obtain ⟨a1,k2',D2,z1,z2,z3,z4,z5,_⟩:=dM hr0;have hk1:k2'=1:=z5 1 rfl;have p1':(s'.roots i).at []=some (.sl true nl' es' cap' rows'):=p1;rw [e2,y1] at p1';simp only [C.at,Option.some.injEq,C.sl.injEq,true_and] at p1';obtain ⟨rfl,rfl,rfl,rfl⟩:=p1';rw [p2] at z2;simp only [Value.slice.injEq] at z2;rw [p2,g4,z2.2.2,hk1]; rfl
  ·rw [y1] at k2;obtain ⟨nl',es',cap',rows',a,kk,a',k',f1,f2,f3,f4,f5,f6,f7,f8,f9⟩:=dP ⟨dv,k2⟩;have f1':(s'.roots i).at []=some (.sl true nl' es' cap' rows'):=f1;rw [e2,y1] at f1';simp only [C.at,Option.some.injEq,C.sl.injEq,true_and] at f1';obtain ⟨rfl,rfl,rfl,rfl⟩:=f1';have hkk:=f8 rfl;rcases f9 with f9|⟨b,off,w1,w2⟩
   ·right;have hrl:rows=[]:=List.eq_nil_of_length_eq_zero (by omega);subst hrl;have hkk0:kk=0:=by omega
    rw [f9] at f4;rw [hkk0] at f2;rcases g2 with g2|⟨z,z',g2,g4⟩
    ·exact ⟨a',a,es,by rw [<-g2,f4]; rfl,f2,y1⟩
    ·exact ⟨z',a,es,g4,f2,y1⟩
   ·rcases g2 with g2|⟨z,z',g2,g4⟩
    ·left;rw [<-g2,f2,f4,w1,w2,show k'=kk by omega]; simp
    ·right;rw [f4] at g2;simp only [Value.slice.injEq] at g2;obtain ⟨_,g5,g6⟩:=g2;have hrl:rows=[]:=List.eq_nil_of_length_eq_zero g5;subst hrl;have hkk0:kk=0:=by omega
     rw [hkk0] at f2;exact ⟨z',a,es,g4,f2,y1⟩
 have hin:∀ i,i < k->∃ c,ls[i]?=some c:=fun i hi=>⟨_,List.getElem?_eq_getElem (by omega)⟩;obtain ⟨mk,hmk⟩:∃ mk:Nat->Path->Value,mk=fun i p=>if p=[]/\i < k then m i [] else m' i p:=⟨_,rfl⟩
 have hblk:∀ i p,blk (mk i p)=blk (m' i p):=by
  intro i p;rw [hmk];simp only;split
  ·rename_i hp;obtain ⟨rfl,hi⟩:=hp;obtain ⟨c,hc⟩:=hin i hi;rcases hkey i c hc with h|⟨a,a2,es,h1,h2,_⟩
   ·rw [h]
   ·rw [h1,h2]; cases a<;>cases a2<;>rfl
  ·rfl
 have hOwn:Owned (Rl k ls) mk=Owned (Rl k ls) m':=by
  funext b
  apply propext;constructor
  ·rintro ⟨i,p,ho,hb⟩; exact ⟨i,p,ho,by rw [<-hblk]; exact hb⟩
  ·rintro ⟨i,p,ho,hb⟩; exact ⟨i,p,ho,by rw [hblk]; exact hb⟩
 have post:a'.defers=[]/\∃ v,(results fn a'.tmps).run P w'=.ok v w'/\∃ u,Ending.returned v=.returned u/\∃ mk:Nat->Path->Value,
   (∃ d,rel w' (fun b=>(S b∨Owned (Rl k cs) m b∨w.heap.size<=b)/\¬ Owned (Rl k ls) mk b) L0 dm false d [] r u) ∧
   (∀ (i:Nat) (c:C),ls[i]?=some c->mk i []=m i []/\∃ uu d,rel w' (fun b=>(S b∨Owned (Rl k cs) m b∨w.heap.size<=b)/\¬ Owned (Rl k ls) mk b) L0 (mk i) true d [] c uu) ∧
   Inj (Rl k ls) mk/\(∀ b,Owned (Rl k ls) mk b->w.heap.size<=b∨Owned (Rl k cs) m b)/\FrK w (Owned (Rl k cs) m) w':=by
  refine ⟨H'.df,_,o8 f1,_,rfl,mk,?_,?_,?_,?_,⟨H'.fr.os,H'.fr.tape,H'.fr.output,H'.fr.drawn,H'.fr.size,H'.fr.block⟩⟩
  ·have h1:=mE (S':=Ctx.S (ctxOf w S (Owned (Rl k cs) m)) s'.roots m') (m':=dm) (p':=[]) (fun b h=>h) D (fun _ q b ho=>(hno q ho).elim) hrel;have h2:=hle _ _ _ dm _ [] _ _ h1;rw [hOwn];exact ⟨D,aq hS D (fun _ _ _ h=>h) (fun h=>by simp at h) (fun h=>by simp at h) h2⟩
  ·intro i c hc;have hi:i < k:=by have:=(List.getElem?_eq_some_iff.1 hc).1; omega
   have hm0:mk i []=m i []:=by rw [hmk]; simp [hi]
   refine ⟨hm0,?_⟩;rw [hOwn];obtain ⟨e1,e2⟩:=hend i c hc;rcases hkey i c hc with h|⟨a,a2,es,h1,h2,h3⟩
   ·have hmi:mk i=m' i:=by
     funext p
     by_cases hp:p=[]
     ·subst hp; rw [hm0,h]
     ·rw [hmk]; simp [hp]
    obtain ⟨u0,dd,hr0⟩:=H'.root i;rw [e2] at hr0;rw [hmi];exact ⟨u0,dd,aq hS dd (fun _ _ _ h=>h) (fun _ _ _ _ _ _=>rfl) (fun _ _ _=>rfl) hr0⟩
   ·rw [h3];exact ⟨_,1,ky (a:=a) (k:=0) (by rw [hm0,h1]; rfl) (by simp) (by simp) (fun c h=>by cases h) ⟨(fun b h=>by cases h),fun _=>rfl⟩ (by simp) (.inl rfl)⟩
  ·intro i p i' p' b h1 h2 h3 h4;rw [hblk] at h3 h4;obtain ⟨_,_,_,_,g1⟩:=hRl i p h1;obtain ⟨_,_,_,_,g2⟩:=hRl i' p' h2;exact H'.inj _ _ _ _ b g1 g2 h3 h4
  ·intro b hb0;rw [hOwn] at hb0;obtain ⟨i,p,ho,hb⟩:=hb0;obtain ⟨_,_,_,_,g1⟩:=hRl i p ho;exact H'.own i p b g1 hb
 rcases he with rfl|rfl
 ·exact post
 ·exact post
structure LeVar (c c':C):Prop where
 ex:∃ es cap rows rows',c=.sl true none es cap rows/\c'=.sl true none es cap rows'/\LeLL rows rows'/\(∀ row∈rows,∀ x∈row,NoOwn x)/\∀ row∈rows',∀ x∈row,NoOwn x
theorem LeVar.own {c c':C} (h:LeVar c c') (q:Path):(OwnAt c q↔q=[])/\(OwnAt c' q↔q=[]):=by
 obtain ⟨es,cap,row,row',rfl,rfl,_,h1,h2⟩:=h.ex;have key:∀ (r:List (List C)),(∀ row∈r,∀ x∈row,NoOwn x)->(OwnAt (.sl true none es cap r) q↔q=[]):=by
  intro r hr;constructor
  ·intro ho; exact tp (rows:=r) hr ho
  ·rintro rfl; rfl
 exact ⟨key row h1,key row' h2⟩
theorem Ep {nl nl':Option Bool} {es:Nat} {cap:Option Nat} {rows rows':List (List C)} (h:rows.length=rows'.length) (hn:nl=nl'):lentSh (.sl true nl es cap rows)=lentSh (.sl true nl' es cap rows'):=by
 subst hn;cases cap with
 | none=>cases nl<;>simp [lentSh,h]
 | some n=>
  match rows,rows',h with
  | [],[],_=>rfl
  | [a],[b],_=>by_cases hn:n=1<;>simp [lentSh,hn]
  | a::b::r,a'::b'::r',_=>simp [lentSh]
theorem LeVar.one {c c':C} (h:LeVar c c'):lentSh c=lentSh c':=by
 obtain ⟨es,cap,row,row',rfl,rfl,hl,_⟩:=h.ex;exact Ep hl.len.symm rfl
theorem LeVar.hd {c c':C} (h:LeVar c c') {u v:Value} (hd:Hd c u v):Hd c' u v:=by
 unfold Hd at hd ⊢; rw [<-h.one]; exact hd
theorem LeVar.rel {c c':C} (h:LeVar c c') {w:World} {S:Nat->Prop} {m:Path->Value} {d:Nat} {u:Value} (hr:Go.Abs.rel w S L0 m true d [] c u):Go.Abs.rel w S L0 m true (d+1) [] c' u:=by
 obtain ⟨es,cap,row,row',rfl,rfl,hle,h1,h2⟩:=h.ex;refine Fh (fun b h=>h) hle h2 ?_ hr;intro i j q b ho;have:=tp (rows:=row) h1 ho;cases this
theorem ConL.told {f:FuncId} {k:Nat} {cs cs' rest rest':List C} {r:C} {ls:List C} (h1:cs.length=k) (h2:cs'.length=k) (hv:∀ (i:Nat) (c c':C),cs[i]?=some c->cs'[i]?=some c'->LeVar c c') (hr:LeL rest rest') (h:ConL P f k (cs'++rest') r ls):ConL P f k (cs++rest) r ls:=by
 have eO:∀ m:Nat->Path->Value,Owned (Rl k (cs++rest)) m=Owned (Rl k (cs'++rest')) m:=by
  intro m;have key:∀ i q,OwnAt (Rl k (cs++rest) i) q↔OwnAt (Rl k (cs'++rest') i) q:=by
   intro i q;unfold Rl;by_cases hi:i < k
   ·rw [if_pos hi,if_pos hi,List.getElem?_append_left (by omega),List.getElem?_append_left (by omega),List.getElem?_eq_getElem (by omega),List.getElem?_eq_getElem (by omega)];have:=(hv i cs[i] cs'[i] (List.getElem?_eq_getElem (by omega)) (List.getElem?_eq_getElem (by omega))).own q;simp only [Option.getD_some];rw [this.1,this.2]
   ·rw [if_neg hi,if_neg hi]
  funext b
  apply propext;constructor
  ·rintro ⟨i,q,ho,hb⟩; exact ⟨i,q,(key i q).1 ho,hb⟩
  ·rintro ⟨i,q,ho,hb⟩; exact ⟨i,q,(key i q).2 ho,hb⟩
 intro w S m us hl hp hrr hinj;rw [eO m] at *;refine h w S m us (by rw [hl]; simp [h1,h2,hr.len]) ?_ ?_ ?_
 ·intro i c' hi hk;rw [List.getElem?_append_right (by omega),h2] at hi;have hlt:=(List.getElem?_eq_some_iff.1 hi).1;rw [hr.len] at hlt;have hi0:(cs++rest)[i]?=some rest[i - k]:=by rw [List.getElem?_append_right (by omega),h1,List.getElem?_eq_getElem hlt]
  obtain ⟨u,d,e1,e2⟩:=hp i _ hi0 hk;exact ⟨u,d,e1,hr.get (i - k) _ c' (List.getElem?_eq_getElem hlt) hi _ _ _ dm _ [] _ _ e2⟩
 ·intro i c' hi hk;rw [List.getElem?_append_left (by omega)] at hi;have hi0:cs[i]?=some cs[i]:=List.getElem?_eq_getElem (by omega);obtain ⟨u,d,e1,e2,e3⟩:=hrr i cs[i] (by rw [List.getElem?_append_left (by omega)]; exact hi0) hk;exact ⟨u,d+1,e1,(hv i _ _ hi0 hi).hd e2,(hv i _ _ hi0 hi).rel e3⟩
 ·intro i q i' q' b ho ho' hb hb';have key:∀ i q,OwnAt (Rl k (cs'++rest') i) q->OwnAt (Rl k (cs++rest) i) q:=by
   intro i q ho;unfold Rl at ho ⊢;by_cases hi:i < k
   ·rw [if_pos hi] at ho ⊢;rw [List.getElem?_append_left (by omega),List.getElem?_eq_getElem (by omega)] at ho ⊢;have:=(hv i cs[i] cs'[i] (List.getElem?_eq_getElem (by omega)) (List.getElem?_eq_getElem (by omega))).own q;simp only [Option.getD_some] at ho ⊢;rw [this.1]; exact this.2.1 ho
   ·rw [if_neg hi] at ho; exact (aA ho).elim
  exact hinj i q i' q' b (key i q ho) (key i' q' ho') hb hb'
def lst1 {α:Type} (es:Nat) (d:List C->Option α):C->Option (List α)
 | .sl true none es' none rows=>if es'=es/\rows.all (fun r=>r.all Abs.plainCell)=true then bv d rows else none
 | _=>none
theorem pO {α:Type} {es:Nat} {d:List C->Option α} {row:α->List C} (hrow:RowOk row) (hle:∀ r x,d r=some x->LeL r (row x)) {c:C} {l:List α} (h:lst1 es d c=some l):LeVar c (.sl true none es none (l.map row)):=by
 unfold lst1 at h;split at h
 ·rename_i es' rows;split at h
  ·rename_i hc;obtain ⟨rfl,hall⟩:=hc;refine ⟨⟨_,_,rows,l.map row,rfl,rfl,uT hle h,?_,?_⟩⟩
   ·intro r0 hr0 c hc; exact qa (List.all_eq_true.1 (List.all_eq_true.1 hall r0 hr0) c hc)
   ·exact hrow.noOwn l
  ·cases h
 ·cases h
attribute [go_sem] lst1 lentV lentT
def EndL (s:St) (j:Nat) (ls:List C):Prop:=∀ (i:Nat) (c:C),ls[i]?=some c->s.tmps[j+i]?=some (lentT (j+i) c)/\s.roots (j+i)=c
theorem el_nil {s:St} {j:Nat}:EndL s j []:=by intro i c h; simp at h
theorem dA {s:St} {j:Nat} {c:C} {ls:List C} (h1:s.tmps[j]?=some (lentT j c)) (h2:s.roots j=c) (h:EndL s (j+1) ls):EndL s j (c::ls):=by
 intro i c' hi;cases i with
 | zero=>simp only [List.getElem?_cons_zero,Option.some.injEq] at hi; subst hi; exact ⟨h1,h2⟩
 | succ i=>
  have:=h i c' (by simpa using hi);rw [show j+(i+1)=j+1+i by omega]; exact this
theorem du {E:Env} {vs:List ResultVar} {k:Nat} {r:C} {ls:List C} {e:Exit} {s:St} (he:e=.ret∨e=.normal) {s':St} (hw:Weak s s') {cs rs:List C} (h1:resL E s' vs=some cs) (h2:plainL cs=some rs) (h3:Le (pack rs) r) (h4:EndL s' 0 ls):FinL E vs k r ls e s:=
 ⟨he,s',hw,cs,rs,h1,h2,h3,fun i c hi=>by have:=h4 i c hi; simpa using this⟩
theorem lv_nil:∀ (i:Nat) (c c':C),([]:List C)[i]?=some c->([]:List C)[i]?=some c'->LeVar c c':=by intro i c c' h; simp at h
theorem pR {a a':C} {as as':List C} (h:LeVar a a') (t:∀ (i:Nat) (c c':C),as[i]?=some c->as'[i]?=some c'->LeVar c c'):∀ (i:Nat) (c c':C),(a::as)[i]?=some c->(a'::as')[i]?=some c'->LeVar c c':=by
 intro i c c' h1 h2;cases i with
 | zero=>simp only [List.getElem?_cons_zero,Option.some.injEq] at h1 h2; subst h1; subst h2; exact h
 | succ i=>exact t i c c' (by simpa using h1) (by simpa using h2)
theorem fM {f:FuncId} {fn:Func} {body:Code} (hf:P.funcs[f]?=some fn) (hb:fn.body=some body) (hname:(fn.name == "runtime.NumGoroutine") = false) (hok : codeOk body = true) (k : Nat) (hkeep : keepC (List.range' 0 k) body = true)
  {G:Nat->Nat->Option FnS} (hG:∀ d f fs,G d f=some fs->FSOk P f fs) {L:Nat->Nat->Option FnL} (hL:∀ d f fl,L d f=some fl->FLOk P f fl) (F:List (Nat × Bool)) (hmix:P.follows .mixedOrders=true) {cs ls:List C} {r:C} (hn:cs.length<=fn.ntmps) (hk:k<=cs.length)
  (hone:(cs.take k).all (fun c=>(lentSh c).isSome)=true) (hls:ls.map lentSh=(cs.take k).map lentSh)
  (hW:Wk (EE P G F L) body (ap (EE P G F L) (FinL (EE P G F L) fn.results.toList k r ls) []) ⟨tab fn.ntmps (updL deadT 0 (lentV (List.range' 0 k) cs)),updN (List.range' 0 k) cs RZ⟩):ConL P f k cs r ls:=
 Ew hf hb hname hok k hkeep hG hL F hmix hn hk (by
  intro i c hc hi;have:c∈cs.take k:=List.mem_of_getElem? (by rw [List.getElem?_take_of_lt hi]; exact hc);exact Option.isSome_iff_exists.1 (List.all_eq_true.1 hone c this)) hls hW
attribute [go_sem] List.range'
def letC (n es:Nat) (rows:List (List C)):C->C
 | .pref n' [] i j=>if n'=n then .iref es rows i j else .pref n' [] i j
 | c=>poi (fun n' _=>n' == n) c
def letF (n es:Nat) (rows:List (List C)) (f:Nat->C):Nat->C:=fun t=>letC n es rows (f t)
theorem Eg (n es:Nat) (rows:List (List C)) (f:Nat->C) (d:Nat) (c:C):letF n es rows (updT f d c)=updT (letF n es rows f) d (letC n es rows c):=by
 funext t
 simp only [letF,updT];split<;>rfl
theorem CL (n es:Nat) (rows:List (List C)):letF n es rows deadT=deadT:=rfl
attribute [go_sem] letC Eg CL
def letD (n es:Nat) (rows:List (List C)):C->C
 | .pal n' [] lo len cap=>if n'=n then .sl false none es cap ((rows.drop lo).take len) else .pal n' [] lo len cap
 | c=>poi (fun n' _=>n' == n) c
def letG (n es:Nat) (rows:List (List C)) (f:Nat->C):Nat->C:=fun t=>letD n es rows (f t)
theorem D8 (n es:Nat) (rows:List (List C)) (f:Nat->C) (d:Nat) (c:C):letG n es rows (updT f d c)=updT (letG n es rows f) d (letD n es rows c):=by
 funext t
 simp only [letG,updT];split<;>rfl
theorem Dd (n es:Nat) (rows:List (List C)):letG n es rows deadT=deadT:=rfl
attribute [go_sem] letD D8 Dd
theorem qA {P:Program} {f:FuncId} {fn:Func} {body:Code} (hf:P.funcs[f]?=some fn) (hb:fn.body=some body) (hname:(fn.name == "runtime.NumGoroutine") = false) (hok : codeOk body = true)
  {G:Nat->Nat->Option FnS} (hG:∀ d f fs,G d f=some fs->FSOk P f fs) {L:Nat->Nat->Option FnL} (hL:∀ d f fl,L d f=some fl->FLOk P f fl) (F:List (Nat × Bool)) (hmix:P.follows .mixedOrders=true) {own:List Bool} {pure:Bool} {cs:List C} {r:C} (hn:cs.length<=fn.ntmps)
  (hW:Wk (EE P G F L) body (ap (EE P G F L) (FinO (EE P G F L) fn.results.toList pure r) []) ⟨tab fn.ntmps (entryF own cs),R0 own cs⟩):Con P f own pure cs r:=by
 intro w S m us hl hr hinj;left;have hname':¬ fn.name = "runtime.NumGoroutine" := by simpa using hname
 refine ⟨by simp [callFunc,hf,hname',hb],?_⟩;have H:=uK (n:=fn.ntmps) hl hn hr hinj;rw [qZ hn] at H;have hGO:GOk P (EE P G F L):=⟨fun d f fs h=>hG d f fs h,fun d f fl h=>hL d f fl h⟩;have hTO:TOk P (EE P G F L):=fun t ti h=>rR P G t ti h;refine calls_of_wp hf hb (wp_mono (hW P hTO hGO hmix hok _ _ _ ⟨m,H⟩ [] (sD _)) ?_);rintro e a' w' ⟨⟨s,⟨he,r0,hfin,hrok,hkeep,hpure⟩,m',H'⟩,-⟩;have main:∃ u,(results fn a'.tmps).run P w'=.ok u w'/\Done (ctxOf w S (Owned (R0 own cs) m)) w' r0 u:=by
  unfold finish at hfin;split at hfin
  case h_2=>simp at hfin
  rename_i cs' hres;obtain ⟨us',f1,f2,f3⟩:=tN hTO H' hres;refine ⟨_,o8 f1,?_⟩;split at hfin
  ·rename_i rs hpl;simp only [Option.some.injEq] at hfin;subst hfin;exact sm hTO H' f2 f3 hpl
  ·split at hfin
   ·rename_i s1 kp hprep;simp only [Option.some.injEq] at hfin;subst hfin;exact tI hTO H' f2 f3 hprep
   ·simp at hfin
 obtain ⟨u,hrun,hd⟩:=main;obtain ⟨mr,d,g1,g2,g3⟩:=hd.ex;have post:a'.defers=[]/\∃ v,(results fn a'.tmps).run P w'=.ok v w'/\∃ u,Ending.returned v=.returned u/\∃ mr d,rel w' (fun b=>((pure=false/\(S b∨Owned (R0 own cs) m b))∨w.heap.size<=b)/\¬ Own1 r mr b) L0 mr true d [] r u ∧
   (∀ q q' b,OwnAt r q->OwnAt r q'->blk (mr q)=some b->blk (mr q')=some b->q=q')/\(∀ b,Own1 r mr b->w.heap.size<=b∨Owned (R0 own cs) m b)/\FrK w (Owned (R0 own cs) m) w':=by
  refine ⟨H'.df,u,hrun,u,rfl,BH hrok hkeep ⟨mr,d,?_,g2,g3,⟨hd.fr.os,hd.fr.tape,hd.fr.output,hd.fr.drawn,hd.fr.size,hd.fr.block⟩⟩⟩;cases hp:pure with
  | true=>exact hpure hp w' _ _ mr d [] u g1
  | false=>exact aq (fun b _ hs=>⟨⟨hs.1.imp (fun h=>⟨rfl,h⟩) id,hs.2⟩,rfl⟩) d (fun _ _ _ h=>h) (fun _ _ _ _ _ _=>rfl) (fun _ _ _=>rfl) g1
 rcases he with rfl|rfl
 ·exact post
 ·exact post
def clrL {α:Type} (z:α) (k:Nat) (l:List α):List α:=l.take k++List.replicate (l.length - k) z
theorem yo {α:Type} {z:α} {k:Nat} {l:List α} (h:k<=l.length):(clrL z k l).take k=l.take k:=by
 show (l.take k++List.replicate (l.length - k) z).take k=l.take k;rw [List.take_append_of_le_length (by rw [List.length_take]; omega),List.take_take,Nat.min_self]
theorem zC {α:Type} {z:α} {k:Nat} {l:List α} (h:k<=l.length):(clrL z k l).length=l.length:=by
 show (l.take k++List.replicate (l.length - k) z).length=l.length;rw [List.length_append,List.length_take,List.length_replicate]; omega
theorem uz {α:Type} {row:α->List C} {z:α} {rz:List C} {k:Nat} {l:List α} (h:k<=l.length) (hz:row z=rz):dq (l.map row) k (List.replicate (l.length - k) rz)=(clrL z k l).map row:=by
 subst hz;show (l.map row).take k++List.replicate (l.length - k) (row z)++(l.map row).drop (k+(List.replicate (l.length - k) (row z)).length)=(l.take k++List.replicate (l.length - k) z).map row;rw [List.map_append,List.map_take,List.map_replicate,List.drop_of_length_le (by simp; omega),List.append_nil]
theorem mX {α:Type} {l:List α} {lo n i:Nat} {x:α} (h:((l.drop lo).take n)[i]?=some x):l[lo+i]?=some x:=by
 rw [List.getElem?_take] at h;split at h
 ·rw [List.getElem?_drop] at h; exact h
 ·cases h
theorem win_lt {α:Type} {l:List α} {lo n:Nat} {i:Int} (h:0<=i/\i < ((((l.drop lo).take n).length:Nat):Int)):i < (n:Int):=by
 have:=List.length_take_le n (l.drop lo); omega
theorem FN (g:Nat->Path->Bool) (f:Nat) (cs:List C):poi g (.clo f cs)=if (cs.any fun c=>c.ment g 2)=true then .dead else .clo f cs:=rfl
theorem Ef (g:Nat->Path->Bool) (k es:Nat) (rows:List (List C)) (i j:Nat):C.ment g (k+1) (.iref es rows i j)=false:=rfl
theorem Ev (g:Nat->Path->Bool) (k:Nat) (v:Value):C.ment g (k+1) (.val v)=false:=rfl
theorem Em (g:Nat->Path->Bool) (k n:Nat) (p:Path) (i j:Nat):C.ment g (k+1) (.pref n p i j)=g n p:=rfl
theorem F1 (g:Nat->Path->Bool) (k:Nat) (o:Bool) (nl:Option Bool) (es:Nat) (cap:Option Nat) (rows:List (List C)):C.ment g (k+1) (.sl o nl es cap rows)=false:=rfl
attribute [go_sem] FN Ef Ev Em F1
def lenM {ρ α:Type} (p:ρ->List α) (l:List α) (o:Option ρ):Option ρ:=o.bind fun r=>if (p r).length=l.length then some r else none
theorem i9 {ρ α:Type} {p:ρ->List α} {l:List α} {o:Option ρ} {r:ρ} (h:lenM p l o=some r):o=some r/\(p r).length=l.length:=by
 unfold lenM at h;obtain ⟨r',h1,h2⟩:=Option.bind_eq_some_iff.1 h;split at h2
 ·cases h2; exact ⟨h1,by assumption⟩
 ·cases h2
end
end Go.Abs

namespace Go.Abs
section
variable {X:Ctx} {m:Nat->Path->Value} {st:St} {a:Act} {w:World} {P:Program}
theorem InvM.nilO (H:InvM X m st a w) {n:Nat} {q:Path} (es:Nat) (hq:(st.roots n).at q=some (.val (.slice none 0 0))) :
  ∃ m',InvM X m' { st with roots:=upd st.roots n ((st.roots n).turn (fun _=>.sl true none es none []) q) } a w:=by
 obtain ⟨m',hm'⟩:∃ m':Nat->Path->Value,m'=fun n' p=>if n'=n/\p=q then .slice none 0 0 else m n' p:=⟨_,rfl⟩
 have M1:m' n q=.slice none 0 0:=by rw [hm']; simp
 have Mn:∀ n' p,¬ (n'=n/\p=q)->m' n' p=m n' p:=by intro n' p h; rw [hm']; simp [h]
 obtain ⟨R',hR'⟩:∃ R',R'=upd st.roots n ((st.roots n).turn (fun _=>.sl true none es none []) q):=⟨_,rfl⟩;have hown:∀ n' p b,OwnAt (R' n') p->blk (m' n' p)=some b->OwnAt (st.roots n') p/\blk (m n' p)=some b/\¬ (n'=n/\p=q):=by
  intro n' p b ho hb;by_cases e:n'=n
  ·subst e;rw [hR',av] at ho;rcases OwnAt.of_turn hq ho with ⟨r,rfl,h2⟩|⟨h1,h2⟩
   ·have:r=[]:=tp (rows:=[]) (by simp) h2;subst this;rw [List.append_nil,M1] at hb;simp [blk] at hb
   ·have hne:¬ (n'=n'/\p=q):=fun h=>h1 [] (by simp [h.2]);rw [Mn _ _ hne] at hb;exact ⟨h2,hb,hne⟩
  ·rw [hR',upd_ne e] at ho;have hne:¬ (n'=n/\p=q):=fun h=>e h.1;rw [Mn _ _ hne] at hb;exact ⟨ho,hb,hne⟩
 have hS:∀ b,X.S st.roots m b->X.S R' m' b:=by
  rintro b ⟨h1,h2⟩;refine ⟨h1,?_⟩;rintro ⟨n',p,ho,hb⟩;obtain ⟨g1,g2,_⟩:=hown n' p b ho hb;exact h2 ⟨n',p,g1,g2⟩
 have hnoq:∀ r,r≠[]->(st.roots n).at (q++r)=none:=by
  intro r hr;rw [C.at_append,hq];cases r with
  | nil=>exact (hr rfl).elim
  | cons x r=>rfl
 have hL:∀ v u,Lv st.roots m v u->Lv R' m' v u:=by
  intro v u hl;have key:∀ k p nl es' cap rows,(st.roots k).at p=some (.sl true nl es' cap rows)->¬ (k=n/\p=q)/\∃ rows',(R' k).at p=some (.sl true nl es' cap rows')/\rows'.length=rows.length:=by
   intro k p nl es' cap rows hk;by_cases e:k=n
   ·subst e;have hpq:∀ r,p≠q++r:=by
     rintro r rfl;by_cases hr:r=[]
     ·subst hr; rw [List.append_nil,hq] at hk; cases hk
     ·rw [hnoq r hr] at hk; cases hk
    obtain ⟨x',e1,_,e3⟩:=C.at_turn_off (fun _=>.sl true none es none []) q p (st.roots k) _ _ hq hpq hk;obtain ⟨rows',rfl,e4⟩:=e3 nl es' cap rows rfl;exact ⟨fun h=>hpq [] (by simp [h.2]),rows',by rw [hR',av]; exact e1,e4⟩
   ·exact ⟨fun h=>e h.1,rows,by rw [hR',upd_ne e]; exact hk,rfl⟩
  cases v with
  | pref k p i j=>
   obtain ⟨nl,es',cap,rows,b,off,kk,g1,g2,g3⟩:=hl;obtain ⟨hne,rows',g4,g5⟩:=key k p _ _ _ _ g1;exact ⟨nl,es',cap,rows',b,off,kk,g4,by rw [Mn _ _ hne,g5]; exact g2,g3⟩
  | pal k p lo len c=>
   obtain ⟨nl,es',cap,rows,a0,kk,a',k',g1,g2,g3,g4⟩:=hl;obtain ⟨hne,rows',g5,g6⟩:=key k p _ _ _ _ g1;exact ⟨nl,es',cap,rows',a0,kk,a',k',g5,by rw [Mn _ _ hne,g6]; exact g2,by rw [g6]; exact g3,g4⟩
  | _=>exact hl
 rw [<-hR'];refine ⟨m',⟨H.len,?_,?_,?_,?_,H.fr,H.df⟩⟩
 ·intro t c hc;obtain ⟨u,d,h1,h2⟩:=H.tmp t c hc;exact ⟨u,d,h1,aq (fun b _ hb=>⟨hS b hb,rfl⟩) d (fun v u _ h=>hL v u h) (fun h=>by simp at h) (fun h=>by simp at h) h2⟩
 ·intro k;obtain ⟨u,d,hr⟩:=H.root k;by_cases e:k=n
  ·subst e;obtain ⟨d',hd'⟩:=u9 (f:=fun _=>C.sl true none es none []) (m':=m' k) (S':=X.S R' m') (w':=w) (fun b _ hb=>⟨hS b hb,rfl⟩) q hr hq (fun _ _ _ _ _ _=>rfl) (by
    intro q1 ho hne;simp only [List.nil_append];exact Mn _ _ (fun h=>hne [] (by simp [h.2]))) (by
    intro u0 d0 h0;simp only [List.nil_append] at h0 ⊢;cases d0 with
    | zero=>exact h0.elim
    | succ d0=>
     have hu:u0=.slice none 0 0:=h0;subst hu;rw [<-M1];exact ⟨2,ky (d:=1) (a:=none) (k:=0) (by rw [M1]; rfl) (by simp) (by simp [maxLen]) (by simp) ⟨by simp,by simp⟩ (by simp) (.inl rfl)⟩)
   exact ⟨u,d',by show rel w _ L0 (m' k) true d' [] (R' k) u; rw [show R' k=(st.roots k).turn (fun _=>.sl true none es none []) q from by rw [hR',av]]; exact hd'⟩
  ·refine ⟨u,d,?_⟩;show rel w _ L0 (m' k) true d [] (R' k) u;rw [show R' k=st.roots k from by rw [hR',upd_ne e]];exact aq (fun b _ hb=>⟨hS b hb,rfl⟩) d (fun _ _ _ h=>h) (fun _ _ _ _ _ _=>rfl) (fun _ q0 _=>Mn _ _ (fun h=>e h.1)) hr
 ·intro k p k' p' b h1 h2 h3 h4;obtain ⟨g1,g2,_⟩:=hown k p b h1 h3;obtain ⟨g3,g4,_⟩:=hown k' p' b h2 h4;exact H.inj k p k' p' b g1 g3 g2 g4
 ·intro k p b h1 h2;obtain ⟨g1,g2,_⟩:=hown k p b h1 h2;exact H.own k p b g1 g2
theorem fI {k:Nat} {f:Nat->C} {R:Nat->C} (n:Nat) (q:Path) (es:Nat) {c':C} (hq:(R n).at q=some (.val (.slice none 0 0))) (hc:(R n).turn (fun _=>.sl true none es none []) q=c') :
  Weak ⟨tab k f,R⟩ ⟨tab k f,upd R n c'⟩:=by
 subst hc;rintro X a w ⟨m,H⟩;exact H.nilO es hq
theorem fW {k:IntKind} {c:C} {n:Int} (h:decI k c=some n):c=.val (.int k n):=by
 unfold decI at h;split at h
 ·split at h
  ·rename_i e; subst e; cases h; rfl
  ·cases h
 ·cases h
theorem F4 {c:C} {n:Bool} (h:decB c=some n):c=.val (.bool n):=by
 unfold decB at h;split at h
 ·cases h; rfl
 ·cases h
theorem C5 {α:Type} {d:List C->Option α} {row:α->List C} (hd:∀ r x,d r=some x->r=row x):∀ {rows:List (List C)} {l:List α},bv d rows=some l->rows=l.map row:=by
 intro rows
 induction rows with
 | nil=>intro l h; simp only [bv,Option.some.injEq] at h; subst h; rfl
 | cons r rows ih=>
  intro l h;rw [wh] at h;split at h
  ·rename_i x xs h1 h2;simp only [Option.some.injEq] at h;subst h;rw [List.map_cons,<-hd _ _ h1,<-ih h2]
  ·cases h
def exL {α:Type} (es:Nat) (d:List C->Option α):C->Option (List α)
 | .sl true none es' none rows=>if es'=es then bv d rows else none
 | _=>none
theorem exL_sl {α:Type} (es:Nat) (d:List C->Option α) (rows:List (List C)):exL es d (.sl true none es none rows)=bv d rows:=by simp only [exL,if_true]
theorem exL_eq {α:Type} {es:Nat} {d:List C->Option α} {row:α->List C} (hd:∀ r x,d r=some x->r=row x) {c:C} {l:List α} (h:exL es d c=some l):c=.sl true none es none (l.map row):=by
 unfold exL at h;split at h
 ·split at h
  ·rename_i e; subst e; rw [C5 hd h]
  ·cases h
 ·cases h
theorem mU {α:Type} {d:C->Option α} {g:α->C} (hd:∀ c x,d c=some x->c=g x):∀ (r:List C) (x:α),dec1 d r=some x->r=[g x]:=by
 intro r x h;unfold dec1 at h;split at h
 ·rw [hd _ _ h]
 ·cases h
def varE {α:Type} (es:Nat) (d:List C->Option α):C->Option α
 | .sl true none es' (some 1) [row]=>if es'=es then d row else none
 | _=>none
theorem oR {α:Type} {es:Nat} {d:List C->Option α} {row:α->List C} (hd:∀ r x,d r=some x->r=row x) {c:C} {x:α} (h:varE es d c=some x):c=.sl true none es (some 1) [row x]:=by
 unfold varE at h;split at h
 ·split at h
  ·rename_i e; subst e; rw [hd _ _ h]
  ·cases h
 ·cases h
attribute [go_sem] varE exL
theorem vI {α:Type} {row:α->List C} {l:List α} {r:List C}:(l.map row++[r])[l.length]?=some r:=by simp
theorem vJ {α:Type} {row:α->List C} {l:List α} {r:List C} {g:List C->List C}:(l.map row++[r]).modify l.length g=l.map row++[g r]:=by
 apply List.ext_getElem?;intro j;rw [gmod];by_cases h1:j < l.length
 ·rw [if_neg (by omega),List.getElem?_append_left (by simpa using h1),List.getElem?_append_left (by simpa using h1)]
 ·by_cases h2:l.length=j
  ·subst h2; simp
  ·rw [if_neg h2,List.getElem?_append_right (by simpa using h1),List.getElem?_append_right (by simpa using h1)];obtain ⟨k,hk⟩:∃ k,j - l.length=k+1:=⟨j - l.length - 1,by omega⟩;simp [hk]
theorem gt {α:Type} {row:α->List C} {l:List α} {i:Nat} {y:α} {rc:List C} (h:row y=rc):(l.map row).set i rc=(l.set i y).map row:=by
 subst h;apply List.ext_getElem?;intro j;simp only [List.getElem?_map,List.getElem?_set,List.length_map];by_cases e:i=j
 ·subst e;by_cases h2:i < l.length<;>simp [h2]
 ·simp [e]
theorem pM {k n:Nat} {f:Nat->C} {R:Nat->C} {c c':C} (hR:R n=c) (h:c=c'):Weak ⟨tab k f,R⟩ ⟨tab k f,upd R n c'⟩:=by
 subst h;have hu:upd R n c=R:=by
  funext t; unfold upd; split
  ·rename_i e; rw [e,hR]
  ·rfl
 rw [hu];exact fun _ _ _ h=>h
def decPt {α:Type} (es:Nat) (d:List C->Option α):C->Option α
 | .iref es' [row] 0 0=>if es'=es then d row else none
 | _=>none
theorem kU {α:Type} {es:Nat} {d:List C->Option α} {row:α->List C} (hd:∀ r x,d r=some x->LeL r (row x)) {c:C} {x:α} (h:decPt es d c=some x):Le c (.iref es [row x] 0 0):=by
 unfold decPt at h;split at h
 ·split at h
  ·rename_i e; subst e; exact Le.iref1 (hd _ _ h)
  ·cases h
 ·cases h
attribute [go_sem] decPt
theorem ConL.restLe {f:FuncId} {k:Nat} {cs rest rest':List C} {r:C} {ls:List C} (h1:cs.length=k) (hr:LeL rest rest') (h:ConL P f k (cs++rest') r ls):ConL P f k (cs++rest) r ls:=by
 have eR:Rl k (cs++rest)=Rl k (cs++rest'):=by
  funext n
  unfold Rl;by_cases hn:n < k
  ·rw [if_pos hn,if_pos hn,List.getElem?_append_left (by omega),List.getElem?_append_left (by omega)]
  ·rw [if_neg hn,if_neg hn]
 intro w S m us hl hp hrr hinj;rw [eR] at *;refine h w S m us (by rw [hl]; simp [h1,hr.len]) ?_ ?_ hinj
 ·intro i c' hi hk;rw [List.getElem?_append_right (by omega),h1] at hi;have hlt:=(List.getElem?_eq_some_iff.1 hi).1;rw [hr.len] at hlt;have hi0:(cs++rest)[i]?=some rest[i - k]:=by rw [List.getElem?_append_right (by omega),h1,List.getElem?_eq_getElem hlt]
  obtain ⟨u,d,e1,e2⟩:=hp i _ hi0 hk;exact ⟨u,d,e1,hr.get (i - k) _ c' (List.getElem?_eq_getElem hlt) hi _ _ _ dm _ [] _ _ e2⟩
 ·intro i c' hi hk;rw [List.getElem?_append_left (by omega)] at hi;exact hrr i c' (by rw [List.getElem?_append_left (by omega)]; exact hi) hk
def valR:C->Bool
 | .val _=>true
 | .tup cs=>cs.all fun c=>match c with
  | .val _=>true
  | _=>false
 | _=>false
theorem Fs {w:World} {S S':Nat->Prop} {c:C} (hc:valR c=true) {d:Nat} {u:Value} (h:rel w S L0 dm false d [] c u):rel w S' L0 dm false d [] c u:=by
 cases d with
 | zero=>exact h.elim
 | succ d=>
  cases c with
  | val v=>exact h
  | tup cs=>
   obtain ⟨arr,h1,h2,h3⟩:=h;refine ⟨arr,h1,h2,fun j c' e=>?_⟩;obtain ⟨u',e1,e2⟩:=h3 j c' e;refine ⟨u',e1,?_⟩;have:=List.all_eq_true.1 hc c' (List.mem_of_getElem? e);split at this
   ·cases d with
    | zero=>exact e2.elim
    | succ d=>exact e2
   ·cases this
  | _=>cases hc
theorem ConL.toPure {f:FuncId} {k:Nat} {cs:List C} {r:C} {ls:List C} (h:ConL P f k cs r ls) (hr:valR r=true) (hl:∀ c∈ls,PureC c):ConLt P f k cs r ls:=by
 intro w S m us h1 h2 h3 h4;refine (h w S m us h1 h2 h3 h4).mono ?_;rintro u w' ⟨mk,⟨d,g1⟩,g2,g3,g4,g5⟩;refine ⟨mk,⟨d,Fs hr g1⟩,?_,g3,g4,g5⟩;intro i c hi;obtain ⟨e1,uu,dd,e2⟩:=g2 i c hi;exact ⟨e1,uu,dd,hl c (List.mem_of_getElem? hi) _ _ _ _ _ _ _ e2⟩
theorem flOk {f:FuncId} {fl:FnL} (hk:fl.k≠0) (hp:fl.pure=false) (h:∀ cs rest r ls,cs.length=fl.k->fl.fn cs rest=some (r,ls)->ConL P f fl.k (cs++rest) r ls):FLOk P f fl:=
 ⟨fun _=>h,fun _ h'=>by (rw [hp] at h'; cases h'),fun h'=>(hk h').elim⟩
theorem flOkP {f:FuncId} {fl:FnL} (hk:fl.k≠0) (h:∀ cs rest r ls,cs.length=fl.k->fl.fn cs rest=some (r,ls)->ConL P f fl.k (cs++rest) r ls/\valR r=true/\∀ c∈ls,PureC c):FLOk P f fl:=
 ⟨fun _ cs rest r ls h1 h2=>(h cs rest r ls h1 h2).1,fun _ _ cs rest r ls h1 h2=>let ⟨g1,g2,g3⟩:=h cs rest r ls h1 h2; g1.toPure g2 g3,fun h'=>(hk h').elim⟩
theorem flOkN {f:FuncId} {fl:FnL} (hk:fl.k=0) (h:∀ rest r c,fl.fn [] rest=some (r,[c])->ConP P f rest r c):FLOk P f fl:=
 ⟨fun h'=>(h' hk).elim,fun h'=>(h' hk).elim,fun _=>h⟩
theorem ConP.le {f:FuncId} {cs cs':List C} {r c:C} (hr:LeL cs cs') (h:ConP P f cs' r c):ConP P f cs r c:=by
 intro w S us h1 h2;refine h w S us (by rw [h1,hr.len]) ?_;intro i c' hi;have hlt:=(List.getElem?_eq_some_iff.1 hi).1;rw [hr.len] at hlt;obtain ⟨u,d,e1,e2⟩:=h2 i _ (List.getElem?_eq_getElem hlt);exact ⟨u,d,e1,hr.get i _ c' (List.getElem?_eq_getElem hlt) hi _ _ _ dm _ [] _ _ e2⟩
def back1 (n:Nat):C->C
 | .pref n' [] i j=>if n'=n then .pref 0 [] i j else .dead
 | .val v=>.val v
 | _=>.dead
def FinP (E:Env) (vs:List ResultVar) (r c:C):Exit->St->Prop:=fun e s=>(e=.ret∨e=.normal)/\∃ s',Weak s s'/\∃ n cs,resL E s' vs=some cs/\pack (cs.map (back1 n))=r/\s'.roots n=c
theorem wI {E:Env} {vs:List ResultVar} {r c:C} {e:Exit} {s:St} (he:e=.ret∨e=.normal) {s':St} (hw:Weak s s') (n:Nat) {cs:List C} (h1:resL E s' vs=some cs) (h2:pack (cs.map (back1 n))=r) (h3:s'.roots n=c):FinP E vs r c e s:=
 ⟨he,s',hw,n,cs,h1,h2,h3⟩
attribute [go_sem] back1 pack
theorem zV {w:World} {S S':Nat->Prop} {R R':Nat->C} {m m':Nat->Path->Value} {n d:Nat} {p p':Path} {c:C} {u:Value} (hR:R' 0=R n) (hm:m' 0 []=m n []) (h:rel w S (Lv R m) dm false d p c u):rel w S' (Lv R' m') dm false (d+1) p' (back1 n c) u:=by
 cases d with
 | zero=>exact h.elim
 | succ d=>
  unfold back1;split
  ·rename_i n' i j;split
   ·rename_i e;subst e;obtain ⟨nl,es,cap,rows,b,off,k,h1,h2,h3⟩:=h;exact ⟨nl,es,cap,rows,b,off,k,by rw [hR]; exact h1,by rw [hm]; exact h2,h3⟩
   ·trivial
  ·exact h
  ·trivial
theorem Ec {w:World} {S S':Nat->Prop} {R R':Nat->C} {m m':Nat->Path->Value} {n:Nat} {cs:List C} {us:List Value} (hl:us.length=cs.length) (hR:R' 0=R n) (hm:m' 0 []=m n [])
  (h:∀ (j:Nat) (c:C),cs[j]?=some c->∃ u,us[j]?=some u/\∃ d,rel w S (Lv R m) dm false d [] c u):∃ d,rel w S' (Lv R' m') dm false d [] (pack (cs.map (back1 n))) (packV us):=by
 obtain ⟨D,hD⟩:∃ D,∀ (j:Nat) (c:C),cs[j]?=some c->∃ u,us[j]?=some u/\rel w S (Lv R m) dm false D [] c u:=by
  have:∀ (k:Nat),∃ D,∀ (j:Nat) (c:C),j < k->cs[j]?=some c->∃ u,us[j]?=some u/\rel w S (Lv R m) dm false D [] c u:=by
   intro k
   induction k with
   | zero=>exact ⟨0,fun j c h=>by omega⟩
   | succ k ih=>
    obtain ⟨D,hD⟩:=ih;cases hk:cs[k]? with
    | none=>
     refine ⟨D,fun j c hj hc=>?_⟩;by_cases e:j=k
     ·subst e; rw [hk] at hc; cases hc
     ·exact hD j c (by omega) hc
    | some c0=>
     obtain ⟨u0,e1,d0,e2⟩:=h k c0 hk;refine ⟨max D d0,fun j c hj hc=>?_⟩;by_cases e:j=k
     ·subst e;rw [hk] at hc;cases hc;exact ⟨u0,e1,aL d0 _ (Nat.le_max_right _ _) e2⟩
     ·obtain ⟨u,e3,e4⟩:=hD j c (by omega) hc;exact ⟨u,e3,aL D _ (Nat.le_max_left _ _) e4⟩
  obtain ⟨D,hD⟩:=this cs.length;exact ⟨D,fun j c hc=>hD j c (List.getElem?_eq_some_iff.1 hc).1 hc⟩
 by_cases h1:∃ c,cs=[c]
 ·obtain ⟨c,rfl⟩:=h1;obtain ⟨u,e1,e2⟩:=hD 0 c rfl;have hus:us=[u]:=by
   match us,hl,e1 with
   | [x],_,e1=>simp only [List.getElem?_cons_zero,Option.some.injEq] at e1; rw [e1]
  subst hus;exact ⟨D+1,zV hR hm e2⟩
 ·have hpk:pack (cs.map (back1 n))=.tup (cs.map (back1 n)):=by
   match cs,h1 with
   | [],_=>rfl
   | [c],hc=>exact absurd ⟨c,rfl⟩ hc
   | _::_::_,_=>rfl
  have hpv:packV us=.tuple us.toArray:=by
   unfold packV;have hne:us.length≠1:=by
    intro e;rw [hl] at e
    match cs,e with
    | [c],_=>exact h1 ⟨c,rfl⟩
   rw [dif_neg (by simpa using hne)]
  rw [hpk,hpv];refine ⟨D+2,us.toArray,rfl,by simp [hl],?_⟩;intro j c' hj;simp only [List.getElem?_map,Option.map_eq_some_iff] at hj;obtain ⟨c0,hj,rfl⟩:=hj;obtain ⟨u,e1,e2⟩:=hD j c0 hj;exact ⟨u,by simpa using e1,zV hR hm e2⟩
theorem Bx {f:FuncId} {fn:Func} {body:Code} (hf:P.funcs[f]?=some fn) (hb:fn.body=some body) (hname:(fn.name == "runtime.NumGoroutine") = false) (hok : codeOk body = true)
  {G:Nat->Nat->Option FnS} (hG:∀ d f fs,G d f=some fs->FSOk P f fs) {L:Nat->Nat->Option FnL} (hL:∀ d f fl,L d f=some fl->FLOk P f fl) (F:List (Nat × Bool)) (hmix:P.follows .mixedOrders=true) {cs:List C} {r c:C} (hn:cs.length<=fn.ntmps)
  (hW:Wk (EE P G F L) body (ap (EE P G F L) (FinP (EE P G F L) fn.results.toList r c) []) ⟨tab fn.ntmps (updL deadT 0 cs),RZ⟩):ConP P f cs r c:=by
 intro w S us hl hr;left;have hname':¬ fn.name = "runtime.NumGoroutine" := by simpa using hname
 refine ⟨by simp [callFunc,hf,hname',hb],?_⟩;have H:=uK (own:=[]) (cs:=cs) (us:=us) (S:=S) (m:=fun _=>dm) (n:=fn.ntmps) (w:=w) hl hn (by
  intro i c0 hi;obtain ⟨u,d,e1,e2⟩:=hr i c0 hi;refine ⟨u,d,e1,?_⟩;simp only [List.getD_nil,R0_nil];exact aq (fun b _ hb=>⟨⟨hb,dO⟩,rfl⟩) d (fun _ _ _ h=>h) (fun h=>by simp at h) (fun h=>by simp at h) e2) (by
  intro n p n' p' b ho;rw [R0_nil] at ho;exact (aA ho).elim)
 rw [qZ hn,R0_RZ,tG cs (fun t c _=>by simp [iW])] at H;have hGO:GOk P (EE P G F L):=⟨fun d f fs h=>hG d f fs h,fun d f fl h=>hL d f fl h⟩;have hTO:TOk P (EE P G F L):=fun t ti h=>rR P G t ti h;refine calls_of_wp hf hb (wp_mono (hW P hTO hGO hmix hok _ _ _ ⟨_,H⟩ [] (sD _)) ?_);rintro e a' w' ⟨⟨s,⟨he,s',hwk,n,cs',hres,hpk,hroot⟩,H1⟩,-⟩;obtain ⟨m',H'⟩:=hwk _ _ _ H1;obtain ⟨us',f1,f2,f3⟩:=tN hTO H' hres;have hnoK:∀ b,¬ Owned RZ (fun _=>dm) b:=by
  rintro b ⟨n,p,ho,_⟩;exact aA ho
 have hnoK':∀ b,¬ Owned (R0 [] cs) (fun _=>dm) b:=by
  rintro b ⟨n,p,ho,_⟩;rw [R0_nil] at ho;exact aA ho
 have hO1:∀ b,Own1 c (m' n) b->Owned s'.roots m' b:=by
  rintro b ⟨q,ho,hb⟩;exact ⟨n,q,by rw [hroot]; exact ho,hb⟩
 have hS:∀ b,b < w'.heap.size->Ctx.S (ctxOf w S (Owned (R0 [] cs) (fun _=>dm))) s'.roots m' b->((S b∨w.heap.size<=b)/\¬ Own1 c (m' n) b)/\w'.heap[b]?=w'.heap[b]?:=by
  intro b _ hs;refine ⟨⟨?_,fun h=>hs.2 (hO1 b h)⟩,rfl⟩;rcases hs.1 with (h|h)|h
  ·exact .inl h
  ·exact (hnoK' b h).elim
  ·exact .inr h
 have post:a'.defers=[]/\∃ v,(results fn a'.tmps).run P w'=.ok v w'/\∃ u,Ending.returned v=.returned u/\∃ mk:Path->Value,
   (∃ d,rel w' (fun b=>(S b∨w.heap.size<=b)/\¬ Own1 c mk b) (Lv (R1 c) (fun _=>mk)) dm false d [] r u) ∧
   (∃ uu d,rel w' (fun b=>(S b∨w.heap.size<=b)/\¬ Own1 c mk b) L0 mk true d [] c uu) ∧
   (∀ q q' b,OwnAt c q->OwnAt c q'->blk (mk q)=some b->blk (mk q')=some b->q=q')/\(∀ b,Own1 c mk b->w.heap.size<=b)/\FrK w (fun _=>False) w':=by
  refine ⟨H'.df,_,o8 f1,_,rfl,m' n,?_,?_,?_,?_,⟨H'.fr.os,H'.fr.tape,H'.fr.output,H'.fr.drawn,H'.fr.size,fun b hb _=>H'.fr.block b hb (hnoK' b)⟩⟩
  ·rw [<-hpk];obtain ⟨d,hd⟩:=Ec (S':=fun b=>(S b∨w.heap.size<=b)/\¬ Own1 c (m' n) b) (R':=R1 c) (m':=fun _=>m' n) (n:=n) f2 (by rw [hroot]; rfl) rfl f3;exact ⟨d,hd⟩
  ·obtain ⟨u0,dd,hr0⟩:=H'.root n;rw [hroot] at hr0;exact ⟨u0,dd,aq hS dd (fun _ _ _ h=>h) (fun _ _ _ _ _ _=>rfl) (fun _ _ _=>rfl) hr0⟩
  ·intro q q' b h1 h2 h3 h4;exact (H'.inj n q n q' b (by rw [hroot]; exact h1) (by rw [hroot]; exact h2) h3 h4).2
  ·rintro b ⟨q,ho,hb⟩;rcases H'.own n q b (by rw [hroot]; exact ho) hb with h|h
   ·exact h
   ·exact (hnoK' b h).elim
 rcases he with rfl|rfl
 ·exact post
 ·exact post
end
end Go.Abs

namespace Go.Abs
def pickO (ops:Array Oper):List Nat->List Oper
 | []=>[]
 | i::l=>match ops[i]? with
  | some o=>o::pickO ops l
  | none=>pickO ops l
attribute [go_sem] pickO
section
variable {X:Ctx} {m:Nat->Path->Value} {st:St} {a:Act} {w:World} {P:Program}
theorem Ay {E:Env} (hT:TOk P E) {s:Nat} {ti:TI} (ht:TIOk P s ti) {f:Nat} {x c:C} {u:Value} (hx:RelT X m st w x u) (hc:lT E ti f x=some c):∃ v,(∀ w2,(Instr.fieldAt s u f).run P w2=.ok v w2)/\RelT X m st w c v:=by
 obtain ⟨d,hd,hagg,hk⟩:=ht.und;unfold lT at hc;split at hc
 ·rename_i fs hkind;rw [hkind] at hk;obtain ⟨fields,rfl,hf,_⟩:=hk;split at hc
  ·rename_i o t hfs;obtain ⟨fl,h1,rfl,rfl⟩:=hf f _ _ hfs;split at hc
   ·rename_i ft hft;split at hc
    ·simp at hc
    ·rename_i hz;have hrun:∀ b o' w2,(Instr.fieldAt s (.pointer (some ⟨b,o',none⟩)) f).run P w2=.ok (.pointer (some ⟨b,o'+fl.offset,none⟩)) w2:=by
      intro b o' w2;have hsz:=(hT _ ft hft).size (w:=w2);simp [Instr.fieldAt,run_underlying hd,h1,Instr.sureAddr,fieldPlace,hsz,hz,Addr.add_lit]
     split at hc
     ·simp only [Option.some.injEq] at hc;subst hc;obtain ⟨d,hx⟩:=hx;cases d with
      | zero=>exact hx.elim
      | succ d=>
       obtain ⟨nl',es',cap',rows',b',off',k',f1,f2,rfl⟩:=hx;exact ⟨_,hrun _ _,1,nl',es',cap',rows',b',off',k',f1,f2,by simp [Nat.add_assoc]⟩
     ·simp only [Option.some.injEq] at hc;subst hc;obtain ⟨d,hx⟩:=hx;cases d with
      | zero=>exact hx.elim
      | succ d=>
       obtain ⟨b,off,arr,elem,frz,rfl,g2⟩:=hx;exact ⟨_,hrun _ _,d+1,b,off,arr,elem,frz,by simp [Nat.add_assoc],g2⟩
     ·simp at hc
   ·simp at hc
  ·simp at hc
 ·simp at hc
theorem AD (h:InvM X m st a w) {t:Nat} {ti:TI} (ht:TIOk P t ti) {x ix c:C} {u v:Value} (hx:RelT X m st w x u) (hix:RelT X m st w ix v) (hc:iU st ti x ix=some c) :
  ∃ r,(∀ w2,(Instr.indexAt t u v).run P w2=.ok r w2)/\RelT X m st w c r:=by
 obtain ⟨d,hd,hagg,hk⟩:=ht.und;unfold iU at hc;split at hc
 ·rename_i e es k i hkind;rw [hkind] at hk;obtain ⟨rfl,ie,hi1,hi2⟩:=hk;obtain rfl:=hix.of_val;have hsz:∀ w2,(sizeOf e).run P w2=.ok es w2:=by intro w2; simp [sizeOf,typeInfo,hi1,hi2]
  split at hc
  ·rename_i n p lo len cap;split at hc
   ·rename_i nl es' cap' rows hn;split at hc
    ·rename_i hcond;obtain ⟨hes,h0,h1⟩:=hcond;obtain rfl:=hes.symm;simp only [Option.some.injEq] at hc;subst hc;obtain ⟨nl',es',cap'',rows',a0,k0,a',k',g1,g2,g3,rfl,g5,g6,g7,g8,g9⟩:=dP hx;have hn':(st.roots n).at p=some (.sl true nl es cap' rows):=hn;rw [hn'] at g1;simp only [Option.some.injEq,C.sl.injEq,true_and] at g1;obtain ⟨rfl,rfl,rfl,rfl⟩:=g1;rcases g9 with g9|⟨b,off,rfl,rfl⟩
     ·omega
     ·refine ⟨.pointer (some ⟨b,off+lo * es+i.toNat * es,none⟩),?_,1,nl,es,cap',rows,b,off,k0,hn',g2,?_⟩
      ·intro w2; simp [Instr.indexAt,asIntOf,run_underlying hd,h0,h1,hsz,Addr.add_lit]
      ·simp [Nat.add_mul,Nat.add_assoc]
    ·simp at hc
   ·simp at hc
  ·rename_i own nl es' cap rows;split at hc
   ·rename_i hcond;obtain ⟨hes,h0,h1⟩:=hcond;obtain rfl:=hes.symm;simp only [Option.some.injEq] at hc;subst hc;obtain ⟨a0,k0,rfl,g2,g3,g4,gz,g5,g6⟩:=oG hx;rcases g6 with rfl|⟨b,off,arr,elem,frz,rfl,e2,e3,dd,e5⟩
    ·simp at h1; omega
    ·refine ⟨.pointer (some ⟨b,off+i.toNat * es,none⟩),?_,dd+1,b,off,arr,elem,frz,by simp,e2,e3,g5,fun i j row c' f1 f2=>?_⟩
     ·intro w2; simp [Instr.indexAt,asIntOf,run_underlying hd,h0,h1,hsz,Addr.add_lit]
     ·exact e5 i j row c' f1 f2
   ·simp at hc
  ·simp at hc
 ·rename_i n e es k i hkind;rw [hkind] at hk;obtain ⟨rfl,ie,hi1,hi2⟩:=hk;obtain rfl:=hix.of_val;have hsz:∀ w2,(sizeOf e).run P w2=.ok es w2:=by intro w2; simp [sizeOf,typeInfo,hi1,hi2]
  split at hc
  ·rename_i hcond;obtain ⟨h0,h1⟩:=hcond;have hrun:∀ b o w2,(Instr.indexAt t (.pointer (some ⟨b,o,none⟩)) (.int k i)).run P w2=.ok (.pointer (some ⟨b,o+i.toNat * es,none⟩)) w2:=by
    intro b o w2;simp [Instr.indexAt,asIntOf,run_underlying hd,Instr.sureAddr,h0,h1,hsz,Addr.add_lit]
   split at hc
   ·simp only [Option.some.injEq] at hc;subst hc;obtain ⟨nl',es',cap',rows',b',off',k',f1,f2,rfl⟩:=jL hx;exact ⟨_,hrun _ _,1,nl',es',cap',rows',b',off',k',f1,f2,by simp [Nat.add_assoc]⟩
   ·simp only [Option.some.injEq] at hc;subst hc;obtain ⟨d,hx⟩:=hx;cases d with
    | zero=>exact hx.elim
    | succ d=>
     obtain ⟨b,off,arr,elem,frz,rfl,g2⟩:=hx;exact ⟨_,hrun _ _,d+1,b,off,arr,elem,frz,by simp [Nat.add_assoc],g2⟩
   ·simp at hc
  ·simp at hc
 ·simp at hc
def quietT (o:Oper):Bool:=o.guard.isNone && match o.op with
 | .move _=>true
 | .assign _=>true
 | .extract ..=>true
 | .nilCheck _=>true
 | .fieldAddr ..=>true
 | .load ..=>true
 | .indexAddr ..=>true
 | .makeFunc ..=>true
 | .call { callee:=.builtin .len,.. }=>true
 | _=>false
def isLd (o:Oper):Bool:=match o.op with
 | .load ..=>true
 | _=>false
theorem wk {E:Env} {o:Oper} (hq:quietT o=true) {st':St} (h:exe E o st=some st'):∃ c,qop E st o.op=some c/\st'=st.put o.dst c:=by
 obtain ⟨dst,op,ty,pos,after,guard⟩:=o;simp only [quietT,Bool.and_eq_true] at hq;obtain ⟨_,hq⟩:=hq;have key:exe E ⟨dst,op,ty,pos,after,guard⟩ st=put? ⟨dst,op,ty,pos,after,guard⟩ st (qop E st op)->∃ c,qop E st op=some c/\st'=st.put dst c:=by
  intro e;rw [e] at h;cases hc:qop E st op with
  | none=>rw [hc] at h; simp [put?] at h
  | some c=>rw [hc] at h; simp only [put?,Option.some.injEq] at h; exact ⟨c,rfl,h.symm⟩
 split at hq;all_goals first|(cases hq; done)|skip
 all_goals
  apply key;simp only [exe,preX,exe0,altX];split<;>simp_all
theorem DZ {E:Env} (hT:TOk P E) (H:InvM X m st a w) {o:Oper} (hq:quietT o=true) (hl:isLd o=false) {c:C} (h:qop E st o.op=some c) {v:Value} (hv:(execOp a.eval o).run P w=.ok (.value v) w) (w2:World):(execOp a.eval o).run P w2=.ok (.value v) w2:=by
 obtain ⟨dst,op,ty,pos,after,guard⟩:=o;simp only [quietT,Bool.and_eq_true] at hq;obtain ⟨_,hq⟩:=hq;split at hq
 case h_10=>cases hq
 ·simp [execOp] at hv ⊢; exact hv
 ·simp [execOp] at hv ⊢; exact hv
 ·rename_i x ix;cases hx:a.eval x with
  | tuple vs=>
   cases hvs:vs[ix]? with
   | some v'=>simp [execOp,Instr.extract,hx,hvs] at hv ⊢; exact hv
   | none=>simp [execOp,Instr.extract,hx,hvs,stuck] at hv
  | _=>simp [execOp,Instr.extract,hx,stuck] at hv
 ·rename_i x;simp only [qop] at h;have hx:=ev_ok H x;split at h
  ·rename_i n p i j he;rw [he] at hx;obtain ⟨_,_,_,_,b,off,k,_,_,hu⟩:=jL hx;simp [execOp,hu] at hv ⊢; exact hv
  ·rename_i es rows i j he;rw [he] at hx;obtain ⟨b,off,arr,elem,frz,hu,_⟩:=zO hx;simp [execOp,hu] at hv ⊢; exact hv
  ·cases h
 ·rename_i s x f;simp only [qop] at h;obtain ⟨ti,h1,h2⟩:=Option.bind_eq_some_iff.1 h;obtain ⟨v',e1,_⟩:=Ay hT (hT s ti h1) (ev_ok H x) h2;simp only [execOp,Sem.run_bind,e1,Result.andThen_ok,Sem.run_pure] at hv ⊢;simpa using hv
 ·cases hl
 ·rename_i t x ix;simp only [qop] at h;obtain ⟨ti,h1,h2⟩:=Option.bind_eq_some_iff.1 h;obtain ⟨v',e1,_⟩:=AD H (hT t ti h1) (ev_ok H x) (ev_ok H ix) h2;simp only [execOp,Sem.run_bind,e1,Result.andThen_ok,Sem.run_pure] at hv ⊢;simpa using hv
 ·rename_i fn first caps
  simp only [execOp,Instr.makeFunc] at hv ⊢;cases fn<;>simp at hv ⊢<;>first|exact hv|skip
  all_goals simp [qop] at h
 ·rename_i args tys;simp only [qop] at h;have hev:=evs_ok H args.toList;have harr:args.map a.eval=(args.toList.map a.eval).toArray:=by rw [<-Array.toList_map,Array.toArray_toList]
  have hgo:∀ w,(execOp a.eval ⟨dst,.call { callee:=.builtin .len,args:=args,argTypes:=tys },ty,pos,after,guard⟩).run P w=(do pure (.value (<-Builtin.len_ tys ty (args.toList.map a.eval).toArray)):Sem Next).run P w:=by
   intro w;simp only [execOp,resolve,Sem.run_bind,Sem.run_pure,Result.andThen_ok,invoke,builtin,harr]
  rw [hgo] at hv ⊢;generalize args.toList.map a.eval=us at *;generalize args.toList.map st.ev=cs at *;unfold jq at h;split at h
  ·obtain ⟨u,h1,h2⟩:=hev 0 _ rfl;obtain rfl:=h2.of_val;split at h
   ·rename_i ti hti;obtain ⟨t,ht0,hti⟩:=Option.bind_eq_some_iff.1 hti;obtain ⟨d,hd,_,hk⟩:=(hT t ti hti).und;split at h
    ·rename_i hkind;rw [hkind] at hk;have hk:d=.string:=hk;subst hk;simp [Builtin.len_,ht0,h1,run_underlying hd,goInt] at hv ⊢;exact hv
    ·cases h
   ·cases h
  ·rename_i x _ _;obtain ⟨u,h1,h2⟩:=hev 0 _ rfl;split at h
   ·rename_i ti hti;obtain ⟨t,ht0,hti⟩:=Option.bind_eq_some_iff.1 hti;obtain ⟨d,hd,_,hk⟩:=(hT t ti hti).und;split at h
    ·rename_i e es hkind;rw [hkind] at hk;obtain ⟨rfl,_⟩:=hk;cases hl:lenC x with
     | none=>simp [hl] at h
     | some n=>
      have:∃ ad k,u=.slice ad n k:=by
       cases x with
       | val v=>
        obtain rfl:=h2.of_val;unfold lenC at hl;split at hl<;>simp_all
       | sl own nl es cap rows=>
        obtain ⟨a0,k0,rfl,_⟩:=oG h2;simp only [lenC,Option.some.injEq] at hl;exact ⟨a0,k0,by rw [hl]⟩
       | pal n' p lo len cap=>
        obtain ⟨nl',es'',cap'',rows',a0,k0,a',k',g1,g2,g3,rfl,_⟩:=dP h2;simp only [lenC,Option.some.injEq] at hl;exact ⟨a',k',by rw [hl]⟩
       | _=>simp [lenC] at hl
      obtain ⟨ad,k,rfl⟩:=this;simp [Builtin.len_,ht0,h1,run_underlying hd,goInt] at hv ⊢;exact hv
    ·cases h
   ·cases h
  all_goals first|(cases h; done)|(exfalso; simp_all; done)
theorem Di {E:Env} (hT:TOk P E) (H:InvM X m st a w) {t:Nat} {ti:TI} (ht:TIOk P t ti) {n i j:Nat} {c:C} {u:Value} (hx:RelT X m st w (.pref n [] i j) u) (hc:loadC st ti (.pref n [] i j)=some c) {v:Value} (hv:(Instr.loadAt t u).run P w=.ok v w) :
  ∃ b,blk (m n [])=some b/\OwnAt (st.roots n) []/\∀ w2,w2.heap[b]?=w.heap[b]?->(Instr.loadAt t u).run P w2=.ok v w2:=by
 simp only [loadC] at hc;split at hc
 case h_2=>cases hc
 rename_i nl es cap rows hn;split at hc
 case h_2=>cases hc
 rename_i row hr;split at hc
 case isFalse=>cases hc
 rename_i hj;obtain ⟨nl',es',cap',rows',b',off',k',f1,f2,rfl⟩:=jL hx;have f1':st.node n []=some (.sl true nl' es' cap' rows'):=f1;rw [hn] at f1';simp only [Option.some.injEq,C.sl.injEq,true_and] at f1';obtain ⟨rfl,rfl,rfl,rfl⟩:=f1';obtain ⟨b,off,k,arr,elem,g1,g2,g3,g4,g5,g6,g7⟩:=uf H hn hr;rw [g1] at f2;simp only [Value.slice.injEq,Option.some.injEq,Addr.mk.injEq,and_true,true_and] at f2;obtain ⟨⟨rfl,rfl⟩,rfl⟩:=f2;have hrl:rows.length≠0:=by intro e; rw [List.eq_nil_of_length_eq_zero e] at hr; cases hr
 obtain ⟨u0,d0,hr0⟩:=H.root n;have hn':st.roots n=.sl true nl es cap rows:=by simpa [St.node,C.at] using hn
 rw [hn'] at hr0;obtain ⟨a1,k1,D,q1,q2,q3,_⟩:=dM hr0;have hk1:k≠0:=by
  rw [g1] at q2;simp only [Value.slice.injEq] at q2;omega
 refine ⟨b,by rw [g1]; simp [blk,hk1],by rw [hn']; rfl,?_⟩;have hcell:∀ q,q < ti.size->∃ u,arr[off+i * es+j+q]?=some u:=by
  intro q hq;have hjl:j+q < row.length:=by omega
  obtain ⟨u',e1,_⟩:=g7 (j+q) row[j+q] (List.getElem?_eq_getElem hjl);exact ⟨u',by rw [<-e1]; congr 1; omega⟩
 intro w2 hw2;have key:∃ v',∀ wz:World,wz.heap[b]?=w.heap[b]?->(Instr.loadAt t (.pointer (some ⟨b,off+i * es+j,none⟩))).run P wz=.ok v' wz:=by
  unfold packC at hc;cases hagg:ti.agg with
  | true=>
   refine ⟨.agg ((List.range ti.size).map fun q=>(arr[off+i * es+j+q]?).getD undef).toArray,fun wz hz=>?_⟩;have hlc:=run_loadCells_list (P:=P) (w:=wz) ⟨b,off+i * es+j,none⟩ ((List.range ti.size).map fun q=>(arr[off+i * es+j+q]?).getD undef) (by
    intro q v hq;rw [Addr.add_lit,i6 (hz.trans g3)];simp only [List.getElem?_map,Option.map_eq_some_iff] at hq;obtain ⟨q',hq,rfl⟩:=hq;have hlt:=(List.getElem?_eq_some_iff.1 hq).1;rw [List.getElem?_range (by simpa using hlt)] at hq;cases hq;obtain ⟨u',e1⟩:=hcell q (by simpa using hlt);rw [e1]; rfl)
   simp only [List.length_map,List.length_range] at hlc;simp [Instr.loadAt,Instr.sureAddr,loadVar,ht.agg_run,hagg,ht.size,hlc]
  | false=>
   have h0:∃ u,arr[off+i * es+j]?=some u:=by
    rw [hagg] at hc;simp only [Bool.false_eq_true,if_false] at hc;have:(row.drop j).take ti.size≠[]:=by
     intro e;rw [show iR n [] i j ((row.drop j).take ti.size)=[] from by rw [e]; rfl] at hc;cases hc
    obtain ⟨q,hq⟩:∃ q,q < ti.size:=by
     cases hs:ti.size with
     | zero=>rw [hs] at this; simp at this
     | succ q=>exact ⟨0,by omega⟩
    obtain ⟨u',e⟩:=hcell 0 (by omega);exact ⟨u',by simpa using e⟩
   obtain ⟨u',hu'⟩:=h0;refine ⟨u',fun wz hz=>?_⟩;simp [Instr.loadAt,Instr.sureAddr,loadVar,ht.agg_run,hagg,i6 (hz.trans g3),hu']
 obtain ⟨v',hv'⟩:=key;have:=hv' w rfl;rw [hv] at this;cases this;exact hv' w2 hw2
theorem Dg {E:Env} (hT:TOk P E) (H:InvM X m st a w) {t:Nat} {ti:TI} (ht:TIOk P t ti) {n i j:Nat} {p:Path} {c:C} {u:Value} (hx:RelT X m st w (.pref n p i j) u) (hc:loadC st ti (.pref n p i j)=some c) {v:Value} (hv:(Instr.loadAt t u).run P w=.ok v w) :
  ∃ (b:Nat) (x:Obj),w.heap[b]?=some x/\∀ w2:World,w2.heap[b]?=w.heap[b]?->(Instr.loadAt t u).run P w2=.ok v w2:=by
 simp only [loadC] at hc;split at hc
 case h_2=>cases hc
 rename_i nl es cap rows hn;split at hc
 case h_2=>cases hc
 rename_i row hr;split at hc
 case isFalse=>cases hc
 rename_i hj;obtain ⟨nl',es',cap',rows',b',off',k',f1,f2,rfl⟩:=jL hx;have f1':st.node n p=some (.sl true nl' es' cap' rows'):=f1;rw [hn] at f1';simp only [Option.some.injEq,C.sl.injEq,true_and] at f1';obtain ⟨rfl,rfl,rfl,rfl⟩:=f1';obtain ⟨b,off,k,arr,elem,g1,g2,g3,g4,g5,g6,g7⟩:=uf H hn hr;rw [g1] at f2;simp only [Value.slice.injEq,Option.some.injEq,Addr.mk.injEq,and_true,true_and] at f2;obtain ⟨⟨rfl,rfl⟩,rfl⟩:=f2;refine ⟨b,_,g3,?_⟩;have hcell:∀ q,q < ti.size->∃ u,arr[off+i * es+j+q]?=some u:=by
  intro q hq;have hjl:j+q < row.length:=by omega
  obtain ⟨u',e1,_⟩:=g7 (j+q) row[j+q] (List.getElem?_eq_getElem hjl);exact ⟨u',by rw [<-e1]; congr 1; omega⟩
 intro w2 hw2;have key:∃ v',∀ wz:World,wz.heap[b]?=w.heap[b]?->(Instr.loadAt t (.pointer (some ⟨b,off+i * es+j,none⟩))).run P wz=.ok v' wz:=by
  unfold packC at hc;cases hagg:ti.agg with
  | true=>
   refine ⟨.agg ((List.range ti.size).map fun q=>(arr[off+i * es+j+q]?).getD undef).toArray,fun wz hz=>?_⟩;have hlc:=run_loadCells_list (P:=P) (w:=wz) ⟨b,off+i * es+j,none⟩ ((List.range ti.size).map fun q=>(arr[off+i * es+j+q]?).getD undef) (by
    intro q v hq;rw [Addr.add_lit,i6 (hz.trans g3)];simp only [List.getElem?_map,Option.map_eq_some_iff] at hq;obtain ⟨q',hq,rfl⟩:=hq;have hlt:=(List.getElem?_eq_some_iff.1 hq).1;rw [List.getElem?_range (by simpa using hlt)] at hq;cases hq;obtain ⟨u',e1⟩:=hcell q (by simpa using hlt);rw [e1]; rfl)
   simp only [List.length_map,List.length_range] at hlc;simp [Instr.loadAt,Instr.sureAddr,loadVar,ht.agg_run,hagg,ht.size,hlc]
  | false=>
   have h0:∃ u,arr[off+i * es+j]?=some u:=by
    rw [hagg] at hc;simp only [Bool.false_eq_true,if_false] at hc;have:(row.drop j).take ti.size≠[]:=by
     intro e;rw [show iR n p i j ((row.drop j).take ti.size)=[] from by rw [e]; rfl] at hc;cases hc
    obtain ⟨q,hq⟩:∃ q,q < ti.size:=by
     cases hs:ti.size with
     | zero=>rw [hs] at this; simp at this
     | succ q=>exact ⟨0,by omega⟩
    obtain ⟨u',e⟩:=hcell 0 (by omega);exact ⟨u',by simpa using e⟩
   obtain ⟨u',hu'⟩:=h0;refine ⟨u',fun wz hz=>?_⟩;simp [Instr.loadAt,Instr.sureAddr,loadVar,ht.agg_run,hagg,i6 (hz.trans g3),hu']
 obtain ⟨v',hv'⟩:=key;have:=hv' w rfl;rw [hv] at this;cases this;exact hv' w2 hw2
def baseN (s:St):C->Bool
 | .pal n [] lo len _=>match s.roots n with
  | .sl true _ _ _ rows=>decide (rows.length<=lo+len)
  | _=>true
 | .pal _ (_::_) _ _ _=>true
 | _=>false
def headB (d:Nat):C->Bool
 | .pal n _ _ _ _=>Nat.blt n H0 && !(n == d)
 | _=>false
theorem BT (l:List (List C)):(frzRows l).length=l.length:=by simp [frzRows]
theorem DT {E:Env} {d:Nat} {ti tix te:TI} {e es:Nat} {x y:Operand} {s st':St} (hk:ti.kind=.slice e es) (hte:E.T e=some te) (hh:headB d (s.ev x)=true) (hkx:tix.kind=.slice e es) (h:gH d es te tix (s.ev x) (s.ev y) s=some st'):∃ s1,pE E d ti x y s=some s1:=by
 unfold gH at h;split at h
 case h_2=>cases h
 rename_i kk olds ex hroom hold hex;split at h
 case isFalse=>cases h
 rename_i hc;obtain ⟨_,hes,hd,hb⟩:=hc;unfold extOf at hex;rw [hkx] at hex;simp only [if_true,Option.map_eq_some_iff] at hex;obtain ⟨extra,hsr,rfl⟩:=hex;unfold headB at hh;split at hh
 case h_2=>cases hh
 rename_i n p lo len cap hx;simp only [Bool.and_eq_true,Nat.blt_eq,Bool.not_eq_true',beq_eq_false_iff_ne] at hh;rw [hx] at hold;unfold il at hold;simp only at hold;split at hold
 case h_2=>cases hold
 rename_i nl es' cap' rows hn;split at hold
 case isFalse=>cases hold
 rename_i hes';simp only [Option.some.injEq] at hold;subst hold;rw [BT] at hb;unfold pE;rw [hk];simp only [hte];rw [if_neg (by rintro (q|q); exact hes q; exact q hd),hsr];simp only [hx,oN,hn,hes'.1,if_true];rw [if_neg hh.2,if_pos hh.1];simp only [Ext.all] at hb;simp only;rw [if_pos hb];exact ⟨_,rfl⟩
def srcB (s:St):C->Bool
 | .pal n p lo len _=>match s.node n p with
  | some (.sl true _ _ _ rows)=>((rows.drop lo).take len).all (·.all plainCell)
  | _=>false
 | _=>false
def quietA (o:Oper):Bool:=quietT o || match o.op with
 | .pick ..=>true
 | .field ..=>true
 | .index ..=>true
 | .binOp ..=>true
 | .unOp ..=>true
 | .convert ..=>true
 | _=>false
theorem Dx {E:Env} {o:Oper} (hq:quietA o=true) {st':St} (h:exe E o st=some st'):∃ c,qop E st o.op=some c/\st'=st.put o.dst c:=by
 unfold quietA at hq;rw [Bool.or_eq_true] at hq;rcases hq with hq|hq
 ·exact wk hq h
 obtain ⟨dst,op,ty,pos,after,guard⟩:=o;simp only at hq;have key:exe E ⟨dst,op,ty,pos,after,guard⟩ st=put? ⟨dst,op,ty,pos,after,guard⟩ st (qop E st op)->∃ c,qop E st op=some c/\st'=st.put dst c:=by
  intro e;rw [e] at h;cases hc:qop E st op with
  | none=>rw [hc] at h; simp [put?] at h
  | some c=>rw [hc] at h; simp only [put?,Option.some.injEq] at h; exact ⟨c,rfl,h.symm⟩
 split at hq;all_goals first|(cases hq; done)|skip
 all_goals
  apply key;simp only [exe,preX,exe0,altX];split<;>simp_all
def stillO (o:Oper):Bool:=quietA o || match o.op with
 | .slice ..=>true
 | _=>false
def newO (o:Oper):Bool:=match o.op with
 | .buildSlice ..=>true
 | _=>false
def chkA (E:Env) (o:Oper) (s:St):Bool:=o.guard.isNone && match o.op with
 | .build ..=>true
 | .buildSlice ..=>true
 | .call { callee:=.builtin .append,args,argTypes }=>match o.dst,args.toList,argTypes.toList with
  | some d,[x,y],[t,tx]=>(E.F d).isNone && baseN s (s.ev x) && srcB s (s.ev y) && (headB d (s.ev x) && t == tx)
  | _,_,_=>false
 | .call { callee:=.value x,args:=_,argTypes:=_ }=>match o.dst,s.ev x with
  | some d,.clo f _=>match E.L d (cloF f),E.G d (cloF f) with
   | none,some fs=>!fs.own.isEmpty && !fs.peek
   | _,_=>false
  | _,_=>false
 | .slice _ _ _ hi mx=>hi.isNone || mx.isSome
 | _=>quietA o
theorem KeepV.same {dst:Option Nat} {st':St}:KeepV dst m st w m st' w:=fun _ _ _ _ _=>⟨rfl,fun _ _=>rfl⟩
theorem exeK {E:Env} (hT:TOk P E) (hG:GOk P E) (H:InvM X m st a w) {o:Oper} {st':St} (h:exe E o st=some st') (hc:chkA E o st=true) {Q:Exit->Act->World->Prop} :
  o.wp P a w (fun a' w'=>∃ m',InvM X m' st' a' w'/\KeepV o.dst m st w m' st' w'/\(stillO o=true->w'=w)/\(newO o=true->∀ b,b < w.heap.size->w'.heap[b]?=w.heap[b]?)) Q:=by
 have quiet:(∃ c,qop E st o.op=some c/\st'=st.put o.dst c)->o.wp P a w (fun a' w'=>∃ m',InvM X m' st' a' w'/\KeepV o.dst m st w m' st' w'/\(stillO o=true->w'=w)/\(newO o=true->∀ b,b < w.heap.size->w'.heap[b]?=w.heap[b]?)) Q:=by
  rintro ⟨c,hq,rfl⟩;obtain ⟨v,e1,d,e2⟩:=qop_ok hT H hq;exact gb e1 ⟨m,H.put o.dst e2,.same,fun _=>rfl,fun _ _ _=>rfl⟩
 unfold chkA at hc;simp only [Bool.and_eq_true] at hc;obtain ⟨hg,hc⟩:=hc;split at hc
 ·rename_i t parts hop;refine quiet ?_;have e:exe E o st=put? o st (qop E st o.op):=by
   simp only [exe,preX,exe0,altX,hop];split<;>simp_all
  rw [e] at h;cases hq:qop E st o.op with
  | none=>rw [hq] at h; simp [put?] at h
  | some c=>rw [hq] at h; simp only [put?,Option.some.injEq] at h; exact ⟨c,rfl,h.symm⟩
 ·rename_i t len parts hop;have e:exe E o st=exe0 E o st:=by
   simp only [exe,preX,altX,hop];split<;>simp_all
  rw [e] at h;simp only [exe0,hop] at h;split at h
  ·rename_i d ti hd hti;obtain ⟨u,w',e1,m',e2,e3,e4⟩:=vi hT H (hT t ti hti) h;refine gb (u:=u) (w':=w') ?_ ⟨m',by rw [hd]; exact e2,fun n hn hnd ho _=>⟨e3 n hn (fun e=>hnd (by rw [hd,e])),fun b hb=>e4 b (H.lt ho hb)⟩,fun q=>by simp [stillO,quietA,quietT,hop] at q,fun _ b hb=>e4 b hb⟩;simp only [execOp,hop,Sem.run_bind,e1,Result.andThen_ok,Sem.run_pure]
  ·cases h
 ·rename_i args tys hop;split at hc
  case h_2=>cases hc
  rename_i d x y t0 tx0 hd hargs htys0;simp only [Bool.and_eq_true,Option.isNone_iff_eq_none,beq_iff_eq] at hc;obtain ⟨⟨⟨hF,hb⟩,hs⟩,hhead,htt⟩:=hc;subst htt;have hpre:preX E o st=none:=by
   simp only [preX,hop,hd,hargs];split
   ·rename_i d' s' x' t tx hdd hss htys;cases hdd;cases hss;split
    ·split
     ·split
      ·rw [hF];simp only;unfold mb;split
       ·rename_i hx _;rw [hx] at hb;simp only [baseN] at hb;split
        ·rename_i hr;rw [hr] at hb;simp only [decide_eq_true_eq] at hb;rw [if_neg (by omega)]
        ·rfl
       ·rfl
      ·rfl
     ·rfl
    ·rfl
   ·rfl
  simp only [exe,hpre] at h;split at h
  ·rename_i s1 hs1;simp only [Option.some.injEq] at h;subst h;simp only [exe0,hop,hd,hargs] at hs1;split at hs1
   case h_2=>cases hs1
   rename_i t tx hd1 hargs1 htys;split at hs1
   case h_2=>cases hs1
   rename_i ti tix hti htix;split at hs1
   case h_2=>cases hs1
   rename_i e es e' es' hk1 hk2;split at hs1
   case isFalse=>cases hs1
   rename_i he;obtain ⟨rfl,rfl⟩:=he;cases hd1;cases hargs1;obtain ⟨u,w',e1,m',e2,e3⟩:=At (ty:=o.type) hT H (args:=args) (argTypes:=tys) (s:=x) (x:=y) (t:=t) (tx:=tx) (by rw [<-hargs]) (by rw [<-htys]) hti htix (by rw [hk1,hk2]) hs1;have hsrc:(il st es (st.ev y)).isSome=true:=by
    unfold srcB at hs;split at hs
    ·rename_i n p lo len cap hy;split at hs
     ·rename_i nl es' cap' rows hn;have hes:es'=es:=by
       unfold pE at hs1;rw [hk1] at hs1;simp only at hs1;split at hs1
       ·split at hs1
        ·cases hs1
        ·split at hs1
         ·rename_i hsr;rw [hy] at hsr;simp only [il,hn] at hsr;split at hsr
          ·rename_i hh; exact hh.1
          ·cases hsr
         ·rw [hy] at hs1;split at hs1
          ·rename_i hpp;cases hpp;simp only [hn] at hs1;split at hs1
           ·split at hs1
            ·rename_i hh; exact hh
            ·cases hs1
           ·cases hs1
          ·cases hs1
       ·cases hs1
      rw [hy];simp only [il,hn];rw [if_pos ⟨hes,hs⟩];rfl
     ·cases hs
    ·cases hs
   exact gb (u:=u) (w':=w') (by simp only [execOp,hop,resolve,Sem.run_bind,Sem.run_pure,Result.andThen_ok,invoke,builtin,e1]) ⟨m',by rw [hd]; exact e2,by rw [hd]; exact e3 ⟨e,es,hk1,hsrc⟩,fun q=>by simp [stillO,quietA,quietT,hop] at q,fun q=>by simp [newO,hop] at q⟩
  ·rename_i hs1;exfalso;simp only [altX,hop,hd,hargs,htys0] at h;simp only [exe0,hop,hd,hargs,htys0] at hs1;split at h
   case h_2=>cases h
   rename_i ti tix hti htix;rw [hti] at htix;cases htix;rw [hti] at hs1;simp only at hs1;split at h
   case h_2=>cases h
   rename_i e es hk;split at h
   case h_2=>cases h
   rename_i te hte;rw [hk] at hs1;simp only [and_self,if_true] at hs1;obtain ⟨s1,q⟩:=DT hk hte hhead hk h;rw [q] at hs1;cases hs1
 ·rename_i x args tys hop;split at hc
  case h_2=>cases hc
  rename_i d f caps hd hx;split at hc
  case h_2=>cases hc
  rename_i fs hL hfs;simp only [Bool.and_eq_true,Bool.not_eq_true',List.isEmpty_eq_false_iff] at hc;obtain ⟨ho,hp⟩:=hc;have e:exe E o st=exe0 E o st:=by
   simp only [exe,preX,altX,hop];split<;>simp_all
  rw [e] at h;simp only [exe0,hop,callE,callTo,hd,hx] at h;split at h
  case isFalse=>cases h
  rename_i hdH;simp only [callX,hL,hfs] at h;rw [if_neg (by simpa using ho),if_neg (by simp [hp])] at h;have hct:callTo st { callee:=.value x,args:=args,argTypes:=tys }=some (cloF f,cloA f (args.toList.map st.ev) caps):=by simp only [callTo,hx]
  rw [hd];refine Oper.wp_mono (fun a' w' h'=>?_) (yR hG H hop hd hct hfs h);obtain ⟨m',h1,h2⟩:=h';exact ⟨m',h1,h2,fun q=>by simp [stillO,quietA,quietT,hop] at q,fun q=>by simp [newO,hop] at q⟩
 ·rename_i t x lo hi mx hop;have e0:exe0 E o st=put? o st (qop E st o.op):=by simp only [exe0,hop]
  have p0:preX E o st=none:=by simp only [preX,hop]
  have a0:altX E o st=none:=by
   simp only [altX,hop];cases hi with
   | none=>cases lo<;>rfl
   | some hi=>cases mx with
    | none=>simp at hc
    | some mx=>cases lo<;>rfl
  simp only [exe,p0,e0,a0] at h;cases hq:qop E st o.op with
  | none=>rw [hq] at h; simp [put?] at h
  | some c=>
   rw [hq] at h;simp only [put?,Option.some.injEq] at h;exact quiet ⟨c,hq,h.symm⟩
 ·exact quiet (Dx hc h)
end
end Go.Abs
