/- A library of readings of Go values with their ownership,and of walks on them. No statement of the program. -/
import Derived.Test.YtmacaidmhchpgaaGreatAbsB
set_option linter.defProp false
set_option linter.unusedSimpArgs false
set_option linter.unusedVariables false
namespace Go.Abs
def dZ (o:Oper) (st:St):Option C->Option St
 | some c=>some (st.put o.dst c)
 | none=>none
def I8 (E:Env) (o:Oper) (c:Call) (st:St):Option St:=
 match o.dst,gi st c with
 | some d,some (f,args)=>if d < H0 then G3 E d f args st else none
 | _,_=>none
def kF (E:Env) (o:Oper) (st:St):Option St:=
 match o.op with
 | .alloc t=>match o.dst,E.T t with
  | some d,some ti=>some (Ij d ti st)
  | _,_=>none
 | .box t x=>match o.dst,E.T t with
  | some d,some ti=>K3 d ti x st
  | _,_=>none
 | .buildSlice t len parts=>match o.dst,E.T t with
  | some d,some ti=>jQ E d ti len parts.toList st
  | _,_=>none
 | .store t x v=>match o.dst,E.T t with
  | none,some ti=>jN ti (st.ev x) (st.ev v) st
  | _,_=>none
 | .call c=>match c.callee with
  | .builtin .append=>match o.dst,c.args.toList,c.argTypes.toList with
   | some d,[s,x],[t,tx]=>match E.T t,E.T tx with
    | some ti,some tix=>match ti.kind,tix.kind with
     | .slice e es,.slice e' es'=>if e=e'/\es=es' then yU E d ti s x st else none
     | _,_=>none
    | _,_=>none
   | _,_,_=>none
  | .builtin _=>dZ o st (qop E st (.call c))
  | _=>I8 E o c st
 | op=>dZ o st (qop E st op)
def kX (E:Env) (o:Oper) (st:St):Option St:=
 match o.op with
 | .call { callee:=.builtin .append,args,argTypes }=>match o.dst,args.toList,argTypes.toList with
  | some d,[s,x],[t,tx]=>match E.T t,E.T tx with
   | some ti,some tix=>match ti.kind,tix.kind with
    | .slice e es,.slice e' es'=>if e=e'/\es=es' then (match E.F d with
     | some false=>(match E.T e with
      | some te=>vO d es te (st.ev s) (st.ev x) st
      | none=>none)
     | some true=>(match E.T e with
      | some te=>gu d es te tix (st.ev s) (st.ev x) st
      | none=>none)
     | none=>qR d es (st.ev s) (st.ev x) st) else none
    | _,_=>none
   | _,_=>none
  | _,_,_=>none
 | _=>none
def fX (E:Env) (o:Oper) (st:St):Option St:=
 match o.op with
 | .makeSlice t l c=>match o.dst with
  | some d=>mkX E d t (st.ev l) (st.ev c) st
  | none=>none
 | .slice t x none (some hi) none=>match o.dst,E.T t with
  | some d,some ti=>match ti.kind with
   | .slice _ es=>AH d es (st.ev x) (st.ev hi) st
   | _=>none
  | _,_=>none
 | .slice t x (some lo) (some hi) none=>match o.dst,E.T t with
  | some d,some ti=>match ti.kind with
   | .slice _ es=>Br d es (st.ev x) (st.ev lo) (st.ev hi) st
   | _=>none
  | _,_=>none
 | .call { callee:=.builtin .clear,args,argTypes }=>match o.dst,args.toList,argTypes.toList with
  | none,[x],[t]=>match E.T t with
   | some ti=>match ti.kind with
    | .slice e es=>match E.T e with
     | some te=>w4 es te (st.ev x) st
     | none=>none
    | _=>none
   | none=>none
  | _,_,_=>none
 | .call { callee:=.builtin .append,args,argTypes }=>match o.dst,args.toList,argTypes.toList with
  | some d,[s,x],[t,tx]=>match E.T t,E.T tx with
   | some ti,some tix=>match ti.kind with
    | .slice e es=>match E.T e with
     | some te=>gu d es te tix (st.ev s) (st.ev x) st
     | none=>none
    | _=>none
   | _,_=>none
  | _,_,_=>none
 | .call { callee:=.builtin .copy,args,argTypes }=>match args.toList,argTypes.toList with
  | [s,x],[t,tx]=>match E.T t,E.T tx with
   | some ti,some tix=>match ti.kind,tix.kind with
    | .slice e es,.slice e' es'=>if e=e'/\es=es' then Ct o.dst es (st.ev s) (st.ev x) st else none
    | _,_=>none
   | _,_=>none
  | _,_=>none
 | .call { callee:=.builtin .cap,args,argTypes }=>match args.toList,argTypes.toList with
  | [x],[t]=>match E.T t with
   | some ti=>match ti.kind with
    | .slice _ _=>match tf st (st.ev x) with
     | some n=>some (st.put o.dst (.val (.int .i64 (n:Nat))))
     | none=>none
    | _=>none
   | none=>none
  | _,_=>none
 | _=>none
def exe (E:Env) (o:Oper) (st:St):Option St:=
 match kX E o st with
 | some s=>some s
 | none=>match kF E o st with
  | some s=>some s
  | none=>fX E o st
def eK (E:Env) (ops:Array Oper) (o:Oper) (st:St):Option St:=
 match o.guard with
 | none=>exe E o st
 | some (j,want)=>match (ops[j]?).bind (·.dst) with
  | some t=>match st.tmps[t]? with
   | some (.val (.bool b))=>if b=want then exe E o st else some (st.put o.dst (.val undef))
   | some (.val (.tuple _))=>some (st.put o.dst (.val undef))
   | _=>none
  | none=>none
def qU (E:Env) (ops:Array Oper):List Oper->St->Option St
 | [],st=>some st
 | o::l,st=>match eK E ops o st with
  | some st'=>qU E ops l st'
  | none=>none
section
variable {X:Ctx} {m:Nat->aq->Value} {st:St} {a:Act} {w:World} {P:Program}
def iP {o:Oper} {u:Value} {w':World} (h:(execOp a.eval o).run P w=.ok (.value u) w') {K:Act->World->Prop} {Q:Exit->Act->World->Prop} (hk:K (a.put o.dst u) w'):o.wp P a w K Q:=by
 unfold Oper.wp;rw [h,Oper.upon_value];exact hk
def YO {E:Env} (hT:TOk P E) (hG:GOk P E) (H:Inv X st a w) {o:Oper} {st':St} (h:kF E o st=some st') {K:Act->World->Prop} {Q:Exit->Act->World->Prop} (hk:∀ a' w',Inv X st' a' w'->K a' w'):o.wp P a w K Q:=by
 obtain ⟨m,H⟩:=H;have quiet:∀ op,o.op=op->dZ o st (qop E st op)=some st'->o.wp P a w K Q:=by
  intro op hop hp;cases hq:qop E st op with
  | none=>simp [hq,dZ] at hp
  | some c=>
   simp only [hq,dZ,cb] at hp;subst hp;obtain ⟨v,e1,d,e2⟩:=PN hT H (o:=o) (by rw [hop]; exact hq);exact iP e1 (hk _ _ ⟨m,H.put o.dst e2⟩)
 unfold kF at h;split at h
 ·rename_i t hop;split at h
  ·rename_i d ti hd hti;simp only [cb] at h;subst h;obtain ⟨u,w',e1,m',e2⟩:=V6 hT H (hT t ti hti) d;refine iP (u:=u) (w':=w') ?_ (hk _ _ ⟨m',by rw [hd]; exact e2⟩);simp [execOp,hop,e1]
  ·simp at h
 ·rename_i t x hop;split at h
  ·rename_i d ti hd hti;obtain ⟨u,w',e1,m',e2⟩:=Zx hT H (hT t ti hti) h;refine iP (u:=u) (w':=w') ?_ (hk _ _ ⟨m',by rw [hd]; exact e2⟩);simp [execOp,hop,e1]
  ·simp at h
 ·rename_i t len parts hop;split at h
  ·rename_i d ti hd hti;obtain ⟨u,w',e1,m',e2,_⟩:=Hb hT H (hT t ti hti) h;refine iP (u:=u) (w':=w') ?_ (hk _ _ ⟨m',by rw [hd]; exact e2⟩);simp only [execOp,hop,Sem.run_bind,e1,Result.andThen_ok,Sem.run_pure]
  ·simp at h
 ·rename_i t x v hop;split at h
  ·rename_i ti hd hti;obtain ⟨w',e1,m',e2⟩:=V7 (E:=E) H (hT t ti hti) (bm H x) (bm H v) h;unfold Oper.wp;have hrun:(execOp a.eval o).run P w=.ok .skip w':=by simp [execOp,hop,e1]
   rw [hrun,Oper.upon_skip,hd];exact hk _ _ ⟨m',e2⟩
  ·simp at h
 ·rename_i c hop;split at h
  ·rename_i hcal;split at h
   ·rename_i d s x t tx hd hargs htys;split at h
    ·rename_i ti tix hti htix;split at h
     ·rename_i e es e' es' hk1 hk2;split at h
      ·rename_i he;obtain ⟨rfl,rfl⟩:=he;obtain ⟨u,w',e1,m',e2,_⟩:=NT (ty:=o.type) hT H (args:=c.args) (argTypes:=c.argTypes) (s:=s) (x:=x) (t:=t) (tx:=tx) (by rw [<-hargs]) (by rw [<-htys]) hti htix (by rw [hk1,hk2]) h;refine iP (u:=u) (w':=w') ?_ (hk _ _ ⟨m',by rw [hd]; exact e2⟩);obtain ⟨callee,cargs,ctys⟩:=c;simp only at hcal;subst hcal;simp only [execOp,hop,resolve,Sem.run_bind,Sem.run_pure,Result.andThen_ok,invoke,builtin,e1]
      ·simp at h
     ·simp at h
    ·simp at h
   ·simp at h
  ·exact quiet _ hop h
  ·rename_i hb1 hb2;unfold I8 at h;split at h
   ·rename_i d f args hd hct;split at h
    ·rename_i hdH;unfold G3 at h;split at h
     ·rename_i fl hfl;exact Oper.wp_mono (fun a' w' h'=>hk a' w' h') (Wc hG H hop hd hct hfl h hdH)
     split at h
     ·rename_i fs hfs;split at h
      ·rename_i hown;split at h
       ·rename_i cs hsn;split at h
        ·rename_i hpv;split at h
         ·rename_i r hr;simp only [cb] at h;subst h;exact Oper.wp_mono (fun a' w' h=>hk a' w' ⟨h.choose,h.choose_spec.1⟩) (Su hG H hop hd hct hfs hown hsn hpv hr hdH)
         ·simp at h
        ·exact Oper.wp_mono (fun a' w' h'=>hk a' w' h') (Rv hG H hop hd hct hfs hown h hdH)
       ·simp at h
      ·split at h
       ·rename_i hpk;exact Oper.wp_mono (fun a' w' h'=>hk a' w' h') (X7 hG H hop hd hct hfs hpk h)
       ·exact Oper.wp_mono (fun a' w' h'=>hk a' w' (let ⟨m',h1,_⟩:=h'; ⟨m',h1⟩)) (LO hG H hop hd hct hfs h)
     ·simp at h
    ·simp at h
   ·simp at h
 ·exact quiet _ rfl h
def YG {E:Env} (hT:TOk P E) (H:Inv X st a w) {o:Oper} {st':St} (h:kX E o st=some st') {K:Act->World->Prop} {Q:Exit->Act->World->Prop} (hk:∀ a' w',Inv X st' a' w'->K a' w'):o.wp P a w K Q:=by
 obtain ⟨m,H⟩:=H;unfold kX at h;split at h
 case h_2=>simp at h
 rename_i cargs ctys hop;split at h
 case h_2=>simp at h
 rename_i d s x t tx hd hargs htys;split at h
 case h_2=>simp at h
 rename_i ti tix hti htix;split at h
 case h_2=>simp at h
 rename_i e es e' es' hk1 hk2;split at h
 case isFalse=>simp at h
 rename_i he;obtain ⟨rfl,rfl⟩:=he;obtain ⟨u,w',e1,m',e2⟩:∃ u w',(Builtin.append_ #[t,tx] o.type #[a.eval s,a.eval x]).run P w=.ok u w'/\∃ m',ar X m' st' (a.put (some d) u) w':=by
  cases hF:E.F d with
  | some b=>
   cases b with
   | false=>
    simp only [hF] at h;split at h
    case h_2=>simp at h
    rename_i te hte;exact QZ (ty:=o.type) hT H (hT t ti hti) (hT tx tix htix) hk1 hk2 (hT e te hte) (bm H s) (bm H x) h
   | true=>
    simp only [hF] at h;split at h
    case h_2=>simp at h
    rename_i te hte;exact CV (ty:=o.type) hT H (hT t ti hti) (hT tx tix htix) hk1 (hT e te hte) (bm H s) (bm H x) h
  | none=>
   simp only [hF] at h;exact OE (ty:=o.type) hT H (hT t ti hti) (hT tx tix htix) hk1 hk2 (bm H s) (bm H x) h
 refine iP (u:=u) (w':=w') ?_ (hk _ _ ⟨m',by rw [hd]; exact e2⟩);have ha:cargs=#[s,x]:=by rw [<-hargs]
 have hty:ctys=#[t,tx]:=by rw [<-htys]
 subst ha; subst hty;simp [execOp,hop,resolve,invoke,builtin,e1]
def Yd {E:Env} (hT:TOk P E) (H:Inv X st a w) {o:Oper} {st':St} (h:fX E o st=some st') {K:Act->World->Prop} {Q:Exit->Act->World->Prop} (hk:∀ a' w',Inv X st' a' w'->K a' w'):o.wp P a w K Q:=by
 obtain ⟨m,H⟩:=H;unfold fX at h;split at h
 ·rename_i t l c hop;split at h
  case h_2=>simp at h
  rename_i d hd;unfold mkX at h;split at h
  case h_2=>simp at h
  rename_i ti hti;split at h
  case h_2=>simp at h
  rename_i e es hk1;split at h
  case h_2=>simp at h
  rename_i te hte;obtain ⟨u,w',e1,m',e2⟩:=YP hT H (hT t ti hti) hk1 (hT e te hte) (bm H l) (bm H c) h;refine iP (u:=u) (w':=w') ?_ (hk _ _ ⟨m',by rw [hd]; exact e2⟩);simp [execOp,hop,e1]
 ·rename_i t x hi hop;split at h
  case h_2=>simp at h
  rename_i d ti hd hti;split at h
  case h_2=>simp at h
  rename_i e es hk1;obtain ⟨u,e1,m',e2⟩:=Tv H (hT t ti hti) hk1 (bm H x) (bm H hi) h;refine iP (u:=u) (w':=w) ?_ (hk _ _ ⟨m',by rw [hd]; exact e2⟩);simp [execOp,hop,e1]
 ·rename_i t x lo hi hop;split at h
  case h_2=>simp at h
  rename_i d ti hd hti;split at h
  case h_2=>simp at h
  rename_i e es hk1;obtain ⟨u,e1,m',e2⟩:=RO H (hT t ti hti) hk1 (bm H x) (bm H lo) (bm H hi) h;refine iP (u:=u) (w':=w) ?_ (hk _ _ ⟨m',by rw [hd]; exact e2⟩);simp [execOp,hop,e1]
 ·rename_i cargs ctys hop;split at h
  case h_2=>simp at h
  rename_i x t hd hargs htys;split at h
  case h_2=>simp at h
  rename_i ti hti;split at h
  case h_2=>simp at h
  rename_i e es hk1;split at h
  case h_2=>simp at h
  rename_i te hte;obtain ⟨u,w',e1,m',e2⟩:=Xn (E:=E) (ty:=o.type) H (hT t ti hti) hk1 (hT e te hte) (bm H x) h;refine iP (u:=u) (w':=w') ?_ (hk _ _ ⟨m',by rw [hd]; exact e2⟩);have ha:cargs=#[x]:=by rw [<-hargs]
  have hty:ctys=#[t]:=by rw [<-htys]
  subst ha; subst hty;simp [execOp,hop,resolve,invoke,builtin,e1]
 ·rename_i cargs ctys hop;split at h
  case h_2=>simp at h
  rename_i d s x t tx hd hargs htys;split at h
  case h_2=>simp at h
  rename_i ti tix hti htix;split at h
  case h_2=>simp at h
  rename_i e es hk1;split at h
  case h_2=>simp at h
  rename_i te hte;obtain ⟨u,w',e1,m',e2⟩:=CV (ty:=o.type) hT H (hT t ti hti) (hT tx tix htix) hk1 (hT e te hte) (bm H s) (bm H x) h;refine iP (u:=u) (w':=w') ?_ (hk _ _ ⟨m',by rw [hd]; exact e2⟩);have ha:cargs=#[s,x]:=by rw [<-hargs]
  have hty:ctys=#[t,tx]:=by rw [<-htys]
  subst ha; subst hty;simp [execOp,hop,resolve,invoke,builtin,e1]
 ·rename_i cargs ctys hop;split at h
  case h_2=>simp at h
  rename_i s x t tx hargs htys;split at h
  case h_2=>simp at h
  rename_i ti tix hti htix;split at h
  case h_2=>simp at h
  rename_i e es e' es' hk1 hk2;split at h
  case isFalse=>simp at h
  rename_i he;obtain ⟨rfl,rfl⟩:=he;obtain ⟨u,w',e1,m',e2⟩:=X5 (ty:=o.type) hT H (hT t ti hti) (hT tx tix htix) hk1 hk2 (bm H s) (bm H x) h;refine iP (u:=u) (w':=w') ?_ (hk _ _ ⟨m',e2⟩);have ha:cargs=#[s,x]:=by rw [<-hargs]
  have hty:ctys=#[t,tx]:=by rw [<-htys]
  subst ha; subst hty;simp [execOp,hop,resolve,invoke,builtin,e1]
 ·rename_i cargs ctys hop;split at h
  case h_2=>simp at h
  rename_i x t hargs htys;split at h
  case h_2=>simp at h
  rename_i ti hti;split at h
  case h_2=>simp at h
  rename_i e es hk1;split at h
  case h_2=>simp at h
  rename_i n hroom;simp only [cb] at h;subst h;obtain ⟨ad,len,hv⟩:=N5 H (bm H x) hroom;obtain ⟨dsc,hu,_,hkd⟩:=(hT t ti hti).und;rw [hk1] at hkd;obtain ⟨rfl,_⟩:=hkd;refine iP (u:=.int .i64 (n:Nat)) (w':=w) ?_ (hk _ _ ⟨m,H.put o.dst (k:=1) rfl⟩);have ha:cargs=#[x]:=by rw [<-hargs]
  have hty:ctys=#[t]:=by rw [<-htys]
  subst ha; subst hty;simp [execOp,hop,resolve,invoke,builtin,Builtin.cap_,hv,run_underlying hu,goInt]
 ·simp at h
def Vx {E:Env} (hT:TOk P E) (hG:GOk P E) (H:Inv X st a w) {o:Oper} {st':St} (h:exe E o st=some st') {K:Act->World->Prop} {Q:Exit->Act->World->Prop} (hk:∀ a' w',Inv X st' a' w'->K a' w'):o.wp P a w K Q:=by
 unfold exe at h;split at h
 ·rename_i s hs;simp only [cb] at h;subst h;exact YG hT H hs hk
 ·split at h
  ·rename_i s hs;simp only [cb] at h;subst h;exact YO hT hG H hs hk
  ·exact Yd hT H h hk
def Fo {E:Env} (hT:TOk P E) (hG:GOk P E) (H:Inv X st a w) {ops:Array Oper} {i:Nat} {o:Oper} (ho:ops[i]?=some o) {st':St} (h:eK E ops o st=some st') {K:Act->World->Prop} {Q:Exit->Act->World->Prop} (hk:∀ a' w',Inv X st' a' w'->K a' w'):wpOp P ops Q i K a w:=by
 unfold wpOp;rw [ho];simp only;unfold eK at h;split at h
 ·rename_i hg;have:Region.wanted o (yielded ops a.tmps)=true:=by simp [Region.wanted,hg]
  rw [if_pos this];exact .inl (Vx hT hG H h hk)
 ·rename_i j want hg;split at h
  case h_2=>simp at h
  rename_i t ht;obtain ⟨m,H⟩:=H;have hy:∀ c,st.tmps[t]?=some c->∃ u,a.tmps[t]?=some u/\az X m st w c u:=by
   intro c hc;obtain ⟨u,d,h1,h2⟩:=H.tmp t c hc;exact ⟨u,h1,d,h2⟩
  split at h
  ·rename_i b hb;obtain ⟨u,h1,h2⟩:=hy _ hb;obtain rfl:=h2.of_val;have hyl:yielded ops a.tmps j=some b:=by simp [yielded,ht,h1]
   split at h
   ·rename_i hbw;have:Region.wanted o (yielded ops a.tmps)=true:=by simp [Region.wanted,hg,hyl,hbw]
    rw [if_pos this];exact .inl (Vx hT hG ⟨m,H⟩ h hk)
   ·rename_i hbw;simp only [cb] at h;subst h;have:¬ Region.wanted o (yielded ops a.tmps)=true:=by simp [Region.wanted,hg,hyl,hbw]
    rw [if_neg this];exact hk _ _ ⟨m,H.put o.dst (k:=1) (u:=undef) rfl⟩
  ·rename_i vs hb;obtain ⟨u,h1,h2⟩:=hy _ hb;obtain rfl:=h2.of_val;have hyl:yielded ops a.tmps j=none:=by simp [yielded,ht,h1]
   simp only [cb] at h;subst h;have:¬ Region.wanted o (yielded ops a.tmps)=true:=by simp [Region.wanted,hg,hyl]
   rw [if_neg this];exact hk _ _ ⟨m,H.put o.dst (k:=1) (u:=undef) rfl⟩
  ·simp at h
def Yz {E:Env} (hT:TOk P E) (hG:GOk P E) {ops:Array Oper} {Q:Exit->Act->World->Prop}:∀ (l:List Oper) (k:Nat) {st st':St} {a:Act} {w:World},Inv X st a w->(∀ j,l[j]?=ops[k+j]?)->qU E ops l st=some st' ->
  (∀ a' w',Inv X st' a' w'->Q .normal a' w')->wpOps P ops Q (List.range' k l.length) a w:=by
 intro l
 induction l with
 | nil=>
  intro k st st' a w H _ h hq;simp only [qU,cb] at h;subst h;exact hq _ _ H
 | cons o l ih=>
  intro k st st' a w H hl h hq;simp only [qU] at h;split at h
  ·rename_i st1 h1;simp only [cG,acx];rw [wpOps_cons];refine Fo hT hG H (by have:=hl 0; simpa using this.symm) h1 ?_;intro a' w' H';exact ih (k+1) H' (fun j=>by have:=hl (j+1); rw [nn] at this; rw [this]; congr 1; omega) h hq
  ·simp at h
end
end Go.Abs
