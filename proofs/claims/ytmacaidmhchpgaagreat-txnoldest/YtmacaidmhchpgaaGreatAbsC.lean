/- A library of readings of Go values with their ownership,and of walks on them. No statement of the program. -/
import Derived.Test.YtmacaidmhchpgaaGreatAbsB
set_option linter.unusedSimpArgs false
set_option linter.unusedVariables false
namespace Go.Abs
def eH (o:Oper) (st:St):Option C->Option St
 | some c=>some (st.put o.dst c)
 | none=>none
def Jf (E:Env) (o:Oper) (c:Call) (st:St):Option St:=
 match o.dst,gO st c with
 | some d,some (f,args)=>if d < H0 then Gv E d f args st else none
 | _,_=>none
def lq (E:Env) (o:Oper) (st:St):Option St:=
 match o.op with
 | .alloc t=>match o.dst,E.T t with
  | some d,some ti=>some (Iw d ti st)
  | _,_=>none
 | .box t x=>match o.dst,E.T t with
  | some d,some ti=>Ki d ti x st
  | _,_=>none
 | .buildSlice t len parts=>match o.dst,E.T t with
  | some d,some ti=>kA E d ti len parts.toList st
  | _,_=>none
 | .store t x v=>match o.dst,E.T t with
  | none,some ti=>ki ti (st.ev x) (st.ev v) st
  | _,_=>none
 | .call c=>match c.callee with
  | .builtin .append=>match o.dst,c.args.toList,c.argTypes.toList with
   | some d,[s,x],[t,tx]=>match E.T t,E.T tx with
    | some ti,some tix=>match ti.kind,tix.kind with
     | .slice e es,.slice e' es'=>if e=e'/\es=es' then za E d ti s x st else none
     | _,_=>none
    | _,_=>none
   | _,_,_=>none
  | .builtin _=>eH o st (qop E st (.call c))
  | _=>Jf E o c st
 | op=>eH o st (qop E st op)
def lK (E:Env) (o:Oper) (st:St):Option St:=
 match o.op with
 | .call { callee:=.builtin .append,args,argTypes }=>match o.dst,args.toList,argTypes.toList with
  | some d,[s,x],[t,tx]=>match E.T t,E.T tx with
   | some ti,some tix=>match ti.kind,tix.kind with
    | .slice e es,.slice e' es'=>if e=e'/\es=es' then (match E.F d with
     | some false=>(match E.T e with
      | some te=>wB d es te (st.ev s) (st.ev x) st
      | none=>none)
     | some true=>(match E.T e with
      | some te=>aS d es te tix (st.ev s) (st.ev x) st
      | none=>none)
     | none=>rL d es (st.ev s) (st.ev x) st) else none
    | _,_=>none
   | _,_=>none
  | _,_,_=>none
 | _=>none
def bO (E:Env) (o:Oper) (st:St):Option St:=
 match o.op with
 | .makeSlice t l c=>match o.dst with
  | some d=>mkX E d t (st.ev l) (st.ev c) st
  | none=>none
 | .slice t x none (some hi) none=>match o.dst,E.T t with
  | some d,some ti=>match ti.kind with
   | .slice _ es=>dt d es (st.ev x) (st.ev hi) st
   | _=>none
  | _,_=>none
 | .slice t x (some lo) (some hi) none=>match o.dst,E.T t with
  | some d,some ti=>match ti.kind with
   | .slice _ es=>tv d es (st.ev x) (st.ev lo) (st.ev hi) st
   | _=>none
  | _,_=>none
 | .call { callee:=.builtin .clear,args,argTypes }=>match o.dst,args.toList,argTypes.toList with
  | none,[x],[t]=>match E.T t with
   | some ti=>match ti.kind with
    | .slice e es=>match E.T e with
     | some te=>sV es te (st.ev x) st
     | none=>none
    | _=>none
   | none=>none
  | _,_,_=>none
 | .call { callee:=.builtin .append,args,argTypes }=>match o.dst,args.toList,argTypes.toList with
  | some d,[s,x],[t,tx]=>match E.T t,E.T tx with
   | some ti,some tix=>match ti.kind with
    | .slice e es=>match E.T e with
     | some te=>aS d es te tix (st.ev s) (st.ev x) st
     | none=>none
    | _=>none
   | _,_=>none
  | _,_,_=>none
 | .call { callee:=.builtin .copy,args,argTypes }=>match args.toList,argTypes.toList with
  | [s,x],[t,tx]=>match E.T t,E.T tx with
   | some ti,some tix=>match ti.kind,tix.kind with
    | .slice e es,.slice e' es'=>if e=e'/\es=es' then ic o.dst es (st.ev s) (st.ev x) st else none
    | _,_=>none
   | _,_=>none
  | _,_=>none
 | .call { callee:=.builtin .cap,args,argTypes }=>match args.toList,argTypes.toList with
  | [x],[t]=>match E.T t with
   | some ti=>match ti.kind with
    | .slice _ _=>match eP st (st.ev x) with
     | some n=>some (st.put o.dst (.val (.int .i64 (n:Nat))))
     | none=>none
    | _=>none
   | none=>none
  | _,_=>none
 | _=>none
def exe (E:Env) (o:Oper) (st:St):Option St:=
 match lK E o st with
 | some s=>some s
 | none=>match lq E o st with
  | some s=>some s
  | none=>bO E o st
def fv (E:Env) (ops:Array Oper) (o:Oper) (st:St):Option St:=
 match o.guard with
 | none=>exe E o st
 | some (j,want)=>match (ops[j]?).bind (·.dst) with
  | some t=>match st.tmps[t]? with
   | some (.val (.bool b))=>if b=want then exe E o st else some (st.put o.dst (.val undef))
   | some (.val (.tuple _))=>some (st.put o.dst (.val undef))
   | _=>none
  | none=>none
def rO (E:Env) (ops:Array Oper):List Oper->St->Option St
 | [],st=>some st
 | o::l,st=>match fv E ops o st with
  | some st'=>rO E ops l st'
  | none=>none
section
variable {X:Ctx} {m:Nat->aq->Value} {st:St} {a:Act} {w:World} {P:Program}
theorem jx {o:Oper} {u:Value} {w':World} (h:(execOp a.eval o).run P w=.ok (.value u) w') {K:Act->World->Prop} {Q:Exit->Act->World->Prop} (hk:K (a.put o.dst u) w'):o.wp P a w K Q:=by
 unfold Oper.wp;rw [h,Oper.upon_value];exact hk
theorem W8 {E:Env} (hT:TOk P E) (hG:GOk P E) (H:Inv X st a w) {o:Oper} {st':St} (h:lq E o st=some st') {K:Act->World->Prop} {Q:Exit->Act->World->Prop} (hk:∀ a' w',Inv X st' a' w'->K a' w'):o.wp P a w K Q:=by
 obtain ⟨m,H⟩:=H;have quiet:∀ op,o.op=op->eH o st (qop E st op)=some st'->o.wp P a w K Q:=by
  intro op hop hp;cases hq:qop E st op with
  | none=>simp [hq,eH] at hp
  | some c=>
   simp only [hq,eH,abx] at hp;subst hp;obtain ⟨v,e1,d,e2⟩:=P9 hT H (o:=o) (by rw [hop]; exact hq);exact jx e1 (hk _ _ ⟨m,H.put o.dst e2⟩)
 unfold lq at h;split at h
 ·rename_i t hop;split at h
  ·rename_i d ti hd hti;simp only [abx] at h;subst h;obtain ⟨u,w',e1,m',e2⟩:=Vt hT H (hT t ti hti) d;refine jx (u:=u) (w':=w') ?_ (hk _ _ ⟨m',by rw [hd]; exact e2⟩);simp [execOp,hop,e1]
  ·simp at h
 ·rename_i t x hop;split at h
  ·rename_i d ti hd hti;obtain ⟨u,w',e1,m',e2⟩:=Ys hT H (hT t ti hti) h;refine jx (u:=u) (w':=w') ?_ (hk _ _ ⟨m',by rw [hd]; exact e2⟩);simp [execOp,hop,e1]
  ·simp at h
 ·rename_i t len parts hop;split at h
  ·rename_i d ti hd hti;obtain ⟨u,w',e1,m',e2,_⟩:=G1 hT H (hT t ti hti) h;refine jx (u:=u) (w':=w') ?_ (hk _ _ ⟨m',by rw [hd]; exact e2⟩);simp only [execOp,hop,Sem.run_bind,e1,Result.andThen_ok,Sem.run_pure]
  ·simp at h
 ·rename_i t x v hop;split at h
  ·rename_i ti hd hti;obtain ⟨w',e1,m',e2⟩:=V0 (E:=E) H (hT t ti hti) (bw H x) (bw H v) h;unfold Oper.wp;have hrun:(execOp a.eval o).run P w=.ok .skip w':=by simp [execOp,hop,e1]
   rw [hrun,Oper.upon_skip,hd];exact hk _ _ ⟨m',e2⟩
  ·simp at h
 ·rename_i c hop;split at h
  ·rename_i hcal;split at h
   ·rename_i d s x t tx hd hargs htys;split at h
    ·rename_i ti tix hti htix;split at h
     ·rename_i e es e' es' hk1 hk2;split at h
      ·rename_i he;obtain ⟨rfl,rfl⟩:=he;obtain ⟨u,w',e1,m',e2,_⟩:=NB (ty:=o.type) hT H (args:=c.args) (argTypes:=c.argTypes) (s:=s) (x:=x) (t:=t) (tx:=tx) (by rw [<-hargs]) (by rw [<-htys]) hti htix (by rw [hk1,hk2]) h;refine jx (u:=u) (w':=w') ?_ (hk _ _ ⟨m',by rw [hd]; exact e2⟩);obtain ⟨callee,cargs,ctys⟩:=c;simp only at hcal;subst hcal;simp only [execOp,hop,resolve,Sem.run_bind,Sem.run_pure,Result.andThen_ok,invoke,builtin,e1]
      ·simp at h
     ·simp at h
    ·simp at h
   ·simp at h
  ·exact quiet _ hop h
  ·rename_i hb1 hb2;unfold Jf at h;split at h
   ·rename_i d f args hd hct;split at h
    ·rename_i hdH;unfold Gv at h;split at h
     ·rename_i fl hfl;exact Oper.wp_mono (fun a' w' h'=>hk a' w' h') (Wo hG H hop hd hct hfl h hdH)
     split at h
     ·rename_i fs hfs;split at h
      ·rename_i hown;split at h
       ·rename_i cs hsn;split at h
        ·rename_i hpv;split at h
         ·rename_i r hr;simp only [abx] at h;subst h;exact Oper.wp_mono (fun a' w' h=>hk a' w' ⟨h.choose,h.choose_spec.1⟩) (Sf hG H hop hd hct hfs hown hsn hpv hr hdH)
         ·simp at h
        ·exact Oper.wp_mono (fun a' w' h'=>hk a' w' h') (Rm hG H hop hd hct hfs hown h hdH)
       ·simp at h
      ·split at h
       ·rename_i hpk;exact Oper.wp_mono (fun a' w' h'=>hk a' w' h') (Xr hG H hop hd hct hfs hpk h)
       ·exact Oper.wp_mono (fun a' w' h'=>hk a' w' (let ⟨m',h1,_⟩:=h'; ⟨m',h1⟩)) (LX hG H hop hd hct hfs h)
     ·simp at h
    ·simp at h
   ·simp at h
 ·exact quiet _ rfl h
theorem Xp {E:Env} (hT:TOk P E) (H:Inv X st a w) {o:Oper} {st':St} (h:lK E o st=some st') {K:Act->World->Prop} {Q:Exit->Act->World->Prop} (hk:∀ a' w',Inv X st' a' w'->K a' w'):o.wp P a w K Q:=by
 obtain ⟨m,H⟩:=H;unfold lK at h;split at h
 case h_2=>simp at h
 rename_i cargs ctys hop;split at h
 case h_2=>simp at h
 rename_i d s x t tx hd hargs htys;split at h
 case h_2=>simp at h
 rename_i ti tix hti htix;split at h
 case h_2=>simp at h
 rename_i e es e' es' hk1 hk2;split at h
 case isFalse=>simp at h
 rename_i he;obtain ⟨rfl,rfl⟩:=he;obtain ⟨u,w',e1,m',e2⟩:∃ u w',(Builtin.append_ #[t,tx] o.type #[a.eval s,a.eval x]).run P w=.ok u w'/\∃ m',au X m' st' (a.put (some d) u) w':=by
  cases hF:E.F d with
  | some b=>
   cases b with
   | false=>
    simp only [hF] at h;split at h
    case h_2=>simp at h
    rename_i te hte;exact O1 (ty:=o.type) hT H (hT t ti hti) (hT tx tix htix) hk1 hk2 (hT e te hte) (bw H s) (bw H x) h
   | true=>
    simp only [hF] at h;split at h
    case h_2=>simp at h
    rename_i te hte;exact Dn (ty:=o.type) hT H (hT t ti hti) (hT tx tix htix) hk1 (hT e te hte) (bw H s) (bw H x) h
  | none=>
   simp only [hF] at h;exact Of (ty:=o.type) hT H (hT t ti hti) (hT tx tix htix) hk1 hk2 (bw H s) (bw H x) h
 refine jx (u:=u) (w':=w') ?_ (hk _ _ ⟨m',by rw [hd]; exact e2⟩);have ha:cargs=#[s,x]:=by rw [<-hargs]
 have hty:ctys=#[t,tx]:=by rw [<-htys]
 subst ha; subst hty;simp [execOp,hop,resolve,invoke,builtin,e1]
theorem W0 {E:Env} (hT:TOk P E) (H:Inv X st a w) {o:Oper} {st':St} (h:bO E o st=some st') {K:Act->World->Prop} {Q:Exit->Act->World->Prop} (hk:∀ a' w',Inv X st' a' w'->K a' w'):o.wp P a w K Q:=by
 obtain ⟨m,H⟩:=H;unfold bO at h;split at h
 ·rename_i t l c hop;split at h
  case h_2=>simp at h
  rename_i d hd;unfold mkX at h;split at h
  case h_2=>simp at h
  rename_i ti hti;split at h
  case h_2=>simp at h
  rename_i e es hk1;split at h
  case h_2=>simp at h
  rename_i te hte;obtain ⟨u,w',e1,m',e2⟩:=WU hT H (hT t ti hti) hk1 (hT e te hte) (bw H l) (bw H c) h;refine jx (u:=u) (w':=w') ?_ (hk _ _ ⟨m',by rw [hd]; exact e2⟩);simp [execOp,hop,e1]
 ·rename_i t x hi hop;split at h
  case h_2=>simp at h
  rename_i d ti hd hti;split at h
  case h_2=>simp at h
  rename_i e es hk1;obtain ⟨u,e1,m',e2⟩:=Tz H (hT t ti hti) hk1 (bw H x) (bw H hi) h;refine jx (u:=u) (w':=w) ?_ (hk _ _ ⟨m',by rw [hd]; exact e2⟩);simp [execOp,hop,e1]
 ·rename_i t x lo hi hop;split at h
  case h_2=>simp at h
  rename_i d ti hd hti;split at h
  case h_2=>simp at h
  rename_i e es hk1;obtain ⟨u,e1,m',e2⟩:=Rr H (hT t ti hti) hk1 (bw H x) (bw H lo) (bw H hi) h;refine jx (u:=u) (w':=w) ?_ (hk _ _ ⟨m',by rw [hd]; exact e2⟩);simp [execOp,hop,e1]
 ·rename_i cargs ctys hop;split at h
  case h_2=>simp at h
  rename_i x t hd hargs htys;split at h
  case h_2=>simp at h
  rename_i ti hti;split at h
  case h_2=>simp at h
  rename_i e es hk1;split at h
  case h_2=>simp at h
  rename_i te hte;obtain ⟨u,w',e1,m',e2⟩:=Vm (E:=E) (ty:=o.type) H (hT t ti hti) hk1 (hT e te hte) (bw H x) h;refine jx (u:=u) (w':=w') ?_ (hk _ _ ⟨m',by rw [hd]; exact e2⟩);have ha:cargs=#[x]:=by rw [<-hargs]
  have hty:ctys=#[t]:=by rw [<-htys]
  subst ha; subst hty;simp [execOp,hop,resolve,invoke,builtin,e1]
 ·rename_i cargs ctys hop;split at h
  case h_2=>simp at h
  rename_i d s x t tx hd hargs htys;split at h
  case h_2=>simp at h
  rename_i ti tix hti htix;split at h
  case h_2=>simp at h
  rename_i e es hk1;split at h
  case h_2=>simp at h
  rename_i te hte;obtain ⟨u,w',e1,m',e2⟩:=Dn (ty:=o.type) hT H (hT t ti hti) (hT tx tix htix) hk1 (hT e te hte) (bw H s) (bw H x) h;refine jx (u:=u) (w':=w') ?_ (hk _ _ ⟨m',by rw [hd]; exact e2⟩);have ha:cargs=#[s,x]:=by rw [<-hargs]
  have hty:ctys=#[t,tx]:=by rw [<-htys]
  subst ha; subst hty;simp [execOp,hop,resolve,invoke,builtin,e1]
 ·rename_i cargs ctys hop;split at h
  case h_2=>simp at h
  rename_i s x t tx hargs htys;split at h
  case h_2=>simp at h
  rename_i ti tix hti htix;split at h
  case h_2=>simp at h
  rename_i e es e' es' hk1 hk2;split at h
  case isFalse=>simp at h
  rename_i he;obtain ⟨rfl,rfl⟩:=he;obtain ⟨u,w',e1,m',e2⟩:=XB (ty:=o.type) hT H (hT t ti hti) (hT tx tix htix) hk1 hk2 (bw H s) (bw H x) h;refine jx (u:=u) (w':=w') ?_ (hk _ _ ⟨m',e2⟩);have ha:cargs=#[s,x]:=by rw [<-hargs]
  have hty:ctys=#[t,tx]:=by rw [<-htys]
  subst ha; subst hty;simp [execOp,hop,resolve,invoke,builtin,e1]
 ·rename_i cargs ctys hop;split at h
  case h_2=>simp at h
  rename_i x t hargs htys;split at h
  case h_2=>simp at h
  rename_i ti hti;split at h
  case h_2=>simp at h
  rename_i e es hk1;split at h
  case h_2=>simp at h
  rename_i n hroom;simp only [abx] at h;subst h;obtain ⟨ad,len,hv⟩:=N7 H (bw H x) hroom;obtain ⟨dsc,hu,_,hkd⟩:=(hT t ti hti).und;rw [hk1] at hkd;obtain ⟨rfl,_⟩:=hkd;refine jx (u:=.int .i64 (n:Nat)) (w':=w) ?_ (hk _ _ ⟨m,H.put o.dst (k:=1) rfl⟩);have ha:cargs=#[x]:=by rw [<-hargs]
  have hty:ctys=#[t]:=by rw [<-htys]
  subst ha; subst hty;simp [execOp,hop,resolve,invoke,builtin,Builtin.cap_,hv,run_underlying hu,goInt]
 ·simp at h
theorem Uq {E:Env} (hT:TOk P E) (hG:GOk P E) (H:Inv X st a w) {o:Oper} {st':St} (h:exe E o st=some st') {K:Act->World->Prop} {Q:Exit->Act->World->Prop} (hk:∀ a' w',Inv X st' a' w'->K a' w'):o.wp P a w K Q:=by
 unfold exe at h;split at h
 ·rename_i s hs;simp only [abx] at h;subst h;exact Xp hT H hs hk
 ·split at h
  ·rename_i s hs;simp only [abx] at h;subst h;exact W8 hT hG H hs hk
  ·exact W0 hT H h hk
theorem Fu {E:Env} (hT:TOk P E) (hG:GOk P E) (H:Inv X st a w) {ops:Array Oper} {i:Nat} {o:Oper} (ho:ops[i]?=some o) {st':St} (h:fv E ops o st=some st') {K:Act->World->Prop} {Q:Exit->Act->World->Prop} (hk:∀ a' w',Inv X st' a' w'->K a' w'):wpOp P ops Q i K a w:=by
 unfold wpOp;rw [ho];simp only;unfold fv at h;split at h
 ·rename_i hg;have:Region.wanted o (yielded ops a.tmps)=true:=by simp [Region.wanted,hg]
  rw [if_pos this];exact .inl (Uq hT hG H h hk)
 ·rename_i j want hg;split at h
  case h_2=>simp at h
  rename_i t ht;obtain ⟨m,H⟩:=H;have hy:∀ c,st.tmps[t]?=some c->∃ u,a.tmps[t]?=some u/\aB X m st w c u:=by
   intro c hc;obtain ⟨u,d,h1,h2⟩:=H.tmp t c hc;exact ⟨u,h1,d,h2⟩
  split at h
  ·rename_i b hb;obtain ⟨u,h1,h2⟩:=hy _ hb;obtain rfl:=h2.of_val;have hyl:yielded ops a.tmps j=some b:=by simp [yielded,ht,h1]
   split at h
   ·rename_i hbw;have:Region.wanted o (yielded ops a.tmps)=true:=by simp [Region.wanted,hg,hyl,hbw]
    rw [if_pos this];exact .inl (Uq hT hG ⟨m,H⟩ h hk)
   ·rename_i hbw;simp only [abx] at h;subst h;have:¬ Region.wanted o (yielded ops a.tmps)=true:=by simp [Region.wanted,hg,hyl,hbw]
    rw [if_neg this];exact hk _ _ ⟨m,H.put o.dst (k:=1) (u:=undef) rfl⟩
  ·rename_i vs hb;obtain ⟨u,h1,h2⟩:=hy _ hb;obtain rfl:=h2.of_val;have hyl:yielded ops a.tmps j=none:=by simp [yielded,ht,h1]
   simp only [abx] at h;subst h;have:¬ Region.wanted o (yielded ops a.tmps)=true:=by simp [Region.wanted,hg,hyl]
   rw [if_neg this];exact hk _ _ ⟨m,H.put o.dst (k:=1) (u:=undef) rfl⟩
  ·simp at h
theorem XT {E:Env} (hT:TOk P E) (hG:GOk P E) {ops:Array Oper} {Q:Exit->Act->World->Prop}:∀ (l:List Oper) (k:Nat) {st st':St} {a:Act} {w:World},Inv X st a w->(∀ j,l[j]?=ops[k+j]?)->rO E ops l st=some st' ->
  (∀ a' w',Inv X st' a' w'->Q .normal a' w')->wpOps P ops Q (List.range' k l.length) a w:=by
 intro l
 induction l with
 | nil=>
  intro k st st' a w H _ h hq;simp only [rO,abx] at h;subst h;exact hq _ _ H
 | cons o l ih=>
  intro k st st' a w H hl h hq;simp only [rO] at h;split at h
  ·rename_i st1 h1;simp only [abW,adT];rw [wpOps_cons];refine Fu hT hG H (by have:=hl 0; simpa using this.symm) h1 ?_;intro a' w' H';exact ih (k+1) H' (fun j=>by have:=hl (j+1); rw [ab8] at this; rw [this]; congr 1; omega) h hq
  ·simp at h
end
end Go.Abs
