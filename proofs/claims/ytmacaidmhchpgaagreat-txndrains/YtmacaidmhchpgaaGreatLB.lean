/- Plain facts on the models; no program in sight. -/
import Derived.Test.YtmacaidmhchpgaaGreatM
import Derived.Test.YtmacaidmhchpgaaGreatLA
set_option linter.defProp false
set_option linter.unusedSimpArgs false
set_option linter.unusedVariables false
namespace Go.Proofs.YtmacaidmhchpgaaGreat
open Go Go.Proofs Go.Abs
def KX (N:Nat) (hN:200<=N) {t0:ae} (kx:List Txn->List ai->List aa->Bool->Option Bool) {x:Txn} (hx:x∈t0.Txns):∀ (ps:List Ref) (v:Nat) (u:ae) (b:Bool),TV u->u.Txns=t0.Txns->mu u<=mu t0->(b=true->mu u < mu t0)->(b=false->u=t0)->(∀ a∈ps,∃ c∈x.Calls,c.Target=a) ->
  ∃ u' b',gh kx N x ps v (u.Txns,u.Locks,u.Stacks,b)=kx u'.Txns u'.Locks u'.Stacks b'/\TV u'/\(b'=true->mu u' < mu t0)/\(b=true->b'=true)/\(b'=false->u'=t0/\∀ a∈ps,x.Done=x.Calls.length->dF t0 a x.ID)
 | [],v,u,b,h,ht,hm,h1,h2,_=>⟨u,b,by rw [gh],h,h1,fun q=>q,fun q=>⟨h2 q,by simp⟩⟩
 | a::ps,v,u,b,h,ht,hm,h1,h2,hp=>by
  have hxu:x∈u.Txns:=by rw [ht]; exact hx
  rw [gh,show (⟨u.Txns,u.Locks,u.Stacks⟩:ae)=u from rfl];cases FZ N hN h x.ID a with
  | no e he hq hh=>
   rw [hh,cc,if_neg he];obtain ⟨u',b',g1,g2,g3,g5,g4⟩:=KX N hN kx hx ps (v+1) u b h ht hm h1 h2 fun c hc=>hp c (by simp [hc]);refine ⟨u',b',g1,g2,g3,g5,fun q=>⟨(g4 q).1,fun c hc hd=>?_⟩⟩;rcases cF.1 hc with rfl|hc
   ·rcases hq x hxu rfl with g|g|g
    ·omega
    ·exact (g (hp c (by simp))).elim
    ·have hb:b=false:=by
      cases hb:b with
      | false=>rfl
      | true=>rw [g5 hb] at q; cases q
     rw [h2 hb] at g; exact g
   ·exact (g4 q).2 c hc hd
  | ok hx2 hn hd ha hj hsa hy hyn hpf hh hT=>
   rename_i x2 j s y;have hxe:x2=x:=h.tx.uniq hx2 hxu hn;subst hxe;have hno:¬ dF u a x2.ID:=by
    have:=Pk h (cg hj) (cg hy) hpf;rw [hsa,hyn] at this; exact this
   have hmu:=(X2 (L:=(ml u.Locks (pa u.Locks a)).1) hxu ha hno hj hsa hy hyn).1;rw [hh,cc,if_pos rfl];obtain ⟨u',b',g1,g2,g3,g5,g4⟩:=KX N hN kx hx ps (v+1) ⟨u.Txns,(ml u.Locks (pa u.Locks a)).1,zk u.Stacks j s y⟩ true hT ht (by omega) (fun _=>by omega) (fun q=>by cases q) fun c hc=>hp c (by simp [hc]);exact ⟨u',b',g1,g2,g3,fun _=>g5 rfl,fun q=>by rw [g5 rfl] at q; cases q⟩
def Ku (u:ae) (x:Txn):Prop:=(x.Done < x.Calls.length/\∃ k∈u.Locks,x.ID < k.Owner)∨(x.Done=x.Calls.length/\∀ c∈x.Calls,dF u c.Target x.ID)
theorem VZ {t L:List ai} (h:VT t) {a:Ref} {n:Int} (ha:acq t a n=(L,2,0)):(∃ k∈L,n < k.Owner)/\∀ k∈t,∃ k'∈L,k'.Owner=k.Owner:=by
 have hA:=Lu h a n;rw [ha] at hA;cases hA with
 | old hk _ ho _=>exact ⟨⟨_,hk,ho⟩,fun k hk=>⟨k,hk,rfl⟩⟩
 | @wait i k hi _ ho _=>
  refine ⟨⟨_,cg (xo (cd.1 hi).1),ho⟩,fun k' hk'=>?_⟩;obtain ⟨j,hj⟩:=cC hk';by_cases q:j=i
  ·subst q;rw [hi] at hj;cases hj;exact ⟨_,cg (xo (cd.1 hi).1),rfl⟩
  ·exact ⟨k',cg (i:=j) (by rw [nW (fun e=>q e.symm)]; exact hj),rfl⟩
def WO {t:ae} (h:TV t) {i:Nat} {x:Txn} {c:ah} (hx:Nx t i x c):acq t.Locks c.Target x.ID≠([],0,5):=by
 intro e;have hA:=Lu h.lk c.Target x.ID;rw [e] at hA;generalize hq:(([]:List ai),(0:Int),(5:Int))=q at hA;cases hA with
 | full hk _ _ hw hl=>exact VD h (AO hx.hi) hk hw hl
 | many hn hl=>exact Tx h hx hn hl
 | _=>simp at hq
def PI (N:Nat) (hN:100002<=N) (kx:List Txn->List ai->List aa->Option Bool):∀ (k v:Nat) (u:ae),TV u->33 < k+v->v<=u.Txns.length->(∀ j x,j < v->u.Txns[j]?=some x->Ku u x) ->
  ∃ t',fa N kx k (u.Txns,u.Locks,u.Stacks,(v:Int))=kx t'.Txns t'.Locks t'.Stacks/\TV t'/\(mu t' < mu u∨(mu t'<=mu u/\∀ x∈t'.Txns,Ku t' x))
 | 0,v,u,h,hk,hv,_=>by have:=h.tx.len; omega
 | k+1,v,u,h,hk,hv,hI=>by
  have hlen:=h.tx.len;rw [fa];by_cases q:v < u.Txns.length
  ·have hxv:=cq q;generalize u.Txns[v]=x at hxv;have hxm:=cg hxv;have hX:=(h.tx.x x hxm).1;have hnext:∀ (u':ae),TV u'->u'.Txns=u.Txns->(∀ y∈u.Txns,Ku u y->Ku u' y)->mu u'<=mu u->Ku u' x ->
     ∃ t',fa N kx k (u'.Txns,u'.Locks,u'.Stacks,IntKind.i64.wrap ((v:Int)+1))=kx t'.Txns t'.Locks t'.Stacks/\TV t'/\(mu t' < mu u∨(mu t'<=mu u/\∀ x∈t'.Txns,Ku t' x)):=by
    intro u' h' ht hid hm hx;obtain ⟨t',g1,g2,g3⟩:=PI N hN kx k (v+1) u' h' (by omega) (by rw [ht]; omega) fun j y hj hy=>by
     rw [ht] at hy;by_cases e:j=v
     ·subst e; rw [hxv] at hy; cases hy; exact hx
     ·exact hid y (cg hy) (hI j y (by omega) hy)
    rw [w64 (by omega) (by omega)];exact ⟨t',g1,g2,g3.elim (fun a=>.inl (by omega)) fun a=>.inr ⟨by have:=a.1; omega,a.2⟩⟩
   rw [if_pos (by omega),aN hxv,show (⟨u.Txns,u.Locks,u.Stacks⟩:ae)=u from rfl];rcases Gv N h x.ID with ⟨i,x',c,hx,hn,e⟩|⟨⟨c,e⟩,hq⟩
   ·have hxe:x'=x:=h.tx.uniq (cg hx.hi) hxm hn;subst hxe;rw [e,cc,if_pos rfl];cases Li N (by omega) h x'.ID with
    | no e he hq hh=>
     exfalso;rcases hq with hq|⟨i2,x2,c2,hx2,hn2,ha⟩
     ·have:=hq x' hxm rfl; have:=hx.dn; omega
     ·rw [<-hn2] at ha;exact WO h hx2 ha
    | got hx2 hn2 ho ha hh=>
     rename_i i2 x2 c2 L o;have hxe:x2=x':=h.tx.uniq (cg hx2.hi) hxm hn2;subst hxe;obtain ⟨hT,hown⟩:=Qd h hx2 ha;rw [hh,cc,if_pos rfl];rcases ho with rfl|rfl
     ·obtain ⟨k2,hk2,hka,hko⟩:=hown rfl;have hE:=Qm hx2 hk2 hka hko;obtain ⟨A,B,lay,hS,h1,h2⟩:=Qj N (by omega) hT hE (f:=[]) (r:=⟨0,0,⟨#[]⟩,[],[]⟩) rfl Cu;rw [if_neg (by simp),if_pos rfl,h1,cc,if_pos rfl,lF];exact ⟨_,rfl,h2,.inl (X6 hT hE hS)⟩
     ·obtain ⟨hw1,hw2⟩:=VZ h.lk ha;rw [if_pos rfl];refine hnext ⟨u.Txns,L,u.Stacks⟩ hT rfl (fun y hy g=>?_) (cr _) (.inl ⟨hx2.dn,hw1⟩);rcases g with ⟨g1,k3,g2,g3⟩|g
      ·obtain ⟨k4,g4,g5⟩:=hw2 k3 g2;exact .inl ⟨g1,k4,g4,by omega⟩
      ·exact .inr g
    | died hx2 hn2 hk2 hka ho hh hT hD=>
     rename_i i2 x2 c2 k2 D;have hxe:x2=x':=h.tx.uniq (cg hx2.hi) hxm hn2;subst hxe;rw [hh,cc,if_pos rfl,if_neg (by simp),if_neg (by simp),lF];exact ⟨_,rfl,hT,.inl ((VH (t:=u) (t':=abT u D) rfl rfl).2 x2 hxm hD.me hx2.dn hX.d1)⟩
   ·have hdone:=hq x hxm rfl;rw [e,cc,if_neg (by simp),YC N h hxm,cc];obtain ⟨ps,p1,_,p3⟩:=uT N hN hX.c1 hX.c2;rw [p1,cc];obtain ⟨u',b',g1,g2,g3,_,g4⟩:=KX N (by omega) (t0:=u) (qm kx (fa N kx k) (v:Int)) hxm ps 0 u false h rfl (cr _) (fun q=>by cases q) (fun _=>rfl) fun a ha=>(p3 a).1 ha;rw [g1,qm];cases b' with
    | true=>rw [if_pos rfl]; exact ⟨u',rfl,g2,.inl (g3 rfl)⟩
    | false=>
     obtain ⟨rfl,g5⟩:=g4 rfl;rw [if_neg (by simp)];exact hnext u' h rfl (fun _ _ g=>g) (cr _) (.inr ⟨hdone,fun c hc=>g5 _ ((p3 _).2 ⟨c,hc,rfl⟩) hdone⟩)
  ·rw [if_neg (by omega)];refine ⟨u,rfl,h,.inr ⟨cr _,fun x hx=>?_⟩⟩;obtain ⟨j,hj⟩:=cC hx;have:=(cd.1 hj).1;exact hI j x (by omega) hj
def V3 (t:ae):Prop:=∀ x∈t.Txns,x.Done=x.Calls.length/\∀ c∈x.Calls,dF t c.Target x.ID
def Wm {t:ae} (h:TV t) (hI:∀ x∈t.Txns,Ku t x):V3 t:=by
 have key:∀ (d i:Nat) (x:Txn),t.Txns[i]?=some x->t.Txns.length<=i+d->x.Done=x.Calls.length/\∀ c∈x.Calls,dF t c.Target x.ID:=by
  intro d
  induction d with
  | zero=>intro i x hi hd; have:=(cd.1 hi).1; omega
  | succ d ih=>
   intro i x hi hd;rcases hI x (cg hi) with ⟨_,k,hk,hlt⟩|g
   ·exfalso;have hp:=h.lp k hk;obtain ⟨y,hy,e⟩:=cE.1 hp.ow;obtain ⟨j,hj⟩:=cC hy;have hij:i < j:=by
     have hso:=na.1 h.tx.so;obtain ⟨g1,g2⟩:=cd.1 hi;obtain ⟨g3,g4⟩:=cd.1 hj;rcases xi i j with q|q|q
     ·exact q
     ·subst q; rw [g2] at g4; subst g4; omega
     ·have:=hso j i g3 g1 q; rw [g2,g4] at this; omega
    obtain ⟨y1,y2⟩:=ih j y hj (by omega);obtain ⟨s,hs,ha,z,hz,hn,hpz⟩:=hp.dn y hy e y1;obtain ⟨c,hc,hct⟩:=((h.st s hs).ex z hz y hy hn.symm).1;have:=Pk h hs hz hpz;rw [hn,<-hct] at this;exact this (y2 c (nB hc))
   ·exact g
 intro x hx;obtain ⟨i,hi⟩:=cC hx;exact key t.Txns.length i x hi (by omega)
def Oo {id:Int}:∀ {l:List al} {c:Bool},(∀ z∈l,z.Txn_≠id)->ug id [] l c=true
 | [],_,_=>rfl
 | y::l,c,h=>by
  rw [ug,if_neg fun q=>h y (by simp) q.1];exact Oo fun z hz=>h z (by simp [hz])
def Tn {t:ae} (h:TV t) (hP:V3 t) (hne:t.Txns≠[]):∃ x∈t.Txns,zz t x:=by
 obtain ⟨r,hr⟩:=h.ac;obtain ⟨x0,hx0⟩:=adb _ hne;obtain ⟨k,⟨x,hx,rfl⟩,hmin⟩:=U4 (fun k=>∃ x∈t.Txns,r x.ID=k) ⟨_,x0,hx0,rfl⟩;refine ⟨x,hx,(hP x hx).1,(hP x hx).2,?_⟩;unfold zQ;rw [cn];intro s hs;have hR:=hr s hs;have hS:=h.st s hs;unfold Rk at hR;cases hl:s.Layers with
 | nil=>rfl
 | cons y l=>
  rw [hl] at hR;rw [ug,if_neg (by simp)];refine Oo fun z hz e=>?_;have h1:=adB hR hz;obtain ⟨w,hw,he⟩:=cE.1 (hS.id y (by rw [hl]; simp));have h2:=hmin _ ⟨w,hw,rfl⟩;rw [he] at h2;rw [e] at h1;omega
def Xg {t t':ae} {D:List Int} (hs:t'.Stacks=C9 D t.Stacks) {a:Ref} {n:Int} (hn:mB D n=true) (h:dF t a n):dF t' a n:=by
 obtain ⟨s,hs',ha,z,hz,hzn,hzp⟩:=h;have hm:z∈(zP D s).Layers:=nI.2 ⟨hz,by rw [hzn]; exact hn⟩;exact ⟨zP D s,by rw [hs]; exact AP.2 ⟨s,hs',rfl,adh hm⟩,ha,z,hm,hzn,hzp⟩
def Zs {N:Nat} {t t':ae} {cs:List aD} (h:Res N t t' cs):mu t'<=mu t:=by
 induction h with
 | nil=>exact cr _
 | @cons t t' cs x ps ws hx hr hp hw hT rest ih=>exact nu ih (VH (t:=t) (t':=yP t [x.ID]) rfl rfl).1
def XY {N:Nat} {t t':ae} {cs:List aD} (h:Res N t t' cs) (hT:TV t) (hP:V3 t):t'.Txns=[]:=by
 induction h with
 | @nil t hno=>
  cases hl:t.Txns with
  | nil=>rfl
  | cons y l=>
   obtain ⟨x,hx,hr⟩:=Tn hT hP (by rw [hl]; simp);exact (hno x hx hr).elim
 | @cons t t' cs x ps ws hx hr hp hw hT' rest ih=>
  refine ih hT' fun y hy=>?_;obtain ⟨h1,h2⟩:=nI.1 hy;exact ⟨(hP y h1).1,fun c hc=>Xg rfl h2 ((hP y h1).2 c hc)⟩
theorem Xm {t:ae} (h:TV t) (ht:t.Txns=[]):lK t.Txns t.Locks t.Stacks=some true:=by
 have hids:ids t=[]:=by simp [ids,ht]
 have h1:t.Locks=[]:=by
  cases hl:t.Locks with
  | nil=>rfl
  | cons k l=>have:=(h.lp k (by rw [hl]; simp)).ow; rw [hids] at this; cases this
 have h2:t.Stacks=[]:=by
  cases hl:t.Stacks with
  | nil=>rfl
  | cons s l=>
   have hS:=h.st s (by rw [hl]; simp);cases hy:s.Layers with
   | nil=>exact (hS.ne hy).elim
   | cons y l'=>have:=hS.id y (by rw [hy]; simp); rw [hids] at this; cases this
 rw [ht,h1,h2];rfl
def QE (N:Nat) (hN:100002<=N):∀ (k v:Nat) (u:ae),TV u->400 < k+v->(u.Txns=[]∨mu u+v<=256)->v<=300->gb N lK k (u.Txns,u.Locks,u.Stacks,(v:Int))=some true
 | 0,v,u,_,hk,_,hv=>by omega
 | k+1,v,u,h,hk,hm,hv=>by
  have hl:=h.tx.len;rw [gb,if_pos (by omega),qb];by_cases q:u.Txns=[]
  ·rw [if_neg (by simp [q])];exact Xm h q
  ·have hpos:0 < u.Txns.length:=xy.2 q;have hm:=hm.resolve_left q;obtain ⟨t',g1,g2,g3⟩:=PI N hN (qk N (gb N lK k) (v:Int)) N 0 u h (by omega) (by omega) (fun j x hj=>by omega);obtain ⟨t2,cs,r1,r2,r3⟩:=Gm N hN g2;rw [if_pos (by simp; omega),qH];refine g1.trans ?_;rw [qk,show (⟨t'.Txns,t'.Locks,t'.Stacks⟩:ae)=t' from rfl,r1,cc,w64 (by omega) (by omega)];have hmu:=Zs r3;refine QE N hN k (v+1) t2 r2 (by omega) ?_ (by omega);rcases g3 with g3|⟨_,g3⟩
   ·exact .inr (by omega)
   ·exact .inl (XY r3 g2 (Wm g2 g3))
def Mj (l:List Gt) (hw:∀ x∈l,U8C x):lZ 200000 l=some true:=by
 rw [lZ,Yi 200000 (by omega),cc,if_pos rfl];split
 ·rfl
 ·rename_i hlen;obtain ⟨t,c,e,h⟩:=W3 200000 (by omega) (l:=l) (by omega) hw;rw [e,cc];have:=ZV h;exact QE 200000 (by omega) 200000 0 t h (by omega) (.inr (by omega)) (by omega)
end Go.Proofs.YtmacaidmhchpgaaGreat
