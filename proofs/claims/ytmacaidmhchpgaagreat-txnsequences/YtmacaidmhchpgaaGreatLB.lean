/- Plain facts on the models; no program in sight. -/
import Derived.Test.YtmacaidmhchpgaaGreatLA
set_option linter.defProp false
set_option linter.unusedSimpArgs false
set_option linter.unusedVariables false
namespace Go.Proofs.YtmacaidmhchpgaaGreat
open Go Go.Proofs Go.Abs
def ac7(N:Nat)(hN:1001<=N){t:ae}(h:TV t){i:Nat}{x:Txn}{c:ah}(hx:Nx t i x c)(hno:∀k∈t.Locks,k.Actor≠c.Target)(hl:t.Locks.length<128):
  ∃L,iI N t x.ID=some (⟨t.Txns,L,t.Stacks⟩,1,[],0)/\TV ⟨t.Txns,L,t.Stacks⟩/\(∀l,l∈L↔l=⟨c.Target,x.ID,[]⟩∨l∈t.Locks)/\L.length<=t.Locks.length+1:=by
 have hu:∀{j:Nat} {y:Txn} {d:ah},Nx t j y d->y.ID=x.ID->y=x/\d=c:=fun hy e=>by
  have:=h.tx.uniq (cd hy.hi) (cd hx.hi) e;subst this;have:=hy.hc;rw[hx.hc]at this;simp only[cc]at this;exact⟨rfl,this.symm⟩
 have hacq:acq t.Locks c.Target x.ID=(t.Locks.take (pa t.Locks c.Target)++[⟨c.Target,x.ID,[]⟩]++t.Locks.drop (pa t.Locks c.Target),1,0):=by
  have hh:¬qb t.Locks c.Target=true:=fun q=>by
   obtain⟨k,hk,ha⟩:=qL q;exact hno k (cd hk) ha
  rw[acq,if_neg hh,if_neg oZg]
 cases Wt N hN h x.ID with
 | no e he hq g=>
  exfalso;rcases hq with hq|⟨j,y,d,hy,hyi,hq⟩
  .have:=hq x (cd hx.hi) rfl;have:=hx.dn;omega
  .obtain⟨_,rfl⟩:=hu hy hyi;rw[hacq]at hq;simp at hq
 | @got j y d L o hy hyi ho ha g=>
  obtain⟨rfl,rfl⟩:=hu hy hyi;rw[hacq]at ha;simp only[cP,and_true]at ha;obtain⟨rfl,rfl⟩:=ha;refine⟨_,g,(abY h hx hacq).1,fun l=>?_,oZd⟩;have e:(l∈t.Locks)↔(l∈t.Locks.take (pa t.Locks d.Target)∨l∈t.Locks.drop (pa t.Locks d.Target)):=by rw[<-cJ,xe]
  rw[e];simp only[cJ,cK];constructor
  .rintro((q|q)|q)
   .exact .inr (.inl q)
   .exact .inl q
   .exact .inr (.inr q)
  .rintro(q|q|q)
   .exact .inl (.inr q)
   .exact .inl (.inl q)
   .exact .inr q
 | died hy hyi hk hka ho g hT hD=>
  exfalso;obtain⟨_,rfl⟩:=hu hy hyi;exact hno _ hk hka
def Ez{t:ae}(h:TV t){l:ai}(hl:l∈t.Locks){x:Txn}(hx:x∈t.Txns)(e:x.ID=l.Owner)(hd:x.Done=x.Calls.length):¬eK t l.Actor x.ID:=by rintro⟨s',g1,g2,y',g3,g4,g5⟩;obtain⟨s,hs,ha,y,hy,hn,hp⟩:=(h.lp l hl).dn x hx e hd;have h1:=qd 0 h.ss h.ac hs ha hy hn;rw[qd 0 h.ss h.ac g1 g2 g3 g4]at h1;simp only[cc,cP,and_true]at h1;rw[h1,hp]at g5;cases g5
def ad3{t:ae}(h:TV t){x:Txn}(hx:x∈t.Txns)(hd:x.Done=x.Calls.length){c:ah}(hc:c∈x.Calls)(hno:∀l∈t.Locks,l.Actor=c.Target->l.Owner≠x.ID):eK t c.Target x.ID:=by
 obtain⟨s,hs,ha,y,hy,hn⟩:=h.pr x hx c (by rw[cT oZg];exact hc);cases hp:y.Prepared with
 | true=>exact⟨s,hs,ha,y,hy,hn,hp⟩
 | false=>
  obtain⟨j,hj⟩:=cC hy;obtain⟨_,k,hk,hka,hko⟩:=(h.st s hs).up j y hj hp;exact absurd (hko.trans hn) (hno k hk (hka.trans ha))
def rA:Ref:=⟨⟨#[65]⟩,⟨#[97]⟩⟩
def rB:Ref:=⟨⟨#[65]⟩,⟨#[98]⟩⟩
def cA:ah:=⟨rA,⟨#[109]⟩,[]⟩
def cB:ah:=⟨rB,⟨#[109]⟩,[]⟩
def rAB:rA≠rB:=fun e=>by have:=congrArg Ref.Key e;simp[rA,rB]at this
def adL:lO cA=true:=Oc (r:=rA) (by simp[JV,rA])
def agk:lO cB=true:=Oc (r:=rB) (by simp[JV,rB])
def x3(d:Int)(v:Value):Txn:=⟨3,0,⟨#[99]⟩,1,[cA,cB],d,v⟩
def x5(d:Int)(v:Value):Txn:=⟨5,0,⟨#[99]⟩,2,[cA],d,v⟩
def v0:Value:=⟨0,0,⟨#[]⟩,[],[]⟩
def vN(n:Int):Value:=⟨1,n,⟨#[]⟩,[],[]⟩
def OH(N:Nat)(hN:1001<=N){t:ae}(h:TV t){i:Nat}{x:Txn}{c:ah}(hx:Nx t i x c)(hno:∀k∈t.Locks,k.Actor≠c.Target)(hl:t.Locks.length<128)(n:Int):
  ∃L S,iI N t x.ID=some (⟨t.Txns,L,t.Stacks⟩,1,[],0)/\jy N ⟨t.Txns,L,t.Stacks⟩ x.ID [vN n] (vN n)=some (Dd ⟨t.Txns,L,t.Stacks⟩ i x (vN n) S,0)/\TV (Dd ⟨t.Txns,L,t.Stacks⟩ i x (vN n) S)/\Hr S c.Target x.ID [vN n]/\(∀l,l∈L↔l=⟨c.Target,x.ID,[]⟩∨l∈t.Locks)/\L.length<=t.Locks.length+1:=by
 obtain⟨L,h1,h2,h3,h4⟩:=ac7 N hN h hx hno hl;obtain⟨S,e1,e2,e3⟩:=Za N oZg h2 (abR hx ((h3 _).2 (.inl rfl)) rfl rfl) (f:=[vN n]) (r:=vN n) (by simp[mi,vN,Dz]) (Dz n);exact⟨L,S,h1,e1,e2,e3,h3,h4⟩
def ab2{S:List aa}{j:Nat}{s:aa}{y:aj}{a:Ref}{n:Int}{f:List Value}(h:Hr S a n f)(hj:S[j]?=some s)(hne:s.Actor≠a):Hr (VR S j s y) a n f:=by
 obtain⟨s',hs,ha,g⟩:=h;obtain⟨i,hi⟩:=cC hs;have:j≠i:=fun e=>by rw[<-e,hj]at hi;simp only[cc]at hi;exact hne (hi▸ha)
 exact⟨s',cd (i:=i) (by unfold VR;rw[xb this];exact hi),ha,g⟩
def acA{S:List aa}{D:List Int}{a:Ref}{n:Int}{f:List Value}(h:Hr S a n f)(hn:n∉D):Hr (E9 D S) a n f:=by obtain⟨s,hs,ha,y,hy,hyn,hyf⟩:=h;have hst:lJ D y.Txn_=true:=AH.2 (hyn▸hn);have e:=congrArg (List.filter fun z=>lJ D z.Txn_) (UQ hy);rw[xo,show[y].filter (fun z=>lJ D z.Txn_)=[y] by simp[hst]]at e;have e2:(GX D s).Layers=(s.Layers.take (s.Layers.length-1)).filter (fun z=>lJ D z.Txn_)++[y]:=e;exact⟨GX D s,ML.2 ⟨s,hs,rfl,by rw[e2];simp⟩,ha,y,by rw[e2];simp,hyn,hyf⟩
def Xb(N:Nat)(hN:200<=N){t:ae}(h:TV t){x:Txn}(hx:x∈t.Txns)(hd:x.Done=x.Calls.length){c:ah}(hc:c∈x.Calls)(hk:(⟨c.Target,x.ID,[]⟩:ai)∈t.Locks):
  ∃L S,dS N t x.ID c.Target=some (⟨t.Txns,L,S⟩,0)/\TV ⟨t.Txns,L,S⟩/\(∀l,l∈L↔l∈t.Locks/\l.Actor≠c.Target)/\L.length<=t.Locks.length/\(∀a n f,a≠c.Target->Hr t.Stacks a n f->Hr S a n f):=by
 cases MN N hN h x.ID c.Target with
 | no e he hq g=>
  exfalso;rcases hq x hx rfl with q|q|q
  .omega
  .exact q ⟨c,hc,rfl⟩
  .exact Ez h hk hx rfl hd q
 | ok hx' hn hd' ha hj hsa hy hyn hp g hT=>
  have hm:=V1 h.lk hk;simp only at hm;refine⟨_,_,g,hT,fun l=>⟨fun hl=>?_,fun⟨h1,h2⟩=>hm.2 l h1 h2⟩,?_,fun a n f hne hl=>ab2 hl hj (by rw[hsa];exact hne.symm)⟩
  .rcases hm.1 l hl with q|⟨_,q,_⟩
   .exact q
   .cases q
  .unfold pV;split
   .split
    .simp;omega
    .simp
   .simp
def adX(N:Nat)(hN:100002<=N):zS N=some true:=by
 have hXV3:XV (x3 0 v0)/\zd (x3 0 v0):=⟨⟨oZh,oZh,oZh,oZh,oZh,oZh,L8,fun c hc=>by
  simp only[x3,cF,nG,or_false]at hc;rcases hc with rfl|rfl
  .exact adL
  .exact agk⟩,oZh,oZh,oZh,oZh,oZh,oZh,fun _=>rfl⟩
 have hXV5:XV (x5 0 v0)/\zd (x5 0 v0):=⟨⟨oZh,oZh,oZh,oZh,oZh,oZh,L8,fun c hc=>by
  simp only[x5,cF,nG,or_false]at hc;rw[hc];exact adL⟩,oZh,oZh,oZh,oZh,oZh,oZh,fun _=>rfl⟩
 obtain⟨b1,T1⟩:iF N ⟨[],[],[]⟩ 3 0 ⟨#[99]⟩ 1 [cA,cB]=some (⟨[x3 0 v0],[],[]⟩,0)/\TV ⟨[x3 0 v0],[],[]⟩:=by
  rcases J7 N oZg TV.nil hXV3 with⟨e,_,q,_⟩|q
  .rcases q with q|⟨y,hy,_⟩
   .cases q
   .cases hy
  .exact q
 obtain⟨b2,T2⟩:iF N ⟨[x3 0 v0],[],[]⟩ 5 0 ⟨#[99]⟩ 2 [cA]=some (⟨[x3 0 v0,x5 0 v0],[],[]⟩,0)/\TV ⟨[x3 0 v0,x5 0 v0],[],[]⟩:=by
  rcases J7 N oZg T1 hXV5 with⟨e,_,q,_⟩|q
  .rcases q with q|⟨y,hy,q⟩
   .cases q
   .simp only[cK]at hy;rw[hy]at q;exact absurd q oZh
  .exact q
 obtain⟨L1,S1,l1,e1,T3,_,m1,n1⟩:=OH N oZg T2 (i:=0) (x:=x3 0 v0) (c:=cA) ⟨rfl,oZh,rfl⟩ oZk oZk 0;have T3':TV ⟨[x3 1 (vN 0),x5 0 v0],L1,S1⟩:=T3;obtain⟨L2,S2,l2,e2,T4,_,m2,n2⟩:=OH N oZg T3' (i:=0) (x:=x3 1 (vN 0)) (c:=cB) ⟨rfl,oZh,rfl⟩ (fun k hk=>by
  rcases(m1 k).1 hk with rfl|q
  .exact rAB
  .cases q) (by simp only[cw]at n1;simp only;omega) 1
 have T4':TV ⟨[x3 2 (vN 1),x5 0 v0],L2,S2⟩:=T4;simp only[cw]at n1 n2;obtain⟨L3,S3,p3,T5,m3,n3,_⟩:=Xb N oZg T4' (x:=x3 2 (vN 1)) oZk rfl (c:=cA) (by simp[x3]) ((m2 _).2 (.inr ((m1 _).2 (.inl rfl))));simp only at n3 m3;have c3:∀l∈L3,l=⟨rB,3,[]⟩:=fun l hl=>by
  obtain⟨g1,g2⟩:=(m3 l).1 hl;rcases(m2 l).1 g1 with q|q
  .exact q
  .rcases(m1 l).1 q with rfl|q
   .exact absurd rfl g2
   .cases q
 obtain⟨L4,S4,l4,e4,T6,f6,m4,n4⟩:=OH N oZg T5 (i:=1) (x:=x5 0 v0) (c:=cA) ⟨rfl,oZh,rfl⟩ (fun k hk=>by rw[c3 k hk];exact fun q=>rAB q.symm) (by simp only;omega) 9;have T6':TV ⟨[x3 2 (vN 1),x5 1 (vN 9)],L4,S4⟩:=T6;have hA5:(⟨rA,5,[]⟩:ai)∈L4:=(m4 _).2 (.inl rfl);have hB3:(⟨rB,3,[]⟩:ai)∈L4:=(m4 _).2 (.inr ((m3 _).2 ⟨(m2 _).2 (.inl rfl),fun q=>rAB q.symm⟩));have c4:∀l∈L4,l=⟨rA,5,[]⟩∨l=⟨rB,3,[]⟩:=fun l hl=>((m4 l).1 hl).imp id (c3 l);have hids:ids ⟨[x3 2 (vN 1),x5 1 (vN 9)],L4,S4⟩=[3,5]:=rfl;obtain⟨u5,hu5,ha5,y5,hy5,hn5,hp5⟩:=(T6'.lp _ hA5).dn (x5 1 (vN 9)) oZk rfl rfl;simp only at ha5;obtain⟨u3,hu3,ha3,y3,hy3,hn3⟩:=T6'.pr (x3 2 (vN 1)) oZk cA (by show cA∈[cA,cB].take 2;simp);obtain⟨iu,hiu⟩:=cC hu5;have hu:u3=u5:=pY T6'.ss hiu hu3 (ha3.trans ha5.symm);subst hu;obtain⟨i3,hi3⟩:=cC hy3;obtain⟨i5,hi5⟩:=cC hy5;have hlast:=((T6'.st u3 hu3).up i5 y5 hi5 hp5).1;have hi35:i3<i5:=by
  have:=(cg.1 hi3).1;rcases nN i3 i5 with q|q
  .exact q
  .have:i3=i5:=oZg;subst this;rw[hi3]at hi5;simp only[cc]at hi5;rw[hi5,hn5]at hn3;exact absurd hn3 oZh
 have hlay:ky N ⟨[x3 2 (vN 1),x5 1 (vN 9)],L4,S4⟩ rA=some u3.Layers:=by obtain⟨j,hj1,hj2⟩:=FJ N T6'.ss hu3;rw[ha5]at hj1;rw[ky,hj1,cb,if_pos oZg,aw hj2,FE (T6'.bdL hu3)];rfl
 have hlen:u3.Layers.length=2:=by
  obtain⟨r,hr⟩:=T6'.ac;have hnd:(u3.Layers.map aj.Txn_).Nodup:=by unfold List.Nodup;rw[nW];exact(hr u3 hu3).imp fun q e=>by rw[e]at q;omega
  have g1:=px (l:=[3,5]) hnd fun n hn=>by
   obtain⟨y,hy,rfl⟩:=cH.1 hn;exact(T6'.st u3 hu3).id y hy
  simp only[cr,cn,cw]at g1;omega
 obtain⟨D,a1,_,dD,cD,_⟩:=IQ N oZg T6' (id:=3) (by simp[hids]);have hD:D.length=2:=by
  have h5:(5:Int)∈D:=by
   have:=cD u3 hu3 i3 i5 y3 y5 hi35 hi3 hi5 (by rw[hn3];exact dD.me)
   rwa[hn5]at this
  have g1:=px (l:=[3,5]) dD.nd dD.sub;have g2:=px (l:=D) (k:=[3,5]) oZh fun n hn=>by
   simp only[cF,nG,or_false]at hn;rcases hn with rfl|rfl
   .exact dD.me
   .exact h5
  simp only[cn,cw]at g1 g2;omega
 obtain⟨L5,S5,p5,T7,m5,n5',k5⟩:=Xb N oZg T6' (x:=x3 2 (vN 1)) oZk rfl (c:=cB) (by simp[x3]) hB3;have hA5':(⟨rA,5,[]⟩:ai)∈L5:=(m5 _).2 ⟨hA5,rAB⟩;have c5:∀l∈L5,l=⟨rA,5,[]⟩:=fun l hl=>by
  obtain⟨g1,g2⟩:=(m5 l).1 hl;rcases c4 l g1 with q|q
  .exact q
  .rw[q]at g2;exact absurd rfl g2
 have f7:Hr S5 rA 5 [vN 9]:=k5 rA 5 _ rAB f6;have hpr3:∀c∈(x3 2 (vN 1)).Calls,eK ⟨[x3 2 (vN 1),x5 1 (vN 9)],L5,S5⟩ c.Target 3:=fun c hc=>
  ad3 T7 (x:=x3 2 (vN 1)) oZk rfl hc fun l hl _=>by rw[c5 l hl];decide
 have hnr5:¬tc ⟨[x3 2 (vN 1),x5 1 (vN 9)],L5,S5⟩ (x5 1 (vN 9)):=fun q=>
  Ez T7 hA5' (x:=x5 1 (vN 9)) oZk rfl rfl (q.pr cA (by simp[x5]))
 have hr3:tc ⟨[x3 2 (vN 1),x5 1 (vN 9)],L5,S5⟩ (x3 2 (vN 1)):=by
  refine⟨rfl,hpr3,cE.2 fun s hs=>FM oZk fun i y hi hyn z hz=>?_⟩;exfalso;obtain⟨j,hj⟩:=cC hz;rw[nt]at hj;split at hj
  case isFalse=>cases hj
  rename_i hji;have hzm:=cd hj;have hz5:z.Txn_=5:=by
   have:z.Txn_∈[3,5]:=(T7.st s hs).id z hzm;simp only[cF,nG,or_false]at this;rcases this with q|q
   .obtain⟨r,hr⟩:=T7.ac;have:=pU (hr s hs) hj hi (q.trans hyn.symm);omega
   .exact q
  obtain⟨⟨c,hc,hca⟩,_⟩:=(T7.st s hs).ex z hzm (x5 1 (vN 9)) oZk hz5.symm;have hca':s.Actor=rA:=by have:=nJ hc;simp only[x5,cK]at this;rw[<-hca,this];rfl
  have hzp:z.Prepared=false:=by
   cases hp:z.Prepared with
   | false=>rfl
   | true=>exact absurd ⟨s,hs,hca',z,hzm,hz5,hp⟩ (Ez T7 hA5' (x:=x5 1 (vN 9)) oZk rfl rfl)
  have:=((T7.st s hs).up j z hj hzp).1;have:=(cg.1 hi).1;omega
 obtain⟨t',cs,r1,T8,hres⟩:=So N hN T7;have hcs:(∃ws,cs=[⟨3,⟨#[99]⟩,1,vN 1,ws⟩]/\ws.length=2)/\t'=zY ⟨[x3 2 (vN 1),x5 1 (vN 9)],L5,S5⟩ [3]:=by
  cases hres with
  | nil hno=>exact absurd hr3 (hno _ oZk)
  | @cons _ _ cs x ps ws hx hr hp hw hT rest=>
   have hx3:x=x3 2 (vN 1):=by
    simp only[cF,nG,or_false]at hx;rcases hx with rfl|rfl
    .rfl
    .exact absurd hr hnr5
   subst hx3;have hrem:(zY ⟨[x3 2 (vN 1),x5 1 (vN 9)],L5,S5⟩ [(x3 2 (vN 1)).ID]).Txns=[x5 1 (vN 9)]:=rfl;have hdone:∀{u u':ae} {cs:List aB},Res N u u' cs->u.Txns=[x5 1 (vN 9)]->(⟨rA,5,[]⟩:ai)∈u.Locks->TV u->cs=[]/\u'=u:=fun h1 h2 h3 h4=>by
    cases h1 with
    | nil=>exact⟨rfl,rfl⟩
    | @cons _ _ _ y _ _ hy hry=>
     exfalso;rw[h2]at hy;simp only[cK]at hy;subst hy;exact Ez h4 h3 (x:=x5 1 (vN 9)) (by rw[h2];simp) rfl rfl (hry.pr cA (by simp[x5]))
   obtain⟨q1,q2⟩:=hdone rest hrem hA5' hT;subst q1;have hps:ps.length=2:=by
    obtain⟨r,g1,g2,g3⟩:=uf N hN (x:=x3 2 (vN 1)) oZh oZh;rw[g1]at hp;simp only[cc]at hp;subst hp;have hnd:r.Nodup:=g2.imp fun{a b} g e=>by rw[e,lpR,dq]at g;cases g
    have u1:=Bj (l:=[rA,rB]) hnd fun a hm=>by
     obtain⟨c,hc,q⟩:=(g3 a).1 hm;simp only[x3,cF,nG,or_false]at hc;rcases hc with rfl|rfl<;>rw[<-q]<;>simp[cA,cB]
    have u2:=Bj (l:=r) (k:=[rA,rB]) (by simp[rAB]) fun a hm=>by
     simp only[cF,nG,or_false]at hm;rcases hm with rfl|rfl
     .exact(g3 _).2 ⟨cA,by simp[x3],rfl⟩
     .exact(g3 _).2 ⟨cB,by simp[x3],rfl⟩
    simp only[cn,cw]at u1 u2;omega
   have hwl:∀{ps:List Ref} {ws:List aP},Wr ⟨[x3 2 (vN 1),x5 1 (vN 9)],L5,S5⟩ 3 ps ws->ws.length=ps.length:=by
    intro ps
    induction ps with
    | nil=>intro ws h;cases ws with
     | nil=>rfl
     | cons=>exact h.elim
    | cons a ps ih=>intro ws h;cases ws with
     | nil=>exact h.elim
     | cons w ws=>simp[ih h.2.2]
   exact⟨⟨ws,rfl,(hwl hw).trans hps⟩,q2⟩
 obtain⟨⟨ws,rfl,hws⟩,rfl⟩:=hcs;have hT8:(zY ⟨[x3 2 (vN 1),x5 1 (vN 9)],L5,S5⟩ [3]).Txns=[x5 1 (vN 9)]:=rfl;have hfind:u7 N (zY ⟨[x3 2 (vN 1),x5 1 (vN 9)],L5,S5⟩ [3]) 5=some (x5 1 (vN 9),true):=by obtain⟨i,x,g1,g2,g3⟩:=vf (N:=N) (t:=zY ⟨[x3 2 (vN 1),x5 1 (vN 9)],L5,S5⟩ [3]) (n:=5) (by unfold ids;rw[hT8];simp[x5]);have hxm:=cd g2;rw[hT8]at hxm;simp only[cK]at hxm;subst hxm;rw[u7,g1,cb,if_pos oZg,aw g2,Cj (T8.tx.x _ (cd g2)).1.bd];rfl
 obtain⟨r,g1,g2,g3⟩:=uf N hN (x:=x5 1 (vN 9)) oZh oZh;have hrl:r.length=1:=by
  have hnd:r.Nodup:=g2.imp fun{a b} g e=>by rw[e,lpR,dq]at g;cases g
  have u1:=Bj (l:=[rA]) hnd fun a hm=>by
   obtain⟨c,hc,q⟩:=(g3 a).1 hm;simp only[x5,cF,nG,or_false]at hc;rw[<-q,hc];simp[cA]
  have u2:0<r.length:=ajk ((g3 rA).2 ⟨cA,by simp[x5],rfl⟩);simp only[cn,cw]at u1;omega
 have hfields:∃l,oY N (zY ⟨[x3 2 (vN 1),x5 1 (vN 9)],L5,S5⟩ [3]) rA []=some l/\l.length=1:=by obtain⟨s,hs,ha,y,hy,hyn,hyf⟩:=acA (D:=[3]) f7 oZh;obtain⟨j,hj1,hj2⟩:=FJ N T8.ss hs;rw[ha]at hj1;have hyl:=(cg.1 hy).1;have hbd:=T8.bdL hs;refine⟨[vN 9],?_,rfl⟩;rw[oY,hj1,cb];simp only[zk,CP];rw[if_pos oZg,aw hj2,if_pos oZd,aw hj2,w64 (by have:=hbd.1;omega) (by have:=hbd.1;omega),show((s.Layers.length:Int)-1)=((s.Layers.length-1:Nat):Int) by omega,aw hy,ot (hbd.2 y (cd hy)),hyf];rfl
 obtain⟨fl,hf1,hf2⟩:=hfields;have loop:∀fuel:Nat,3<=fuel->fY N (uK N) fuel ([x3 0 v0,x5 0 v0],[],[],0)=uK N [x3 2 (vN 1),x5 0 v0] L2 S2:=by intro fuel hf;obtain⟨m,rfl⟩:∃m,fuel=m+1+1+1:=⟨fuel-3,oZg⟩;rw[fY,if_pos oZh];show(iI N ⟨[x3 0 v0,x5 0 v0],[],[]⟩ (x3 0 v0).ID).bind _=_;rw[l1,cb,if_pos rfl,w4,if_neg oZk,w7];simp only[lZ,cb];show(jy N ⟨[x3 0 v0,x5 0 v0],L1,[]⟩ (x3 0 v0).ID [vN 0] (vN 0)).bind _=_;rw[e1,cb,if_pos rfl,show IntKind.i64.wrap (0+1)=1 from rfl];show fY N _ (m+1+1) ([x3 1 (vN 0),x5 0 v0],L1,S1,1)=_;rw[fY,if_pos oZh];show(iI N ⟨[x3 1 (vN 0),x5 0 v0],L1,S1⟩ (x3 1 (vN 0)).ID).bind _=_;rw[l2,cb,if_pos rfl,w4,if_neg oZk,w7];simp only[lZ,cb];show(jy N ⟨[x3 1 (vN 0),x5 0 v0],L2,S1⟩ (x3 1 (vN 0)).ID [vN 1] (vN 1)).bind _=_;rw[e2,cb,if_pos rfl,show IntKind.i64.wrap (1+1)=2 from rfl];show fY N _ (m+1) ([x3 2 (vN 1),x5 0 v0],L2,S2,2)=_;rw[fY,if_neg oZh]
 unfold zS;show(iF N ⟨[],[],[]⟩ 3 0 ⟨#[99]⟩ 1 [cA,cB]).bind _=_;rw[b1,cb,if_pos rfl];show(iF N ⟨[x3 0 v0],[],[]⟩ 5 0 ⟨#[99]⟩ 2 [cA]).bind _=_;rw[b2,cb,if_pos rfl];refine(loop N oZg).trans ?_;rw[uK];show(dS N ⟨[x3 2 (vN 1),x5 0 v0],L2,S2⟩ (x3 2 (vN 1)).ID cA.Target).bind _=_;rw[p3,cb,if_pos rfl];show(iI N ⟨[x3 2 (vN 1),x5 0 v0],L3,S3⟩ (x5 0 v0).ID).bind _=_;rw[l4,cb,if_pos rfl,Bf,if_neg oZk,Ab];simp only[lZ,cb];show(jy N ⟨[x3 2 (vN 1),x5 0 v0],L4,S3⟩ (x5 0 v0).ID [vN 9] (vN 9)).bind _=_;rw[e4,cb,if_pos rfl];show(ky N ⟨[x3 2 (vN 1),x5 1 (vN 9)],L4,S4⟩ rA).bind _=_;rw[hlay,cb,if_pos (by rw[hlen];rfl)];show(jm N ⟨[x3 2 (vN 1),x5 1 (vN 9)],L4,S4⟩).bind _=_;rw[gO N oZg T6',cb,wW,if_neg oZk,ye];show(lu N ⟨[x3 2 (vN 1),x5 1 (vN 9)],L4,S4⟩ 3).bind _=_;rw[a1,cb,if_pos rfl,Bk,if_neg (by simp[hD]),Bw];show(dS N ⟨[x3 2 (vN 1),x5 1 (vN 9)],L4,S4⟩ (x3 2 (vN 1)).ID cB.Target).bind _=_;rw[p5,cb,if_pos rfl];show(lI N ⟨[x3 2 (vN 1),x5 1 (vN 9)],L5,S5⟩).bind _=_;rw[r1,cb,if_pos (by rfl)];refine(aw (i:=0) rfl).trans ?_;rw[if_pos (by rfl),yb,if_neg (by simp[hws]),wG];dsimp only;rw[hfind,cb,if_pos rfl];dsimp only;rw[g1,cb,if_pos (by rw[hrl];rfl)];show(oY N (zY ⟨[x3 2 (vN 1),x5 1 (vN 9)],L5,S5⟩ [3]) rA []).bind _=_;rw[hf1,cb];simp[hf2]
open Classical in
def SH(N:Nat)(hN:200<=N){t:ae}(h:TV t){now:Int}(h0:0<=now)(h1:now<=255):zO N t now=some ((t.Txns.filter fun x=>decide ((¬ ∀c∈x.Calls,eK t c.Target x.ID)/\x.Born+40<=now)).map Txn.ID):=by
 have key:∀(xs:List Txn) (v:Nat) (acc:List Int),(∀x∈xs,x∈t.Txns)->acc.length+xs.length<=1000->m8 N t now xs v acc=some (acc++(xs.filter fun x=>decide ((¬ ∀c∈x.Calls,eK t c.Target x.ID)/\x.Born+40<=now)).map Txn.ID):=by
  intro xs
  induction xs with
  | nil=>intro v acc _ _;rw[m8];simp
  | cons x xs ih=>
   intro v acc hx hl;simp only[cn]at hl;have hR:=(h.tx.x x (hx x oZk)).2;have hb0:=hR.1;have hb1:=hR.2.1;have i1:=ih (v+1) acc (fun y hy=>hx y (by simp[hy])) oZg;have i2:=ih (v+1) (acc++[x.ID]) (fun y hy=>hx y (by simp[hy])) oZd;rw[m8];by_cases q:∀c∈x.Calls,eK t c.Target x.ID
   .rw[(Kj N h x).is q,cb,if_pos rfl,vT,if_neg oZk,i1,n9,if_neg (by simp only[decide_eq_true_eq];exact fun g=>g.1 q)]
   .rw[(Kj N h x).isnt q,cb,if_neg oZk,w64 oZg oZg,vT];by_cases g:x.Born+40<=now
    .rw[if_pos (by simp[g]),ee oZd,i2,n9,if_pos (by simp only[decide_eq_true_eq];exact⟨q,g⟩)];simp
    .rw[if_neg (by simp[g]),i1,n9,if_neg (by simp only[decide_eq_true_eq];exact fun z=>g z.2)]
 have:=h.tx.len;rw[zO,gO N hN h,cb,if_pos rfl,key t.Txns 0 [] (fun x hx=>hx) oZd];simp
theorem aes(N:Nat){t:ae}(h:TV t){x:Txn}(hx:x∈t.Txns):u7 N t x.ID=some (x,true):=by obtain⟨i,y,g1,g2,g3⟩:=vf (N:=N) (t:=t) (n:=x.ID) (cH.2 ⟨x,hx,rfl⟩);have:y=x:=h.tx.uniq (cd g2) hx g3;subst this;rw[u7,g1,cb,if_pos oZg,aw g2,Cj (h.tx.x y hx).1.bd];rfl
def Vw(N:Nat)(a b:List Value):jv N a b=some (eqL Xy a b):=
 WZ (L:=sj b N) a b _ (fun _=>rfl) (fun x xs v=>by simp[sj,G7])
theorem aa3(N:Nat){t:ae}(h:TV t){s:aa}(hs:s∈t.Stacks):ky N t s.Actor=some s.Layers:=by obtain⟨j,hj1,hj2⟩:=FJ N h.ss hs;rw[ky,hj1,cb,if_pos oZg,aw hj2,FE (h.bdL hs)];rfl
def Fy{N:Nat}{l:List aj}(h:Tk l):kK N l=some l:=by
 have:=Br (L:=mQ N) 1000000 id (fun y=>C9 y.Fields) some (fun _ _=>rfl) (fun x xs v l hp hb=>by
  simp only[mQ,p8 hp,cb];rw[ee (by simp only[cn,cw];omega)];rfl) l 0 [] h.2 (by simpa using h.1)
 simpa[kK]using this
def Ie{N:Nat}(hN:200<=N){t:ae}(h:TV t):lQ N t=some t:=by
 have h2:=Br (L:=zz t.Txns t.Locks N) 1000 id (fun s=>Tk s.Layers) (fun S=>some (ae.mk t.Txns t.Locks S)) (fun _ _=>rfl) (fun x xs v l hp hb=>by
  simp only[zz,Fy hp,cb];rw[ee (by simp only[cn,cw];omega)];rfl) t.Stacks 0 [] (fun s hs=>h.bdL hs) (by have:=h.stacks_len;simp;omega)
 have h1:=Br (L:=s6 (zm t.Locks N t) N) 1000 id XV (zm t.Locks N t) (fun _ _=>rfl) (fun x xs v l hp hb=>by
  simp only[s6,DZ hp,cb];rw[ee (by simp only[cn,cw];omega)];rfl) t.Txns 0 [] (fun x hx=>(h.tx.x x hx).1) (by have:=h.tx.len;simp;omega)
 rw[lQ,Fk N hN h.lk,cb,h1];simpa[zm]using h2
def An(N:Nat){t:ae}(h:TX t){x:Txn}(hx:x∈t.Txns):iZ N t x.ID=some (x,true):=by
 have key:∀(xs:List Txn) (v:Nat),x∈xs->(∀y∈xs,y∈t.Txns)->mB x.ID N xs v ()=some (x,true):=by
  intro xs
  induction xs with
  | nil=>intro v q;cases q
  | cons y ys ih=>
   intro v q hs;rw[mB];by_cases e:y.ID=x.ID
   .rw[if_pos e,h.uniq (hs y oZk) hx e,DZ (h.x x hx).1];rfl
   .rw[if_neg e];rcases cF.1 q with rfl|q
    .exact absurd rfl e
    .exact ih (v+1) q fun z hz=>hs z (by simp[hz])
 exact key t.Txns 0 hx fun _ h=>h
def x0:Txn:=⟨0,0,⟨#[]⟩,0,[],0,v0⟩
def Mp(N:Nat){t:ae}{n:Int}(hn:n∉ids t):iZ N t n=some (x0,false):=by
 have key:∀(xs:List Txn) (v:Nat),n∉xs.map Txn.ID->mB n N xs v ()=some (x0,false):=by
  intro xs
  induction xs with
  | nil=>intro v _;rfl
  | cons y ys ih=>
   intro v q;simp only[hC,cF,not_or]at q;rw[mB,if_neg (fun e=>q.1 e.symm),ih (v+1) q.2]
 exact key t.Txns 0 hn
def Ar(N:Nat)(l:List aj)(n:Int):eY N l n=some (vD (fun y:aj=>decide (y.Txn_=n)) l 0):=by
 have key:∀(xs:List aj) (v:Nat),Bq n xs v ()=some (vD (fun y:aj=>decide (y.Txn_=n)) xs v):=by
  intro xs
  induction xs with
  | nil=>intro v;rfl
  | cons y ys ih=>
   intro v;rw[Bq,ih,vD];by_cases e:y.Txn_=n<;>simp[e]
 exact key l 0
def rX(N:Nat)(l:List Int)(n:Int):iq N l n=some (decide (n∈l)):=by
 have key:∀(xs:List Int) (v:Nat),vF n xs v ()=some (decide (n∈xs)):=by
  intro xs
  induction xs with
  | nil=>intro v;rfl
  | cons y ys ih=>
   intro v;rw[vF,ih];by_cases e:y=n
   .simp[e]
   .simp[e,xw e]
 exact key l 0
def Zt(N:Nat)(l:List Ref)(a:Ref):yy N l a=some (l.any fun y=>H4 y a):=by
 have key:∀(xs:List Ref) (v:Nat),DR a xs v ()=some (xs.any fun y=>H4 y a):=by
  intro xs
  induction xs with
  | nil=>intro v;rfl
  | cons y ys ih=>
   intro v;rw[DR,ih,List.any_cons];by_cases e:y=a
   .rw[if_pos (lR.2 e),(uO y a).2 e];rfl
   .rw[if_neg (fun q=>e (lR.1 q)),aiP.2 fun q=>e ((uO y a).1 q)];rfl
 exact key l 0
def Zb(N:Nat){l:List Ref}{a:Ref}(h:a∈l):yy N l a=some true:=by rw[Zt];exact congrArg some (aiG.2 ⟨a,h,(uO a a).2 rfl⟩)
def aen(N:Nat){l:List Ref}{a:Ref}(h:a∉l):yy N l a=some false:=by rw[Zt];exact congrArg some (xq.2 fun y hy q=>h ((uO y a).1 q▸hy))
def DO(N:Nat){t:ae}(h:TV t){s:aa}(hs:s∈t.Stacks):gb N t s.Actor=some s.Layers:=by
 have key:∀(xs:List aa) (v:Nat),s∈xs->(∀y∈xs,y∈t.Stacks)->pT s.Actor N xs v ()=some s.Layers:=by
  intro xs
  induction xs with
  | nil=>intro v q;cases q
  | cons y ys ih=>
   intro v q hsub;rw[pT];by_cases e:y.Actor=s.Actor
   .obtain⟨i,hi⟩:=cC hs;have:=pY h.ss hi (hsub y oZk) e;subst this;rw[if_pos (lR.2 rfl),Fy (h.bdL hs)];rfl
   .rw[if_neg (fun q=>e (lR.1 q))];rcases cF.1 q with rfl|q
    .exact absurd rfl e
    .exact ih (v+1) q fun z hz=>hsub z (by simp[hz])
 exact key t.Stacks 0 hs fun _ h=>h
def Ma(N:Nat){t:ae}{a:Ref}(h:∀s∈t.Stacks,s.Actor≠a):gb N t a=some []:=by
 have key:∀(xs:List aa) (v:Nat),(∀s∈xs,s.Actor≠a)->pT a N xs v ()=some []:=by
  intro xs
  induction xs with
  | nil=>intro v _;rfl
  | cons y ys ih=>
   intro v q;rw[pT,if_neg (fun e=>q y oZk (lR.1 e)),ih (v+1) fun z hz=>q z (by simp[hz])]
 exact key t.Stacks 0 h
theorem Jq{α:Type}{L:List α->Nat->Unit->Option Bool}(p:α->Bool)(h0:∀v,L [] v ()=some true)(h1:∀x xs v,L (x::xs) v ()=if p x=true then L xs (v+1) ()else some false):∀(xs:List α) (v:Nat),L xs v ()=some (xs.all p)
 | [],v=>h0 v
 | x::xs,v=>by
  rw[h1,Jq p h0 h1 xs (v+1),nR];cases p x<;>rfl
theorem Xh(N:Nat)(s:ByteArray):pP N s=some (LY s):=by
 rw[pP,LY];by_cases h1:1<=s.size
 .rw[if_pos oZg,decide_eq_true h1,Bool.true_and];exact congrArg some (decide_eq_decide.2 oZg)
 .rw[if_neg oZg,decide_eq_false h1];rfl
def Vy(N:Nat)(c:ah):ua N c=some (lO c):=by
 have hL:lf N c.Args 0 ()=some (c.Args.all MK):=Jq (L:=lf N) MK (fun _=>rfl) (fun y xs v=>by
  rw[lf,tz,cb];simp only[MK,AL];by_cases hv:gX y=true<;>by_cases h:y.Kind=0<;>simp[h,hv]) c.Args 0
 simp only[ua,uL,ta,P0,Xh,hL,cb,lO];cases PD c.Target<;>cases LY c.Method<;>by_cases h:c.Args.length<=4<;>simp[h]<;>omega
def Jv(N:Nat)(l:List Value):mv N l=some (mi l):=by
 rw[mv,Jq (L:=qF N) gX (fun _=>rfl) (fun x xs v=>by
  rw[qF,tz,cb]) l 0,mi]
 by_cases q:l.length<=8
 .rw[if_neg oZg];simp[q]
 .rw[if_pos oZg];simp[q]
def Og(N:Nat)(x:Txn):Te (kR N x) (XV x/\zd x):=by
 have e:(XV x/\zd x)↔((1<=x.ID/\x.ID<=1099511627776/\1<=x.Calls.length/\x.Calls.length<=4/\0<=x.Done/\x.Done<=x.Calls.length/\gX x.Last=true/\x.Calls.all lO=true)/\zd x):=
  and_congr_left fun _=>⟨fun h=>⟨h.i1,h.i2,h.c1,h.c2,h.d1,h.d2,h.la,cE.2 h.ca⟩,fun⟨a,b,c,d,e,f,g,h⟩=>⟨a,b,c,d,e,f,g,cE.1 h⟩⟩
 refine Te.iff ?_ e.symm;have hL:mh N x.Calls 0 ()=some (x.Calls.all lO):=Jq (L:=mh N) lO (fun _=>rfl) (fun y xs v=>by rw[mh,Vy,cb]) x.Calls 0;simp only[kR,bA,bB,hL,tz,Xh,cb,zd];have hn:LY x.Client=decide (1<=x.Client.size/\x.Client.size<=32):=by simp[LY]
 rw[hn];generalize x.Calls.all lO=z;generalize gX x.Last=v;refine⟨decide ((1<=x.ID/\x.ID<=1099511627776/\1<=x.Calls.length/\x.Calls.length<=4/\0<=x.Done/\x.Done<=x.Calls.length/\v=true/\z=true)/\0<=x.Born/\x.Born<=1099511627776/\1<=x.Client.size/\x.Client.size<=32/\1<=x.Seq/\x.Seq<=1099511627776/\(x.Done=0->x.Last.Kind=0)),?_,decide_eq_true_iff⟩;cases v<;>cases z<;>simp only[AS,CV,FH,if_true,if_false,cS,cx,nf,ny,decide_eq_true_eq,decide_eq_false_iff_not,nX,nK,n8,xm,xG,nD,nv,nM,and_false,false_and,or_false,false_or,xH,true_and,and_true,iff_false,false_iff,not_false_eq_true,not_true_eq_false,true_or,or_true ]<;>omega
def Vd(N:Nat)(l:List Ref)(hl:l.length<=1000)(hs:l.Pairwise lpR)(x:ah)(k:Int->Option (List Ref)):∀(n v:Nat),v<n->v<=l.length->(∀y∈l.drop v,¬lpR y x.Target) ->
  ∃w:Nat,w<=l.length/\gP l N x k n (v:Int)=k (w:Int)/\(∀y∈l.take w,lpR y x.Target)/\∀y∈l.drop w,¬lpR y x.Target
 | n+1,v,h1,h2,h3=>by
  rw[gP];by_cases h0:0<v
  .have hg:l[v-1]?=some (l[v-1]'oZg):=cj oZg;rw[if_pos oZg,w64 (n:=(v:Int)-1) oZg oZg,show((v:Int)-1)=((v-1:Nat):Int) by omega,aw hg,CY,cb,kM];cases hb:rl (l[v-1]'oZg) x.Target with
   | true=>
    refine⟨v,h2,oZk,fun y hy=>?_,h3⟩;obtain⟨i,hi,rfl⟩:=aiV.1 hy;by_cases e:i=v-1
    .subst e;exact hb
    .exact uR (cV.1 hs i (v-1) oZg oZg oZg) hb
   | false=>
    rw[if_pos oZk,w64 (n:=(v:Int)-1) oZg oZg,show((v:Int)-1)=((v-1:Nat):Int) by omega];refine Vd N l hl hs x k n (v-1) oZg oZg fun y hy=>?_;rw[nI oZg,show v-1+1=v by omega]at hy;rcases cF.1 hy with rfl|hy
    .unfold lpR;rw[hb];simp
    .exact h3 y hy
  .exact⟨v,h2,by rw[if_neg oZg,kM,if_neg oZk],by rw[show v=0 by omega];simp,h3⟩
def IC(N:Nat)(hN:2000<=N):∀(xs:List ah) (v:Nat) (l:List Ref),l.length+xs.length<=1000->l.Pairwise lpR->∃r,dy N xs v l=some r/\r.Pairwise lpR/\∀z,z∈r↔z∈l∨∃c∈xs,c.Target=z
 | [],v,l,_,hs=>⟨l,rfl,hs,oZk⟩
 | x::xs,v,l,hl,hs=>by
  simp only[cn]at hl;rw[dy];obtain⟨w,g1,g2,g3,g4⟩:=Vd N l oZg hs x (m7 l (dy N xs (v+1)) x) N l.length oZg (ck _) oZk;rw[g2,m7];by_cases hT:x.Target∈l
  .have hd:x.Target∈l.drop w:=by
    rw[<-xe w l]at hT;rcases cJ.1 hT with q|q
    .have:=g3 _ q;unfold lpR at this;rw[dq]at this;simp at this
    .exact q
   have hw:w<l.length:=by have:=ajk hd;simp at this;omega
   have e:l[w]=x.Target:=by
    rw[nI hw]at hd;rcases cF.1 hd with q|q
    .exact q.symm
    .have hp:=hs.sublist (aiD w l);rw[nI hw,nV]at hp;exact absurd (hp.1 _ q) (g4 _ (by rw[nI hw];exact List.mem_cons_self))
   rw[if_pos oZg,aw (cj hw),lR.2 e,jz,if_pos rfl];obtain⟨r,r1,r2,r3⟩:=IC N hN xs (v+1) l oZg hs;refine⟨r,r1,r2,fun z=>?_⟩;rw[r3];simp only[cF,exists_eq_or_imp];constructor
   .rintro(q|q)
    .exact .inl q
    .exact .inr (.inr q)
   .rintro(q|rfl|q)
    .exact .inl q
    .exact .inl hT
    .exact .inr q
  .have hJ3:∃r,jE l (w:Int) x (dy N xs (v+1))=some r/\r.Pairwise lpR/\∀z,z∈r↔z∈l∨∃c∈x::xs,c.Target=z:=by
    rw[jE];unfold slx slt;rw[if_pos ⟨oZg,oZg,oZg,oZg⟩];dsimp only;rw[tY oZd,if_pos ⟨oZg,oZg⟩];try dsimp only
    rw[ee oZd,ee oZd,cu,cT (l:=l.drop w) (i:=l.length-w) oZk];obtain⟨r,r1,r2,r3⟩:=IC N hN xs (v+1) (l.take w++[x.Target]++l.drop w) oZd (by
     rw[hU,n5];refine⟨hs.sublist (xZ w l),?_,?_⟩
     .rw[xf,nV];refine⟨fun y hy=>?_,hs.sublist (aiD w l)⟩;rcases K3 x.Target y with q|q|q
      .exact q
      .exact absurd (q▸xK hy) hT
      .exact absurd q (g4 y hy)
     .intro a ha b hb;rcases cF.1 hb with rfl|hb
      .exact g3 a ha
      .rw[<-xe w l,n5]at hs;exact hs.2.2 a ha b hb)
    refine⟨r,r1,r2,fun z=>?_⟩;rw[r3];have:z∈l↔z∈l.take w∨z∈l.drop w:=by rw[<-cJ,xe]
    simp only[cJ,cF,nG,or_false,exists_eq_or_imp,this,eq_comm (a:=z)];constructor
    .rintro(((q|q)|q)|q)
     .exact .inl (.inl q)
     .exact .inr (.inl q)
     .exact .inl (.inr q)
     .exact .inr (.inr q)
    .rintro((q|q)|q|q)
     .exact .inl (.inl (.inl q))
     .exact .inl (.inr q)
     .exact .inl (.inl (.inr q))
     .exact .inr q
   by_cases q:w<l.length
   .rw[if_pos oZg,aw (cj q),jz,if_neg (fun e=>hT (by rw[<-lR.1 e];exact nx q))];exact hJ3
   .rw[if_neg oZg,jz,if_neg oZk];exact hJ3
def CA(N:Nat)(hN:2000<=N){l:List ah}(hl:l.length<=1000):∃r,kv N l=some r/\r.Pairwise lpR/\∀z,z∈r↔∃c∈l,c.Target=z:=by obtain⟨r,h1,h2,h3⟩:=IC N hN l 0 [] (by simpa using hl) List.Pairwise.nil;exact⟨r,h1,h2,by simpa using h3⟩
def Ka{α:Type}{R:α->α->Prop}(irr:∀a,¬R a a)(tr:∀{a b c},R a b->R b c->R a c):∀{a b:List α},a.Pairwise R->b.Pairwise R->(∀z,z∈a↔z∈b)->a=b
 | [],[],_,_,_=>rfl
 | [],y::ys,_,_,h=>by have:=(h y).2 oZk;simp at this
 | x::xs,[],_,_,h=>by have:=(h x).1 oZk;simp at this
 | x::xs,y::ys,ha,hb,h=>by
  rw[nV]at ha hb;have e:x=y:=by
   rcases cF.1 ((h x).1 oZk)with q|q
   .exact q
   .rcases cF.1 ((h y).2 oZk)with q'|q'
    .exact q'.symm
    .exact absurd (tr (hb.1 x q) (ha.1 y q')) (irr y)
  subst e
  congr 1
  refine Ka irr tr ha.2 hb.2 fun z=>⟨fun hz=>?_,fun hz=>?_⟩
  .rcases cF.1 ((h z).1 (by simp[hz]))with rfl|q
   .exact absurd (ha.1 z hz) (irr z)
   .exact q
  .rcases cF.1 ((h z).2 (by simp[hz]))with rfl|q
   .exact absurd (hb.1 z hz) (irr z)
   .exact q
def RO{a b:List Ref}(ha:a.Pairwise lpR)(hb:b.Pairwise lpR)(h:∀z,z∈a↔z∈b):a=b:=
 Ka (R:=lpR) (fun z q=>by unfold lpR at q;rw[dq]at q;cases q) (fun h1 h2=>uR h1 h2) ha hb h
def UJ(N:Nat)(hN:200<=N){t:List ai}(h:VT t)(a:Ref):Cq N t a=qH N t a:=by
 rw[QK N hN h];simp only[Cq,Dl N h,cb,if_true,Jl N];by_cases hh:qb t a=true
 .obtain⟨x,hx,_⟩:=qL hh;rw[if_pos hh,if_pos hh,aw hx,hx];rfl
 .rw[if_neg hh,if_neg hh]
def LK{α:Type}{p:α->Bool}{l:List α}{v:Nat}{x:α}(hx:l[v]?=some x)(hp:p x=true)(hu:∀(i:Nat) y,l[i]?=some y->p y=true->i=v):vD p l 0=((v:Nat):Int):=by
 rcases eW p l 0 with⟨_,q⟩|⟨i,y,e,hi,hy,_⟩
 .rw[q x (cd hx)]at hp;cases hp
 .rw[e,hu i y hi hy];simp
def aaZ{α:Type}{p:α->Bool}{l:List α}:vD p l 0<0↔∀x∈l,p x=false:=by
 rcases eW p l 0 with⟨e,q⟩|⟨i,y,e,hi,hy,_⟩
 .exact⟨fun _=>q,fun _=>by rw[e];decide⟩
 .refine⟨fun h=>oZg,fun h=>?_⟩;rw[h y (cd hi)]at hy;cases hy
def Gm(N:Nat){r:Int->Nat}{s:aa}(hr:Rk r s){v:Nat}{x:aj}(hx:s.Layers[v]?=some x):eY N s.Layers x.Txn_=some ((v:Nat):Int):=by rw[Ar,LK hx oZk fun i y hi hy=>pU hr hi hx (by simpa using hy)]
def GK(N:Nat){l:List aj}{n:Int}(h:∀y∈l,y.Txn_≠n):eY N l n=some (-1):=by
 rw[Ar];rcases eW (fun y:aj=>decide (y.Txn_=n)) l 0 with⟨e,_⟩|⟨i,y,_,hi,hy,_⟩
 .rw[e]
 .exact absurd (by simpa using hy) (h y (cd hi))
def S8(N:Nat){t:ae}(h:TV t){s:aa}(hs:s∈t.Stacks):rO N t s=some true:=by
 obtain⟨r,hr⟩:=h.ac;have hv:=h.st s hs;have hp:=nQ.2 hv.ne;rw[rO];refine kq (fun v=>by rw[eN];simp;omega) fun x xs v hx=>?_;have hm:=cd hx;have hlt:=(cg.1 hx).1;have:=h.layers_len hs;obtain⟨y,hy,e⟩:=cH.1 (hv.id x hm);rw[eN,<-e,An N h.tx hy,cb,if_pos rfl,e,Gm N (hr s hs) hx,cb,if_pos rfl,Jv,hv.fi x hm,cb,if_pos rfl];cases hb:x.Prepared with
 | true=>rw[if_pos rfl,iQ,if_neg oZk]
 | false=>
  have:=(hv.up v x hx hb).1;rw[if_neg oZk,w64 oZg oZg,iQ,if_neg oZd]
def Vq(N:Nat)(hN:2000<=N){t:ae}(h:TV t){x:Txn}(hx:x∈t.Txns):tl N t x=some true:=by have hxv:=(h.tx.x x hx).1;obtain⟨n,e1,e2,e3⟩:=C7 hxv;have:=hxv.c2;obtain⟨r,r1,r2,r3⟩:=CA N hN (l:=x.Calls.take n) oZd;rw[tl,e1,Ld e3,r1,cb];refine kq (fun v=>by rw[tk]) fun a xs v ha=>?_;obtain⟨c,hc,rfl⟩:=(r3 a).1 (cd ha);obtain⟨s,hs,e,y,hy,q⟩:=h.pr x hx c (by rw[e2];exact hc);rw[tk,<-e,DO N h hs,cb,Ar,cb,if_neg (fun w=>?_)];have:=aaZ.1 w y hy;simp[q]at this
def adZ(N:Nat)(hN:2000<=N){t:ae}(h:TV t){s:aa}(hs:s∈t.Stacks)(k:Unit->Option Bool):oo k N t s s.Layers 0 ()=k ():=by
 refine kq (fun v=>by rw[oo]) fun y xs v hy=>?_;have hm:=cd hy;have hv:=h.st s hs;obtain⟨x,hx,e⟩:=cH.1 (hv.id y hm);obtain⟨⟨c,hc,hc2⟩,hd⟩:=hv.ex y hm x hx e;have hxv:=(h.tx.x x hx).1;obtain⟨n,e1,e2,e3⟩:=C7 hxv;have:=hxv.c2;obtain⟨r,r1,r2,r3⟩:=CA N hN (l:=x.Calls.take n) oZd;rw[oo,<-e,An N h.tx hx,cb];dsimp only;rw[e1,Ld e3,r1,cb,Zb N ((r3 s.Actor).2 ⟨c,by rw[<-e2];exact hc,hc2⟩),cb,if_pos rfl];cases hb:y.Prepared with
 | true=>rw[if_pos rfl,vX,if_neg (by have:=hd hb;simp;omega)]
 | false=>rw[if_neg oZk,vX,if_neg oZk]
def aeI(N:Nat)(hN:2000<=N){t:ae}(h:TV t)(k:Option Bool):lv k N t t.Stacks 0 ()=k:=by
 refine kq (fun v=>by rw[lv]) fun s xs v hx=>?_;have hs:=cd hx;have hv:=h.st s hs;have hp:=nQ.2 hv.ne;have:=h.layers_len hs;obtain⟨z,hz⟩:=Fh hv.ne;rw[lv,w64 oZg oZg,show((s.Layers.length:Int)-1)=((s.Layers.length-1:Nat):Int) by omega,aw hz];have h6:BC (lv k N t xs (v+1)) N t s=lv k N t xs (v+1) ():=by rw[BC,adZ N hN h hs]
 cases hb:z.Prepared with
 | true=>rw[if_pos rfl,Bg,if_neg oZk,h6]
 | false=>
  obtain⟨_,l,hl,ha,ho⟩:=hv.up _ z hz hb;rw[if_neg oZk,<-ha,UJ N oZg h.lk,Rc N oZg h.lk hl,cb,ho,Bg,if_neg oZk,h6]
def MS(N:Nat){t:ae}(h:TX t){x:Txn}(hx:x∈t.Txns){n:Nat}{c:ah}(e:x.Done=(n:Int))(hc:x.Calls[n]?=some c):jK N t x.ID=some (c,true):=by have:=(cg.1 hc).1;rw[jK,An N h hx,cb,if_pos rfl];dsimp only;rw[if_neg oZg,decide_eq_false oZg,sY,if_neg oZk,CN];dsimp only;rw[e,aw hc]
def c0:ah:=⟨⟨⟨#[]⟩,⟨#[]⟩⟩,⟨#[]⟩,[]⟩
theorem RR(N:Nat){t:ae}(h:TX t){x:Txn}(hx:x∈t.Txns)(e:x.Done=(x.Calls.length:Int)):jK N t x.ID=some (c0,false):=by rw[jK,An N h hx,cb,if_pos rfl];dsimp only;rw[if_neg oZg,decide_eq_true oZg,sY,if_pos rfl];rfl
theorem acW(N:Nat){t:ae}{n:Int}(hn:n∉ids t):jK N t n=some (c0,false):=by rw[jK,Mp N hn,cb,if_neg oZk,sY,if_pos rfl];rfl
def X8(N:Nat)(hN:200<=N){t:ae}(h:TV t):wB N t=some true:=by
 obtain⟨r,hr⟩:=h.ac;rw[wB];refine kq (fun v=>by rw[de]) fun l xs v hl=>?_;have hlm:=cd hl;have hp:=h.lp l hlm;obtain⟨x,hx,hid⟩:=cH.1 hp.ow;have hxv:=(h.tx.x x hx).1;have h2:mA (de N t xs (v+1)) N t l l.Waiters 0 ()=de N t xs (v+1) ():=by refine kq (fun v=>by rw[mA]) fun w ws u hw=>?_;have hm:=cd hw;obtain⟨z,hz,hzi⟩:=cH.1 (hp.wa w hm);obtain⟨g1,g2⟩:=hp.wt z hz (by rw[hzi];exact hm);obtain⟨n,c,q1,q2,q3⟩:=VS (h.tx.x z hz).1 g2;rw[mA,<-hzi,MS N h.tx hz q1 q2,cb,if_pos rfl];dsimp only;rw[q3,BX,if_neg (by simp[yS])]
 have h3:iC (iA (de N t xs (v+1)) N t l) false=de N t xs (v+1) ():=by rw[iC,if_neg oZk,iA,h2]
 rw[de,<-hid,An N h.tx hx,cb,if_pos rfl];dsimp only;have hd:=hxv.d2;by_cases hL:GV t l.Actor x.ID
 .obtain⟨s,hs,ha,y,hy,hn⟩:=hL;obtain⟨i,hi⟩:=cC hy;rw[<-ha,DO N h hs,cb,<-hn,Gm N (hr s hs) hi,cb,hn];by_cases hd':x.Done<x.Calls.length
  .obtain⟨n,e1,e2,e3⟩:=C7 hxv;have hc:x.Calls[n]?=some (x.Calls[n]'oZg):=cj oZg;rw[MS N h.tx hx e1 hc,cb,if_pos rfl,if_neg oZg];exact h3
  .obtain⟨s',hs',ha',y',hy',hn',hp'⟩:=hp.dn x hx hid oZg;obtain⟨k,hk⟩:=cC hs;have e:=pY h.ss hk hs' (ha'.trans ha.symm);subst e;obtain⟨j,hj⟩:=cC hy';have:=pU (hr _ hs) hi hj (hn.trans hn'.symm);subst this;rw[hi]at hj;cases hj;rw[RR N h.tx hx oZg,cb,if_neg oZk,if_neg oZg,aw hi,if_neg (by rw[hp'];simp),if_neg oZg];exact h3
 .have hd':x.Done<x.Calls.length:=by
   by_cases q:x.Done<x.Calls.length
   .exact q
   .obtain⟨s',hs',ha',y',hy',hn',_⟩:=hp.dn x hx hid oZg;exact absurd ⟨s',hs',ha',y',hy',hn'⟩ hL
  obtain⟨n,c,e1,e2,e3⟩:=VS hxv ((hp.op x hx hid hd').resolve_left hL);have hidx:∃ls,gb N t l.Actor=some ls/\∀y∈ls,y.Txn_≠x.ID:=by
   by_cases q:∃s∈t.Stacks,s.Actor=l.Actor
   .obtain⟨s,hs,ha⟩:=q;exact⟨s.Layers,by rw[<-ha,DO N h hs],fun y hy e=>hL ⟨s,hs,ha,y,hy,e⟩⟩
   .exact⟨[],Ma N fun s hs e=>q ⟨s,hs,e⟩,oZk⟩
  obtain⟨ls,g1,g2⟩:=hidx;rw[g1,cb,GK N g2,cb,MS N h.tx hx e1 e2,cb,if_pos rfl,if_pos oZh];dsimp only;rw[e3,show(!(sEq l.Actor.Type_ l.Actor.Type_&&sEq l.Actor.Key l.Actor.Key))=false by simp[yS]];exact h3
def adb{id:Int}{g:List Int}{l:List aj}{r:Int->Nat}{s:aa}(hr:Rk r s)(e:s.Layers=l):qp id g l false=true↔∀k:Nat,(k:Int)< vD (fun y:aj=>decide (y.Txn_=id)) l 0->∀y,l[k]?=some y->y.Txn_∈g:=by
 subst e;constructor
 .intro h k hk y hy;rcases eW (fun y:aj=>decide (y.Txn_=id)) s.Layers 0 with⟨q,_⟩|⟨i,z,q,hi,hz,_⟩
  .rw[q]at hk;omega
  .rw[q]at hk;refine(N0 h).2 i z hi (by simpa using hz) y ?_;exact aiV.2 ⟨k,by have:=(cg.1 hy).1;omega,(cg.1 hy).2⟩
 .intro h;refine FM oZk fun i z hi e u hu=>?_;obtain⟨k,hk,rfl⟩:=aiV.1 hu;refine h k ?_ _ (cj oZg);rw[LK hi (by simp[e]) fun j y hj hy=>pU hr hj hi (by rw[e];simpa using hy)];omega
def Zx(N:Nat){l:aa}(hl:l.Layers.length<=1000)(g:List Int)(rec3:Unit->Option Bool){r8:Int}(h8:r8<=l.Layers.length):∀(n v:Nat),l.Layers.length<v+n->v<=l.Layers.length->∃b,Ae r8 l N g rec3 n (v:Int)=(if b=true then rec3 ()else some false)/\(b=true↔∀k:Nat,v<=k->(k:Int)< r8->∀y,l.Layers[k]?=some y->y.Txn_∈g)
 | 0,v,h,h'=>oZg
 | n+1,v,h,h'=>by
  rw[Ae];by_cases hv:(v:Int)< r8
  .have hlt:v<l.Layers.length:=oZg;rw[if_pos hv,aw (cj hlt),rX,cb];by_cases hm:l.Layers[v].Txn_∈g
   .obtain⟨b,h1,h2⟩:=Zx N hl g rec3 h8 n (v+1) oZg oZg;refine⟨b,?_,?_⟩
    .rw[decide_eq_true hm,if_pos rfl,w64 oZg oZg,show((v:Int)+1)=((v+1:Nat):Int) by omega];exact h1
    .rw[h2];constructor
     .intro q k hk hk' y hy;by_cases e:k=v
      .subst e;rw[cj hlt]at hy;cases hy;exact hm
      .exact q k oZg hk' y hy
     .intro q k hk hk' y hy;exact q k oZg hk' y hy
   .refine⟨false,by rw[decide_eq_false hm];rfl,by simp;exact⟨v,ck _,hv,_,cj hlt,hm⟩⟩
  .exact⟨true,by rw[if_neg hv,if_pos rfl],by simp;intro k hk hk';omega⟩
def Xj{α:Type}(p:α->Bool)(l:List α):vD p l 0<=l.length:=by
 rcases eW p l 0 with⟨e,_⟩|⟨i,y,e,hi,_,_⟩
 .omega
 .have:=(cg.1 hi).1;omega
def aaf(N:Nat)(hN:200<=N){t:ae}(h:TV t)(id:Int)(g:List Int):Ed N t id g=some (zL t id g):=by
 obtain⟨r,hr⟩:=h.ac;have key:∀(xs:List aa) (v:Nat),(∀s∈xs,s∈t.Stacks)->tf N id g xs v ()=some (xs.all fun s=>qp id g s.Layers false):=by
  intro xs
  induction xs with
  | nil=>intro v _;rfl
  | cons s xs ih=>
   intro v hs;have hl:=h.layers_len (hs s oZk);obtain⟨b,h1,h2⟩:=Zx N (l:=s) oZg g (tf N id g xs (v+1)) (Xj (fun y:aj=>decide (y.Txn_=id)) s.Layers) N 0 oZg oZg;have e:b=qp id g s.Layers false:=by rw[xr,h2,adb (hr s (hs s oZk)) rfl];exact⟨fun q k hk=>q k (cQ _) hk,fun q k _ hk=>q k hk⟩
   rw[tf,Ar,cb];refine h1.trans ?_;rw[e,ih (v+1) fun y hy=>hs y (by simp[hy]),nR];cases qp id g s.Layers false<;>rfl
 exact key t.Stacks 0 fun _ h=>h
def UK{t:ae}:∀{xs:List Txn} {g:List Int},g.length<=(oF t xs g).length
 | [],g=>ck _
 | x::xs,g=>by
  rw[oF];refine nq ?_ (UK (xs:=xs));split
  .exact ck _
  .split
   .simp
   .exact ck _
def Yk(N:Nat)(hN:200<=N){t:ae}(h:TV t)(kx:List Int->Bool->Option Bool):∀(xs:List Txn) (v:Nat) (g:List Int) (c:Bool),(∀x∈xs,x∈t.Txns)->GI t g->jD kx N t xs v (g,c)=kx (oF t xs g) (c || decide (g.length <(oF t xs g).length))
 | [],v,g,c,_,_=>by rw[jD,oF];simp
 | x::xs,v,g,c,hx,hg=>by
  have hl:=hg.len;have ht:=h.tx.len;have ih:=fun c=>Yk N hN h kx xs (v+1) _ c (fun y hy=>hx y (by simp[hy])) (hg.add (hx x oZk));rw[jD,rX,cb,oF];by_cases q:x.ID∈g
  .rw[if_pos q]at ih ⊢;rw[decide_eq_true q,if_pos rfl,rK,if_neg oZk,ih]
  .rw[if_neg q]at ih ⊢;rw[decide_eq_false q,if_neg oZk,aaf N hN h,cb,rK];by_cases f:zL t x.ID g=true
   .rw[if_pos f]at ih ⊢;rw[if_pos f,ee oZd,ih];have:=UK (t:=t) (xs:=xs) (g:=g++[x.ID]);simp only[nc,cn,cw]at this;rw[decide_eq_true (p:=g.length<_) oZg];simp
   .rw[if_neg f]at ih ⊢;rw[if_neg f,ih]
def Xv(N:Nat)(hN:200<=N){t:ae}(h:TV t):∀(n:Nat) (g:List Int),GI t g->t.Txns.length<n+g.length->mX t N n g=some true
 | 0,g,hg,hl=>by have:=hg.len;omega
 | n+1,g,hg,hl=>by
  rw[mX];by_cases q:g.length<t.Txns.length
  .rw[if_pos oZg,Yk N hN h _ t.Txns 0 g false (fun _ h=>h) hg];have hgr:g.length+1<=(oF t t.Txns g).length:=by refine(RN h hg).resolve_right fun w=>?_;have:=px h.tx.nd w;simp[ids]at this;omega
   rw[decide_eq_true (p:=g.length<_) oZg,CZ,if_pos oZk];exact Xv N hN h n _ (HX (fun _ h=>h) hg) oZg
  .rw[if_neg oZg]
def YS(N:Nat)(hN:200<=N){t:ae}(h:TV t):CH N t=some true:=
 Xv N hN h N [] ⟨List.nodup_nil,oZk⟩ (by have:=h.tx.len;simp;omega)
def pq(N:Nat)(hN:2000<=N){t:ae}(h:TV t):ib N t=some true:=by
 have ht:=h.tx.len;have hs:=h.stacks_len;have h7:Fl N t=some true:=by rw[Fl,X8 N oZg h,cb,if_pos rfl,YS N oZg h];rfl
 have h9:BM N t=some true:=by rw[BM];refine kq (fun v=>by rw[wu,FB,aeI N hN h,h7]) fun x xs v hx=>?_;rw[wu,Vq N hN h (cd hx),cb,if_pos rfl]
 have h10:Ad N t=some true:=by
  rw[Ad];refine kq (fun v=>by rw[oq,h9]) fun s xs v hx=>?_;have hv:=(cg.1 hx).1;rw[oq,S8 N h (cd hx),cb,if_pos rfl];by_cases q:0<v
  .obtain⟨y,hy,hlt⟩:=Fv h.ss q hx;rw[if_pos oZg,w64 oZg oZg,show((v:Int)-1)=((v-1:Nat):Int) by omega,aw hy,CY,cb,hlt,vP,if_neg oZk]
  .rw[if_neg oZg,vP,if_neg oZk]
 have h11:uG N t=some true:=by
  rw[uG];refine kq (fun v=>by rw[oe,h10]) fun x xs v hx=>?_;have hv:=(cg.1 hx).1;rw[oe,(Og N x).is (h.tx.x x (cd hx)),cb,if_pos rfl];by_cases q:0<v
  .obtain⟨y,hy,hlt⟩:=Fv h.tx.so q hx;rw[if_pos oZg,w64 oZg oZg,show((v:Int)-1)=((v-1:Nat):Int) by omega,aw hy,decide_eq_false oZg,wY,if_neg oZk]
  .rw[if_neg oZg,wY,if_neg oZk]
 rw[ib,if_neg oZg,Dl N h.lk,cb,Bv,if_neg oZk,h11]
def aeX{o o':Option Bool}{P:Prop}(h:Te o P)(h':Te o' P):∃b,o=some b/\o'=some b/\(b=true↔P):=by obtain⟨b,e,i⟩:=h;obtain⟨b',e',i'⟩:=h';exact⟨b,e,by rw[e',xr.2 (i'.trans i.symm)],i⟩
def abG(N:Nat)(hN:2000<=N){t:ae}(h:TV t)(id born seq:Int)(client:ByteArray)(calls:List ah):∃r,iF N t id born client seq calls=some r/\zN N t id born client seq calls=some r/\VT r.1.Locks:=by
 have hl:=h.tx.len;obtain⟨b,e1,e2,i⟩:=aeX (Km N ⟨id,born,client,seq,calls,0,v0⟩) (Og N ⟨id,born,client,seq,calls,0,v0⟩);have f1:iF N t id born client seq calls=yc t (ki N t id born client seq calls) id (!b):=by rw[iF,gO N oZg h,cb,if_pos rfl];have e1:rH N (Txn.mk id born client seq calls 0 (Value.mk 0 0 (⟨#[]⟩) [] []))=some b:=e1;rw[e1];rfl
 have f2:zN N t id born client seq calls=ya (wK t N id born client seq calls) (!b):=by rw[zN,pq N hN h,cb,if_pos rfl];have e2:kR N (Txn.mk id born client seq calls 0 (Value.mk 0 0 (⟨#[]⟩) [] []))=some b:=e2;rw[e2];rfl
 rw[f1,f2,yc,ya];cases b with
 | false=>exact⟨_,rfl,rfl,VT.nil⟩
 | true=>
  have hx:=(i.1 rfl).1;simp only[nv,cS,if_false];rw[wK];have fin:∀q:Bool,∃r,mf t (ki N t id born client seq calls) q=some r/\wI (vO t N id born client seq calls) q=some r/\VT r.1.Locks:=by
   intro q;rw[mf,wI];cases q with
   | true=>exact⟨_,rfl,rfl,VT.nil⟩
   | false=>
    simp only[cS,if_false];rw[vO];by_cases w:((t.Txns.length:Nat):Int)=32
    .rw[if_pos w,if_pos w];exact⟨_,rfl,rfl,VT.nil⟩
    .have a1:kn N (Txn.mk id born client seq calls 0 (Value.mk 0 0 (⟨#[]⟩) [] []))=some ⟨id,born,client,seq,calls,0,v0⟩:=Cj (x:=⟨id,born,client,seq,calls,0,v0⟩) hx.bd;have a2:jG N (Txn.mk id born client seq calls 0 (Value.mk 0 0 (⟨#[]⟩) [] []))=some ⟨id,born,client,seq,calls,0,v0⟩:=DZ (x:=⟨id,born,client,seq,calls,0,v0⟩) hx;rw[if_neg w,if_neg w,ki,tW h,Ie oZg h,cb,cb,a1,a2,cb,ee oZd];exact⟨_,rfl,rfl,h.lk⟩
  by_cases h0:0<t.Txns.length
  .rw[if_pos oZg,if_pos oZg,w64 oZg oZg,show((t.Txns.length:Int)-1)=((t.Txns.length-1:Nat):Int) by omega,aw (cj oZg),aw (cj oZg)];exact fin _
  .rw[if_neg oZg,if_neg oZg];exact fin _
theorem MG(N:Nat){t:ae}(h:TV t)(n:Int):jK N t n=jU N t n:=by
 rcases uN N t n with⟨hn,e⟩|⟨i,x,e,hi,hid⟩
 .rw[acW N hn,jU,e,cb,if_pos oZh,o6,if_pos rfl];rfl
 .have hxm:=cd hi;have hx:=(h.tx.x x hxm).1;obtain⟨m,e1,e2,e3⟩:=C7 hx;by_cases q:x.Done<x.Calls.length
  .have hc:x.Calls[m]?=some (x.Calls[m]'oZg):=cj oZg;rw[<-hid,MS N h.tx hxm e1 hc,hid,jU,e,cb,if_neg oZg,aw hi,if_neg oZg,o6,if_neg oZd,Cn,aw hi,e1,aw hc,Iy (Rf (hx.ca _ (nx _)))];rfl
  .have:=hx.d2;rw[<-hid,RR N h.tx hxm oZg,hid,jU,e,cb,if_neg oZg,aw hi,if_neg oZg,o6,if_pos oZd];rfl
def Yd(N:Nat)(D:List Int){s:aa}(hs:s.Layers.length<=1000)(k:List aj->Option ae):∀(n v:Nat) (acc:List aj),s.Layers.length<v+n->v<=s.Layers.length->acc.length<=v->pZ s N D k n (acc,(v:Int))=k (acc++(s.Layers.drop v).filter fun y=>lJ D y.Txn_)
 | 0,v,acc,h1,h2,h3=>oZg
 | n+1,v,acc,h1,h2,h3=>by
  rw[pZ];by_cases hv:v<s.Layers.length
  .have ih:=fun acc h=>Yd N D hs k n (v+1) acc oZg oZg h;rw[if_pos oZg,aw (cj hv),rX,cb,w64 oZg oZg,show((v:Int)+1)=((v+1:Nat):Int) by omega,nI hv,n9];by_cases q:s.Layers[v].Txn_∈D
   .rw[decide_eq_true q,if_pos rfl,ih acc oZg,if_neg (by simp[lJ,q])]
   .rw[decide_eq_false q,if_neg oZk,ee oZd,ih _ oZd,if_pos (by simp[lJ,q]),hU];rfl
  .rw[if_neg oZg,xh oZg];simp
def Wl(N:Nat)(hN:200<=N)(D:List Int){t:ae}(h:TV t)(X:List Txn)(L:List ai):∀(xs:List aa) (v:Nat) (acc:List aa),(∀s∈xs,s∈t.Stacks)->acc.length+xs.length<=1000->sX X L N D xs v acc=some ⟨X,L,acc++E9 D xs⟩
 | [],v,acc,_,_=>by rw[sX];simp[E9]
 | s::xs,v,acc,hs,hl=>by
  simp only[cn]at hl;have hsl:=h.layers_len (hs s oZk);have ih:=fun acc hl=>Wl N hN D h X L xs (v+1) acc (fun y hy=>hs y (by simp[hy])) hl;rw[sX];refine(Yd N D (s:=s) oZg _ N 0 [] oZg oZg oZk).trans ?_;rw[nu,cO,GW];by_cases q:(s.Layers.filter fun y=>lJ D y.Txn_)=[]
  .rw[q,if_neg oZk,ih acc oZg];simp[E9,GX,q]
  .have hb:Tk (s.Layers.filter fun y=>lJ D y.Txn_):=by have:=h.bdL (hs s oZk);exact⟨nq (aiF _ _) this.1,fun y hy=>this.2 y (nT.1 hy).1⟩
   rw[if_pos (by have:=nQ.2 q;omega),Fy hb,cb,ee oZd,ih _ oZd];simp[E9,GX,q]
theorem Wx(N:Nat)(hN:200<=N)(D:List Int){t:ae}(h:TV t):Bt N t D=some (zY t D):=by
 have hs:=h.stacks_len;have ht:=h.tx.len;have key:∀(xs:List Txn) (v:Nat) (acc:List Txn),(∀x∈xs,x∈t.Txns)->acc.length+xs.length<=1000->mE (zu t.Locks N D t) N D xs v acc=zu t.Locks N D t (acc++xs.filter fun x=>lJ D x.ID):=by
  intro xs
  induction xs with
  | nil=>intro v acc _ _;rw[mE];simp
  | cons x xs ih=>
   intro v acc hx hl;simp only[cn]at hl;have ih:=fun acc hl=>ih (v+1) acc (fun y hy=>hx y (by simp[hy])) hl;rw[mE,rX,cb,n9];by_cases q:x.ID∈D
   .rw[decide_eq_true q,if_pos rfl,ih acc oZg,if_neg (by simp[lJ,q])]
   .rw[decide_eq_false q,if_neg oZk,DZ (h.tx.x x (hx x oZk)).1,cb,ee oZd,ih _ oZd,if_pos (by simp[lJ,q]),hU];rfl
 rw[Bt,Fk N hN h.lk,cb,key t.Txns 0 [] (fun _ h=>h) oZd,cO,zu,Wl N hN D h _ _ t.Stacks 0 [] (fun _ h=>h) oZd];rfl
def Abv(t:ae)(id:Int)(S:List Int):Prop:=∃s∈t.Stacks,∃(i j:Nat) (y z:aj),i<j/\s.Layers[i]?=some y/\s.Layers[j]?=some z/\z.Txn_=id/\y.Txn_∈S
def Zh(N:Nat){l:aa}(hl:l.Layers.length<=1000)(S:List Int)(rec3:Unit->Option Bool){r8:Int}(h8:r8<=l.Layers.length):∀(n v:Nat),l.Layers.length<v+n->v<=l.Layers.length->∃b,Bi r8 l N S rec3 n (v:Int)=(if b=true then some true else rec3 ())/\(b=true↔∃(k:Nat) (y:aj),v<=k/\(k:Int)< r8/\l.Layers[k]?=some y/\y.Txn_∈S)
 | 0,v,h,h'=>oZg
 | n+1,v,h,h'=>by
  rw[Bi];by_cases hv:(v:Int)< r8
  .have hlt:v<l.Layers.length:=oZg;rw[if_pos hv,aw (cj hlt),rX,cb];by_cases hm:l.Layers[v].Txn_∈S
   .exact⟨true,by rw[decide_eq_true hm,if_pos rfl,if_pos rfl],by simp only[true_iff];exact⟨v,_,ck _,hv,cj hlt,hm⟩⟩
   .obtain⟨b,h1,h2⟩:=Zh N hl S rec3 h8 n (v+1) oZg oZg;refine⟨b,?_,?_⟩
    .rw[decide_eq_false hm,if_neg oZk,w64 oZg oZg,show((v:Int)+1)=((v+1:Nat):Int) by omega];exact h1
    .rw[h2];constructor
     .rintro⟨k,y,a,b,c,d⟩;exact⟨k,y,oZg,b,c,d⟩
     .rintro⟨k,y,a,b,c,d⟩;refine⟨k,y,?_,b,c,d⟩;by_cases e:k=v
      .subst e;rw[cj hlt]at c;cases c;exact absurd d hm
      .omega
  .exact⟨false,by rw[if_neg hv];rfl,by simp;intro k y a b;omega⟩
def aaT(N:Nat)(hN:200<=N){t:ae}(h:TV t)(id:Int)(S:List Int):Te (F0 N t id S) (Abv t id S):=by
 obtain⟨r,hr⟩:=h.ac;have key:∀(xs:List aa) (v:Nat),(∀s∈xs,s∈t.Stacks)->Te (wU N id S xs v ()) (∃s∈xs,∃(i j:Nat) (y z:aj),i<j/\s.Layers[i]?=some y/\s.Layers[j]?=some z/\z.Txn_=id/\y.Txn_∈S):=by
  intro xs
  induction xs with
  | nil=>intro v _;exact⟨false,rfl,oZk⟩
  | cons s xs ih=>
   intro v hs;have hl:=h.layers_len (hs s oZk);obtain⟨b,h1,h2⟩:=Zh N (l:=s) oZg S (wU N id S xs (v+1)) (Xj (fun y:aj=>decide (y.Txn_=id)) s.Layers) N 0 oZg oZg;have e:b=true↔∃(i j:Nat) (y z:aj),i<j/\s.Layers[i]?=some y/\s.Layers[j]?=some z/\z.Txn_=id/\y.Txn_∈S:=by
    rw[h2];constructor
    .rintro⟨k,y,_,g1,g2,g3⟩;rcases eW (fun y:aj=>decide (y.Txn_=id)) s.Layers 0 with⟨q,_⟩|⟨j,z,q,hj,hz,_⟩
     .rw[q]at g1;omega
     .rw[q]at g1;exact⟨k,j,y,z,oZg,g2,hj,by simpa using hz,g3⟩
    .rintro⟨i,j,y,z,g1,g2,g3,g4,g5⟩;refine⟨i,y,cQ _,?_,g2,g5⟩;rw[LK g3 (by simp[g4]) fun m w hm hw=>pU (hr s (hs s oZk)) hm g3 (by rw[g4];simpa using hw)];omega
   obtain⟨b',g1,g2⟩:=ih (v+1) fun y hy=>hs y (by simp[hy]);rw[wU,Ar,cb];refine⟨b || b',h1.trans ?_,?_⟩
   .cases b<;>simp[g1]
   .rw[nf,e,g2];simp
 exact key t.Stacks 0 fun _ h=>h
def Dep.add{t:ae}(h:TV t){id:Int}{S:List Int}(hS:Dep t id S){n:Int}(hn:n∉S)(ha:Abv t n S):Dep t id (S++[n]):=by
 obtain⟨s,hs,i,j,y,z,g1,g2,g3,g4,g5⟩:=ha;refine⟨xW.2 ⟨hS.nd,oZk,fun a ha b hb=>by simp only[cK]at hb;rw[hb];exact fun e=>hn (e▸ha)⟩,by simp[hS.me],fun m hm=>?_,fun X hX hc m hm=>?_⟩
 .rcases cJ.1 hm with hm|hm
  .exact hS.sub m hm
  .simp only[cK]at hm;rw[hm,<-g4];exact(h.st s hs).id z (cd g3)
 .rcases cJ.1 hm with hm|hm
  .exact hS.min X hX hc m hm
  .simp only[cK]at hm;rw[hm,<-g4];exact hc s hs i j y z g1 g2 g3 (hS.min X hX hc _ g5)
def Dep.len{t:ae}(h:TV t){id:Int}{S:List Int}(hS:Dep t id S):S.length<=32:=by have:=px hS.nd hS.sub;have:=h.tx.len;simp[ids]at *;omega
def Pt(N:Nat)(hN:200<=N){t:ae}(h:TV t){id:Int}(k:List Int×Bool->Option (List Int)):∀(xs:List Txn) (v:Nat) (S:List Int) (c:Bool),Dep t id S ->
  ∃S' c',iM k N t xs v (S,c)=k (S',c')/\Dep t id S'/\S.length<=S'.length/\(c'=true->c=true∨S.length<S'.length)/\(c=true->c'=true)/\(c'=false->S'=S/\∀x∈xs,x.ID∈S∨¬Abv t x.ID S)
 | [],v,S,c,hS=>⟨S,c,rfl,hS,ck _,.inl,fun e=>e,fun _=>⟨rfl,oZk⟩⟩
 | x::xs,v,S,c,hS=>by
  have hl:=hS.len h;rw[iM,rX,cb];by_cases q:x.ID∈S
  .obtain⟨S',c',g1,g2,g3,g4,g5,g6⟩:=Pt N hN h k xs (v+1) S c hS;exact⟨S',c',by rw[decide_eq_true q,if_pos rfl,mT,if_neg oZk,g1],g2,g3,g4,g5,fun e=>⟨(g6 e).1,fun y hy=>by
    rcases cF.1 hy with rfl|hy
    .exact .inl q
    .exact(g6 e).2 y hy⟩⟩
  .obtain⟨b,e1,e2⟩:=aaT N hN h x.ID S;rw[decide_eq_false q,if_neg oZk,e1,cb,mT];by_cases hb:b=true
   .obtain⟨S',c',g1,g2,g3,g4,g5,g6⟩:=Pt N hN h k xs (v+1) (S++[x.ID]) true (hS.add h q (e2.1 hb));simp only[nc,cn,cw]at g3 g4;exact⟨S',c',by rw[if_pos hb,ee oZd,g1],g2,oZg,fun _=>.inr oZg,fun _=>g5 rfl,fun e=>by rw[g5 rfl]at e;cases e⟩
   .obtain⟨S',c',g1,g2,g3,g4,g5,g6⟩:=Pt N hN h k xs (v+1) S c hS;exact⟨S',c',by rw[if_neg hb,g1],g2,g3,g4,g5,fun e=>⟨(g6 e).1,fun y hy=>by
     rcases cF.1 hy with rfl|hy
     .exact .inr fun w=>hb (e2.2 w)
     .exact(g6 e).2 y hy⟩⟩
def ZA(N:Nat)(hN:200<=N){t:ae}(h:TV t){id:Int}(k:List Int->Option (List Int)):∀(n:Nat) (S:List Int),34<n+S.length->Dep t id S->∃D,fP N t k n (S,true)=k D/\Dep t id D/\Ge t D
 | 0,S,hn,hS=>by have:=hS.len h;omega
 | n+1,S,hn,hS=>by
  have hl:=hS.len h;rw[fP,if_pos rfl];obtain⟨S',c',g1,g2,g3,g4,g5,g6⟩:=Pt N hN h (fP N t k n) t.Txns 0 S false hS;rw[g1];cases c' with
  | true=>
   rcases g4 rfl with q|q
   .cases q
   .exact ZA N hN h k n S' oZg g2
  | false=>
   obtain⟨e,g7⟩:=g6 rfl;subst e;cases n with
   | zero=>omega
   | succ n=>
    refine⟨S',by rw[fP,if_neg oZk],hS,fun s hs i j y z hij hi hj hy=>?_⟩;obtain⟨x,hx,e⟩:=cH.1 ((h.st s hs).id z (cd hj));rcases g7 x hx with q|q
    .rw[<-e];exact q
    .exact absurd ⟨s,hs,i,j,y,z,hij,hi,hj,e.symm,hy⟩ q
def TT(N:Nat)(S:List Int):∀(xs:List Txn) (v:Nat) (acc:List Int),acc.length+xs.length<=1000->iV N xs v (S,acc)=some (acc++(xs.map Txn.ID).filter fun n=>decide (n∈S))
 | [],v,acc,_=>by rw[iV];simp
 | x::xs,v,acc,hl=>by
  simp only[cn]at hl;rw[iV,rX,cb,hC,n9];by_cases q:x.ID∈S
  .rw[decide_eq_true q,if_pos rfl,ee oZd,TT N S xs (v+1) _ oZd,if_pos rfl,hU];rfl
  .rw[decide_eq_false q,if_neg oZk,TT N S xs (v+1) acc oZg,if_neg oZk]
def ads{t:ae}{id:Int}{D D':List Int}(h:Dep t id D)(hc:Ge t D)(hs:D.Pairwise (· < ·))(h':Dep t id D')(hc':Ge t D')(hs':D'.Pairwise (· < ·)):D=D':=
 Ka (R:=fun a b:Int=>a<b) (fun a=>by omega) (fun h1 h2=>by omega) hs hs' fun z=>⟨fun hz=>h.min D' h'.me hc' z hz,fun hz=>h'.min D h.me hc z hz⟩
def aeD(N:Nat)(hN:200<=N){t:ae}(h:TV t){id:Int}(hid:id∈ids t){D:List Int}(hD:Dep t id D)(hc:Ge t D)(hs:D.Pairwise (· < ·)):rV N t id=some D:=by
 obtain⟨S,g1,g2,g3⟩:=ZA N hN h (id:=id) (sp N t) N [id] oZd ⟨oZk,oZk,fun n hn=>by simp only[cK]at hn;rw[hn];exact hid,fun X hX _ n hn=>by simp only[cK]at hn;rw[hn];exact hX⟩;have ht:=h.tx.len;rw[rV,g1,sp,TT N S t.Txns 0 [] oZd,cO];have hmem:∀z,z∈((t.Txns.map Txn.ID).filter fun n=>decide (n∈S))↔z∈S:=fun z=>by
  rw[nT,decide_eq_true_eq];exact⟨fun q=>q.2,fun q=>⟨g2.sub z q,q⟩⟩
 refine congrArg some (ads ⟨?_,(hmem id).2 g2.me,fun n hn=>g2.sub n ((hmem n).1 hn),fun X hX hc n hn=>g2.min X hX hc n ((hmem n).1 hn)⟩ (fun s hs i j y z a b c d=>(hmem _).2 (g3 s hs i j y z a b c ((hmem _).1 d))) ?_ hD hc hs)
 .exact h.tx.nd.sublist ajg
 .refine List.Pairwise.sublist ajg ?_;exact nW.2 h.tx.so
theorem UX(N:Nat)(hN:200<=N)(k:List ai->Option (ae×List Int×Int)):∀(D:List Int) (v:Nat) {L:List ai},VT L->vR k N D v L=k (Hu D L)
 | [],v,L,_=>by rw[vR];rfl
 | n::D,v,L,h=>by rw[vR,afc N hN h,cb,UX N hN k D (v+1) (ZZ h n)];rfl
theorem Uq(N:Nat)(hN:200<=N)(r:ae)(D0:List Int):∀(D:List Int) (v:Nat) {L:List ai},VT L->wV r D0 N D v L=some (⟨r.Txns,Ea D L,r.Stacks⟩,D0,0)
 | [],v,L,_=>by rw[wV];rfl
 | n::D,v,L,h=>by rw[wV,ZY N hN h,cb,Uq N hN r D0 D (v+1) (Ud h n)];rfl
def UR(N:Nat)(hN:2000<=N){t:ae}(h:TV t)(id:Int):∃r,lu N t id=some r/\uP N t id=some r/\VT r.1.Locks:=by
 by_cases hid:id∈ids t
 .obtain⟨D,e,h1,h2,h3,h4⟩:=IQ N oZg h hid;refine⟨_,e,?_,h1.lk⟩;obtain⟨x,hx,q⟩:=cH.1 hid;rw[uP,pq N hN h,cb,if_pos rfl,<-q,An N h.tx hx,cb,if_pos rfl,q,aeD N oZg h hid h2 h3 h4,cb,Wx N oZg D h,cb,UX N oZg _ D 0 (by exact h.lk),K1,Uq N oZg _ D D 0 (LQ (by exact h.lk))];rfl
 .refine⟨_,XA N oZg h hid,?_,VT.nil⟩;rw[uP,pq N hN h,cb,if_pos rfl,Mp N hid,cb,if_neg oZk]
def acL(N:Nat)(hN:2000<=N){t:ae}(h:TV t)(n:Int):∃r,iI N t n=some r/\Hn N t n=some r/\VT r.1.Locks:=by
 obtain⟨ra,a1,a2,a3⟩:=UR N hN h n;rw[iI,Hn,gO N oZg h,pq N hN h,cb,cb,if_pos rfl,if_pos rfl,MG N h];rcases Eb N h n with⟨i,x,c,hx,hn,e⟩|⟨⟨c,e⟩,hq⟩
 .have hxm:=cd hx.hi;have hX:=(h.tx.x x hxm).1;have hva:=Iv (hX.ca c (cd hx.hc));rw[e,cb,cb,if_pos rfl,if_pos rfl];dsimp only;rw[ab5 N oZg h.lk hva (hn▸hX.i1) (hn▸hX.i2),adY N oZg h.lk hva (hn▸hX.i1) (hn▸hX.i2),cb,cb];obtain⟨D,d1,_⟩:=IQ N oZg h (id:=n) (hn▸E6 hx.hi);obtain rfl:=cX (d1.symm.trans a1);by_cases q:(acq t.Locks c.Target n).2.2=0
  .rw[if_pos q,if_pos q];by_cases w:(acq t.Locks c.Target n).2.1=3
   .rw[if_pos w,if_pos w,a1,a2];exact⟨_,rfl,rfl,a3⟩
   .rw[if_neg w,if_neg w,tW h,Ie oZg h];exact⟨_,rfl,rfl,aaX h.lk hva (hn▸hX.i1) (hn▸hX.i2)⟩
  .rw[if_neg q,if_neg q];exact⟨_,rfl,rfl,VT.nil⟩
 .rw[e,cb,cb,if_neg oZk,if_neg oZk];exact⟨_,rfl,rfl,VT.nil⟩
def adK(N:Nat)(v:Value):k9 N v v=some true:=by rw[G7,(X5 v v).2 rfl]
def Su(N:Nat)(l:List Value):jv N l l=some true:=by rw[Vw,(Th X5).2 rfl]
def Wd(N:Nat)(l:List Int):mD N l l=some true:=by rw[H3,Uu.2 rfl]
theorem QD(a:Ref):(sEq a.Type_ a.Type_&&sEq a.Key a.Key)=true:=lR.2 rfl
def Wf(N:Nat)(c:ah):qS N c c=some true:=by rw[qS,if_pos (QD _),if_pos (yS _),Su,cb]
def ab6(N:Nat)(l:List ah):tL N l l=some true:=by rw[tL,if_pos rfl];exact kq (fun v=>by rw[uy]) fun x xs v hx=>by rw[uy,aw hx,Wf,cb,if_pos rfl]
def Zm(N:Nat)(x:Txn):sZ N x x=some true:=by rw[sZ,if_pos rfl,if_pos rfl,if_pos (yS _),if_pos rfl,if_pos rfl,adK,cb,if_pos rfl,ab6,cb]
def aco(N:Nat)(l:List Ref):yf N l l=some true:=by rw[yf,if_pos rfl];exact kq (fun v=>by rw[my]) fun x xs v hx=>by rw[my,aw hx,if_pos (QD _)]
def SW(N:Nat)(l:List aj):mV N l l=some true:=by rw[mV,if_pos rfl];exact kq (fun v=>by rw[fM]) fun x xs v hx=>by rw[fM,aw hx,if_pos rfl,if_pos rfl,Su,cb,sr,if_neg oZk]
def ZT(N:Nat)(l:List aP):rp N l l=some true:=by rw[rp,if_pos rfl];exact kq (fun v=>by rw[iR]) fun x xs v hx=>by rw[iR,aw hx,if_pos (QD _),Su,cb,zZ,if_neg oZk]
def Yu(N:Nat)(l:List aB):mo N l l=some true:=by rw[mo,if_pos rfl];exact kq (fun v=>by rw[eC]) fun x xs v hx=>by rw[eC,aw hx,if_pos rfl,if_pos (yS _),if_pos rfl,adK,cb,if_pos rfl,ZT,cb,jN,if_neg oZk]
def Xt{x:ai}{l:List ai}{v:Nat}(hx:l[v]?=some x)(hw:x.Waiters.length<=32)(k:Unit->Option Bool):∀(n u:Nat),x.Waiters.length<u+n->u<=x.Waiters.length->tK x l v k n (u:Int)=k ()
 | 0,u,h1,h2=>oZg
 | n+1,u,h1,h2=>by
  rw[tK];by_cases q:u<x.Waiters.length
  .rw[if_pos oZg,aw (cj q),aw hx,aw (cj q),if_pos rfl,w64 oZg oZg,show((u:Int)+1)=((u+1:Nat):Int) by omega];exact Xt hx hw k n (u+1) oZg oZg
  .rw[if_neg oZg]
def aaU(N:Nat)(hN:200<=N){l:List ai}(h:VT l):uj N l l=some true:=by rw[uj,if_pos rfl];refine kq (fun v=>by rw[k8]) fun x xs v hx=>?_;have hw:=(h.l x (cd hx)).wl;rw[k8,aw hx,if_pos (QD _),if_pos rfl,tG,if_neg oZk,tq];exact Xt hx oZg _ N 0 oZg oZg
def Dx(N:Nat)(hN:200<=N){t:ae}(h:VT t.Locks):gl N t t=some true:=by
 have h3:AF t N t=some true:=by rw[AF];exact kq (fun v=>by rw[pg]) fun x xs v hx=>by rw[pg,aw hx,if_pos (QD _),SW,cb,Ay,if_neg oZk]
 rw[gl,if_pos rfl,if_pos rfl,Eg,aaU N hN h,cb,cb,tn,if_neg oZk,tX,h3];exact kq (fun v=>by rw[tg]) fun x xs v hx=>by rw[tg,aw hx,Zm,cb,if_pos rfl]
def Mg(N:Nat)(a:Ref)(n:Int)(k:List aa->Option (ae×Int)){l:List aa}(hl:l.length<=1000):∀(d m v:Nat),v+d<=l.length->(∀i s,v<=i->i<v+d->l[i]?=some s->s.Actor≠a)->dY a N n k (m+d) (l,(v:Int))=dY a N n k m (l,((v+d:Nat):Int))
 | 0,m,v,h,hs=>rfl
 | d+1,m,v,h,hs=>by
  have hg:l[v]?=some (l[v]'oZg):=cj oZg;rw[<-nw,dY,if_pos oZg,aw hg,if_neg (fun q=>hs v _ (ck _) oZg hg (lR.1 q)),w64 oZg oZg,show((v:Int)+1)=((v+1:Nat):Int) by omega,Mg N a n k hl d m (v+1) oZg fun i s h1 h2=>hs i s oZg oZg,show v+1+d=v+(d+1) by omega]
def abi(N:Nat)(a:Ref)(n:Int)(k:List aa->Option (ae×Int)){l:List aa}(hl:l.length<=1000){v m:Nat}(hm:l.length<v+m)(hv:v<=l.length)(hs:∀i s,v<=i->l[i]?=some s->s.Actor≠a):dY a N n k m (l,(v:Int))=k l:=by obtain⟨q,rfl⟩:∃q,m=(q+1)+(l.length-v):=⟨m-1 -(l.length-v),oZg⟩;rw[Mg N a n k hl (l.length-v) (q+1) v oZg fun i s h1 _=>hs i s h1,show v+(l.length-v)=l.length by omega,dY,if_neg oZg]
def acM(N:Nat)(hN:2000<=N){t:ae}(h:TV t)(k:List aa->Option (ae×Int)){j m:Nat}{s:aa}{y:aj}(hj:t.Stacks[j]?=some s)(hm:s.Layers[m]?=some y):dY s.Actor N y.Txn_ k N (t.Stacks,0)=if y.Prepared=true then some (emp,7)else k (t.Stacks.set j ⟨s.Actor,s.Layers.set m ⟨y.Txn_,y.Fields,true⟩⟩):=by
 have hl:=h.stacks_len;obtain⟨r,hr⟩:=h.ac;have hjl:=(cg.1 hj).1;have hne:∀{i s'},i≠j->t.Stacks[i]?=some s'->s'.Actor≠s.Actor:=fun{i s'} hi hs' e=>by
  have:=pY h.ss hj (cd hs') e;subst this;obtain⟨g1,g2⟩:=cg.1 hs';obtain⟨g3,g4⟩:=cg.1 hj;have hs:=cV.1 h.ss;rcases nZ i j with q|q|q
  .have:=hs i _ g1 g3 q;rw[g2,g4,dq]at this;cases this
  .exact hi q
  .have:=hs _ i g3 g1 q;rw[g2,g4,dq]at this;cases this
 obtain⟨q,rfl⟩:∃q,N=(q+1)+j:=⟨N-1-j,oZg⟩;have e1:=Mg (q+1+j) s.Actor y.Txn_ k (l:=t.Stacks) oZg j (q+1) 0 oZg fun i s' h1 h2 hs=>hne oZg hs;rw[cy]at e1;refine e1.trans ?_;rw[dY,if_pos oZg,aw hj,if_pos (QD _),Gm _ (hr s (cd hj)) hm,cb,aw hm];cases hp:y.Prepared with
 | true=>rfl
 | false=>
  rw[if_neg oZk,if_neg oZk,w64 oZg oZg,show((j:Int)+1)=((j+1:Nat):Int) by omega,cu,cu];refine abi _ _ _ k (by rw[cL];omega) (by rw[cL];omega) (by rw[cL];omega) fun i s' h1 hs=>?_;rw[xb oZg]at hs;exact hne oZg hs
theorem Yv(N:Nat)(hN:2000<=N){t:ae}(h:TV t)(n:Int)(a:Ref):∃r,dS N t n a=some r/\mJ N t n a=some r/\VT r.1.Locks:=by
 rcases uN N t n with⟨h1,e⟩|⟨i,x,e,hi,rfl⟩
 .refine⟨(emp,6),?_,?_,VT.nil⟩
  .rw[dS,gO N oZg h,cb,if_pos rfl,e,cb,if_pos oZg,dQ,if_pos rfl];rfl
  .rw[mJ,pq N hN h,cb,if_pos rfl,Mp N h1,cb,if_neg oZk,ju,if_pos rfl];rfl
 .have hxm:=cd hi;have hX:=(h.tx.x x hxm).1;have hc2:=hX.c2;obtain⟨ps,p1,p2,p3⟩:=CA N hN (l:=x.Calls) oZg;have er:∀{q b},yy N ps a=some b->ju (om (x,true) N t a x.ID) (!b)=q->mJ N t x.ID a=q:=fun{q b} hb hq=>by
   rw[mJ,pq N hN h,cb,if_pos rfl,An N h.tx hxm,cb,if_pos rfl,eE,p1,cb,cb,hb,cb,hq]
  have et:∀{q:Option (ae×Int)} {b},vd N x.Calls a=some b->dQ (iy t ((i:Nat):Int) N a x.ID) (!b)=q->dS N t x.ID a=q:=fun{q b} hb hq=>by
   rw[dS,gO N oZg h,cb,if_pos rfl,e,cb,if_neg oZg,aw hi,hb,cb,hq]
  by_cases ht:∃c∈x.Calls,c.Target=a
  .replace er:=fun{q}=>er (q:=q) (Zb N ((p3 a).2 ht))
   replace et:=fun{q}=>et (q:=q) (RT N ht)
   by_cases hd:x.Done<x.Calls.length
   .refine⟨(emp,12),et ?_,er ?_,VT.nil⟩
    .rw[dQ,if_neg oZk,iy,aw hi,if_pos hd];rfl
    .rw[ju,if_neg oZk,om,if_pos hd];rfl
   .have hdn:x.Done=x.Calls.length:=by have:=hX.d2;omega
    have hd':=hX.d2;obtain⟨c,hc,hca⟩:=ht;have htk:x.Calls.take x.Done.toNat=x.Calls:=cT oZg;obtain⟨s,hs,hsa,y,hy,hyn⟩:=h.pr x hxm c (by rw[htk];exact hc);have hsa':=hsa.trans hca;subst hsa';obtain⟨m,hm⟩:=cC hy;obtain⟨j,hj1,hj2⟩:=FJ N h.ss hs;have fin:mJ N t x.ID s.Actor=if y.Prepared=true then some (emp,7)else(rM N t s.Actor x.ID) (t.Stacks.set j ⟨s.Actor,s.Layers.set m ⟨y.Txn_,y.Fields,true⟩⟩):=er (by
     have:=acM N hN h (rM N t s.Actor x.ID) hj2 hm;rw[hyn]at this;rw[ju,if_neg oZk,om,if_neg hd,Ie oZg h,cb,this,hyn])
    cases hp:y.Prepared with
    | true=>
     refine⟨(emp,7),et ?_,?_,VT.nil⟩
     .rw[dQ,if_neg oZk,iy,aw hi,if_neg hd,qd N h.ss h.ac hs rfl hy hyn,cb,if_pos hp];rfl
     .rw[fin,if_pos hp]
    | false=>
     rw[hp,if_neg oZk]at fin;rcases MN N oZg h x.ID s.Actor with⟨e',he,hq,h1⟩|@⟨x',j',s',y',hx',hn',hd2,ha',hj',hsa'',hy',hyn',hp',h1,hT⟩
     .exfalso;rcases hq x hxm rfl with q|q|⟨s',g1,g2,y',g3,g4,g5⟩
      .exact hd q
      .exact q ⟨c,hc,hca⟩
      .have:=pY h.ss hj2 g1 g2;subst this;obtain⟨r,hr⟩:=h.ac;obtain⟨m',hm'⟩:=cC g3;have:=pU (hr s' hs) hm' hm (g4.trans hyn.symm);subst this;rw[hm]at hm';cases hm';rw[hp]at g5;cases g5
     .refine⟨_,h1,?_,hT.lk⟩;have hml:=(cg.1 hm).1;have hlast:=((h.st s hs).up m y hm hp).1;have:=pY h.ss hj2 (cd hj') hsa'';subst this;have hm2:m=s'.Layers.length-1:=oZg;subst hm2;rw[hm]at hy';cases hy';have hjj:j'=j:=by
       obtain⟨g1,g2⟩:=cg.1 hj';obtain⟨g3,g4⟩:=cg.1 hj2;have hs:=cV.1 h.ss;rcases nZ j' j with q|q|q
       .have:=hs _ _ g1 g3 q;rw[g2,g4,dq]at this;cases this
       .exact q
       .have:=hs _ _ g3 g1 q;rw[g2,g4,dq]at this;cases this
      subst hjj;obtain⟨_,k,hk,hka,hko⟩:=(h.st s' hs).up _ y hm hp;have hv:VA s'.Actor:=hca▸Iv (hX.ca c hc);rw[fin,rM,aeY N oZg h.lk hv hX.i1 hX.i2,cb];obtain⟨g1,g2⟩:=DB h.lk hk;rw[hka]at g1 g2;unfold rls;rw[if_pos g2,g1];simp only;rw[if_pos (hko.trans hyn)];rfl
  .refine⟨(emp,6),et (b:=false) ?_ ?_,er (aen N fun q=>ht ((p3 a).1 q)) ?_,VT.nil⟩
   .rw[My];refine congrArg some (aiP.2 fun q=>?_);obtain⟨c,hc,g⟩:=aiG.1 q;exact ht ⟨c,hc,(uO _ _).1 g⟩
   .rw[dQ,if_pos oZk];rfl
   .rw[ju,if_pos oZk];rfl
def afE{α β:Type}{l:List α}{m n:Nat}{k:List α->Option β}(h1:m<=n)(h:n<=l.length):slx l ((m:Nat):Int) ((n:Nat):Int) k=k ((l.drop m).take (n-m)):=by unfold slx;rw[if_pos ⟨oZg,oZg,by simpa using h1,by simpa using h⟩];simp
def agd{α β:Type}{l:List α}{n:Nat}{k:List α->Option β}(h:n<=l.length):slt l ((n:Nat):Int) k=k (l.take n):=by unfold slt;rw[if_pos ⟨oZg,by simpa using h⟩,cu]
def QT(N:Nat)(n:Int)(r:Value)(k:List Txn->Option (ae×Int)){l:List Txn}(hl:l.length<=1000):∀(d m v:Nat),v+d<=l.length->(∀i x,v<=i->i<v+d->l[i]?=some x->x.ID≠n)->gZ n N r k (m+d) (l,(v:Int))=gZ n N r k m (l,((v+d:Nat):Int))
 | 0,m,v,h,hs=>rfl
 | d+1,m,v,h,hs=>by
  have hg:l[v]?=some (l[v]'oZg):=cj oZg;rw[<-nw,gZ,if_pos oZg,aw hg,if_neg (hs v _ (ck _) oZg hg),w64 oZg oZg,show((v:Int)+1)=((v+1:Nat):Int) by omega,QT N n r k hl d m (v+1) oZg fun i s h1 h2=>hs i s oZg oZg,show v+1+d=v+(d+1) by omega]
def ae3(N:Nat)(hN:2000<=N){t:ae}(h:TV t){i:Nat}{x:Txn}(hi:t.Txns[i]?=some x){r:Value}(hr:bdV r)(k:List Txn->Option (ae×Int)):gZ x.ID N r k N (t.Txns,0)=k (t.Txns.set i ⟨x.ID,x.Born,x.Client,x.Seq,x.Calls,x.Done+1,r⟩):=by
 have hl:=h.tx.len;have hX:=(h.tx.x x (cd hi)).1;have hc2:=hX.c2;have hd1:=hX.d1;have hd2:=hX.d2;have hil:=(cg.1 hi).1;have hne:∀{j y},j≠i->t.Txns[j]?=some y->y.ID≠x.ID:=fun{j y} hj hy e=>by
  obtain⟨g1,g2⟩:=cg.1 hy;obtain⟨g3,g4⟩:=cg.1 hi;have hs:=cV.1 h.tx.so;rcases nZ j i with q|q|q
  .have:=hs j _ g1 g3 q;rw[g2,g4]at this;omega
  .exact hj q
  .have:=hs _ j g3 g1 q;rw[g2,g4]at this;omega
 obtain⟨q,rfl⟩:∃q,N=(q+1)+i:=⟨N-1-i,oZg⟩;have e1:=QT (q+1+i) x.ID r k (l:=t.Txns) oZg i (q+1) 0 oZg fun j y h1 h2 hs=>hne oZg hs;rw[cy]at e1;refine e1.trans ?_;rw[gZ,if_pos oZg,aw hi,if_pos rfl,DS hr,cb,w64 (n:=x.Done+1) oZg oZg,w64 (n:=(i:Int)+1) oZg oZg,show((i:Int)+1)=((i+1:Nat):Int) by omega,cu];obtain⟨p,rfl⟩:∃p,q=(p+1)+(t.Txns.length -(i+1)):=⟨q-1 -(t.Txns.length -(i+1)),oZg⟩;rw[QT _ x.ID r k (l:=t.Txns.set i _) (by rw[cL];omega) (t.Txns.length -(i+1)) (p+1) (i+1) (by rw[cL];omega) fun j y h1 h2 hs=>by
  rw[xb oZg]at hs;exact hne oZg hs]
 rw[gZ,if_neg (by rw[cL];omega)]
def W2(N:Nat)(k:Int->Option (ae×Int))(c:ah×Bool){R:List aa}(hR:∀s R',R=s::R'->rl s.Actor c.1.Target=false):∀(A:List aa) (v:Nat),(∀s∈A,rl s.Actor c.1.Target=true)->mF k N c (A++R) v ()=k ((v+A.length:Nat):Int)
 | [],v,_=>by
  cases R with
  | nil=>rw[nn,mF];rfl
  | cons s R'=>rw[cO,mF,CY,cb,hR s R' rfl,if_neg oZk];rfl
 | s::A,v,h=>by
  rw[nF,mF,CY,cb,h s oZk,if_pos rfl,W2 N k c hR A (v+1) fun y hy=>h y (by simp[hy]),cn,show v+1+A.length=v+(A.length+1) by omega]
def aeQ(N:Nat){t:ae}(h:TV t){i:Nat}{x:Txn}{c:ah}{b:Bool}{k:ai}(e:Exe t i x c k){f:List Value}(hf:C9 f){lay:List aj}{A B:List aa}(hS:t.Stacks=A++⟨c.Target,lay⟩::B)(l:List Txn):
  qg t ((A.length:Nat):Int) (c,b) N x.ID f l false=some (⟨l,t.Locks,A++⟨c.Target,ia x.ID f lay⟩::B⟩,0):=by
 have hsm:(⟨c.Target,lay⟩:aa)∈t.Stacks:=by rw[hS];simp
 have hll:=h.layers_len hsm;simp only at hll;obtain⟨r,hr⟩:=h.ac;have hat:t.Stacks[A.length]?=some ⟨c.Target,lay⟩:=by rw[hS];exact pB
 have hset:∀{l':List aj},t.Stacks.set A.length ⟨c.Target,l'⟩=A++⟨c.Target,l'⟩::B:=by intro l';rw[hS];exact DE
 have hset2:∀{l1 l':List aj},(A++(⟨c.Target,l1⟩:aa)::B).set A.length ⟨c.Target,l'⟩=A++⟨c.Target,l'⟩::B:=DE;have hne:=(h.st _ hsm).ne;simp only at hne;obtain⟨z,hz⟩:=Fh hne;have hp:=nQ.2 hne;have hpush:ia x.ID f lay=if z.Txn_=x.ID then lay.set (lay.length-1) ⟨z.Txn_,f,z.Prepared⟩else lay++[⟨x.ID,f,false⟩]:=by unfold ia;rw[hz]
 rw[qg,if_neg oZk,aw hat];dsimp only;by_cases q:z.Txn_=x.ID
 .have:=Gm N (hr _ hsm) hz;rw[q]at this;simp only at this;rw[this,cb,if_neg oZg,zy,aw hat,p8 hf,cb];dsimp only;rw[aw hz,cu,cu,hset,hpush,if_pos q]
 .have hno:∀y∈lay,y.Txn_≠x.ID:=fun y hy g=>by
   obtain⟨m,hm⟩:=cC hy;have:=((h.st _ hsm).up m y hm (e.np h hsm hy g)).1;simp only at this;have hm2:m=lay.length-1:=oZg;subst hm2;rw[hz]at hm;cases hm;exact q g
  rw[GK N hno,cb,if_pos oZg,ee oZd,zy,cu,hset,aw pB,p8 hf,cb];dsimp only;rw[aw (x:=(⟨x.ID,[],false⟩:aj)) oZk,cu,hset2,hpush,if_neg q];simp
def Zj(N:Nat){t:ae}(h:TV t){x:Txn}{c:ah}{b:Bool}{f:List Value}(hf:C9 f){A B:List aa}(hS:t.Stacks=A++B)(l:List Txn):
  qg t ((A.length:Nat):Int) (c,b) N x.ID f l true=some (⟨l,t.Locks,A++⟨c.Target,ia x.ID f []⟩::B⟩,0):=by
 have hl:=h.stacks_len;have hlen:t.Stacks.length=A.length+B.length:=by rw[hS];simp
 have hset2:∀{l1 l':List aj},(A++(⟨c.Target,l1⟩:aa)::B).set A.length ⟨c.Target,l'⟩=A++⟨c.Target,l'⟩::B:=DE;have ht:t.Stacks.take A.length=A:=by rw[hS,List.take_left'];rfl
 have hdr:t.Stacks.drop A.length=B:=by rw[hS,List.drop_left'];rfl
 have hB:B.take (t.Stacks.length-A.length)=B:=cT oZg;rw[qg,if_pos rfl,afE oZg oZg,agd oZg,cu,hdr,hB,ht,tY oZg,ee oZd,ee oZd,hU,aw (x:=(⟨c.Target,[]⟩:aa)) oZk,GK N oZk,cb,if_pos oZg,tY oZk,CS,aw (x:=(⟨c.Target,[]⟩:aa)) oZk,p8 hf,cb,show(0:Int)=((0:Nat):Int)from rfl,aw (x:=(⟨x.ID,[],false⟩:aj)) oZk,cu];simp only[xf,hset2];simp[ia]
theorem adi(N:Nat)(hN:2000<=N){t:ae}(h:TV t)(n:Int){f:List Value}{r:Value}(hf:mi f=true)(hr:gX r=true):∃q,jy N t n f r=some q/\Bn N t n f r=some q/\VT q.1.Locks:=by
 have et:jy N t n f r=lF N t n r f:=by rw[jy,gO N oZg h,cb,if_pos rfl,FF,hf,cb,if_pos rfl,pk,hr,cb,zT,if_neg oZk]
 have er:Bn N t n f r=p9 N t n r f:=by rw[Bn,pq N hN h,cb,if_pos rfl,Jv,hf,cb,if_pos rfl,tz,hr,cb,zs,if_neg oZk]
 rcases Eb N h n with⟨i,x,c,hx,rfl,e⟩|⟨⟨c,e⟩,_⟩
 .have hxm:=cd hx.hi;have hX:=(h.tx.x x hxm).1;have hX1:=hX.i1;have ho:=QK N oZg h.lk c.Target;rw[er,p9,MG N h,e,cb,if_pos rfl,UJ N oZg h.lk];by_cases q:qH N t.Locks c.Target=some x.ID
  .have hk:∃k∈t.Locks,k.Actor=c.Target/\k.Owner=x.ID:=by
    rw[ho]at q;by_cases hh:qb t.Locks c.Target=true
    .obtain⟨k,hk,hka⟩:=qL hh;rw[if_pos hh,hk]at q;exact⟨k,cd hk,hka,by simpa using q⟩
    .rw[if_neg hh]at q;simp at q;omega
   obtain⟨k,hk,hka,hko⟩:=hk;have E:Exe t i x c k:=⟨hx.hi,hx.dn,hx.hc,hk,hka,hko⟩;obtain⟨A,B,lay,hS,h1,h2⟩:=Xx N oZg h E hf hr;refine⟨_,h1,?_,h2.lk⟩;have hss:(A++(⟨c.Target,ia x.ID f lay⟩:aa)::B).Pairwise fun a b=>rl a.Actor b.Actor=true:=h2.ss;obtain⟨_,g2,g3⟩:=n5.1 hss;have hA:∀s∈A,rl s.Actor c.Target=true:=fun s hs=>g3 s hs ⟨c.Target,ia x.ID f lay⟩ oZk;have hB:∀s∈B,rl c.Target s.Actor=true:=fun s hs=>(nV.1 g2).1 s hs;rw[q,cb,if_pos rfl,Ie oZg h,cb,ae3 N hN h hx.hi (yx hr),GQ];rcases hS with hS|⟨hS,rfl⟩
   .have hL2:=W2 N (s5 t (c,true) N x.ID f (t.Txns.set i ⟨x.ID,x.Born,x.Client,x.Seq,x.Calls,x.Done+1,r⟩)) (c,true) (R:=⟨c.Target,lay⟩::B) (fun s R' w=>by cases w;exact dq _) A 0 hA;rw[<-hS,cy]at hL2;have hat:t.Stacks[A.length]?=some ⟨c.Target,lay⟩:=by rw[hS];exact pB
    have hlt:=(cg.1 hat).1;rw[hL2,s5,if_neg oZg,aw hat];dsimp only;rw[QD,nv,aeQ N h E (qx hf) hS];rfl
   .have hno:∀s R',B=s::R'->rl s.Actor c.Target=false:=fun s R' w=>by
     have:=hB s (by rw[w];simp);cases g:rl s.Actor c.Target with
     | false=>rfl
     | true=>have:=uR this g;rw[dq]at this;cases this
    have hL2:=W2 N (s5 t (c,true) N x.ID f (t.Txns.set i ⟨x.ID,x.Born,x.Client,x.Seq,x.Calls,x.Done+1,r⟩)) (c,true) (R:=B) hno A 0 hA;rw[<-hS,cy]at hL2;have hlen:t.Stacks.length=A.length+B.length:=by rw[hS];simp
    rw[hL2,s5];by_cases w:B=[]
    .subst w;rw[if_pos (by simp only[cw]at hlen;omega),Zj N h (qx hf) hS];rfl
    .obtain⟨s,R',rfl⟩:=List.exists_cons_of_ne_nil w;have hat:t.Stacks[A.length]?=some s:=by rw[hS];exact pB
     have hne:s.Actor≠c.Target:=fun g=>by
      have:=hB s oZk;rw[g,dq]at this;cases this
     simp only[cn]at hlen;have hsq:(sEq s.Actor.Type_ c.Target.Type_&&sEq s.Actor.Key c.Target.Key)=false:=aiP.2 fun g=>hne (lR.1 g);rw[if_neg oZg,aw hat];dsimp only;rw[hsq,nM,Zj N h (qx hf) hS];rfl
  .refine⟨(emp,10),?_,?_,VT.nil⟩
   .rw[et,lF,e,cb,if_pos rfl];dsimp only;rw[ho]at q ⊢;rw[cb,if_neg (fun w=>q (congrArg some w))];rfl
   .dsimp only;rw[ho]at q ⊢;rw[cb,if_neg (fun w=>q (congrArg some w))];rfl
 .refine⟨(emp,6),?_,?_,VT.nil⟩
  .rw[et,lF,e,cb,if_neg oZk];rfl
  .rw[er,p9,MG N h,e,cb,if_neg oZk];rfl
def Gd(n:Int)(s:aa):Prop:=∀(m:Nat) y,s.Layers[m]?=some y->y.Txn_=n->m=0/\y.Prepared=true
def U8(N:Nat){t:ae}(h:TV t)(x:Txn):∀(xs:List aa) (v:Nat),(∀s∈xs,s∈t.Stacks)->Te (kP N x xs v ()) (∀s∈xs,Gd x.ID s)
 | [],v,_=>⟨true,rfl,oZk⟩
 | s::xs,v,hs=>by
  obtain⟨r,hr⟩:=h.ac;have ih:=U8 N h x xs (v+1) fun y hy=>hs y (by simp[hy]);have hcons:Gd x.ID s->Te (kP N x xs (v+1) ()) (∀y∈s::xs,Gd x.ID y):=fun g=>ih.iff ⟨fun w y hy=>by
   rcases cF.1 hy with rfl|hy
   .exact g
   .exact w y hy,fun w y hy=>w y (by simp[hy])⟩
  rw[kP,Ar,cb];rcases eW (fun y:aj=>decide (y.Txn_=x.ID)) s.Layers 0 with⟨e,hno⟩|⟨i,y,e,hi,hy,_⟩
  .rw[e,if_neg oZh,if_neg oZh,qV,if_neg oZk];exact hcons fun m y hm q=>by
    have:=hno y (cd hm);simp[q]at this
  .have hy:y.Txn_=x.ID:=by simpa using hy
   rw[e,cy];by_cases h0:i=0
   .subst h0;rw[if_neg oZh,if_pos oZh,show(0:Int)=((0:Nat):Int)from rfl,aw hi,qV];cases hp:y.Prepared with
    | true=>
     rw[if_neg oZk];exact hcons fun m z hm q=>by
      have:=pU (hr s (hs s oZk)) hm hi (q.trans hy.symm);subst this;rw[hi]at hm;cases hm;exact⟨rfl,hp⟩
    | false=>exact Te.f fun q=>by have:=(q s oZk 0 y hi hy).2;rw[hp]at this;cases this
   .rw[if_pos oZg,qV,if_pos rfl];exact Te.f fun q=>h0 (q s oZk i y hi hy).1
def WK{t:ae}(h:TV t){x:Txn}(hx:x∈t.Txns)(hd:x.Done=x.Calls.length):(∀s∈t.Stacks,Gd x.ID s)↔tc t x:=by
 obtain⟨r,hr⟩:=h.ac;have htk:x.Calls.take x.Done.toNat=x.Calls:=cT oZg;have hfb:zL t x.ID []=true↔∀s∈t.Stacks,qp x.ID [] s.Layers false=true:=by rw[zL,cE]
 constructor
 .intro g;refine⟨hd,fun c hc=>?_,hfb.2 fun s hs=>(adb (hr s hs) rfl).2 fun k hk y hy=>?_⟩
  .obtain⟨s,hs,hsa,y,hy,hyn⟩:=h.pr x hx c (by rw[htk];exact hc);obtain⟨m,hm⟩:=cC hy;exact⟨s,hs,hsa,y,hy,hyn,(g s hs m y hm hyn).2⟩
  .rcases eW (fun y:aj=>decide (y.Txn_=x.ID)) s.Layers 0 with⟨e,_⟩|⟨i,z,e,hi,hz,_⟩
   .omega
   .have:=(g s hs i z hi (by simpa using hz)).1;omega
 .intro g s hs m y hm hyn;have hym:=cd hm;constructor
  .have h1:=(adb (hr s hs) rfl).1 (hfb.1 g.fi s hs);rw[LK hm (by simp[hyn]) fun j z hj hz=>pU (hr s hs) hj hm ((by simpa using hz:z.Txn_=x.ID).trans hyn.symm)]at h1;rcases Nat.eq_zero_or_pos m with q|q
   .exact q
   .have hml:=(cg.1 hm).1;have:=h1 0 oZg _ (cj oZg);cases this
  .obtain⟨⟨c,hc,hca⟩,_⟩:=(h.st s hs).ex y hym x hx hyn.symm;obtain⟨s',g1,g2,y',g3,g4,g5⟩:=g.pr c (nJ hc);obtain⟨i,hi⟩:=cC hs;have:=pY h.ss hi g1 (g2.trans hca);subst this;obtain⟨m',hm'⟩:=cC g3;have:=pU (hr s' g1) hm' hm (g4.trans hyn.symm);subst this;rw[hm]at hm';cases hm';exact g5
def UT(N:Nat){t:ae}(h:TV t){x:Txn}(hx:x∈t.Txns):Te (Cu N t x) (tc t x):=by rw[Cu];have hd2:=(h.tx.x x hx).1.d2;refine Te.ite (fun hd=>Te.f fun q=>by have:=q.dn;omega) fun hd=>?_;exact(U8 N h x t.Stacks 0 fun _ h=>h).iff (WK h hx oZg)
def Zs{t:ae}(h:TV t){n:Int}:∀{rs:List Ref} {ws ws':List aP},Wr t n rs ws->Wr t n rs ws'->ws=ws'
 | [],[],[],_,_=>rfl
 | [],_::_,_,h1,_=>h1.elim
 | [],[],_::_,_,h2=>h2.elim
 | _::_,[],_,h1,_=>h1.elim
 | _::_,_::_,[],_,h2=>h2.elim
 | a::rs,w::ws,w'::ws',h1,h2=>by
  obtain⟨a1,⟨s,b1,b2,y,b3,b4,b5,b6⟩,c1⟩:=h1;obtain⟨a2,⟨s',d1,d2,y',d3,d4,d5,d6⟩,c2⟩:=h2;obtain⟨r,hr⟩:=h.ac;obtain⟨i,hi⟩:=cC b1;have:=pY h.ss hi d1 (d2.trans b2.symm);subst this;obtain⟨m,hm⟩:=cC b3;obtain⟨m',hm'⟩:=cC d3;have:=pU (hr s' d1) hm' hm (d4.trans b4.symm);subst this;rw[hm]at hm';cases hm';rw[Zs h c1 c2]
  congr 1
  cases w;cases w';simp only at a1 a2 b6 d6;rw[a1,a2,b6,d6]
def Y6(N:Nat){t:ae}(h:TV t){x:Txn}(k:List aP->Option (ae×List aB)):∀(xs:List aa) (v:Nat) (acc:List aP),(∀s∈xs,s∈t.Stacks)->(xs.Pairwise fun a b=>rl a.Actor b.Actor=true)->acc.length+xs.length<=1000->(∀s∈xs,Gd x.ID s) ->
  ∃rs ws,Wr t x.ID rs ws/\jr k N x xs v acc=k (acc++ws)/\rs.Pairwise lpR/\∀a,a∈rs↔∃s∈xs,s.Actor=a/\∃y∈s.Layers,y.Txn_=x.ID
 | [],v,acc,_,_,_,_=>⟨[],[],trivial,by rw[jr,nn],.nil,oZk⟩
 | s::xs,v,acc,hs,hp,hl,hg=>by
  simp only[cn]at hl;obtain⟨hp1,hp2⟩:=nV.1 hp;have hsm:=hs s oZk;have ih:=fun acc hl=>Y6 N h (x:=x) k xs (v+1) acc (fun y hy=>hs y (by simp[hy])) hp2 hl fun y hy=>hg y (by simp[hy]);rw[jr,Ar,cb];rcases eW (fun y:aj=>decide (y.Txn_=x.ID)) s.Layers 0 with⟨e,hno⟩|⟨i,y,e,hi,hy,_⟩
  .obtain⟨rs,ws,g1,g2,g3,g4⟩:=ih acc oZg;refine⟨rs,ws,g1,by rw[e,if_neg oZh,g2],g3,fun a=>?_⟩;rw[g4];constructor
   .rintro⟨z,hz,q⟩;exact⟨z,by simp[hz],q⟩
   .rintro⟨z,hz,q1,y,q2,q3⟩;rcases cF.1 hz with rfl|hz
    .have:=hno y q2;simp[q3]at this
    .exact⟨z,hz,q1,y,q2,q3⟩
  .have hy:y.Txn_=x.ID:=by simpa using hy
   have hym:=cd hi;obtain⟨rs,ws,g1,g2,g3,g4⟩:=ih (acc++[⟨s.Actor,y.Fields⟩]) oZd;refine⟨s.Actor::rs,⟨s.Actor,y.Fields⟩::ws,⟨rfl,⟨s,hsm,rfl,y,hym,hy,(hg s oZk i y hi hy).2,rfl⟩,g1⟩,?_,nV.2 ⟨fun a ha=>?_,g3⟩,fun a=>?_⟩
   .rw[e,cy,if_pos oZg,aw hi,p8 (qx ((h.st s hsm).fi y hym)),cb,ee oZd,g2,hU];rfl
   .obtain⟨z,hz,q,_⟩:=(g4 a).1 ha;rw[<-q];exact hp1 z hz
   .rw[cF,g4];constructor
    .rintro(rfl|⟨z,hz,q⟩)
     .exact⟨s,oZk,rfl,y,hym,hy⟩
     .exact⟨z,by simp[hz],q⟩
    .rintro⟨z,hz,q⟩;rcases cF.1 hz with rfl|hz
     .exact .inl q.1.symm
     .exact .inr ⟨z,hz,q⟩
def N9(N:Nat){t:ae}(h:TV t)(acc:List aB):∀(d m v:Nat),v+d<=t.Txns.length->(∀i x,v<=i->i<v+d->t.Txns[i]?=some x->¬tc t x)->dX N (m+d) (t.Txns,t.Locks,t.Stacks,acc,(v:Int))=dX N m (t.Txns,t.Locks,t.Stacks,acc,((v+d:Nat):Int))
 | 0,m,v,_,hs=>rfl
 | d+1,m,v,hv,hs=>by
  have hl:=h.tx.len;have hg:t.Txns[v]?=some (t.Txns[v]'oZg):=cj oZg;rw[<-nw,dX,if_pos oZg,aw hg,show(⟨t.Txns,t.Locks,t.Stacks⟩:ae)=t from rfl,(UT N h (cd hg)).isnt (hs v _ (ck _) oZg hg),cb,if_neg oZk,w64 oZg oZg,show((v:Int)+1)=((v+1:Nat):Int) by omega,N9 N h acc d m (v+1) oZg fun i s h1 h2=>hs i s oZg oZg,show v+1+d=v+(d+1) by omega]
def Xc(N:Nat)(hN:100002<=N):∀(n:Nat) {t:ae} (acc:List aB),TV t->t.Txns.length<n->acc.length+t.Txns.length<=1000->∃t' cs,im N n (t.Txns,t.Locks,t.Stacks,acc)=some (t',cs)/\TV t'/\∀m,(t.Txns.length+1)* 40<=m->dX N m (t.Txns,t.Locks,t.Stacks,acc,0)=some (t',cs)
 | n+1,t,acc,h,hn,ha=>by
  classical
  have hl:=h.tx.len;have hloop:=lj (L:=fa N t.Txns t.Locks t.Stacks) (fun x=>mC N x t.Txns t.Locks t.Stacks) (fun x=>decide (tc t x)) (fun _=>rfl) (fun _ _ _=>rfl) t.Txns 0 (fun x _=>by
   by_cases q:tc t x
   .rw[(LM N h x).is q];simp[q]
   .rw[(LM N h x).isnt q];simp[q])
  rw[im,dg,hloop,cb];rcases eW (fun x=>decide (tc t x)) t.Txns 0 with⟨e,hno⟩|⟨i,x,e,hi,hr,hbe⟩
  .rw[e,if_pos oZg];refine⟨t,acc,rfl,h,fun m hm=>?_⟩;obtain⟨q,rfl⟩:∃q,m=(q+1)+t.Txns.length:=⟨m-1-t.Txns.length,oZg⟩;have:=N9 N h acc t.Txns.length (q+1) 0 oZg fun i x _ _ hx=>by simpa using hno x (cd hx)
   rw[cy]at this;refine this.trans ?_;rw[dX,if_neg oZg]
  .have hxm:=cd hi;have hX:=(h.tx.x x hxm).1;have hr:tc t x:=by simpa using hr
   have hT:TV (zY t [x.ID]):=X2 h (UN h hxm hr);obtain⟨ps,p1,p2,p3⟩:=uf N hN hX.c1 hX.c2;have hlen:(zY t [x.ID]).Txns.length<t.Txns.length:=by refine ajX (aiF _ _) fun q=>?_;have:=ajY.1 q x hxm;rw[AH]at this;exact this oZk
   have hpl:ps.length<=4:=by
    have hnd:ps.Nodup:=p2.imp fun{a b} g e=>by rw[e,lpR,dq]at g;cases g
    have:=Bj (l:=x.Calls.map ah.Target) hnd fun a hm=>by
     obtain⟨c,hc,q⟩:=(p3 a).1 hm;exact cH.2 ⟨c,hc,q⟩
    simp only[cr]at this;have:=hX.c2;omega
   have hsl:=h.stacks_len;obtain⟨ws,w1,w2⟩:=Xr N h (x:=x) (qX N t.Txns t.Locks t.Stacks x acc x.Last (im N n)) ps 0 [] (fun a hm=>by
    obtain⟨c,hc,q⟩:=(p3 a).1 hm;exact q▸hr.pr c hc) oZd
   obtain⟨t',cs,r1,r2,r3⟩:=Xc N hN n (t:=zY t [x.ID]) (acc++[⟨x.ID,x.Client,x.Seq,x.Last,ws⟩]) hT oZg oZd;refine⟨t',cs,?_,r2,fun m hm=>?_⟩
   .rw[e,cy,if_neg oZg,aw hi,zi (yx hX.la),cb,p1,cb,w2,cO,qX,show(⟨t.Txns,t.Locks,t.Stacks⟩:ae)=t from rfl,OB N oZg h,cb,ee oZd,r1]
   .have hil:=(cg.1 hi).1;have hgd:=(WK h hxm hr.dn).2 hr;obtain⟨q,rfl⟩:∃q,m=(q+1)+i:=⟨m-1-i,oZg⟩;have hs:=N9 N h acc i (q+1) 0 oZg fun j y _ hj hy=>by
     have:=hbe y (aiV.2 ⟨j,by have:=(cg.1 hy).1;omega,(cg.1 hy).2⟩);simpa using this
    rw[cy]at hs;refine hs.trans ?_;obtain⟨rs,ws',u1,u2,u3,u4⟩:=Y6 N h (x:=x) (zf acc x x.Last N t.Txns t.Locks t.Stacks (dX N q)) t.Stacks 0 [] (fun _ h=>h) h.ss oZd hgd;have hrs:rs=ps:=RO u3 p2 fun a=>by
     rw[u4,p3];constructor
     .rintro⟨s,hs,rfl,y,hy,hyn⟩;obtain⟨⟨c,hc,hca⟩,_⟩:=(h.st s hs).ex y hy x hxm hyn.symm;exact⟨c,nJ hc,hca⟩
     .rintro⟨c,hc,rfl⟩;obtain⟨s,g1,g2,y,g3,g4,_⟩:=hr.pr c hc;exact⟨s,g1,g2,y,g3,g4⟩
    subst hrs;obtain rfl:=Zs h u1 w1;rw[dX,if_pos oZg,aw hi,show(⟨t.Txns,t.Locks,t.Stacks⟩:ae)=t from rfl,(UT N h hxm).is hr,cb,if_pos rfl,DS (yx hX.la),cb,u2,cO,zf,ee oZd,show(⟨t.Txns,t.Locks,t.Stacks⟩:ae)=t from rfl,Wx N oZg [x.ID] h,cb];exact r3 q (by
     have:((zY t [x.ID]).Txns.length+1)* 40<=t.Txns.length*40:=nr _ hlen;omega)
def Yr(N:Nat)(hN:100002<=N){t:ae}(h:TV t):∃q,lI N t=some q/\zr N t=some q/\VT q.1.Locks:=by
 have:=h.tx.len;obtain⟨t',cs,h1,h2,h3⟩:=Xc N hN N (t:=t) [] h oZg oZd;refine⟨(t',cs),?_,?_,h2.lk⟩
 .rw[lI,gO N oZg h,cb,if_pos rfl,tW h,cb,h1]
 .rw[zr,pq N oZg h,cb,if_pos rfl,Ie oZg h,cb,h3 N oZg]
def aer(N:Nat){t:ae}{n:Int}(hn:n∉ids t):u7 N t n=some (x0,false):=by
 rcases uN N t n with⟨_,e⟩|⟨i,x,_,hi,q⟩
 .rw[u7,e,cb,if_neg oZg];rfl
 .exact absurd (cH.2 ⟨x,cd hi,q⟩) hn
theorem abr(N:Nat):∃r,zA N (IntKind.u64.wrap 0)=some r:=by
 have h:IntKind.u64.wrap 0=0:=oZh;have h8:(IntKind.u8.wrap 0).toNat=0:=oZh;rw[h];simp only[zA,DP,AD,AZ];rw[if_neg oZh,if_neg oZh,if_neg oZh];unfold Ax gxs;rw[if_pos oZh,h8];generalize hl:(((_:List UInt8).append _).append _)=l;have h0:l[0]?=some 0:=by rw[<-hl];rfl
 have:(⟨l.toArray⟩:ByteArray)[0]?=some 0:=by
  obtain⟨x,xs,rfl⟩:∃x xs,l=x::xs:=by
   cases l with
   | nil=>simp at h0
   | cons x xs=>exact⟨x,xs,rfl⟩
  simp at h0;subst h0;rfl
 rw[this];exact⟨_,rfl⟩
theorem ae8(N:Nat)(hN:200<=N):fD N x0=some []:=by
 obtain⟨r,hr⟩:=abr N;obtain⟨n,rfl⟩:∃n,N=n+1:=⟨N-1,oZg⟩;have h1:aT (n+1) [] 0 0=some []:=by simp only[aT,bt,GO];rw[if_neg oZh];rfl
 have h2:aX (n+1) [] 0 0 r=some []:=by simp only[aX,dI,GO];rw[if_pos oZh,h1];rfl
 have e:bk (n+1) []=some []:=by rw[bk,if_pos (by rfl)];simp only[bw,GO];rw[show IntKind.u64.wrap ((([]:List Ref).length:Nat):Int)=IntKind.u64.wrap 0 from rfl,hr,cb,show((([]:List Ref).length:Nat):Int)=0 from rfl,h2];rfl
 show iG (n+1) []=some [];rw[iG,e];rfl
theorem acv(N:Nat)(hN:100002<=N){t:ae}(h:TV t)(n:Int):∃x b p,u7 N t n=some (x,b)/\iZ N t n=some (x,b)/\fD N x=some p/\eE N x=some p:=by
 by_cases hn:n∈ids t
 .obtain⟨x,hx,rfl⟩:=cH.1 hn;have hX:=(h.tx.x x hx).1;have:=hX.c2;obtain⟨p,p1,p2,p3⟩:=uf N hN hX.c1 hX.c2;obtain⟨r,r1,r2,r3⟩:=CA N oZg (l:=x.Calls) oZg;have e:r=p:=RO r2 p2 fun a=>by rw[r3,p3]
  exact⟨x,true,p,aes N h hx,An N h.tx hx,p1,by rw[eE,r1,e];rfl⟩
 .exact⟨x0,false,[],aer N hn,Mp N hn,ae8 N oZg,rfl⟩
def UZ(N:Nat){t:ae}(h:TV t)(a:Ref):(∃s∈t.Stacks,s.Actor=a/\ky N t a=some s.Layers/\gb N t a=some s.Layers)∨((∀s∈t.Stacks,s.Actor≠a)/\ky N t a=some []/\gb N t a=some []):=by
 rcases FL N t a with⟨e,hno⟩|⟨i,s,e,hi,rfl⟩
 .refine .inr ⟨hno,?_,Ma N hno⟩;rw[ky,e,cb,if_neg oZg]
 .have hs:=cd hi;exact .inl ⟨s,hs,rfl,aa3 N h hs,DO N h hs⟩
def abZ(N:Nat){t:ae}(h:TV t)(a:Ref){f:List Value}(hf:C9 f):∃q,oY N t a f=some q/\AE N t a f=some q:=by
 rcases FL N t a with⟨e,hno⟩|⟨i,s,e,hi,rfl⟩
 .refine⟨f,?_,?_⟩
  .rw[oY,e,cb,if_neg oZg,zk,if_neg oZk,CP,ot hf];rfl
  .rw[AE,Ma N hno,cb,if_pos (by rfl),p8 hf];rfl
 .have hs:=cd hi;have hl:=h.layers_len hs;have hne:=(h.st s hs).ne;obtain⟨z,hz⟩:=Fh hne;have hp:=nQ.2 hne;have hw:IntKind.i64.wrap ((s.Layers.length:Int)-1)=((s.Layers.length-1:Nat):Int):=by rw[w64 oZg oZg];omega
  refine⟨z.Fields,?_,?_⟩
  .rw[oY,e,cb,if_pos oZg,aw hi,zk,if_pos oZd,aw hi,hw,aw hz,ot (qx ((h.st s hs).fi z (cd hz)))];rfl
  .rw[AE,DO N h hs,cb,if_neg oZg,hw,aw hz]
open Classical in
def HR(N:Nat){t:ae}(h:TV t)(x:Txn)(k:Bool->Option (List Int)):∀(ps:List Ref) (v:Nat) (c:Bool),fB k N t x ps v c=k (c || decide (∃a∈ps,¬eK t a x.ID))
 | [],v,c=>by rw[fB];simp
 | a::ps,v,c=>by
  have hcons:(decide (¬eK t a x.ID) || decide (∃b∈ps,¬eK t b x.ID))=decide (∃b∈a::ps,¬eK t b x.ID):=by rw[xr];simp
  have fin:∀c',fB k N t x ps (v+1) (c || c' || c)=k (c ||(c' || decide (∃b∈ps,¬eK t b x.ID))):=fun c'=>by
   rw[HR N h x k ps (v+1)];cases c<;>simp
  have ct:fB k N t x ps (v+1) true=k (true ||(decide (¬eK t a x.ID) || decide (∃b∈ps,¬eK t b x.ID))):=by rw[HR N h x k ps (v+1)];simp
  rw[fB,<-hcons];rcases UZ N h a with⟨s,hs,rfl,_,e⟩|⟨hno,_,e⟩
  .obtain⟨r,hr⟩:=h.ac;rw[e,cb];by_cases q:∃y∈s.Layers,y.Txn_=x.ID
   .obtain⟨y,hy,hyn⟩:=q;obtain⟨m,hm⟩:=cC hy;have hpa:eK t s.Actor x.ID↔y.Prepared=true:=⟨fun⟨s',g1,g2,y',g3,g4,g5⟩=>by
     obtain⟨i,hi⟩:=cC hs;have:=pY h.ss hi g1 g2;subst this;obtain⟨m',hm'⟩:=cC g3;have:=pU (hr s' hs) hm' hm (g4.trans hyn.symm);subst this;rw[hm]at hm';cases hm';exact g5,fun g=>⟨s,hs,rfl,y,hy,hyn,g⟩⟩
    have hix:=Gm N (hr s hs) hm;rw[hyn]at hix;rw[hix,cb];cases c with
    | true=>rw[if_pos rfl];exact ct
    | false=>
     rw[if_neg oZk,if_neg oZg,aw hm,HR N h x k ps (v+1),nD]
     congr 1
     congr 1
     cases hp:y.Prepared<;>simp[hpa,hp]
   .have hnp:¬eK t s.Actor x.ID:=fun⟨s',g1,g2,y',g3,g4,g5⟩=>by
     obtain⟨i,hi⟩:=cC hs;have:=pY h.ss hi g1 g2;subst this;exact q ⟨y',g3,g4⟩
    rw[GK N fun y hy g=>q ⟨y,hy,g⟩,cb];cases c with
    | true=>rw[if_pos rfl];exact ct
    | false=>rw[if_neg oZk,if_pos oZg,HR N h x k ps (v+1),decide_eq_true hnp];simp
  .have hnp:¬eK t a x.ID:=fun⟨s',g1,g2,_⟩=>hno s' g1 g2;rw[e,cb,GK N oZk,cb];cases c with
   | true=>rw[if_pos rfl];exact ct
   | false=>rw[if_neg oZk,if_pos oZg,HR N h x k ps (v+1),decide_eq_true hnp];simp
open Classical in
def Y4(N:Nat)(hN:2000<=N){t:ae}(h:TV t){now:Int}(h0:0<=now)(h1:now<=255):zB N t now=zO N t now:=by
 have key:∀(xs:List Txn) (v:Nat) (acc:List Int),(∀x∈xs,x∈t.Txns)->acc.length+xs.length<=1000->kF now N t xs v acc=some (acc++(xs.filter fun x=>decide ((¬ ∀c∈x.Calls,eK t c.Target x.ID)/\x.Born+40<=now)).map Txn.ID):=by
  intro xs
  induction xs with
  | nil=>intro v acc _ _;rw[kF];simp
  | cons x xs ih=>
   intro v acc hx hl;simp only[cn]at hl;have hX:=(h.tx.x x (hx x oZk)).1;have hR:=(h.tx.x x (hx x oZk)).2;have hb0:=hR.1;have hb1:=hR.2.1;have hc2:=hX.c2;have i1:=ih (v+1) acc (fun y hy=>hx y (by simp[hy])) oZg;have i2:=ih (v+1) (acc++[x.ID]) (fun y hy=>hx y (by simp[hy])) oZd;rw[kF,w64 oZg oZg];by_cases g:x.Born+40<=now
   .obtain⟨ps,p1,p2,p3⟩:=CA N hN (l:=x.Calls) oZg;rw[if_neg oZg,eE,p1,cb,cb,HR N h x,nD,CW];have hiff:(∃a∈ps,¬eK t a x.ID)↔¬ ∀c∈x.Calls,eK t c.Target x.ID:=by
     constructor
     .rintro⟨a,ha,q⟩ w;obtain⟨c,hc,e⟩:=(p3 a).1 ha;exact q (e▸w c hc)
     .intro w;by_cases z:∃a∈ps,¬eK t a x.ID
      .exact z
      .refine absurd (fun c hc=>?_) w;by_cases y:eK t c.Target x.ID
       .exact y
       .exact absurd ⟨_,(p3 _).2 ⟨c,hc,rfl⟩,y⟩ z
    by_cases q:∀c∈x.Calls,eK t c.Target x.ID
    .rw[decide_eq_false (fun w=>hiff.1 w q),if_neg oZk,i1,n9,if_neg (by simp only[decide_eq_true_eq];exact fun g=>g.1 q)]
    .rw[decide_eq_true (hiff.2 q),if_pos rfl,ee oZd,i2,n9,if_pos (by simp only[decide_eq_true_eq];exact⟨q,g⟩)];simp
   .rw[if_pos oZg,i1,n9,if_neg (by simp only[decide_eq_true_eq];exact fun z=>g z.2)]
 have:=h.tx.len;rw[SH N oZg h h0 h1,zB,pq N hN h,cb,if_pos rfl,key t.Txns 0 [] (fun x hx=>hx) oZd];simp
def acf(N:Nat)(hN:100002<=N){t:ae}(h:TV t)(n:Int){now:Int}(h0:0<=now)(h1:now<=255)(a:Ref){f:List Value}(hf:C9 f):Cc N t n now a f=some true:=by
 obtain⟨x,b,p,e1,e2,e3,e4⟩:=acv N hN h n;obtain⟨q,f1,f2⟩:=abZ N h a hf;have hnx:∃r,jU N t n=some r:=by rcases Eb N h n with⟨_,_,c,_,_,e⟩|⟨⟨c,e⟩,_⟩<;>exact⟨_,e⟩
 obtain⟨r,hr⟩:=hnx;have hly:∃l,ky N t a=some l/\gb N t a=some l:=by
  rcases UZ N h a with⟨s,_,_,g1,g2⟩|⟨_,g1,g2⟩
  .exact⟨_,g1,g2⟩
  .exact⟨_,g1,g2⟩
 obtain⟨l,l1,l2⟩:=hly;have J2:k7 N t (x,b) (x,b) a f=some true:=by rw[k7,gO N oZg h,pq N oZg h,cb,cb,if_pos rfl];dsimp only;rw[e3,e4,cb,cb,aco,cb,if_pos rfl,l1,l2,cb,cb,SW,cb,if_pos rfl,f1,f2,cb,cb,Su];rfl
 rw[Cc,e1,e2,cb,cb,MG N h,hr,cb,cb,if_pos rfl];dsimp only;rw[Zm,cb,if_pos rfl,if_pos rfl,Wf,cb,if_pos rfl,Y4 N oZg h h0 h1,SH N oZg h h0 h1,cb,cb,Wd,cb,oc,if_neg oZk,J2]
def VF(N:Nat)(hN:100002<=N){t:ae}(h:TV t)(n:Int){now:Int}(h0:0<=now)(h1:now<=255)(cl:ByteArray)(sq:Int)(a:Ref)(calls:List ah){f:List Value}(hf:mi f=true){r:Value}(hr:gX r=true):mY N t n now cl sq a calls f r=some true:=by
 obtain⟨b,b1,b2,b3⟩:=abG N oZg h n now sq cl calls;obtain⟨l,l1,l2,l3⟩:=acL N oZg h n;obtain⟨e,e1,e2,e3⟩:=adi N oZg h n hf hr;obtain⟨p,p1,p2,p3⟩:=Yv N oZg h n a;obtain⟨d,d1,d2,d3⟩:=UR N oZg h n;obtain⟨c,c1,c2,c3⟩:=Yr N hN h;have J4:iH N t n now a f=some true:=by rw[iH,acf N hN h n h0 h1 a (qx hf)];rfl
 have J5:j7 N t n now a f=some true:=by rw[j7,d1,d2,c1,c2];simp only[cb,if_true,Wd,Dx N oZg d3,Dx N oZg c3,Yu,ke,nv,cS,if_false,J4]
 have J6:eQ N t n f r a now=some true:=by rw[eQ,e1,e2,p1,p2];simp only[cb,if_true,Dx N oZg e3,Dx N oZg p3,mS,nv,cS,if_false,J5]
 rw[mY,b1,b2,l1,l2];simp only[cb,if_true,Wd,Dx N oZg b3,Dx N oZg l3,fO,nv,cS,if_false,J6]
def Oq(N:Nat)(hN:100002<=N):∀(xs:List Pp) (v:Nat) {t:ae},v+xs.length<=60->(∀x∈xs,U8C x)->TV t->fV N xs v (t.Txns,t.Locks,t.Stacks)=some true
 | [],v,t,_,_,_=>by rw[fV]
 | x::xs,v,t,hl,hx,h=>by
  simp only[cn]at hl;have hu:=hx x oZk;obtain⟨⟨k0,k1⟩,⟨w0,w1⟩,a0,a1⟩:=id hu;obtain⟨t',cs,e,h1,h2⟩:=adP N hN h (v:=v) oZg hu;have ih:=Oq N hN xs (v+1) (t:=t') oZg (fun y hy=>hx y (by simp[hy])) h1;have htl:=h1.tx.len;obtain⟨n,hn,_⟩:=Zv N t' oZg w0 w1;obtain⟨r,hr⟩:=KE N oZg (fun x hx=>(h1.tx.x x hx).1) n a0 a1;obtain⟨cl,hc,_⟩:=XC N oZg hu;rw[fV,show(⟨t.Txns,t.Locks,t.Stacks⟩:ae)=t from rfl,e,cb];dsimp only;rw[gO N oZg h1,cb,if_pos rfl,pq N oZg h1,cb,vM,if_neg oZk,w6];dsimp only;rw[hn,cb,hr,cb,hc,cb];simp only[lZ,cb];rw[VF N hN h1 n (now:=((v:Nat):Int)) oZg oZg _ _ r cl (f:=[⟨1,(v:Nat),⟨#[]⟩,[],[]⟩]) (by simp[mi,Dz]) (r:=⟨1,x.N,⟨#[]⟩,[],[]⟩) (Dz _),cb,if_pos rfl];exact ih
def OC(l:List Pp)(hw:∀x∈l,U8C x):lz 200000 l=some true:=by
 rw[lz,adX 200000 oZg,cb,if_pos rfl];split
 .rfl
 .exact Oq 200000 oZg l 0 (t:=⟨[],[],[]⟩) oZg hw TV.nil
end Go.Proofs.YtmacaidmhchpgaaGreat
