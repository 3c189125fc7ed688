/- Plain facts on the models; no program in sight. -/
import Derived.Test.YtmacaidmhchpgaaGreatM
import Derived.Test.YtmacaidmhchpgaaGreatLA
set_option linter.defProp false
set_option linter.unusedSimpArgs false
set_option linter.unusedVariables false
namespace Go.Proofs.YtmacaidmhchpgaaGreat
open Go Go.Proofs Go.Abs
def Dl (N:Nat) (l:List Int) (n:Int):lD N l n=some (decide (n∈l)):=by
 have:∀ (xs:List Int) (v:Nat),kG n xs v ()=some (decide (n∈xs)):=by
  intro xs
  induction xs with
  | nil=>intro v; rfl
  | cons x xs ih=>
   intro v;rw [kG,ih];by_cases q:x=n
   ·simp [q]
   ·have:¬ n=x:=fun e=>q e.symm;simp [q,this]
 exact this l 0
def Dep.len {t:ae} (h:TV t) {id:Int} {S:List Int} (hS:Dep t id S):S.length<=32:=by
 have:=jg hS.nd hS.sub;have:=h.tx.len;simp [ids] at *; omega
def PL (t:ae) (n:Int) (S:List Int) (s:aa) (p:Nat):Prop:=∀ (i j:Nat) (y z:al),p<=j->i < j->s.Layers[i]?=some y->s.Layers[j]?=some z->y.Txn_=n->z.Txn_∈S
def VJ (N:Nat) {t:ae} (h:TV t) {s:aa} (hs:s∈t.Stacks) {id n:Int} (rec:List Int->Option Bool) (m:Nat):∀ (l pre:List al) (v:Nat) (S:List Int) (c:Bool),s.Layers=pre++l->Dep t id S->S[m]?=some n->(c=true↔∃ y∈pre,y.Txn_=n) ->
  ∃ S',ej rec N (m:Int) l v (S,c)=rec S'/\S <+: S'/\Dep t id S'/\PL t n S' s pre.length
 | [],pre,v,S,c,hl,hS,hm,hc=>⟨S,by rw [ej],adC S,hS,fun i j y z h1 h2 h3 h4 _=>by
   have:=(cd.1 h4).1;rw [hl] at this; simp at this; omega⟩
 | y::l,pre,v,S,c,hl,hS,hm,hc=>by
  have hyi:s.Layers[pre.length]?=some y:=by rw [hl]; simp
  have hnS:n∈S:=cg hm;have hlen:=hS.len h;have step:∀ (S1:List Int) (c1:Bool),S <+: S1->Dep t id S1->(c1=true↔∃ y'∈pre++[y],y'.Txn_=n)->(c=true->y.Txn_∈S1) ->
    ∃ S',ej rec N (m:Int) l (v+1) (S1,c1)=rec S'/\S <+: S'/\Dep t id S'/\PL t n S' s pre.length:=by
   intro S1 c1 hp hS1 hc1 hy;have hm1:S1[m]?=some n:=by
    obtain ⟨e,rfl⟩:=hp;rw [cE (cd.1 hm).1]; exact hm
   obtain ⟨S',e1,e2,e3,e4⟩:=VJ N h hs rec m l (pre++[y]) (v+1) S1 c1 (by simp [hl]) hS1 hm1 hc1;refine ⟨S',e1,hp.trans e2,e3,fun i j y' z h1 h2 h3 h4 h5=>?_⟩;by_cases hj:j=pre.length
   ·subst hj;rw [hyi] at h4;cases h4;refine e2.subset (hy (hc.2 ⟨y',?_,h5⟩));rw [hl,cE h2] at h3;exact cg h3
   ·exact e4 i j y' z (by simp; omega) h2 h3 h4 h5
  rw [ej];cases c with
  | true=>
   obtain ⟨y0,hy0,hn0⟩:=hc.1 rfl;obtain ⟨i,hi⟩:=cH hy0;have hi':s.Layers[i]?=some y0:=by rw [hl,cE (cd.1 hi).1]; exact hi
   have hil:=(cd.1 hi).1;have hc1:(true=true↔∃ y'∈pre++[y],y'.Txn_=n):=⟨fun _=>⟨y0,by simp [hy0],hn0⟩,fun _=>rfl⟩;rw [if_pos rfl,Dl,cc,kh];by_cases q:y.Txn_∈S
   ·rw [if_neg (by simp [q]),iL,if_pos rfl];exact step S true (adC S) hS hc1 fun _=>q
   ·rw [if_pos (by simp [q]),mU (by simp; omega),iL,if_pos rfl];refine step (S++[y.Txn_]) true (List.prefix_append _ _) ⟨adb.2 ⟨hS.nd,by simp,fun a ha b hb=>by simp only [cG] at hb; rw [hb]; exact fun e=>q (e ▸ ha)⟩,by simp [hS.me],fun k hk=>?_,fun X hX hcl k hk=>?_⟩ hc1 fun _=>by simp
    ·rcases cF.1 hk with hk|hk
     ·exact hS.sub k hk
     ·simp only [cG] at hk; rw [hk]; exact (h.st s hs).id y (cg hyi)
    ·rcases cF.1 hk with hk|hk
     ·exact hS.min X hX hcl k hk
     ·simp only [cG] at hk;rw [hk];exact hcl s hs i pre.length y0 y hil hi' hyi (hn0 ▸ hS.min X hX hcl n hnS)
  | false=>
   have hno:¬ ∃ y∈pre,y.Txn_=n:=fun g=>by cases hc.2 g
   rw [if_neg (by simp),kh,if_neg (by simp),iL,if_neg (by simp),aO hm];refine step S _ (adC S) hS ?_ (fun g=>by cases g);simp only [decide_eq_true_eq];constructor
   ·intro e; exact ⟨y,by simp,e⟩
   ·rintro ⟨y',hy',e⟩;rcases cF.1 hy' with hy'|hy'
    ·exact (hno ⟨y',hy',e⟩).elim
    ·simp only [cG] at hy'; rw [<-hy']; exact e
def VH (N:Nat) {t:ae} (h:TV t) {id n:Int} (rec:List Int × Int->Option Bool) (m:Nat) (hm0:m<=100):∀ (xs:List aa) (v:Nat) (S:List Int),(∀ s∈xs,s∈t.Stacks)->Dep t id S->S[m]?=some n ->
  ∃ S',eW rec (m:Int) N xs v S=rec (S',((m+1:Nat):Int))/\S <+: S'/\Dep t id S'/\∀ s∈xs,PL t n S' s 0
 | [],v,S,_,hS,_=>⟨S,by rw [eW,w64 (by omega) (by omega)]; rfl,adC S,hS,by simp⟩
 | s::xs,v,S,hx,hS,hm=>by
  obtain ⟨S1,e1,e2,e3,e4⟩:=VJ N h (hx s (by simp)) (id:=id) (eW rec (m:Int) N xs (v+1)) m s.Layers [] 0 S false rfl hS hm (by simp);have hm1:S1[m]?=some n:=by
   obtain ⟨e,rfl⟩:=e2;rw [cE (cd.1 hm).1]; exact hm
  obtain ⟨S',f1,f2,f3,f4⟩:=VH N h rec m hm0 xs (v+1) S1 (fun z hz=>hx z (by simp [hz])) e3 hm1;refine ⟨S',by rw [eW,e1,f1],e2.trans f2,f3,fun z hz=>?_⟩;rcases cK.1 hz with rfl|hz
  ·exact fun i j y w h1 h2 h3 h4 h5=>f2.subset (e4 i j y w h1 h2 h3 h4 h5)
  ·exact f4 z hz
theorem VV (N:Nat) {r4:ae × List aD} (h:TV r4.1) {id:Int} (kx:List Int->Option Bool):∀ (k m:Nat) (S:List Int),33 < k+m->m<=S.length->Dep r4.1 id S->(∀ m' n',m' < m->S[m']?=some n'->∀ s∈r4.1.Stacks,PL r4.1 n' S s 0) ->
  ∃ S',gu N r4 kx k (S,(m:Int))=kx S'/\Dep r4.1 id S'/\Jt r4.1 S'
 | 0,m,S,hk,hm,hS,_=>by have:=hS.len h; omega
 | k+1,m,S,hk,hm,hS,hA=>by
  have hlen:=hS.len h;rw [gu];by_cases q:m < S.length
  ·rw [if_pos (by omega)];have hm1:=cn q;obtain ⟨S',e1,e2,e3,e4⟩:=VH N h (id:=id) (gu N r4 kx k) m (by omega) r4.1.Stacks 0 S (fun s hs=>hs) hS hm1;have hpl:=e2.length_le;rw [e1];refine VV N h kx k (m+1) S' (by omega) (by omega) e3 fun m' n' h1 h2 s hs=>?_;have hg:S'[m']?=S[m']?:=by obtain ⟨e,rfl⟩:=e2; rw [cE (by omega)]
   rw [hg] at h2;by_cases hq:m'=m
   ·subst hq;rw [hm1] at h2;cases h2;exact e4 s hs
   ·exact fun i j y w g1 g2 g3 g4 g5=>e2.subset (hA m' n' (by omega) h2 s hs i j y w g1 g2 g3 g4 g5)
  ·rw [if_neg (by omega)];refine ⟨S,rfl,hS,fun s hs i j y z hij hi hj hy=>?_⟩;obtain ⟨m',hm'⟩:=cH hy;have:=(cd.1 hm').1;exact hA m' _ (by omega) hm' s hs i j y z (by omega) hij hi hj rfl
def Ws (kx:List Int->Option Bool) (N:Nat) (r6:ae × List Int × Int) (S:List Int) (hl:r6.2.1.length<=1000) (hm:∀ n∈r6.2.1,n∈S) (hp:r6.2.1.Pairwise (· < ·)):∀ (xs pre:List Int),r6.2.1=pre++xs->ee kx N r6 xs pre.length S=kx S
 | [],pre,_=>by rw [ee]
 | x::xs,pre,e=>by
  have ih:=Ws kx N r6 S hl hm hp xs (pre++[x]) (by simp [e]);rw [hU,aec] at ih;have hx:x∈S:=hm x (by rw [e]; simp);have hlp:pre.length<=1000:=by rw [e] at hl; simp at hl; omega
  rw [ee,Dl,cc,if_pos (by simp [hx])];by_cases q:0 < pre.length
  ·have hlt:pre.length - 1 < pre.length:=by omega
   have hg:r6.2.1[pre.length - 1]?=some pre[pre.length - 1]:=by rw [e,cE hlt,cn hlt]
   have:pre[pre.length - 1] < x:=by
    rw [e,xk] at hp;exact hp.2.2 _ (nw hlt) x (by simp)
   rw [if_pos (by omega),w64 (by omega) (by omega),show ((pre.length:Nat):Int) - 1=((pre.length - 1:Nat):Int) by omega,aO hg,iO,if_neg (by simp; omega)];exact ih
  ·rw [if_neg (by omega),iO,if_neg (by simp)];exact ih
def Q8 (kx:List Int->List al->Option Bool) (N:Nat) (S:List Int):∀ (xs:List al) (v:Nat) (acc:List al),acc.length+xs.length<=1000->fb kx N xs v (S,acc)=kx S (acc++xs.filter fun y=>kT S y.Txn_)
 | [],v,acc,_=>by rw [fb]; simp
 | y::xs,v,acc,hl=>by
  simp only [cC] at hl;rw [fb,Dl,cc];by_cases q:y.Txn_∈S
  ·rw [if_pos (by simp [q]),Q8 kx N S xs (v+1) acc (by omega),adX,if_neg (by simp [kT,q])]
  ·rw [if_neg (by simp [q]),mU (by simp; omega),Q8 kx N S xs (v+1) (acc++[y]) (by simp; omega),adX,if_pos (by simp [kT,q])];simp
theorem M6 (N:Nat) (l:List al):lu N l l=some true:=by
 have:∀ (xs pre:List al),l=pre++xs->eH l N xs pre.length ()=some true:=by
  intro xs
  induction xs with
  | nil=>intro pre _; rw [eH]
  | cons x xs ih=>
   intro pre e;have h1:=ih (pre++[x]) (by simp [e]);rw [hU,aec] at h1;have hg:l[pre.length]?=some x:=by rw [e]; simp
   rw [eH,aO hg,if_pos rfl,if_pos rfl,show pB N x.Fields x.Fields=some (eqL Qo x.Fields x.Fields) from P6 (L:=jq x.Fields N) _ _ _ (fun _=>rfl) (fun x xs v=>by simp [jq,Kw]),cc,(Ol WH).2 rfl,kX,if_neg (by simp)];exact h1
 rw [lu,if_pos rfl];exact this l [] rfl
def Vz (kx:Option Bool) (N:Nat) {t:ae} (h:TV t) {D S:List Int} (hout:TV (abT t D)) (hDS:∀ n,n∈S↔n∈D) (c1:List Int) (c2:Int):∀ (xs:List aa) (v:Nat),(∀ s∈xs,s∈t.Stacks)->gB kx N (abT t D,c1,c2) xs v S=kx
 | [],v,_=>by rw [gB]
 | s::xs,v,hx=>by
  have hs:=hx s (by simp);have hll:=h.layers_len hs;have hf:(s.Layers.filter fun y=>kT S y.Txn_)=(z8 D s).Layers:=by
   simp only [z8];refine congrArg (fun p=>s.Layers.filter p) (funext fun y=>?_);rw [xY,rH,rH,hDS]
  have hlay:lS N (abT t D) s.Actor=some (z8 D s).Layers:=by
   rw [lS];rcases EO N (abT t D) s.Actor with ⟨e,hno⟩|⟨i,s',e,hi,ha⟩
   ·rw [e,cc,if_neg (by omega)];by_cases q:(z8 D s).Layers=[]
    ·rw [q]
    ·exact (hno _ (Bc.2 ⟨s,hs,rfl,q⟩) rfl).elim
   ·have hs':=cg hi;rw [e,cc,if_pos (by omega),aO hi,Bg (hout.bdL hs')];obtain ⟨s0,g1,rfl,g3⟩:=Bc.1 hs';obtain ⟨j,hj⟩:=cH hs;rw [De h.ss hj g1 ha];rfl
  rw [gB,Q8 _ N S s.Layers 0 [] (by simp; omega),tT,cO,hf];dsimp only;rw [hlay,cc,M6,cc,if_pos rfl];exact Vz kx N h hout hDS c1 c2 xs (v+1) (fun z hz=>hx z (by simp [hz]))
def XY {t:ae} (h:TV t) {D:List Int} (hn:D.Nodup) (hs:∀ n∈D,n∈ids t):D.length+(t.Txns.filter fun x=>kT D x.ID).length=t.Txns.length:=by
 have hnd:(ids t).Nodup:=by
  refine (n5.2 ?_:(t.Txns.map Txn.ID).Pairwise (·≠·));exact h.tx.so.imp fun q=>by omega
 have h1:D.length<=((ids t).filter fun n=>decide (n∈D)).length:=jg hn fun n hn'=>nR.2 ⟨hs n hn',by simp [hn']⟩;have h2:((ids t).filter fun n=>decide (n∈D)).length<=D.length:=jg (hnd.filter _) fun n hn'=>by simpa using (nR.1 hn').2
 have h3:∀ l:List Txn,((l.map Txn.ID).filter fun n=>decide (n∈D)).length+(l.filter fun x=>kT D x.ID).length=l.length:=by
  intro l
  induction l with
  | nil=>rfl
  | cons x l ih=>
   by_cases q:x.ID∈D<;>simp [kT,q] at ih ⊢<;>omega
 have:=h3 t.Txns;unfold ids at h1 h2;omega
theorem J9 (l:List Hp) (w:Int) (hw:∀ x∈l,U8C x) (h0:0<=w) (h1:w<=255):kF 200000 l w=some true:=by
 rw [kF,YN 200000 (by omega),cc,if_pos rfl];split
 ·rfl
 ·rename_i hlen;obtain ⟨t,c,e,h⟩:=WM 200000 (by omega) (l:=l) (by omega) hw;have hl:=h.tx.len;obtain ⟨n,e2,hn⟩:=Tp 200000 t (by omega) h0 h1;rw [e,cc,e2,cc];rcases hn with ⟨hnil,rfl⟩|hn
  ·rw [Q4 200000 (by omega) h (by simp [ids,hnil]),cc,if_pos rfl];rfl
  ·obtain ⟨D,a1,a2,a3,a4,a5⟩:=GW 200000 (by omega) h hn;have hpos:n≠0:=by
    obtain ⟨x,hx,rfl⟩:=cJ.1 hn;have:=(h.tx.x x hx).1.i1;omega
   have hlen2:=XY h a3.nd a3.sub;have hDl:=a3.len h;have hlen3:D.length+(abT t D).Txns.length=t.Txns.length:=hlen2;rw [a1,cc,if_neg hpos,if_pos rfl];dsimp only;rw [w64 (by omega) (by omega),mW,if_neg (by simp; omega),m7];obtain ⟨S,s1,s2,s3⟩:=VV 200000 (r4:=(t,c)) h (id:=n) (mX (abT t D,D,0) 200000 (t,c)) 200000 0 [n] (by omega) (by simp) ⟨by simp,by simp,fun k hk=>by simp only [cG] at hk; rw [hk]; exact hn,fun X hX _ k hk=>by simp only [cG] at hk; rw [hk]; exact hX⟩ (fun m' n' q=>by omega);have hDS:∀ k,k∈S↔k∈D:=fun k=>⟨s2.min D a3.me a4 k,a3.min S s2.me s3 k⟩;have hle1:=jg s2.nd fun k hk=>(hDS k).1 hk;have hle2:=jg a3.nd fun k hk=>(hDS k).2 hk;refine s1.trans ?_;rw [mX];dsimp only;rw [if_pos (by omega)];refine (Ws _ 200000 (abT t D,D,0) S (by show D.length<=1000; omega) (fun k hk=>(hDS k).2 hk) a5 D [] rfl).trans ?_;rw [tC];dsimp only;rw [Vz _ 200000 h a2 hDS D 0 t.Stacks 0 (fun s hs=>hs),tW];dsimp only;rw [o9 200000 (by omega) a2];rfl
end Go.Proofs.YtmacaidmhchpgaaGreat
