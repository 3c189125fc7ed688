/- A library of readings of Go values with their ownership,and of walks on them. No statement of the program. -/
import Derived.Test.YtmacaidmhchpgaaGreatAbsE
set_option linter.defProp false
set_option linter.unusedSimpArgs false
set_option linter.unusedVariables false
namespace Go.Abs
section
variable {X:Ctx} {m:Nat->aq->Value} {st:St} {a:Act} {w:World} {P:Program}
def ar.nilO (H:ar X m st a w) {n:Nat} {q:aq} (es:Nat) (hq:(st.roots n).at q=some (.val (.slice none 0 0))) :
  ∃ m',ar X m' { st with roots:=upd st.roots n ((st.roots n).turn (fun _=>.sl true none es none []) q) } a w:=by
 obtain ⟨m',hm'⟩:∃ m':Nat->aq->Value,m'=fun n' p=>if n'=n/\p=q then .slice none 0 0 else m n' p:=⟨_,rfl⟩
 have M1:m' n q=.slice none 0 0:=by rw [hm']; simp
 have Mn:∀ n' p,¬ (n'=n/\p=q)->m' n' p=m n' p:=by intro n' p h; rw [hm']; simp [h]
 obtain ⟨R',hR'⟩:∃ R',R'=upd st.roots n ((st.roots n).turn (fun _=>.sl true none es none []) q):=⟨_,rfl⟩;have hown:∀ n' p b,ak (R' n') p->blk (m' n' p)=some b->ak (st.roots n') p/\blk (m n' p)=some b/\¬ (n'=n/\p=q):=by
  intro n' p b ho hb;by_cases e:n'=n
  ·subst e;rw [hR',aC] at ho;rcases ak.of_turn hq ho with ⟨r,rfl,h2⟩|⟨h1,h2⟩
   ·have:r=[]:=ou (rows:=[]) (by simp) h2;subst this;rw [cT,M1] at hb;simp [blk] at hb
   ·have hne:¬ (n'=n'/\p=q):=fun h=>h1 [] (by simp [h.2]);rw [Mn _ _ hne] at hb;exact ⟨h2,hb,hne⟩
  ·rw [hR',aN e] at ho;have hne:¬ (n'=n/\p=q):=fun h=>e h.1;rw [Mn _ _ hne] at hb;exact ⟨ho,hb,hne⟩
 have hS:∀ b,X.S st.roots m b->X.S R' m' b:=by
  rintro b ⟨h1,h2⟩;refine ⟨h1,?_⟩;rintro ⟨n',p,ho,hb⟩;obtain ⟨g1,g2,_⟩:=hown n' p b ho hb;exact h2 ⟨n',p,g1,g2⟩
 have hnoq:∀ r,r≠[]->(st.roots n).at (q++r)=none:=by
  intro r hr;rw [C.at_append,hq];cases r with
  | nil=>exact (hr rfl).elim
  | cons x r=>rfl
 have hL:∀ v u,Lv st.roots m v u->Lv R' m' v u:=by
  intro v u hl;have key:∀ k p nl es' cap rows,(st.roots k).at p=some (.sl true nl es' cap rows)->¬ (k=n/\p=q)/\∃ rows',(R' k).at p=some (.sl true nl es' cap rows')/\rows'.length=rows.length:=by
   intro k p nl es' cap rows hk;by_cases e:k=n
   ·subst e;have hpq:∀ r,p≠q++r:=by
     rintro r rfl;by_cases hr:r=[]
     ·subst hr; rw [cT,hq] at hk; cases hk
     ·rw [hnoq r hr] at hk; cases hk
    obtain ⟨x',e1,_,e3⟩:=C.at_turn_off (fun _=>.sl true none es none []) q p (st.roots k) _ _ hq hpq hk;obtain ⟨rows',rfl,e4⟩:=e3 nl es' cap rows rfl;exact ⟨fun h=>hpq [] (by simp [h.2]),rows',by rw [hR',aC]; exact e1,e4⟩
   ·exact ⟨fun h=>e h.1,rows,by rw [hR',aN e]; exact hk,rfl⟩
  cases v with
  | pref k p i j=>
   obtain ⟨nl,es',cap,rows,b,off,kk,g1,g2,g3⟩:=hl;obtain ⟨hne,rows',g4,g5⟩:=key k p _ _ _ _ g1;exact ⟨nl,es',cap,rows',b,off,kk,g4,by rw [Mn _ _ hne,g5]; exact g2,g3⟩
  | pal k p lo len c=>
   obtain ⟨nl,es',cap,rows,a0,kk,a',k',g1,g2,g3,g4⟩:=hl;obtain ⟨hne,rows',g5,g6⟩:=key k p _ _ _ _ g1;exact ⟨nl,es',cap,rows',a0,kk,a',k',g5,by rw [Mn _ _ hne,g6]; exact g2,by rw [g6]; exact g3,g4⟩
  | _=>exact hl
 rw [<-hR'];refine ⟨m',⟨H.len,?_,?_,?_,?_,H.fr,H.df⟩⟩
 ·intro t c hc;obtain ⟨u,d,h1,h2⟩:=H.tmp t c hc;exact ⟨u,d,h1,av (fun b _ hb=>⟨hS b hb,rfl⟩) d (fun v u _ h=>hL v u h) (fun h=>by simp at h) (fun h=>by simp at h) h2⟩
 ·intro k;obtain ⟨u,d,hr⟩:=H.root k;by_cases e:k=n
  ·subst e;obtain ⟨d',hd'⟩:=AP (f:=fun _=>C.sl true none es none []) (m':=m' k) (S':=X.S R' m') (w':=w) (fun b _ hb=>⟨hS b hb,rfl⟩) q hr hq (fun _ _ _ _ _ _=>rfl) (by
    intro q1 ho hne;simp only [cO];exact Mn _ _ (fun h=>hne [] (by simp [h.2]))) (by
    intro u0 d0 h0;simp only [cO] at h0 ⊢;cases d0 with
    | zero=>exact h0.elim
    | succ d0=>
     have hu:u0=.slice none 0 0:=h0;subst hu;rw [<-M1];exact ⟨2,oe (d:=1) (a:=none) (k:=0) (by rw [M1]; rfl) (by simp) (by simp [maxLen]) (by simp) ⟨by simp,by simp⟩ (by simp) (.inl rfl)⟩)
   exact ⟨u,d',by show rel w _ L0 (m' k) true d' [] (R' k) u; rw [show R' k=(st.roots k).turn (fun _=>.sl true none es none []) q from by rw [hR',aC]]; exact hd'⟩
  ·refine ⟨u,d,?_⟩;show rel w _ L0 (m' k) true d [] (R' k) u;rw [show R' k=st.roots k from by rw [hR',aN e]];exact av (fun b _ hb=>⟨hS b hb,rfl⟩) d (fun _ _ _ h=>h) (fun _ _ _ _ _ _=>rfl) (fun _ q0 _=>Mn _ _ (fun h=>e h.1)) hr
 ·intro k p k' p' b h1 h2 h3 h4;obtain ⟨g1,g2,_⟩:=hown k p b h1 h3;obtain ⟨g3,g4,_⟩:=hown k' p' b h2 h4;exact H.inj k p k' p' b g1 g3 g2 g4
 ·intro k p b h1 h2;obtain ⟨g1,g2,_⟩:=hown k p b h1 h2;exact H.own k p b g1 g2
def Oo {k:Nat} {f:Nat->C} {R:Nat->C} (n:Nat) (q:aq) (es:Nat) {c':C} (hq:(R n).at q=some (.val (.slice none 0 0))) (hc:(R n).turn (fun _=>.sl true none es none []) q=c') :
  aV ⟨tab k f,R⟩ ⟨tab k f,upd R n c'⟩:=by
 subst hc;rintro X a w ⟨m,H⟩;exact H.nilO es hq
def ar.nilF (H:ar X m st a w) {n:Nat} {q:aq} (es:Nat) (hq:(st.roots n).at q=some (.val (.slice none 0 0))) :
  ∃ m',ar X m' { st with roots:=upd st.roots n ((st.roots n).turn (fun _=>.sl false none es none []) q) } a w:=by
 obtain ⟨m',hm'⟩:∃ m':Nat->aq->Value,m'=fun n' p=>if n'=n/\p=q then .slice none 0 0 else m n' p:=⟨_,rfl⟩
 have M1:m' n q=.slice none 0 0:=by rw [hm']; simp
 have Mn:∀ n' p,¬ (n'=n/\p=q)->m' n' p=m n' p:=by intro n' p h; rw [hm']; simp [h]
 obtain ⟨R',hR'⟩:∃ R',R'=upd st.roots n ((st.roots n).turn (fun _=>.sl false none es none []) q):=⟨_,rfl⟩;have hown:∀ n' p b,ak (R' n') p->blk (m' n' p)=some b->ak (st.roots n') p/\blk (m n' p)=some b/\¬ (n'=n/\p=q):=by
  intro n' p b ho hb;by_cases e:n'=n
  ·subst e;rw [hR',aC] at ho;rcases ak.of_turn hq ho with ⟨r,rfl,h2⟩|⟨h1,h2⟩
   ·exact absurd h2 (by cases r<;>simp [ak,C.at,C.kid,C.isOwn])
   ·have hne:¬ (n'=n'/\p=q):=fun h=>h1 [] (by simp [h.2]);rw [Mn _ _ hne] at hb;exact ⟨h2,hb,hne⟩
  ·rw [hR',aN e] at ho;have hne:¬ (n'=n/\p=q):=fun h=>e h.1;rw [Mn _ _ hne] at hb;exact ⟨ho,hb,hne⟩
 have hS:∀ b,X.S st.roots m b->X.S R' m' b:=by
  rintro b ⟨h1,h2⟩;refine ⟨h1,?_⟩;rintro ⟨n',p,ho,hb⟩;obtain ⟨g1,g2,_⟩:=hown n' p b ho hb;exact h2 ⟨n',p,g1,g2⟩
 have hnoq:∀ r,r≠[]->(st.roots n).at (q++r)=none:=by
  intro r hr;rw [C.at_append,hq];cases r with
  | nil=>exact (hr rfl).elim
  | cons x r=>rfl
 have hL:∀ v u,Lv st.roots m v u->Lv R' m' v u:=by
  intro v u hl;have key:∀ k p nl es' cap rows,(st.roots k).at p=some (.sl true nl es' cap rows)->¬ (k=n/\p=q)/\∃ rows',(R' k).at p=some (.sl true nl es' cap rows')/\rows'.length=rows.length:=by
   intro k p nl es' cap rows hk;by_cases e:k=n
   ·subst e;have hpq:∀ r,p≠q++r:=by
     rintro r rfl;by_cases hr:r=[]
     ·subst hr; rw [cT,hq] at hk; cases hk
     ·rw [hnoq r hr] at hk; cases hk
    obtain ⟨x',e1,_,e3⟩:=C.at_turn_off (fun _=>.sl false none es none []) q p (st.roots k) _ _ hq hpq hk;obtain ⟨rows',rfl,e4⟩:=e3 nl es' cap rows rfl;exact ⟨fun h=>hpq [] (by simp [h.2]),rows',by rw [hR',aC]; exact e1,e4⟩
   ·exact ⟨fun h=>e h.1,rows,by rw [hR',aN e]; exact hk,rfl⟩
  cases v with
  | pref k p i j=>
   obtain ⟨nl,es',cap,rows,b,off,kk,g1,g2,g3⟩:=hl;obtain ⟨hne,rows',g4,g5⟩:=key k p _ _ _ _ g1;exact ⟨nl,es',cap,rows',b,off,kk,g4,by rw [Mn _ _ hne,g5]; exact g2,g3⟩
  | pal k p lo len c=>
   obtain ⟨nl,es',cap,rows,a0,kk,a',k',g1,g2,g3,g4⟩:=hl;obtain ⟨hne,rows',g5,g6⟩:=key k p _ _ _ _ g1;exact ⟨nl,es',cap,rows',a0,kk,a',k',g5,by rw [Mn _ _ hne,g6]; exact g2,by rw [g6]; exact g3,g4⟩
  | _=>exact hl
 rw [<-hR'];refine ⟨m',⟨H.len,?_,?_,?_,?_,H.fr,H.df⟩⟩
 ·intro t c hc;obtain ⟨u,d,h1,h2⟩:=H.tmp t c hc;exact ⟨u,d,h1,av (fun b _ hb=>⟨hS b hb,rfl⟩) d (fun v u _ h=>hL v u h) (fun h=>by simp at h) (fun h=>by simp at h) h2⟩
 ·intro k;obtain ⟨u,d,hr⟩:=H.root k;by_cases e:k=n
  ·subst e;obtain ⟨d',hd'⟩:=AP (f:=fun _=>C.sl false none es none []) (m':=m' k) (S':=X.S R' m') (w':=w) (fun b _ hb=>⟨hS b hb,rfl⟩) q hr hq (fun _ _ _ _ _ _=>rfl) (by
    intro q1 ho hne;simp only [cO];exact Mn _ _ (fun h=>hne [] (by simp [h.2]))) (by
    intro u0 d0 h0;simp only [cO] at h0 ⊢;cases d0 with
    | zero=>exact h0.elim
    | succ d0=>
     have hu:u0=.slice none 0 0:=h0;subst hu;exact ⟨1,none,0,rfl,cw _,by decide,by simp,by simp,by simp,by simp,.inl rfl⟩)
   exact ⟨u,d',by show rel w _ L0 (m' k) true d' [] (R' k) u; rw [show R' k=(st.roots k).turn (fun _=>.sl false none es none []) q from by rw [hR',aC]]; exact hd'⟩
  ·refine ⟨u,d,?_⟩;show rel w _ L0 (m' k) true d [] (R' k) u;rw [show R' k=st.roots k from by rw [hR',aN e]];exact av (fun b _ hb=>⟨hS b hb,rfl⟩) d (fun _ _ _ h=>h) (fun _ _ _ _ _ _=>rfl) (fun _ q0 _=>Mn _ _ (fun h=>e h.1)) hr
 ·intro k p k' p' b h1 h2 h3 h4;obtain ⟨g1,g2,_⟩:=hown k p b h1 h3;obtain ⟨g3,g4,_⟩:=hown k' p' b h2 h4;exact H.inj k p k' p' b g1 g3 g2 g4
 ·intro k p b h1 h2;obtain ⟨g1,g2,_⟩:=hown k p b h1 h2;exact H.own k p b g1 g2
def En {k:Nat} {f:Nat->C} {R:Nat->C} (n:Nat) (q:aq) (es:Nat) {c':C} (hq:(R n).at q=some (.val (.slice none 0 0))) (hc:(R n).turn (fun _=>.sl false none es none []) q=c') :
  aV ⟨tab k f,R⟩ ⟨tab k f,upd R n c'⟩:=by
 subst hc;rintro X a w ⟨m,H⟩;exact H.nilF es hq
def VN {w:World} {S S':Nat->Prop} {m:aq->Value} (hS:∀ b,S b->S' b) {nl:Option Bool} {es:Nat} {cap:Option Nat} {rows rows':List (List C)} (h:dz rows rows') (hn:∀ row∈rows',∀ c∈row,bW c) {d:Nat} {u:Value} {p0:aq}
  (hO:∀ i j q b,ak (.sl true nl es cap rows) ((i,j)::q)->blk (m (p0++(i,j)::q))=some b->S' b)
  (hr:rel w S L0 m true d p0 (.sl true nl es cap rows) u):rel w S' L0 m true (d+1) p0 (.sl true nl es cap rows') u:=by
 cases d with
 | zero=>exact hr.elim
 | succ d=>
  obtain ⟨a,k,h1,h2,h3,h4,hz,h5,h6,h7⟩:=hr;refine ⟨a,k,by rw [h.len]; exact h1,by rw [h.len]; exact h2,h3,h4,hz,?_,fun _=>h6 rfl,?_⟩
  ·intro row' hrow;obtain ⟨i,hi,e⟩:=ad1 hrow;have hlt:i < rows.length:=by rw [<-h.len]; exact hi
   have:=h.get i rows[i] row' (by simp [hlt]) (by simp [hi,e]);rw [this.len];exact h5 _ (nw hlt)
  ·rcases h7 with h7|h7|⟨b,off,arr,elem,frz,g1,g2,g3,g4,g5⟩
   ·exact .inl h7
   ·simp at h7
   ·refine .inr (.inr ⟨b,off,arr,elem,frz,g1,g2,fun h=>by simp at h,g4,?_⟩);intro i j row' c' e1 e2;have hlt:i < rows.length:=by rw [<-h.len]; exact (cd.1 e1).1
    have hrow:rows[i]?=some rows[i]:=by simp [hlt]
    have hle:=h.get i rows[i] row' hrow e1;have hltj:j < rows[i].length:=by rw [<-hle.len]; exact (cd.1 e2).1
    have hc:rows[i][j]?=some rows[i][j]:=by simp [hltj]
    obtain ⟨u',e3,e4⟩:=g5 i j _ _ hrow hc;have hnc:=hn row' (cg e1) c' (cg e2);refine ⟨u',e3,aT d (d+1) (xf _) (Ev d hnc (hle.get j _ c' hc e2 _ _ _ m _ p0 d u' (qV (S:=S) (S':=S') (m:=m) (m':=m) (p:=p0++[(i,j)]) (p':=p0) hS d ?_ e4)))⟩;intro _ q b' hq hb;refine hO i j q b' ?_ (by simpa using hb);simp only [ak,C.at,C.kid,hrow,cc,hc]; exact hq
def ar.tellP (H:ar X m st a w) {n:Nat} {q:aq} {nl:Option Bool} {es:Nat} {cap:Option Nat} {rows rows':List (List C)} (hq:(st.roots n).at q=some (.sl true nl es cap rows)) (hle:dz rows rows') (hn:∀ row∈rows',∀ c∈row,bW c) :
  ar X m { tmps:=st.tmps.map (poi fun n' p'=>n' == n && kR q p'),roots:=upd st.roots n ((st.roots n).turn (fun _=>.sl true nl es cap rows') q) } a w:=by
 obtain ⟨R',hR'⟩:∃ R',R'=upd st.roots n ((st.roots n).turn (fun _=>.sl true nl es cap rows') q):=⟨_,rfl⟩;have hown:∀ k p,ak (R' k) p->ak (st.roots k) p/\(k=n->∀ r,p=q++r->r=[]):=by
  intro k p ho;by_cases e:k=n
  ·subst e;rw [hR',aC] at ho;rcases ak.of_turn hq ho with ⟨r,rfl,h2⟩|⟨h1,h2⟩
   ·have hr:=ou hn h2;subst hr;refine ⟨?_,fun _ r hr=>by simpa using hr⟩;simp only [ak,cT,hq]; rfl
   ·exact ⟨h2,fun _ r hr=>absurd hr (h1 r)⟩
  ·rw [hR',aN e] at ho;exact ⟨ho,fun h=>absurd h e⟩
 have hS:∀ b,X.S st.roots m b->X.S R' m b:=by
  rintro b ⟨h1,h2⟩;refine ⟨h1,?_⟩;rintro ⟨k,p,ho,hb⟩;exact h2 ⟨k,p,(hown k p ho).1,hb⟩
 have hL:∀ v u,(∀ k p,v.place=some (k,p)->(k == n && kR q p)=false)->Lv st.roots m v u->Lv R' m v u:=by
  intro v u hp hl;have key:∀ k p nl' es' cap' rows0,(k == n && kR q p)=false->(st.roots k).at p=some (.sl true nl' es' cap' rows0)->∃ rows1,(R' k).at p=some (.sl true nl' es' cap' rows1)/\rows1.length=rows0.length:=by
   intro k p nl' es' cap' rows0 hf hk;by_cases e:k=n
   ·subst e;have hpq:∀ r,p≠q++r:=by
     rintro r rfl;rw [EW] at hf;simp at hf
    obtain ⟨x',e1,_,e3⟩:=C.at_turn_off (fun _=>.sl true nl es cap rows') q p (st.roots k) _ _ hq hpq hk;obtain ⟨rows1,rfl,e4⟩:=e3 nl' es' cap' rows0 rfl;exact ⟨rows1,by rw [hR',aC]; exact e1,e4⟩
   ·exact ⟨rows0,by rw [hR',aN e]; exact hk,rfl⟩
  cases v with
  | pref k p i j=>
   obtain ⟨nl',es',cap',rows0,b,off,kk,g1,g2,g3⟩:=hl;obtain ⟨rows1,g4,g5⟩:=key k p _ _ _ _ (hp k p rfl) g1;exact ⟨nl',es',cap',rows1,b,off,kk,g4,by rw [g5]; exact g2,g3⟩
  | pal k p lo len c=>
   obtain ⟨nl',es',cap',rows0,a0,kk,a',k',g1,g2,g3,g4⟩:=hl;obtain ⟨rows1,g5,g6⟩:=key k p _ _ _ _ (hp k p rfl) g1;exact ⟨nl',es',cap',rows1,a0,kk,a',k',g5,by rw [g6]; exact g2,by rw [g6]; exact g3,g4⟩
  | _=>exact hl
 rw [<-hR'];refine ⟨by simp [H.len],?_,?_,?_,?_,H.fr,H.df⟩
 ·intro t c hc;simp only [cu,cj] at hc;obtain ⟨c0,h0,rfl⟩:=hc;obtain ⟨u,d,h1,h2⟩:=H.tmp t c0 h0;rcases jH (fun n' p'=>n' == n && kR q p') c0 with e|⟨e,hm⟩
  ·rw [e]; exact ⟨u,1,h1,trivial⟩
  ·rw [e];refine ⟨u,d,h1,av (fun b _ hb=>⟨hS b hb,rfl⟩) d (fun v uv ho hl=>?_) (fun h=>by simp at h) (fun h=>by simp at h) h2⟩;refine hL v uv ?_ hl;intro k p hpl;obtain ⟨k',p',e1,e2⟩:=iC d 3 c0 v hm ho;rw [hpl] at e1;simp only [cb,cz] at e1;obtain ⟨rfl,rfl⟩:=e1;simpa using e2
 ·intro k;obtain ⟨u,d,hr⟩:=H.root k;by_cases e:k=n
  ·subst e;obtain ⟨d',hd'⟩:=AP (f:=fun _=>C.sl true nl es cap rows') (m':=m k) (S':=X.S R' m) (w':=w) (fun b _ hb=>⟨hS b hb,rfl⟩) q hr hq (fun _ _ _ _ _ _=>rfl) (fun _ _ _=>rfl) (by
    intro u0 d0 h0;simp only [cO] at h0 ⊢;refine ⟨d0+1,VN hS hle hn (fun i j q' b ho hb=>?_) h0⟩;have ho':ak (st.roots k) (q++(i,j)::q'):=by
     unfold ak at ho ⊢;rw [C.at_append,hq]; exact ho
    refine ⟨(H.own _ _ b ho' hb).elim .inr (fun h=>.inl (X.kS b h)),?_⟩;rintro ⟨k',p',ho2,hb2⟩;obtain ⟨ho3,hp⟩:=hown k' p' ho2;obtain ⟨e1,e2⟩:=H.inj _ _ _ _ b ho3 ho' hb2 hb;cases hp e1 _ e2)
   exact ⟨u,d',by show rel w _ L0 (m k) true d' [] (R' k) u; rw [show R' k=(st.roots k).turn (fun _=>.sl true nl es cap rows') q from by rw [hR',aC]]; exact hd'⟩
  ·refine ⟨u,d,?_⟩;show rel w _ L0 (m k) true d [] (R' k) u;rw [show R' k=st.roots k from by rw [hR',aN e]];exact av (fun b _ hb=>⟨hS b hb,rfl⟩) d (fun _ _ _ h=>h) (fun _ _ _ _ _ _=>rfl) (fun _ _ _=>rfl) hr
 ·intro k p k' p' b h1 h2;exact H.inj k p k' p' b (hown k p h1).1 (hown k' p' h2).1
 ·intro k p b h1;exact H.own k p b (hown k p h1).1
def Sy {α:Type} (row0 row:α->List C) [hrow:y9 row] [hF:Ob row0 row] {k:Nat} {f f':Nat->C} {R:Nat->C} (n:Nat) (q:aq) {nl:Option Bool} {es:Nat} {cap:Option Nat} (l:List α) {c':C} (hq:(R n).at q=some (.sl true nl es cap (l.map row0))) (hf:uY (fun n' p'=>n' == n && kR q p') f=f') (hc:(R n).turn (fun _=>.sl true nl es cap (l.map row)) q=c') :
  aV ⟨tab k f,R⟩ ⟨tab k f',upd R n c'⟩:=by
 subst hf; subst hc;rintro X a w ⟨m,H⟩;have:=H.tellP hq (dz.map hF.h l) (hrow.ok.noOwn l);exact ⟨m,by simpa [Dd] using this⟩
def ar.uncap (H:ar X m st a w) {n:Nat} {nl:Option Bool} {es:Nat} {cap:Option Nat} {rows:List (List C)} (hR:st.roots n=.sl true nl es cap rows) :
  ar X m { st with roots:=upd st.roots n (.sl true none es none rows) } a w:=by
 obtain ⟨R',hR'⟩:∃ R',R'=upd st.roots n (.sl true none es none rows):=⟨_,rfl⟩;have hat:∀ k p,(R' k).at p=(st.roots k).at p∨(k=n/\p=[]):=by
  intro k p;by_cases e:k=n
  ·subst e;cases p with
   | nil=>exact .inr ⟨rfl,rfl⟩
   | cons x p=>left; rw [hR',aC,hR]; rfl
  ·left; rw [hR',aN e]
 have hown:∀ k p,ak (R' k) p->ak (st.roots k) p:=by
  intro k p ho;rcases hat k p with e|⟨rfl,rfl⟩
  ·unfold ak at ho ⊢; rw [<-e]; exact ho
  ·unfold ak; rw [hR]; rfl
 have hS:∀ b,X.S st.roots m b->X.S R' m b:=by
  rintro b ⟨h1,h2⟩;refine ⟨h1,?_⟩;rintro ⟨k,p,ho,hb⟩;exact h2 ⟨k,p,hown k p ho,hb⟩
 have hL:∀ v u,Lv st.roots m v u->Lv R' m v u:=by
  intro v u hl;have key:∀ k p nl' es' cap' rows0,(st.roots k).at p=some (.sl true nl' es' cap' rows0)->∃ nl1 cap1,(R' k).at p=some (.sl true nl1 es' cap1 rows0):=by
   intro k p nl' es' cap' rows0 hk;rcases hat k p with e|⟨rfl,rfl⟩
   ·exact ⟨nl',cap',by rw [e]; exact hk⟩
   ·rw [hR] at hk;simp only [C.at,cb,C.sl.injEq,true_and] at hk;obtain ⟨rfl,rfl,rfl,rfl⟩:=hk;exact ⟨none,none,by rw [hR',aC]; rfl⟩
  cases v with
  | pref k p i j=>
   obtain ⟨nl',es',cap',rows0,b,off,kk,g1,g2,g3⟩:=hl;obtain ⟨nl1,cap1,g4⟩:=key k p _ _ _ _ g1;exact ⟨nl1,es',cap1,rows0,b,off,kk,g4,g2,g3⟩
  | pal k p lo len c=>
   obtain ⟨nl',es',cap',rows0,a0,kk,a',k',g1,g2,g3,g4⟩:=hl;obtain ⟨nl1,cap1,g5⟩:=key k p _ _ _ _ g1;exact ⟨nl1,es',cap1,rows0,a0,kk,a',k',g5,g2,g3,g4⟩
  | _=>exact hl
 rw [<-hR'];refine ⟨H.len,?_,?_,?_,?_,H.fr,H.df⟩
 ·intro t c hc;obtain ⟨u,d,h1,h2⟩:=H.tmp t c hc;exact ⟨u,d,h1,av (fun b _ hb=>⟨hS b hb,rfl⟩) d (fun v u _ h=>hL v u h) (fun h=>by simp at h) (fun h=>by simp at h) h2⟩
 ·intro k;obtain ⟨u,d,hr⟩:=H.root k;have hr2:rel w (X.S R' m) L0 (m k) true d [] (st.roots k) u:=av (fun b _ hb=>⟨hS b hb,rfl⟩) d (fun _ _ _ h=>h) (fun _ _ _ _ _ _=>rfl) (fun _ _ _=>rfl) hr;by_cases e:k=n
  ·subst e;rw [hR] at hr2;refine ⟨u,d,?_⟩;show rel w _ L0 (m k) true d [] (R' k) u;rw [show R' k=.sl true none es none rows from by rw [hR',aC]];cases d with
   | zero=>exact hr2.elim
   | succ d=>
    obtain ⟨a1,k1,h1,h2,h3,h4,hz,h5,h6,h7⟩:=hr2;exact ⟨a1,k1,h1,h2,h3,by simp,⟨by simp,hz.2⟩,h5,h6,h7⟩
  ·refine ⟨u,d,?_⟩;show rel w _ L0 (m k) true d [] (R' k) u;rw [show R' k=st.roots k from by rw [hR',aN e]];exact hr2
 ·intro k p k' p' b h1 h2;exact H.inj k p k' p' b (hown k p h1) (hown k' p' h2)
 ·intro k p b h1;exact H.own k p b (hown k p h1)
def WZ {k:Nat} {f:Nat->C} {R:Nat->C} (n:Nat) {nl:Option Bool} {es:Nat} {cap:Option Nat} {rows:List (List C)} (hR:R n=.sl true nl es cap rows) :
  aV ⟨tab k f,R⟩ ⟨tab k f,upd R n (.sl true none es none rows)⟩:=by
 rintro X a w ⟨m,H⟩;exact ⟨m,H.uncap hR⟩
def wM {k:IntKind} {c:C} {n:Int} (h:aG k c=some n):c=.val (.int k n):=by
 unfold aG at h;split at h
 ·split at h
  ·rename_i e; subst e; cases h; rfl
  ·cases h
 ·cases h
def Y6 {c:C} {n:Bool} (h:Dm c=some n):c=.val (.bool n):=by
 unfold Dm at h;split at h
 ·cases h; rfl
 ·cases h
def ze {c:C} {n:ByteArray} (h:bR c=some n):c=.val (.string n):=by
 unfold bR at h;split at h
 ·cases h; rfl
 ·cases h
def Mm {α:Type} {d:List C->Option α} {row:α->List C} (hd:∀ r x,d r=some x->r=row x):∀ {rows:List (List C)} {l:List α},bT d rows=some l->rows=l.map row:=by
 intro rows
 induction rows with
 | nil=>intro l h; simp only [bT,cb] at h; subst h; rfl
 | cons r rows ih=>
  intro l h;rw [IJ] at h;split at h
  ·rename_i x xs h1 h2;simp only [cb] at h;subst h;rw [nv,<-hd _ _ h1,<-ih h2]
  ·cases h
def exL {α:Type} (es:Nat) (d:List C->Option α):C->Option (List α)
 | .sl true none es' none rows=>if es'=es then bT d rows else none
 | _=>none
def ZB {α:Type} (es:Nat) (d:List C->Option α) (rows:List (List C)):exL es d (.sl true none es none rows)=bT d rows:=by simp only [exL,if_true]
def V4 {α:Type} {es:Nat} {d:List C->Option α} {row:α->List C} (hd:∀ r x,d r=some x->r=row x) {c:C} {l:List α} (h:exL es d c=some l):c=.sl true none es none (l.map row):=by
 unfold exL at h;split at h
 ·split at h
  ·rename_i e; subst e; rw [Mm hd h]
  ·cases h
 ·cases h
def exF {α:Type} (es:Nat) (d:List C->Option α):C->Option (List α)
 | .sl false none es' none rows=>if es'=es then bT d rows else none
 | _=>none
def V1 {α:Type} (es:Nat) (d:List C->Option α) (rows:List (List C)):exF es d (.sl false none es none rows)=bT d rows:=by simp only [exF,if_true]
def QZ {α:Type} {es:Nat} {d:List C->Option α} {row:α->List C} (hd:∀ r x,d r=some x->r=row x) {c:C} {l:List α} (h:exF es d c=some l):c=.sl false none es none (l.map row):=by
 unfold exF at h;split at h
 ·split at h
  ·rename_i e; subst e; rw [Mm hd h]
  ·cases h
 ·cases h
def TC {α:Type} {d:C->Option α} {g:α->C} (hd:∀ c x,d c=some x->c=g x):∀ (r:List C) (x:α),dp d r=some x->r=[g x]:=by
 intro r x h;unfold dp at h;split at h
 ·rw [hd _ _ h]
 ·cases h
attribute [go_sem] exL exF
def WB {α:Type} {row:α->List C} {l:List α} {r:List C}:(l.map row++[r])[l.length]?=some r:=by simp
def V3 {α:Type} {row:α->List C} {l:List α} {r:List C} {g:List C->List C}:(l.map row++[r]).modify l.length g=l.map row++[g r]:=by
 apply nO;intro j;rw [AU];by_cases h1:j < l.length
 ·rw [if_neg (by omega),cE (by simpa using h1),cE (by simpa using h1)]
 ·by_cases h2:l.length=j
  ·subst h2; simp
  ·rw [if_neg h2,cP (by simpa using h1),cP (by simpa using h1)];obtain ⟨k,hk⟩:∃ k,j - l.length=k+1:=⟨j - l.length - 1,by omega⟩;simp [hk]
def oJ {α:Type} {row:α->List C} {l:List α} {i:Nat} {y:α} {rc:List C} (h:row y=rc):(l.map row).set i rc=(l.set i y).map row:=by
 subst h;apply nO;intro j;simp only [cu,hC,cy];by_cases e:i=j
 ·subst e;by_cases h2:i < l.length<;>simp [h2]
 ·simp [e]
def Va {α:Type} {row:α->List C} {l:List α} {i:Nat} {x:α} {rc:List C} (hx:l[i]?=some x) (h:row x=rc):(l.map row).set i rc=l.map row:=by
 rw [oJ h]
 congr 1
 apply nO;intro j;rw [hC];by_cases e:i=j
 ·subst e;have:=(cd.1 hx).1;rw [if_pos rfl,if_pos this,hx]
 ·rw [if_neg e]
def zn {k n:Nat} {f:Nat->C} {R:Nat->C} {c c':C} (hR:R n=c) (h:c=c'):aV ⟨tab k f,R⟩ ⟨tab k f,upd R n c'⟩:=by
 subst h;have hu:upd R n c=R:=by
  funext t; unfold upd; split
  ·rename_i e; rw [e,hR]
  ·rfl
 rw [hu];exact fun _ _ _ h=>h
def II {f:FuncId} {fl:FnL} (hk:fl.k≠0) (hp:fl.pure=false) (h:∀ cs rest r ls,cs.length=fl.k->fl.fn cs rest=some (r,ls)->mP P f fl.k (cs++rest) r ls):w4 P f fl:=
 ⟨fun _=>h,fun _ h'=>by (rw [hp] at h'; cases h'),fun h'=>(hk h').elim⟩
attribute [go_sem] og
end
def lP (ops:Array Oper):List Nat->List Oper
 | []=>[]
 | i::l=>match ops[i]? with
  | some o=>o::lP ops l
  | none=>lP ops l
attribute [go_sem] lP
section
variable {X:Ctx} {m:Nat->aq->Value} {st:St} {a:Act} {w:World} {P:Program}
def Pk {E:Env} (hT:TOk P E) {s:Nat} {ti:TI} (ht:eS P s ti) {f:Nat} {x c:C} {u:Value} (hx:aB X m st w x u) (hc:qD E ti f x=some c):∃ v,(∀ w2,(Instr.fieldAt s u f).run P w2=.ok v w2)/\aB X m st w c v:=by
 obtain ⟨d,hd,hagg,hk⟩:=ht.und;unfold qD at hc;split at hc
 ·rename_i fs hkind;rw [hkind] at hk;obtain ⟨fields,rfl,hf,_⟩:=hk;split at hc
  ·rename_i o t hfs;obtain ⟨fl,h1,rfl,rfl⟩:=hf f _ _ hfs;split at hc
   ·rename_i ft hft;split at hc
    ·simp at hc
    ·rename_i hz;have hrun:∀ b o' w2,(Instr.fieldAt s (.pointer (some ⟨b,o',none⟩)) f).run P w2=.ok (.pointer (some ⟨b,o'+fl.offset,none⟩)) w2:=by
      intro b o' w2;have hsz:=(hT _ ft hft).size (w:=w2);simp [Instr.fieldAt,run_underlying hd,h1,Instr.sureAddr,fieldPlace,hsz,hz,Addr.add_lit]
     split at hc
     ·simp only [cb] at hc;subst hc;obtain ⟨d,hx⟩:=hx;cases d with
      | zero=>exact hx.elim
      | succ d=>
       obtain ⟨nl',es',cap',rows',b',off',k',f1,f2,rfl⟩:=hx;exact ⟨_,hrun _ _,1,nl',es',cap',rows',b',off',k',f1,f2,by simp [nf]⟩
     ·simp only [cb] at hc;subst hc;obtain ⟨d,hx⟩:=hx;cases d with
      | zero=>exact hx.elim
      | succ d=>
       obtain ⟨b,off,arr,elem,frz,rfl,g2⟩:=hx;exact ⟨_,hrun _ _,d+1,b,off,arr,elem,frz,by simp [nf],g2⟩
     ·simp at hc
   ·simp at hc
  ·simp at hc
 ·simp at hc
def Px (h:ar X m st a w) {t:Nat} {ti:TI} (ht:eS P t ti) {x ix c:C} {u v:Value} (hx:aB X m st w x u) (hix:aB X m st w ix v) (hc:kz st ti x ix=some c) :
  ∃ r,(∀ w2,(Instr.indexAt t u v).run P w2=.ok r w2)/\aB X m st w c r:=by
 obtain ⟨d,hd,hagg,hk⟩:=ht.und;unfold kz at hc;split at hc
 ·rename_i e es k i hkind;rw [hkind] at hk;obtain ⟨rfl,ie,hi1,hi2⟩:=hk;obtain rfl:=hix.of_val;have hsz:∀ w2,(sizeOf e).run P w2=.ok es w2:=by intro w2; simp [sizeOf,typeInfo,hi1,hi2]
  split at hc
  ·rename_i n p lo len cap;split at hc
   ·rename_i nl es' cap' rows hn;split at hc
    ·rename_i hcond;obtain ⟨hes,h0,h1⟩:=hcond;obtain rfl:=hes.symm;simp only [cb] at hc;subst hc;obtain ⟨nl',es',cap'',rows',a0,k0,a',k',g1,g2,g3,rfl,g5,g6,g7,g8,g9⟩:=ei hx;have hn':(st.roots n).at p=some (.sl true nl es cap' rows):=hn;rw [hn'] at g1;simp only [cb,C.sl.injEq,true_and] at g1;obtain ⟨rfl,rfl,rfl,rfl⟩:=g1;rcases g9 with g9|⟨b,off,rfl,rfl⟩
     ·omega
     ·refine ⟨.pointer (some ⟨b,off+lo * es+i.toNat * es,none⟩),?_,1,nl,es,cap',rows,b,off,k0,hn',g2,?_⟩
      ·intro w2; simp [Instr.indexAt,asIntOf,run_underlying hd,h0,h1,hsz,Addr.add_lit]
      ·simp [cI,nf]
    ·simp at hc
   ·simp at hc
  ·rename_i own nl es' cap rows;split at hc
   ·rename_i hcond;obtain ⟨hes,h0,h1⟩:=hcond;obtain rfl:=hes.symm;simp only [cb] at hc;subst hc;obtain ⟨a0,k0,rfl,g2,g3,g4,gz,g5,g6⟩:=wD hx;rcases g6 with rfl|⟨b,off,arr,elem,frz,rfl,e2,e3,dd,e5⟩
    ·simp at h1; omega
    ·refine ⟨.pointer (some ⟨b,off+i.toNat * es,none⟩),?_,dd+1,b,off,arr,elem,frz,by simp,e2,e3,g5,fun i j row c' f1 f2=>?_⟩
     ·intro w2; simp [Instr.indexAt,asIntOf,run_underlying hd,h0,h1,hsz,Addr.add_lit]
     ·exact e5 i j row c' f1 f2
   ·simp at hc
  ·simp at hc
 ·rename_i n e es k i hkind;rw [hkind] at hk;obtain ⟨rfl,ie,hi1,hi2⟩:=hk;obtain rfl:=hix.of_val;have hsz:∀ w2,(sizeOf e).run P w2=.ok es w2:=by intro w2; simp [sizeOf,typeInfo,hi1,hi2]
  split at hc
  ·rename_i hcond;obtain ⟨h0,h1⟩:=hcond;have hrun:∀ b o w2,(Instr.indexAt t (.pointer (some ⟨b,o,none⟩)) (.int k i)).run P w2=.ok (.pointer (some ⟨b,o+i.toNat * es,none⟩)) w2:=by
    intro b o w2;simp [Instr.indexAt,asIntOf,run_underlying hd,Instr.sureAddr,h0,h1,hsz,Addr.add_lit]
   split at hc
   ·simp only [cb] at hc;subst hc;obtain ⟨nl',es',cap',rows',b',off',k',f1,f2,rfl⟩:=mi hx;exact ⟨_,hrun _ _,1,nl',es',cap',rows',b',off',k',f1,f2,by simp [nf]⟩
   ·simp only [cb] at hc;subst hc;obtain ⟨d,hx⟩:=hx;cases d with
    | zero=>exact hx.elim
    | succ d=>
     obtain ⟨b,off,arr,elem,frz,rfl,g2⟩:=hx;exact ⟨_,hrun _ _,d+1,b,off,arr,elem,frz,by simp [nf],g2⟩
   ·simp at hc
  ·simp at hc
 ·simp at hc
def pL (o:Oper):Bool:=o.guard.isNone && match o.op with
 | .move _=>true
 | .assign _=>true
 | .extract ..=>true
 | .nilCheck _=>true
 | .fieldAddr ..=>true
 | .load ..=>true
 | .indexAddr ..=>true
 | .makeFunc ..=>true
 | .call { callee:=.builtin .len,.. }=>true
 | _=>false
def RQ (o:Oper):Bool:=match o.op with
 | .load ..=>true
 | _=>false
def Iu {E:Env} {o:Oper} (hq:pL o=true) {st':St} (h:exe E o st=some st'):∃ c,qop E st o.op=some c/\st'=st.put o.dst c:=by
 obtain ⟨dst,op,ty,pos,after,guard⟩:=o;simp only [pL,cv] at hq;obtain ⟨_,hq⟩:=hq;have key:exe E ⟨dst,op,ty,pos,after,guard⟩ st=dX ⟨dst,op,ty,pos,after,guard⟩ st (qop E st op)->∃ c,qop E st op=some c/\st'=st.put dst c:=by
  intro e;rw [e] at h;cases hc:qop E st op with
  | none=>rw [hc] at h; simp [dX] at h
  | some c=>rw [hc] at h; simp only [dX,cb] at h; exact ⟨c,rfl,h.symm⟩
 split at hq;all_goals first|(cases hq; done)|skip
 all_goals
  apply key;simp only [exe,lA,kU,fZ];split<;>simp_all
def Vc {E:Env} (hT:TOk P E) (H:ar X m st a w) {o:Oper} (hq:pL o=true) (hl:RQ o=false) {c:C} (h:qop E st o.op=some c) {v:Value} (hv:(execOp a.eval o).run P w=.ok (.value v) w) (w2:World):(execOp a.eval o).run P w2=.ok (.value v) w2:=by
 obtain ⟨dst,op,ty,pos,after,guard⟩:=o;simp only [pL,cv] at hq;obtain ⟨_,hq⟩:=hq;split at hq
 case h_10=>cases hq
 ·simp [execOp] at hv ⊢; exact hv
 ·simp [execOp] at hv ⊢; exact hv
 ·rename_i x ix;cases hx:a.eval x with
  | tuple vs=>
   cases hvs:vs[ix]? with
   | some v'=>simp [execOp,Instr.extract,hx,hvs] at hv ⊢; exact hv
   | none=>simp [execOp,Instr.extract,hx,hvs,stuck] at hv
  | _=>simp [execOp,Instr.extract,hx,stuck] at hv
 ·rename_i x;simp only [qop] at h;have hx:=bm H x;split at h
  ·rename_i n p i j he;rw [he] at hx;obtain ⟨_,_,_,_,b,off,k,_,_,hu⟩:=mi hx;simp [execOp,hu] at hv ⊢; exact hv
  ·rename_i es rows i j he;rw [he] at hx;obtain ⟨b,off,arr,elem,frz,hu,_⟩:=N9 hx;simp [execOp,hu] at hv ⊢; exact hv
  ·cases h
 ·rename_i s x f;simp only [qop] at h;obtain ⟨ti,h1,h2⟩:=ck.1 h;obtain ⟨v',e1,_⟩:=Pk hT (hT s ti h1) (bm H x) h2;simp only [execOp,Sem.run_bind,e1,Result.andThen_ok,Sem.run_pure] at hv ⊢;simpa using hv
 ·cases hl
 ·rename_i t x ix;simp only [qop] at h;obtain ⟨ti,h1,h2⟩:=ck.1 h;obtain ⟨v',e1,_⟩:=Px H (hT t ti h1) (bm H x) (bm H ix) h2;simp only [execOp,Sem.run_bind,e1,Result.andThen_ok,Sem.run_pure] at hv ⊢;simpa using hv
 ·rename_i fn first caps
  simp only [execOp,Instr.makeFunc] at hv ⊢;cases fn<;>simp at hv ⊢<;>first|exact hv|skip
  all_goals simp [qop] at h
 ·rename_i args tys;simp only [qop] at h;have hev:=Ix H args.toList;have harr:args.map a.eval=(args.toList.map a.eval).toArray:=by rw [<-ac4,xL]
  have hgo:∀ w,(execOp a.eval ⟨dst,.call { callee:=.builtin .len,args:=args,argTypes:=tys },ty,pos,after,guard⟩).run P w=(do pure (.value (<-Builtin.len_ tys ty (args.toList.map a.eval).toArray)):Sem Next).run P w:=by
   intro w;simp only [execOp,resolve,Sem.run_bind,Sem.run_pure,Result.andThen_ok,invoke,builtin,harr]
  rw [hgo] at hv ⊢;generalize args.toList.map a.eval=us at *;generalize args.toList.map st.ev=cs at *;unfold ll at h;split at h
  ·obtain ⟨u,h1,h2⟩:=hev 0 _ rfl;obtain rfl:=h2.of_val;split at h
   ·rename_i ti hti;obtain ⟨t,ht0,hti⟩:=ck.1 hti;obtain ⟨d,hd,_,hk⟩:=(hT t ti hti).und;split at h
    ·rename_i hkind;rw [hkind] at hk;have hk:d=.string:=hk;subst hk;simp [Builtin.len_,ht0,h1,run_underlying hd,goInt] at hv ⊢;exact hv
    ·cases h
   ·cases h
  ·rename_i x _ _;obtain ⟨u,h1,h2⟩:=hev 0 _ rfl;split at h
   ·rename_i ti hti;obtain ⟨t,ht0,hti⟩:=ck.1 hti;obtain ⟨d,hd,_,hk⟩:=(hT t ti hti).und;split at h
    ·rename_i e es hkind;rw [hkind] at hk;obtain ⟨rfl,_⟩:=hk;cases hl:u4 x with
     | none=>simp [hl] at h
     | some n=>
      have:∃ ad k,u=.slice ad n k:=by
       cases x with
       | val v=>
        obtain rfl:=h2.of_val;unfold u4 at hl;split at hl<;>simp_all
       | sl own nl es cap rows=>
        obtain ⟨a0,k0,rfl,_⟩:=wD h2;simp only [u4,cb] at hl;exact ⟨a0,k0,by rw [hl]⟩
       | pal n' p lo len cap=>
        obtain ⟨nl',es'',cap'',rows',a0,k0,a',k',g1,g2,g3,rfl,_⟩:=ei h2;simp only [u4,cb] at hl;exact ⟨a',k',by rw [hl]⟩
       | _=>simp [u4] at hl
      obtain ⟨ad,k,rfl⟩:=this;simp [Builtin.len_,ht0,h1,run_underlying hd,goInt] at hv ⊢;exact hv
    ·cases h
   ·cases h
  all_goals first|(cases h; done)|(exfalso; simp_all; done)
def TN {E:Env} (hT:TOk P E) (H:ar X m st a w) {t:Nat} {ti:TI} (ht:eS P t ti) {n i j:Nat} {c:C} {u:Value} (hx:aB X m st w (.pref n [] i j) u) (hc:qu st ti (.pref n [] i j)=some c) {v:Value} (hv:(Instr.loadAt t u).run P w=.ok v w) :
  ∃ b,blk (m n [])=some b/\ak (st.roots n) []/\∀ w2,w2.heap[b]?=w.heap[b]?->(Instr.loadAt t u).run P w2=.ok v w2:=by
 simp only [qu] at hc;split at hc
 case h_2=>cases hc
 rename_i nl es cap rows hn;split at hc
 case h_2=>cases hc
 rename_i row hr;split at hc
 case isFalse=>cases hc
 rename_i hj;obtain ⟨nl',es',cap',rows',b',off',k',f1,f2,rfl⟩:=mi hx;have f1':st.node n []=some (.sl true nl' es' cap' rows'):=f1;rw [hn] at f1';simp only [cb,C.sl.injEq,true_and] at f1';obtain ⟨rfl,rfl,rfl,rfl⟩:=f1';obtain ⟨b,off,k,arr,elem,g1,g2,g3,g4,g5,g6,g7⟩:=FZ H hn hr;rw [g1] at f2;simp only [Value.slice.injEq,cb,Addr.mk.injEq,and_true,true_and] at f2;obtain ⟨⟨rfl,rfl⟩,rfl⟩:=f2;have hrl:rows.length≠0:=by intro e; rw [cQ e] at hr; cases hr
 obtain ⟨u0,d0,hr0⟩:=H.root n;have hn':st.roots n=.sl true nl es cap rows:=by simpa [St.node,C.at] using hn
 rw [hn'] at hr0;obtain ⟨a1,k1,D,q1,q2,q3,_⟩:=eb hr0;have hk1:k≠0:=by
  rw [g1] at q2;simp only [Value.slice.injEq] at q2;omega
 refine ⟨b,by rw [g1]; simp [blk,hk1],by rw [hn']; rfl,?_⟩;have hcell:∀ q,q < ti.size->∃ u,arr[off+i * es+j+q]?=some u:=by
  intro q hq;have hjl:j+q < row.length:=by omega
  obtain ⟨u',e1,_⟩:=g7 (j+q) row[j+q] (cn hjl);exact ⟨u',by rw [<-e1]; congr 1; omega⟩
 intro w2 hw2;have key:∃ v',∀ wz:World,wz.heap[b]?=w.heap[b]?->(Instr.loadAt t (.pointer (some ⟨b,off+i * es+j,none⟩))).run P wz=.ok v' wz:=by
  unfold CX at hc;cases hagg:ti.agg with
  | true=>
   refine ⟨.agg ((List.range ti.size).map fun q=>(arr[off+i * es+j+q]?).getD undef).toArray,fun wz hz=>?_⟩;have hlc:=run_loadCells_list (P:=P) (w:=wz) ⟨b,off+i * es+j,none⟩ ((List.range ti.size).map fun q=>(arr[off+i * es+j+q]?).getD undef) (by
    intro q v hq;rw [Addr.add_lit,kD (hz.trans g3)];simp only [cu,cj] at hq;obtain ⟨q',hq,rfl⟩:=hq;have hlt:=(cd.1 hq).1;rw [adj (by simpa using hlt)] at hq;cases hq;obtain ⟨u',e1⟩:=hcell q (by simpa using hlt);rw [e1]; rfl)
   simp only [cy,adi] at hlc;simp [Instr.loadAt,Instr.sureAddr,loadVar,ht.agg_run,hagg,ht.size,hlc]
  | false=>
   have h0:∃ u,arr[off+i * es+j]?=some u:=by
    rw [hagg] at hc;simp only [cR,if_false] at hc;have:(row.drop j).take ti.size≠[]:=by
     intro e;rw [show kf n [] i j ((row.drop j).take ti.size)=[] from by rw [e]; rfl] at hc;cases hc
    obtain ⟨q,hq⟩:∃ q,q < ti.size:=by
     cases hs:ti.size with
     | zero=>rw [hs] at this; simp at this
     | succ q=>exact ⟨0,by omega⟩
    obtain ⟨u',e⟩:=hcell 0 (by omega);exact ⟨u',by simpa using e⟩
   obtain ⟨u',hu'⟩:=h0;refine ⟨u',fun wz hz=>?_⟩;simp [Instr.loadAt,Instr.sureAddr,loadVar,ht.agg_run,hagg,kD (hz.trans g3),hu']
 obtain ⟨v',hv'⟩:=key;have:=hv' w rfl;rw [hv] at this;cases this;exact hv' w2 hw2
def TR {E:Env} (hT:TOk P E) (H:ar X m st a w) {t:Nat} {ti:TI} (ht:eS P t ti) {n i j:Nat} {p:aq} {c:C} {u:Value} (hx:aB X m st w (.pref n p i j) u) (hc:qu st ti (.pref n p i j)=some c) {v:Value} (hv:(Instr.loadAt t u).run P w=.ok v w) :
  ∃ (b:Nat) (x:Obj),w.heap[b]?=some x/\∀ w2:World,w2.heap[b]?=w.heap[b]?->(Instr.loadAt t u).run P w2=.ok v w2:=by
 simp only [qu] at hc;split at hc
 case h_2=>cases hc
 rename_i nl es cap rows hn;split at hc
 case h_2=>cases hc
 rename_i row hr;split at hc
 case isFalse=>cases hc
 rename_i hj;obtain ⟨nl',es',cap',rows',b',off',k',f1,f2,rfl⟩:=mi hx;have f1':st.node n p=some (.sl true nl' es' cap' rows'):=f1;rw [hn] at f1';simp only [cb,C.sl.injEq,true_and] at f1';obtain ⟨rfl,rfl,rfl,rfl⟩:=f1';obtain ⟨b,off,k,arr,elem,g1,g2,g3,g4,g5,g6,g7⟩:=FZ H hn hr;rw [g1] at f2;simp only [Value.slice.injEq,cb,Addr.mk.injEq,and_true,true_and] at f2;obtain ⟨⟨rfl,rfl⟩,rfl⟩:=f2;refine ⟨b,_,g3,?_⟩;have hcell:∀ q,q < ti.size->∃ u,arr[off+i * es+j+q]?=some u:=by
  intro q hq;have hjl:j+q < row.length:=by omega
  obtain ⟨u',e1,_⟩:=g7 (j+q) row[j+q] (cn hjl);exact ⟨u',by rw [<-e1]; congr 1; omega⟩
 intro w2 hw2;have key:∃ v',∀ wz:World,wz.heap[b]?=w.heap[b]?->(Instr.loadAt t (.pointer (some ⟨b,off+i * es+j,none⟩))).run P wz=.ok v' wz:=by
  unfold CX at hc;cases hagg:ti.agg with
  | true=>
   refine ⟨.agg ((List.range ti.size).map fun q=>(arr[off+i * es+j+q]?).getD undef).toArray,fun wz hz=>?_⟩;have hlc:=run_loadCells_list (P:=P) (w:=wz) ⟨b,off+i * es+j,none⟩ ((List.range ti.size).map fun q=>(arr[off+i * es+j+q]?).getD undef) (by
    intro q v hq;rw [Addr.add_lit,kD (hz.trans g3)];simp only [cu,cj] at hq;obtain ⟨q',hq,rfl⟩:=hq;have hlt:=(cd.1 hq).1;rw [adj (by simpa using hlt)] at hq;cases hq;obtain ⟨u',e1⟩:=hcell q (by simpa using hlt);rw [e1]; rfl)
   simp only [cy,adi] at hlc;simp [Instr.loadAt,Instr.sureAddr,loadVar,ht.agg_run,hagg,ht.size,hlc]
  | false=>
   have h0:∃ u,arr[off+i * es+j]?=some u:=by
    rw [hagg] at hc;simp only [cR,if_false] at hc;have:(row.drop j).take ti.size≠[]:=by
     intro e;rw [show kf n p i j ((row.drop j).take ti.size)=[] from by rw [e]; rfl] at hc;cases hc
    obtain ⟨q,hq⟩:∃ q,q < ti.size:=by
     cases hs:ti.size with
     | zero=>rw [hs] at this; simp at this
     | succ q=>exact ⟨0,by omega⟩
    obtain ⟨u',e⟩:=hcell 0 (by omega);exact ⟨u',by simpa using e⟩
   obtain ⟨u',hu'⟩:=h0;refine ⟨u',fun wz hz=>?_⟩;simp [Instr.loadAt,Instr.sureAddr,loadVar,ht.agg_run,hagg,kD (hz.trans g3),hu']
 obtain ⟨v',hv'⟩:=key;have:=hv' w rfl;rw [hv] at this;cases this;exact hv' w2 hw2
def Ya (s:St):C->Bool
 | .pal n [] lo len _=>match s.roots n with
  | .sl true _ _ _ rows=>decide (rows.length<=lo+len)
  | _=>true
 | .pal _ (_::_) _ _ _=>true
 | _=>false
def TG (d:Nat):C->Bool
 | .pal n _ _ _ _=>Nat.blt n H0 && !(n == d)
 | _=>false
def Sl (l:List (List C)):(frzRows l).length=l.length:=by simp [frzRows]
theorem Wd {E:Env} {d:Nat} {ti tix te:TI} {e es:Nat} {x y:Operand} {s st':St} (hk:ti.kind=.slice e es) (hte:E.T e=some te) (hh:TG d (s.ev x)=true) (hkx:tix.kind=.slice e es) (h:gw d es te tix (s.ev x) (s.ev y) s=some st'):∃ s1,zj E d ti x y s=some s1:=by
 unfold gw at h;split at h
 case h_2=>cases h
 rename_i kk olds ex hroom hold hex;split at h
 case isFalse=>cases h
 rename_i hc;obtain ⟨_,hes,hd,hb⟩:=hc;unfold Ez at hex;rw [hkx] at hex;simp only [if_true,cj] at hex;obtain ⟨extra,hsr,rfl⟩:=hex;unfold TG at hh;split at hh
 case h_2=>cases hh
 rename_i n p lo len cap hx;simp only [cv,ads,nC,beq_eq_false_iff_ne] at hh;rw [hx] at hold;unfold jO at hold;simp only at hold;split at hold
 case h_2=>cases hold
 rename_i nl es' cap' rows hn;split at hold
 case isFalse=>cases hold
 rename_i hes';simp only [cb] at hold;subst hold;rw [Sl] at hb;unfold zj;rw [hk];simp only [hte];rw [if_neg (by rintro (q|q); exact hes q; exact q hd),hsr];simp only [hx,wE,hn,hes'.1,if_true];rw [if_neg hh.2,if_pos hh.1];simp only [Ext.all] at hb;simp only;rw [if_pos hb];exact ⟨_,rfl⟩
def Zy (s:St):C->Bool
 | .pal n p lo len _=>match s.node n p with
  | some (.sl true _ _ _ rows)=>((rows.drop lo).take len).all (·.all plainCell)
  | _=>false
 | _=>false
def BZ (o:Oper):Bool:=pL o || match o.op with
 | .pick ..=>true
 | .field ..=>true
 | .index ..=>true
 | .binOp ..=>true
 | .unOp ..=>true
 | .convert ..=>true
 | .call { callee:=.builtin .max,.. }=>true
 | .call { callee:=.builtin .min,.. }=>true
 | _=>false
def UJ {E:Env} {o:Oper} (hq:BZ o=true) {st':St} (h:exe E o st=some st'):∃ c,qop E st o.op=some c/\st'=st.put o.dst c:=by
 unfold BZ at hq;rw [nx] at hq;rcases hq with hq|hq
 ·exact Iu hq h
 obtain ⟨dst,op,ty,pos,after,guard⟩:=o;simp only at hq;have key:exe E ⟨dst,op,ty,pos,after,guard⟩ st=dX ⟨dst,op,ty,pos,after,guard⟩ st (qop E st op)->∃ c,qop E st op=some c/\st'=st.put dst c:=by
  intro e;rw [e] at h;cases hc:qop E st op with
  | none=>rw [hc] at h; simp [dX] at h
  | some c=>rw [hc] at h; simp only [dX,cb] at h; exact ⟨c,rfl,h.symm⟩
 split at hq;all_goals first|(cases hq; done)|skip
 all_goals
  apply key;simp only [exe,lA,kU,fZ];split<;>simp_all
def Dv (o:Oper):Bool:=BZ o || match o.op with
 | .slice ..=>true
 | _=>false
def Of (o:Oper):Bool:=match o.op with
 | .buildSlice ..=>true
 | _=>false
def DO (E:Env) (o:Oper) (s:St):Bool:=o.guard.isNone && match o.op with
 | .build ..=>true
 | .buildSlice ..=>true
 | .call { callee:=.builtin .append,args,argTypes }=>match o.dst,args.toList,argTypes.toList with
  | some d,[x,y],[t,tx]=>(E.F d).isNone && Ya s (s.ev x) && Zy s (s.ev y) && (TG d (s.ev x) && t == tx)
  | _,_,_=>false
 | .call { callee:=.value x,args:=_,argTypes:=_ }=>match o.dst,s.ev x with
  | some d,.clo f _=>match E.L d (GA f),E.G d (GA f) with
   | none,some fs=>if fs.own.isEmpty then fs.pure else !fs.peek
   | _,_=>false
  | _,_=>false
 | .slice _ _ _ hi mx=>hi.isNone || mx.isSome
 | _=>BZ o
theorem G3.same {dst:Option Nat} {st':St}:G3 dst m st w m st' w:=fun _ _ _ _ _=>⟨rfl,fun _ _=>rfl⟩
def ace {E:Env} (hT:TOk P E) (hG:GOk P E) (H:ar X m st a w) {o:Oper} {st':St} (h:exe E o st=some st') (hc:DO E o st=true) {Q:Exit->Act->World->Prop} :
  o.wp P a w (fun a' w'=>∃ m',ar X m' st' a' w'/\G3 o.dst m st w m' st' w'/\(Dv o=true->w'=w)/\(Of o=true->∀ b,b < w.heap.size->w'.heap[b]?=w.heap[b]?)) Q:=by
 have quiet:(∃ c,qop E st o.op=some c/\st'=st.put o.dst c)->o.wp P a w (fun a' w'=>∃ m',ar X m' st' a' w'/\G3 o.dst m st w m' st' w'/\(Dv o=true->w'=w)/\(Of o=true->∀ b,b < w.heap.size->w'.heap[b]?=w.heap[b]?)) Q:=by
  rintro ⟨c,hq,rfl⟩;obtain ⟨v,e1,d,e2⟩:=QI hT H hq;exact ja e1 ⟨m,H.put o.dst e2,.same,fun _=>rfl,fun _ _ _=>rfl⟩
 unfold DO at hc;simp only [cv] at hc;obtain ⟨hg,hc⟩:=hc;split at hc
 ·rename_i t parts hop;refine quiet ?_;have e:exe E o st=dX o st (qop E st o.op):=by
   simp only [exe,lA,kU,fZ,hop];split<;>simp_all
  rw [e] at h;cases hq:qop E st o.op with
  | none=>rw [hq] at h; simp [dX] at h
  | some c=>rw [hq] at h; simp only [dX,cb] at h; exact ⟨c,rfl,h.symm⟩
 ·rename_i t len parts hop;have e:exe E o st=kU E o st:=by
   simp only [exe,lA,fZ,hop];split<;>simp_all
  rw [e] at h;simp only [kU,hop] at h;split at h
  ·rename_i d ti hd hti;obtain ⟨u,w',e1,m',e2,e3,e4⟩:=HF hT H (hT t ti hti) h;refine ja (u:=u) (w':=w') ?_ ⟨m',by rw [hd]; exact e2,fun n hn hnd ho _=>⟨e3 n hn (fun e=>hnd (by rw [hd,e])),fun b hb=>e4 b (H.lt ho hb)⟩,fun q=>by simp [Dv,BZ,pL,hop] at q,fun _ b hb=>e4 b hb⟩;simp only [execOp,hop,Sem.run_bind,e1,Result.andThen_ok,Sem.run_pure]
  ·cases h
 ·rename_i args tys hop;split at hc
  case h_2=>cases hc
  rename_i d x y t0 tx0 hd hargs htys0;simp only [cv,xZ,beq_iff_eq] at hc;obtain ⟨⟨⟨hF,hb⟩,hs⟩,hhead,htt⟩:=hc;subst htt;have hpre:lA E o st=none:=by
   simp only [lA,hop,hd,hargs];split
   ·rename_i d' s' x' t tx hdd hss htys;cases hdd;cases hss;split
    ·split
     ·split
      ·rw [hF];simp only;unfold rD;split
       ·rename_i hx _;rw [hx] at hb;simp only [Ya] at hb;split
        ·rename_i hr;rw [hr] at hb;simp only [decide_eq_true_eq] at hb;rw [if_neg (by omega)]
        ·rfl
       ·rfl
      ·rfl
     ·rfl
    ·rfl
   ·rfl
  simp only [exe,hpre] at h;split at h
  ·rename_i s1 hs1;simp only [cb] at h;subst h;simp only [kU,hop,hd,hargs] at hs1;split at hs1
   case h_2=>cases hs1
   rename_i t tx hd1 hargs1 htys;split at hs1
   case h_2=>cases hs1
   rename_i ti tix hti htix;split at hs1
   case h_2=>cases hs1
   rename_i e es e' es' hk1 hk2;split at hs1
   case isFalse=>cases hs1
   rename_i he;obtain ⟨rfl,rfl⟩:=he;cases hd1;cases hargs1;obtain ⟨u,w',e1,m',e2,e3⟩:=Oy (ty:=o.type) hT H (args:=args) (argTypes:=tys) (s:=x) (x:=y) (t:=t) (tx:=tx) (by rw [<-hargs]) (by rw [<-htys]) hti htix (by rw [hk1,hk2]) hs1;have hsrc:(jO st es (st.ev y)).isSome=true:=by
    unfold Zy at hs;split at hs
    ·rename_i n p lo len cap hy;split at hs
     ·rename_i nl es' cap' rows hn;have hes:es'=es:=by
       unfold zj at hs1;rw [hk1] at hs1;simp only at hs1;split at hs1
       ·split at hs1
        ·cases hs1
        ·split at hs1
         ·rename_i hsr;rw [hy] at hsr;simp only [jO,hn] at hsr;split at hsr
          ·rename_i hh; exact hh.1
          ·cases hsr
         ·rw [hy] at hs1;split at hs1
          ·rename_i hpp;cases hpp;simp only [hn] at hs1;split at hs1
           ·split at hs1
            ·rename_i hh; exact hh
            ·cases hs1
           ·cases hs1
          ·cases hs1
       ·cases hs1
      rw [hy];simp only [jO,hn];rw [if_pos ⟨hes,hs⟩];rfl
     ·cases hs
    ·cases hs
   exact ja (u:=u) (w':=w') (by simp only [execOp,hop,resolve,Sem.run_bind,Sem.run_pure,Result.andThen_ok,invoke,builtin,e1]) ⟨m',by rw [hd]; exact e2,by rw [hd]; exact e3 ⟨e,es,hk1,hsrc⟩,fun q=>by simp [Dv,BZ,pL,hop] at q,fun q=>by simp [Of,hop] at q⟩
  ·rename_i hs1;exfalso;simp only [fZ,hop,hd,hargs,htys0] at h;simp only [kU,hop,hd,hargs,htys0] at hs1;split at h
   case h_2=>cases h
   rename_i ti tix hti htix;rw [hti] at htix;cases htix;rw [hti] at hs1;simp only at hs1;split at h
   case h_2=>cases h
   rename_i e es hk;split at h
   case h_2=>cases h
   rename_i te hte;rw [hk] at hs1;simp only [and_self,if_true] at hs1;obtain ⟨s1,q⟩:=Wd hk hte hhead hk h;rw [q] at hs1;cases hs1
 ·rename_i x args tys hop;split at hc
  case h_2=>cases hc
  rename_i d f caps hd hx;split at hc
  case h_2=>cases hc
  rename_i fs hL hfs;have e:exe E o st=kU E o st:=by
   simp only [exe,lA,fZ,hop];split<;>simp_all
  rw [e] at h;simp only [kU,hop,J7,gi,hd,hx] at h;split at h
  case isFalse=>cases h
  rename_i hdH;simp only [GY,hL,hfs] at h;have hct:gi st { callee:=.value x,args:=args,argTypes:=tys }=some (GA f,IX f (args.toList.map st.ev) caps):=by simp only [gi,hx]
  rw [hd];by_cases ho:fs.own=[]
  ·rw [if_pos (by simp [ho])] at hc;rw [if_pos ho] at h;split at h
   case h_2=>cases h
   rename_i cs hsn;rw [if_pos (.inl hc)] at h;split at h
   case h_2=>cases h
   rename_i r hr;cases h;refine Oper.wp_mono (fun a' w' h'=>?_) (Tw hG H hop hd hct hfs ho hsn (.inl hc) hr hdH);obtain ⟨m',h1,h2,h3⟩:=h';exact ⟨m',h1,fun n hn hnd hO _=>⟨h2 n (fun e=>hnd (by rw [e])) [],fun b hb=>h3 b (H.lt hO hb)⟩,fun q=>by simp [Dv,BZ,pL,hop] at q,fun q=>by simp [Of,hop] at q⟩
  rw [if_neg (by simpa using ho)] at hc;have hp:fs.peek=false:=by simpa using hc
  rw [if_neg ho,if_neg (by simp [hp])] at h;refine Oper.wp_mono (fun a' w' h'=>?_) (M4 hG H hop hd hct hfs h);obtain ⟨m',h1,h2⟩:=h';exact ⟨m',h1,h2,fun q=>by simp [Dv,BZ,pL,hop] at q,fun q=>by simp [Of,hop] at q⟩
 ·rename_i t x lo hi mx hop;have e0:kU E o st=dX o st (qop E st o.op):=by simp only [kU,hop]
  have p0:lA E o st=none:=by simp only [lA,hop]
  have a0:fZ E o st=none:=by
   simp only [fZ,hop];cases hi with
   | none=>cases lo<;>rfl
   | some hi=>cases mx with
    | none=>simp at hc
    | some mx=>cases lo<;>rfl
  simp only [exe,p0,e0,a0] at h;cases hq:qop E st o.op with
  | none=>rw [hq] at h; simp [dX] at h
  | some c=>
   rw [hq] at h;simp only [dX,cb] at h;exact quiet ⟨c,hq,h.symm⟩
 ·exact quiet (UJ hc h)
end
section
variable {P:Program} {ops:Array Oper} {Q:Exit->Act->World->Prop}
def Vp {j:Nat} {oj:Oper} {di:Option Tmp} {v:Value} (hj:ops[j]?=some oj)
  (h1:∀ d,di=some d->d∉oj.looksAt ops) (h2:∀ d,di=some d->oj.dst≠some d) (hsj:∀ cs b,oj.op≠.select cs b)
  (hQ:∀ c a w,Q (.panic c) (a.put di v) w->Q (.panic c) a w) {Y:Act->Prop} (keep:∀ a u,Y a->Y (a.put oj.dst u))
  (keepD:∀ (a:Act) d,Y a->Y { a with defers:=d::a.defers }) {K:Act->World->Prop} {a:Act} {w:World} (hy:Y a) (h:wpOp P ops Q j K (a.put di v) w) :
  wpOp P ops Q j (fun a' w'=>Y a'/\K (a'.put di v) w') a w:=by
 unfold wpOp at *;simp only [hj] at *;rw [wanted_put oj a di v h1] at h;split
 ·rename_i hw;simp only [hw,if_true] at h;rcases h with h|⟨hasks,hlets⟩
  case inr=>exact .inr ⟨by unfold Oper.asks at *; rw [execOp_put oj hsj a di v h1] at hasks; exact hasks,hlets⟩
  refine .inl ?_;unfold Oper.wp at *;rw [execOp_put oj hsj a di v h1] at h;generalize (execOp a.eval oj).run P w=r at *;cases r with
  | ok n w'=>
   cases n<;>simp only [Oper.upon] at h ⊢
   case value u=>exact ⟨keep a u hy,by rw [<-Act.put_comm a v u h2]; exact h⟩
   case skip=>exact ⟨keep a _ hy,by rw [<-Act.put_comm a v undef h2]; exact h⟩
   case defer d=>
    refine ⟨keep _ _ (keepD a d hy),?_⟩;rw [<-Act.put_comm _ v undef h2,<-Act.put_defers];exact h
   case enter f args=>
    refine Calls.mono h fun e w'' he=>?_;cases e with
    | returned u=>exact ⟨keep a u hy,by rw [<-Act.put_comm a v u h2]; exact he⟩
    | panicked c=>exact hQ _ _ _ he
    | outgrown=>exact he
   case row row args=>exact Rows.mono h fun u w'' he=>⟨keep a u hy,by rw [<-Act.put_comm a v u h2]; exact he⟩
  | halt x w'=>
   cases x<;>simp only [Oper.upon] at h ⊢
   case panic u=>exact hQ _ _ _ h
 ·rename_i hw;simp only [hw] at h;exact ⟨keep a _ hy,by rw [<-Act.put_comm a v undef h2]; exact h⟩
def uJ (P:Program) (ops:Array Oper) (Q:Exit->Act->World->Prop) (R:Nat->World->World->Prop):Nat->Array Bool->Act->World->Prop
 | 0,listed,a,w=>Region.ready .any ops listed=[]/\Q .normal a w
 | fuel+1,listed,a,w=>(Region.ready .any ops listed=[]->Q .normal a w) ∧
  ∀ i∈Region.ready .any ops listed,wpOp P ops Q i (fun a' w'=>R i w w'/\uJ P ops Q R fuel (listed.setIfInBounds i true) a' w') a w
variable {R:Nat->World->World->Prop}
def S8:∀ (fuel:Nat) (listed:Array Bool) (a:Act) (w:World),uJ P ops Q R fuel listed a w->wpAny P .any ops Q fuel listed a w:=by
 intro fuel
 induction fuel with
 | zero=>intro listed a w h; exact h
 | succ fuel ih=>intro listed a w h; exact ⟨h.1,fun i hi=>wpOp_mono (fun a' w' h'=>ih _ _ _ h'.2) (h.2 i hi)⟩
def GZ (ops:Array Oper) (listed:Array Bool):Prop:=∀ i o e,listed.getD i false=true->ops[i]?=some o->e∈o.after->Region.binds .any e=true->listed.getD e.on false=true
def GZ.ready {listed:Array Bool} {i:Nat} (h:GZ ops listed) (hi:i∈Region.ready .any ops listed):GZ ops (listed.setIfInBounds i true):=by
 obtain ⟨_,o,ho,hall⟩:=mem_ready.1 hi;intro k ok e hk hok he hb;by_cases e1:i=k
 ·subst e1;rw [ho] at hok;cases hok;exact getD_set_true (hall e he hb)
 ·rw [getD_set_ne false e1] at hk;exact getD_set_true (h k ok e hk hok he hb)
def KK {o:Oper} {f:Nat->Option Bool} (h:o.guard=none):Region.wanted o f=true:=by
 simp [Region.wanted,h]
def Rq {i:Nat} {oi:Oper} {v:Value} (hi:ops[i]?=some oi) (hgi:oi.guard=none) (hsel:∀ (j:Nat) (o:Oper) cs b,ops[j]?=some o->o.op≠.select cs b)
  (hQ:∀ c a w,Q (.panic c) (a.put oi.dst v) w->Q (.panic c) a w) (hR0:∀ w,R i w w) {Sx:World->Prop}
  (hS:∀ listed j w w',GZ ops listed->listed.getD i true=false->j∈Region.ready .any ops listed->j≠i->R j w w'->Sx w->Sx w') :
  ∀ (fuel:Nat) (listed:Array Bool) (a:Act) (w:World),GZ ops listed ->
   (∀ j oj,ops[j]?=some oj->j≠i->listed.getD j true=false->(∀ e∈oj.after,Region.binds .any e=true->e.on≠i)->oi.apart ops oj=true) ->
   i∈Region.ready .any ops listed->Sx w->(∀ w,Sx w->(execOp a.eval oi).run P w=.ok (.value v) w) ->
   uJ P ops Q R fuel (listed.setIfInBounds i true) (a.put oi.dst v) w->uJ P ops Q R (fuel+1) listed a w:=by
 have now:∀ {fuel:Nat} {listed:Array Bool} {a:Act} {w:World},Sx w->(∀ w,Sx w->(execOp a.eval oi).run P w=.ok (.value v) w)->uJ P ops Q R fuel (listed.setIfInBounds i true) (a.put oi.dst v) w ->
   wpOp P ops Q i (fun a' w'=>R i w w'/\uJ P ops Q R fuel (listed.setIfInBounds i true) a' w') a w:=by
  intro fuel listed a w hs hy H;unfold wpOp;simp only [hi];rw [if_pos (KK hgi)];simp only [Oper.wp,hy w hs,Oper.upon];exact .inl ⟨hR0 w,H⟩
 intro fuel
 induction fuel with
 | zero=>
  intro listed a w hd _ hr hs hy H;refine ⟨fun h=>(by rw [h] at hr; cases hr),fun j hj=>?_⟩;by_cases hji:j=i
  ·subst hji; exact now hs hy H
  ·have:=ready_mono hj hji;rw [H.1] at this;cases this
 | succ fuel ih=>
  intro listed a w hd hfree hr hs hy H;refine ⟨fun h=>(by rw [h] at hr; cases hr),fun j hj=>?_⟩;by_cases hji:j=i
  ·subst hji; exact now hs hy H
  ·have h1:=H.2 j (ready_mono hj hji);obtain ⟨hjun,oj,hoj,hall⟩:=mem_ready.1 hj;have hiun:=(mem_ready.1 hr).1;have hnot:∀ e∈oj.after,Region.binds .any e=true->e.on≠i:=fun e he hb heq=>by
    have h1:=hall e he hb;rw [heq] at h1;rw [mK h1] at hiun;cases hiun
   have hap:=hfree j oj hoj hji hjun hnot;obtain ⟨p1,p2,p3⟩:=Oper.apart_spec hap;have h2:=Vp (Y:=fun a=>∀ w,Sx w->(execOp a.eval oi).run P w=.ok (.value v) w) hoj p1 p2 (fun cs b=>hsel j oj cs b hoj) hQ
    (fun a u hy w hs=>by rw [execOp_put oi (fun cs b=>hsel i oi cs b hi) a oj.dst u p3]; exact hy w hs) (fun a d hy=>hy) hy h1
   have hfree':∀ k ok,ops[k]?=some ok->k≠i->(listed.setIfInBounds j true).getD k true=false ->
     (∀ e∈ok.after,Region.binds .any e=true->e.on≠i)->oi.apart ops ok=true:=fun k ok hk hki hun hno=>by
    refine hfree k ok hk hki ?_ hno;by_cases hjk:j=k
    ·subst hjk; exact hjun
    ·rw [getD_set_ne true hjk] at hun; exact hun
   refine wpOp_mono (fun a' w' h3=>⟨h3.2.1,ih (listed.setIfInBounds j true) a' w' (hd.ready hj) hfree' (ready_mono hr (xE hji)) (hS listed j w w' hd hiun hj hji h3.2.1 hs) h3.1 ?_⟩) h2;rw [Array.setIfInBounds_comm _ _ hji];exact h3.2.2
@[go_sem] theorem acy {k:Nat}:(∀ c:Nat,c∈(some k:Option Nat)->k+1<=c)=False:=by
 simp only [eq_iff_iff,iff_false];intro h;have:=h k rfl;omega
def Fu (ops:Array Oper):List Nat->Array Bool->Bool
 | [],listed=>(Region.ready .any ops listed).isEmpty
 | c::l,listed=>(Region.ready .any ops listed == [c]) && Fu ops l (listed.setIfInBounds c true)
def Gl (ops:Array Oper) (C2:List Nat):Nat->List (List Nat)->Array Bool->Bool
 | 0,Os,listed=>!Os.isEmpty && (Os.all (·.isEmpty) && Fu ops C2 listed)
 | n+1,Os,listed=>!Os.isEmpty && (!(Region.ready .any ops listed).isEmpty && (Region.ready .any ops listed).all fun i=>Gl ops C2 n ((Os.filter fun o=>o.head? == some i).map List.tail) (listed.setIfInBounds i true))
def DR (ops:Array Oper) (j:Nat):Bool:=match ops[j]? with
 | some o=>Dv o
 | none=>false
def Rh (ops:Array Oper) (j:Nat):Bool:=match ops[j]? with
 | some o=>Of o
 | none=>false
def TO (ops:Array Oper) (C:List Nat) (i:Nat):Bool:=C.all fun j=>(DR ops j || Rh ops j) || iQ ops ops.size i j
def PM (ops:Array Oper) (C:List Nat) (i:Nat):Bool:=C.all fun j=>DR ops j || iQ ops ops.size i j
def Yb (ops:Array Oper) (C:List Nat) (i:Nat):Bool:=C.all fun j=>iQ ops ops.size i j
def J0 (ops:Array Oper) (C1:List Nat) (O2:List (List Nat)) (C2:List Nat):List Nat->Array Bool->Bool
 | [],listed=>Gl ops C2 C1.length (C1::O2) listed
 | i::T,listed=>(match ops[i]? with
  | some o=>pL o && ((Region.ready .any ops listed).contains i && (Region.free .any ops listed i && ((!(RQ o) || Yb ops C2 i) && (i::T).all fun k=>match ops[k]? with
   | some ok=>match ok.dst with
    | some d=>!((o.looksAt ops).contains d)
    | none=>true
   | none=>false)))
  | none=>false) && J0 ops C1 O2 C2 T (listed.setIfInBounds i true)
def X1 (ops:Array Oper) (T C1:List Nat) (O2:List (List Nat)) (C2:List Nat):Bool:=
 Region.noSelect ops && (ops.all (·.guard.isNone) && (T.length+(C1.length+C2.length) == ops.size &&
  ((List.range ops.size).all (fun j=>T.contains j || (C1.contains j || C2.contains j)) && ((C1++C2).all (fun j=>!(T.contains j)) && (C2.all (fun j=>!(C1.contains j)) && (O2.all (fun o=>o.all fun j=>C1.contains j) && J0 ops C1 O2 C2 T (Array.replicate ops.size false)))))))
def Jb (V:List Nat) (s:St):Bool:=V.all fun n=>(s.roots n).isOwn
def WJ (ops:Array Oper) (T C1 V:List Nat) (s:St):Bool:=
 Jb V s && (V.all (fun n=>Nat.blt n H0 && C1.all fun j=>match ops[j]? with|some o=>o.dst != some n|none=>false) &&
  T.all fun i=>match ops[i]? with
   | some o=>!(RQ o) || (PM ops C1 i || match o.op with
    | .load _ x=>match s.ev x with
     | .pref n p _ _=>TO ops C1 i || (p.isEmpty && V.contains n)
     | _=>false
    | _=>false)
   | none=>false)
def CP (E:Env) (ops:Array Oper) (V:List Nat):List Nat->St->St->Prop
 | [],s,sC=>aV s sC
 | i::l,s,sC=>∃ o s',ops[i]?=some o/\DO E o s=true/\exe E o s=some s'/\Jb V s'=true/\CP E ops V l s' sC
def Jj (E:Env) (ops:Array Oper) (V:List Nat):List (List Nat)->St->St->Prop
 | [],_,_=>True
 | o::os,s,sC=>CP E ops V o s sC/\Jj E ops V os s sC
def Hop (E:Env) (ops:Array Oper) (V:List Nat) (O2:List (List Nat)) (C2:List Nat) (Z:St->Prop) (s0:St):List Nat->St->Prop
 | [],s=>∃ sC,aV s sC/\Jj E ops V O2 s0 sC/\RX E false (ly ops) (kn ops) 0 (lP ops C2) sC Z
 | i::l,s=>∃ o s',ops[i]?=some o/\DO E o s=true/\exe E o s=some s'/\Jb V s'=true/\Hop E ops V O2 C2 Z s0 l s'
def YM {E:Env} {V C2:List Nat} {Z:St->Prop} {s0 s:St} (h:RX E false (ly ops) (kn ops) 0 (lP ops C2) s Z):Hop E ops V [] C2 Z s0 [] s:=⟨s,fun _ _ _ h=>h,trivial,h⟩
def XD {E:Env} {V C2:List Nat} {O2:List (List Nat)} {Z:St->Prop} {s0 s sC:St} (hw:aV s sC) (h1:Jj E ops V O2 s0 sC) (h:RX E false (ly ops) (kn ops) 0 (lP ops C2) sC Z):Hop E ops V O2 C2 Z s0 [] s:=⟨sC,hw,h1,h⟩
def P4 {E:Env} {s:St} {i:Nat} {Y:St->Prop} (h1:(match ops[i]? with|some o=>DO E o s|none=>false)=true)
  (h2:RX E false (ly ops) (kn ops) 0 (lP ops [i]) s Y):∃ o s',ops[i]?=some o/\DO E o s=true/\exe E o s=some s'/\Y s':=by
 cases ho:ops[i]? with
 | none=>rw [ho] at h1; cases h1
 | some o=>
  rw [ho] at h1;simp only [lP,ho] at h2;obtain ⟨s',g1,g2⟩:=Nr _ _ _ _ h2;have hg:o.guard=none:=by
   simp only [DO,cv,xZ] at h1;exact h1.1
  simp only [rG,eM,hg] at g1;refine ⟨o,s',rfl,h1,?_,g2⟩;split at g1
  ·rename_i s1 hs1; rw [hs1]; exact g1
  ·cases g1
def Lh {E:Env} {V C2:List Nat} {O2:List (List Nat)} {Z:St->Prop} {s0 s:St} {i:Nat} {l:List Nat} (h1:(match ops[i]? with|some o=>DO E o s|none=>false)=true)
  (h2:∀ Y:St->Prop,(∀ s',Jb V s'=true->Hop E ops V O2 C2 Z s0 l s'->Y s')->RX E false (ly ops) (kn ops) 0 (lP ops [i]) s Y):Hop E ops V O2 C2 Z s0 (i::l) s:=by
 obtain ⟨o,s',a,b,c,d,e⟩:=P4 h1 (h2 (fun s'=>Jb V s'=true/\Hop E ops V O2 C2 Z s0 l s') fun s' a b=>⟨a,b⟩);exact ⟨o,s',a,b,c,d,e⟩
def MO {E:Env} {V:List Nat} {s sC:St} {i:Nat} {l:List Nat} (h1:(match ops[i]? with|some o=>DO E o s|none=>false)=true)
  (h2:∀ Y:St->Prop,(∀ s',Jb V s'=true->CP E ops V l s' sC->Y s')->RX E false (ly ops) (kn ops) 0 (lP ops [i]) s Y):CP E ops V (i::l) s sC:=by
 obtain ⟨o,s',a,b,c,d,e⟩:=P4 h1 (h2 (fun s'=>Jb V s'=true/\CP E ops V l s' sC) fun s' a b=>⟨a,b⟩);exact ⟨o,s',a,b,c,d,e⟩
def U8 {E:Env} {V:List Nat} {s sC:St} (h:aV s sC):CP E ops V [] s sC:=h
def Wp {E:Env} {V C2:List Nat} {O2:List (List Nat)} {Z:St->Prop} {s0:St}:∀ (l:List Nat) {s:St},Hop E ops V O2 C2 Z s0 l s->∃ sC,CP E ops V l s sC/\Jj E ops V O2 s0 sC/\RX E false (ly ops) (kn ops) 0 (lP ops C2) sC Z
 | [],s,⟨sC,hw,h1,h2⟩=>⟨sC,hw,h1,h2⟩
 | i::l,s,⟨o,s',a,b,c,d,e⟩=>by
  obtain ⟨sC,e1,e2,e3⟩:=Wp l e;exact ⟨sC,⟨o,s',a,b,c,d,e1⟩,e2,e3⟩
def M7 {E:Env} {V:List Nat} {s sC:St}:∀ {O2:List (List Nat)},Jj E ops V O2 s sC->∀ o∈O2,CP E ops V o s sC
 | [],_,o,ho=>by cases ho
 | o::os,h,q,hq=>by
  rcases cK.1 hq with rfl|hq
  ·exact h.1
  ·exact M7 h.2 q hq
section
variable {E:Env} {X:Ctx}
def IP {o:Oper} {l:List Oper} {s sf:St} (h:rG E ops (o::l) s=some sf):∃ s1,eM E ops o s=some s1/\rG E ops l s1=some sf:=by
 simp only [rG] at h;split at h
 ·rename_i s1 h1; exact ⟨s1,h1,h⟩
 ·cases h
def Zx (hT:TOk P E) (hG:GOk P E) {sf:St} (hq:∀ a w,Inv X sf a w->Q .normal a w):∀ (C2:List Nat) {listed:Array Bool} {st:St} {a:Act} {w:World},
  (∀ j∈C2,∀ w w',R j w w')->Inv X st a w->rG E ops (lP ops C2) st=some sf->Fu ops C2 listed=true->uJ P ops Q R C2.length listed a w:=by
 intro C2
 induction C2 with
 | nil=>
  intro listed st a w _ H h hc;simp only [Fu,adr] at hc;simp only [lP,rG,cb] at h;subst h;exact ⟨hc,hq a w H⟩
 | cons c l ih=>
  intro listed st a w hR H h hc;simp only [Fu,cv,beq_iff_eq] at hc;have hm:c∈Region.ready .any ops listed:=by rw [hc.1]; simp
  obtain ⟨_,o,ho,_⟩:=mem_ready.1 hm;simp only [lP,ho] at h;obtain ⟨s1,h1,h2⟩:=IP h;refine ⟨fun hr=>(by rw [hr] at hm; cases hm),fun i hi=>?_⟩;rw [hc.1] at hi;simp only [cG] at hi;subst hi;exact FW hT hG H ho h1 fun a' w' H'=>⟨hR i (by simp) _ _,ih (fun j hj=>hR j (by simp [hj])) H' h2 hc.2⟩
def IG {c:C} (h:c.isOwn=true):ak c []:=by simp [ak,C.at,h]
def aaB (hT:TOk P E) (hG:GOk P E) {V C1 C2:List Nat} {sC:St} {Bs:Nat->Prop} (hR:∀ j∈C1,∀ w w':World,(∀ b,Bs b->w'.heap[b]?=w.heap[b]?)->(DR ops j=true->w'=w)->(Rh ops j=true->∀ b,b < w.heap.size->w'.heap[b]?=w.heap[b]?)->R j w w') (hd:∀ j∈C1,∀ o,ops[j]?=some o->∀ n∈V,o.dst≠some n) (hV:∀ n∈V,n < H0)
  (hend:∀ listed a w,Inv X sC a w->Fu ops C2 listed=true->uJ P ops Q R C2.length listed a w):∀ (n:Nat) (Os:List (List Nat)) {listed:Array Bool} {m:Nat->aq->Value} {st:St} {a:Act} {w:World},
  (∀ o∈Os,∀ j∈o,j∈C1)->ar X m st a w->Jb V st=true->(∀ b,Bs b->∃ n∈V,blk (m n [])=some b)->(∀ o∈Os,CP E ops V o st sC)->Gl ops C2 n Os listed=true->uJ P ops Q R (n+C2.length) listed a w:=by
 intro n
 induction n with
 | zero=>
  intro Os listed m st a w _ H _ _ h hc;simp only [Gl,cv,nC,aeD] at hc;obtain ⟨h1,h2,h3⟩:=hc;obtain ⟨o,ho⟩:=ad4 _ h1;have he:o=[]:=by simpa using cq.1 h2 o ho
  have:=h o ho;rw [he] at this;rw [cS];exact hend listed a w (this X a w ⟨m,H⟩) h3
 | succ n ih=>
  intro Os listed m st a w hO H hown hb h hc;simp only [Gl,cv,nC,aeD] at hc;obtain ⟨_,hne,hall⟩:=hc;rw [show n+1+C2.length=n+C2.length+1 from by omega];refine ⟨fun hr=>absurd hr hne,fun i hi=>?_⟩;have hsub:=cq.1 hall i hi;have hOi:∀ o∈(Os.filter fun o=>o.head? == some i).map List.tail,(i::o)∈Os:=by
   intro o ho;simp only [cJ,nR,beq_iff_eq] at ho;obtain ⟨q,⟨h1,h2⟩,rfl⟩:=ho;cases q with
   | nil=>cases h2
   | cons x q=>
    simp only [List.head?_cons,cb] at h2;subst h2;exact h1
  have hex:∃ o,o∈(Os.filter fun o=>o.head? == some i).map List.tail:=by
   refine ad4 _ fun e=>?_;rw [e] at hsub;cases n<;>simp [Gl] at hsub
  obtain ⟨o0,ho0⟩:=hex;obtain ⟨o,s',ho,hca,he,hown',_⟩:=h _ (hOi o0 ho0);have hg:o.guard=none:=by
   simp only [DO,cv,xZ] at hca;exact hca.1
  have hiC:i∈C1:=hO _ (hOi o0 ho0) i (by simp);unfold wpOp;simp only [ho];rw [if_pos (KK hg)];refine .inl (Oper.wp_mono (fun a' w' h'=>?_) (ace hT hG H he hca));obtain ⟨m',H',hk,hstill,hnew⟩:=h';have hkeep:∀ n∈V,m' n []=m n []/\∀ b,blk (m n [])=some b->w'.heap[b]?=w.heap[b]?:=fun n hn=>
   hk n (hV n hn) (hd i hiC o ho n hn) (IG (cq.1 hown n hn)) (IG (cq.1 hown' n hn))
  refine ⟨hR i hiC _ _ (fun b hB=>?_) (fun q=>hstill (by simpa only [DR,ho] using q)) (fun q=>hnew (by simpa only [Rh,ho] using q)),ih _ (fun q hq j hj=>hO _ (hOi q hq) j (by simp [hj])) H' hown' (fun b hB=>?_) (fun q hq=>?_) hsub⟩
  ·obtain ⟨n,hn,e⟩:=hb b hB;exact (hkeep n hn).2 b e
  ·obtain ⟨n,hn,e⟩:=hb b hB;exact ⟨n,hn,by rw [(hkeep n hn).1]; exact e⟩
  ·obtain ⟨o2,s2,g1,_,g3,_,g5⟩:=h _ (hOi q hq);rw [ho] at g1;cases g1;rw [he] at g3;cases g3;exact g5
def O0 {o:Oper} (hg:o.guard=none) {st st':St} (h:eM E ops o st=some st'):exe E o st=some st':=by
 simpa [eM,hg] using h
def Dh {o:Oper} (h:pL o=true):o.guard=none:=by
 simp only [pL,cv,xZ] at h;exact h.1
theorem VG {st:St} {d:Option Tmp} {c:C} {x:Operand} (h:∀ t,d=some t->x≠.tmp t):(st.put d c).ev x=st.ev x:=by
 cases d with
 | none=>rfl
 | some d=>
  cases x with
  | tmp t=>
   have:d≠t:=fun e=>h d rfl (by rw [e]);simp [St.ev,St.put,xC this]
  | _=>rfl
def OT {o:Oper} {x:Operand} (hx:x∈o.op.operands) {t:Tmp} (e:x=.tmp t):t∈o.looksAt ops:=by
 subst e;exact ad5 _ (adU.2 ⟨.tmp t,by simpa using hx,rfl⟩)
def WI:∀ (T:List Nat) {st sT:St} {o:Oper},T.all (fun k=>match ops[k]? with|some ok=>pL ok && (match ok.dst with|some d=>!((o.looksAt ops).contains d)|none=>true)|none=>false)=true ->
  rG E ops (lP ops T) st=some sT->sT.roots=st.roots/\∀ x∈o.op.operands,sT.ev x=st.ev x:=by
 intro T
 induction T with
 | nil=>
  intro st sT o _ h;simp only [lP,rG,cb] at h;subst h;exact ⟨rfl,fun _ _=>rfl⟩
 | cons k T ih=>
  intro st sT o hall h;simp only [xT,cv] at hall;obtain ⟨h1,h2⟩:=hall;split at h1
  case h_2=>cases h1
  rename_i ok hok;simp only [cv] at h1;simp only [lP,hok] at h;obtain ⟨s1,g1,g2⟩:=IP h;obtain ⟨c,_,rfl⟩:=Iu h1.1 (O0 (Dh h1.1) g1);obtain ⟨e1,e2⟩:=ih h2 g2;refine ⟨e1.trans (by cases ok.dst<;>rfl),fun x hx=>(e2 x hx).trans (VG fun t ht e=>?_)⟩
  have:=h1.2;rw [ht] at this;simp only [nC,<-xm] at this;exact this (by simpa using OT hx e)
def SA {C1 C2:List Nat} {O2:List (List Nat)}:∀ (T:List Nat) {listed:Array Bool},J0 ops C1 O2 C2 T listed=true->∀ i∈T,∃ o,ops[i]?=some o/\pL o=true:=by
 intro T
 induction T with
 | nil=>intro _ _ i hi; cases hi
 | cons k T ih=>
  intro listed h i hi;simp only [J0,cv] at h;rcases cK.1 hi with rfl|hi
  ·have h1:=h.1;split at h1
   ·rename_i o ho; simp only [cv] at h1; exact ⟨o,ho,h1.1⟩
   ·cases h1
  ·exact ih h.2 i hi
def Z8 (hT:TOk P E) {T0 C1 C2 V:List Nat} {O2:List (List Nat)} (hsel:Region.noSelect ops=true) (hcov:(List.range ops.size).all (fun j=>T0.contains j || (C1.contains j || C2.contains j))=true)
  (hdis:(C1++C2).all (fun j=>!(T0.contains j))=true) (hQ:∀ c a w,¬ Q (.panic c) a w) {m:Nat->aq->Value} {sT:St} {w:World} {fuel:Nat} {Bs:Nat->Prop}
  (hB:∀ n∈V,∀ b,blk (m n [])=some b->Bs b)
  (hR:∀ j w w',R j w w'↔(if T0.contains j=true then w'=w else if C1.contains j=true then (∀ b,Bs b->w'.heap[b]?=w.heap[b]?)/\(DR ops j=true->w'=w)/\(Rh ops j=true->∀ b,b < w.heap.size->w'.heap[b]?=w.heap[b]?) else True)):∀ (T:List Nat) {listed:Array Bool} {st:St} {a:Act},
  (∀ i∈T,i∈T0)->GZ ops listed->ar X m st a w->rG E ops (lP ops T) st=some sT->J0 ops C1 O2 C2 T listed=true ->
  (T.all fun i=>match ops[i]? with
   | some o=>!(RQ o) || (PM ops C1 i || match o.op with
    | .load _ x=>match sT.ev x with
     | .pref n p _ _=>TO ops C1 i || (p.isEmpty && V.contains n)
     | _=>false
    | _=>false)
   | none=>false)=true ->
  (∀ listed a',ar X m sT a' w->Gl ops C2 C1.length (C1::O2) listed=true->uJ P ops Q R fuel listed a' w)->uJ P ops Q R (T.length+fuel) listed a w:=by
 intro T
 induction T with
 | nil=>
  intro listed st a _ _ H h hc _ hk;simp only [lP,rG,cb] at h;subst h;simpa using hk listed a H hc
 | cons i T ih=>
  intro listed st a hT0 hd H h hc hs hk;have hq:=SA (i::T) hc;simp only [J0,cv] at hc;obtain ⟨hc1,hc2⟩:=hc;split at hc1
  case h_2=>cases hc1
  rename_i o ho;simp only [cv] at hc1;obtain ⟨hqt,hrd,hfr,hld,hno⟩:=hc1;simp only [xT,cv,ho] at hs;obtain ⟨hs1,hs2⟩:=hs;simp only [lP,ho] at h;obtain ⟨s1,g1,g2⟩:=IP h;obtain ⟨c,gq,rfl⟩:=Iu hqt (O0 (Dh hqt) g1);obtain ⟨v,e1,e2⟩:=QI hT H gq;have hrd:i∈Region.ready .any ops listed:=by simpa using hrd
  obtain ⟨dd,e2⟩:=e2;have next:=ih (fun j hj=>hT0 j (by simp [hj])) (hd.ready hrd) (H.put o.dst e2) g2 hc2 hs2 hk
  rw [show (i::T).length+fuel=T.length+fuel+1 from by simp; omega];have hiT:T0.contains i=true:=by simpa using hT0 i (by simp)
  have hready:∀ (l:Array Bool) j,GZ ops l->l.getD i true=false->j∈Region.ready .any ops l->PM ops C1 i=true->C1.contains j=true->DR ops j=true:=by
   intro l j hdl hun hj hf hcj;have hor:=cq.1 hf j (by simpa using hcj);rw [nx] at hor;rcases hor with hor|hor
   ·exact hor
   ·exfalso;obtain ⟨_,oj,hoj,hall⟩:=mem_ready.1 hj;rw [mK (wL hdl ops.size i j oj hoj hall hor)] at hun;cases hun
  have hready2:∀ (l:Array Bool) j,GZ ops l->l.getD i true=false->j∈Region.ready .any ops l->Yb ops C2 i=true->C2.contains j=false:=by
   intro l j hdl hun hj hf;cases hcj:C2.contains j with
   | false=>rfl
   | true=>
    exfalso;have hor:iQ ops ops.size i j=true:=cq.1 hf j (by simpa using hcj);obtain ⟨_,oj,hoj,hall⟩:=mem_ready.1 hj;rw [mK (wL hdl ops.size i j oj hoj hall hor)] at hun;cases hun
  have hcover:∀ (l:Array Bool) j,j∈Region.ready .any ops l->T0.contains j=false->C1.contains j=false->C2.contains j=true:=by
   intro l j hj h1 h2;obtain ⟨_,oj,hoj,_⟩:=mem_ready.1 hj;have:=cq.1 hcov j (by simpa using (nc.1 hoj).1);simpa only [h1,h2,nt] using this
  have first:∀ (Sx:World->Prop),(∀ listed j w w',GZ ops listed->listed.getD i true=false->j∈Region.ready .any ops listed->j≠i->R j w w'->Sx w->Sx w')->Sx w ->
    (∀ w,Sx w->(execOp a.eval o).run P w=.ok (.value v) w)->uJ P ops Q R (T.length+fuel+1) listed a w:=fun Sx h1 h2 h3=>
   Rq ho (Dh hqt) (Region.noSelect_spec hsel) (fun c a w hp=>(hQ c _ _ hp).elim) (fun w=>(hR i w w).2 (by rw [if_pos hiT])) h1 _ _ _ _ hd (Region.free_spec ho hfr) hrd h2 h3 next
  cases hl:RQ o with
  | false=>exact first (fun _=>True) (fun _ _ _ _ _ _ _ _ _ _=>trivial) trivial (fun w2 _=>Vc hT H hqt hl gq e1 w2)
  | true=>
   simp only [hl,ny,nt] at hld hs1;cases hf:PM ops C1 i with
   | true=>
    refine first (fun w2=>w2=w) ?_ rfl (fun w2 e=>by rw [e]; exact e1)
    intro l j w1 w2 hdl hun hj hji hRj hw;have h2:=hready2 l j hdl hun hj hld;cases h0:T0.contains j with
    | true=>rw [hR,if_pos h0] at hRj; exact hRj.trans hw
    | false=>
     cases h1:C1.contains j with
     | false=>rw [hcover l j hj h0 h1] at h2; cases h2
     | true=>
      rw [hR,if_neg (by rw [h0]; simp),if_pos h1] at hRj;exact (hRj.2.1 (hready l j hdl hun hj hf h1)).trans hw
   | false=>
    simp only [hf,nt] at hs1;split at hs1
    case h_2=>cases hs1
    rename_i t x hop;split at hs1
    case h_2=>cases hs1
    rename_i n pp ii jj hev;have hquiet:T.all (fun k=>match ops[k]? with|some ok=>pL ok && (match ok.dst with|some d=>!((o.looksAt ops).contains d)|none=>true)|none=>false)=true:=by
     rw [cq] at hno ⊢;intro k hk';have h1:=hno k (by simp [hk']);obtain ⟨ok,hok,hqk⟩:=hq k (by simp [hk']);rw [hok] at h1 ⊢;simp only at h1 ⊢;rw [hqk];simpa using h1
    have hnoself:∀ tt,o.dst=some tt->x≠.tmp tt:=by
     intro tt htt e;have h1:=cq.1 hno i (by simp);rw [ho] at h1;simp only [htt,nC,<-xm] at h1;exact h1 (by simpa using OT (by rw [hop]; simp [Op.operands]) e)
    obtain ⟨_,q2⟩:=WI T hquiet g2;have hevx:st.ev x=.pref n pp ii jj:=by
     rw [<-VG (d:=o.dst) (c:=c) hnoself,<-q2 x (by rw [hop]; simp [Op.operands])];exact hev
    simp only [hop,qop] at gq;obtain ⟨ti,p1,p2⟩:=ck.1 gq;rw [hevx] at p2;have hx:=bm H x;rw [hevx] at hx;have e1':(Instr.loadAt t (a.eval x)).run P w=.ok v w:=by
     simp only [execOp,hop,Sem.run_bind] at e1;cases hr:(Instr.loadAt t (a.eval x)).run P w with
     | ok v' w'=>
      rw [hr] at e1;simp only [Result.andThen_ok,Sem.run_pure,Result.ok.injEq,Next.value.injEq] at e1;rw [e1.1,e1.2]
     | halt e w'=>rw [hr] at e1; cases e1
    have one:∀ b:Nat,(∀ w2:World,w2.heap[b]?=w.heap[b]?->(Instr.loadAt t (a.eval x)).run P w2=.ok v w2)->∀ w2:World,w2.heap[b]?=w.heap[b]?->(execOp a.eval o).run P w2=.ok (.value v) w2:=by
     intro b b3 w2 hw2;simp only [execOp,hop,Sem.run_bind,b3 w2 hw2,Result.andThen_ok,Sem.run_pure]
    cases hN:TO ops C1 i with
    | true=>
     obtain ⟨b,y,b1,b3⟩:=TR hT H (hT t ti p1) hx p2 e1';refine first (fun w2=>w2.heap[b]?=w.heap[b]?) ?_ rfl (one b b3)
     intro l j w1 w2 hdl hun hj hji hRj hw;have h2:=hready2 l j hdl hun hj hld;rw [hR] at hRj;cases h0:T0.contains j with
     | true=>rw [if_pos h0] at hRj; rw [hRj]; exact hw
     | false=>
      rw [if_neg (by rw [h0]; simp)] at hRj;cases h1:C1.contains j with
      | false=>rw [hcover l j hj h0 h1] at h2; cases h2
      | true=>
       rw [if_pos h1] at hRj;have hor:=cq.1 hN j (by simpa using h1);rw [nx,nx] at hor;rcases hor with (hor|hor)|hor
       ·rw [hRj.2.1 hor]; exact hw
       ·refine (hRj.2.2 hor b ?_).trans hw;rw [b1] at hw;exact (nc.1 hw).1
       ·exfalso;obtain ⟨_,oj,hoj,hall⟩:=mem_ready.1 hj;rw [mK (wL hdl ops.size i j oj hoj hall hor)] at hun;cases hun
    | false=>
     simp only [hN,nt,cv,adr] at hs1;obtain ⟨hpp,hs1⟩:=hs1;subst hpp;obtain ⟨b,b1,_,b3⟩:=TN hT H (hT t ti p1) hx p2 e1';refine first (fun w2=>w2.heap[b]?=w.heap[b]?) ?_ rfl (one b b3)
     intro l j w1 w2 hdl hun hj hji hRj hw;have h2:=hready2 l j hdl hun hj hld;rw [hR] at hRj;cases h0:T0.contains j with
     | true=>rw [if_pos h0] at hRj; rw [hRj]; exact hw
     | false=>
      rw [if_neg (by rw [h0]; simp)] at hRj;cases h1:C1.contains j with
      | true=>rw [if_pos h1] at hRj; exact (hRj.1 b (hB n (by simpa using hs1) b b1)).trans hw
      | false=>rw [hcover l j hj h0 h1] at h2; cases h2
variable {st:St} {K:List Fm}
def Mh {Q:Exit->St->Prop} {id:Nat} {ops:Array Oper} (T C1:List Nat) (O2:List (List Nat)) (C2 V:List Nat) (hc:X1 ops T C1 O2 C2=true)
  (h:∀ Z:St->Prop,(∀ s,ap E Q K .normal s->Z s)->∀ Y:St->Prop,(∀ s,WJ ops T C1 V s=true->Hop E ops V O2 C2 Z s C1 s->Y s)->RX E false (ly ops) (kn ops) 0 (lP ops T) st Y):Wk E (.region id ops true) (ap E Q K) st:=by
 intro P hT hG hm hco X a w H ts hk;obtain ⟨m,H⟩:=H;obtain ⟨sT,h1,h2,h3⟩:=Nr _ _ _ _ (h (fun s=>ap E Q K .normal s) (fun _ h=>h) (fun s=>WJ ops T C1 V s=true/\Hop E ops V O2 C2 (fun s=>ap E Q K .normal s) s C1 s) fun _ a b=>⟨a,b⟩);simp only [X1,cv,beq_iff_eq] at hc;obtain ⟨c1,c2,c3,c4,c5,c6,c8,c7⟩:=hc;simp only [WJ,cv] at h2;obtain ⟨k1,k2,k3⟩:=h2;rw [cq] at k2;refine wp_mono (wp_region_any hm (L7 (Q:=fun e a' w'=>e=.normal/\∃ s,ap E Q K .normal s/\Inv X s a' w') hk _ _ _ _ (.refl _ _) (S8
  (R:=fun j w w'=>if T.contains j=true then w'=w else if C1.contains j=true then (∀ b,(∃ n∈V,blk (m n [])=some b)->w'.heap[b]?=w.heap[b]?)/\(DR ops j=true->w'=w)/\(Rh ops j=true->∀ b,b < w.heap.size->w'.heap[b]?=w.heap[b]?) else True) _ _ _ _ ?_))) ?_
 ·rw [<-c3];refine Z8 hT (T0:=T) (C1:=C1) (C2:=C2) (V:=V) (Bs:=fun b=>∃ n∈V,blk (m n [])=some b) c1 c4 c5 (fun c a w hp=>by cases hp.1) (fun n hn b hb=>⟨n,hn,hb⟩) (fun j w w'=>xW) T (fun i hi=>hi) ?_ (H.world rfl rfl rfl rfl) h1 (by rw [<-c3] at c7; rw [c3] at c7 ⊢; exact c7) k3 ?_
  ·intro i o e hi;have:(Array.replicate ops.size false).getD i false=false:=by
    simp only [xv,adu];split<;>rfl
   rw [c3,this] at hi;cases hi
  ·intro listed a' H' hch;rw [cq] at c5 c6;have ht:∀ j∈C1++C2,T.contains j=false:=fun j hj=>by simpa using c5 j hj
   obtain ⟨sC,g1,g2,g3⟩:=Wp C1 h3;obtain ⟨sf,q1,q2⟩:=Nr _ _ _ _ g3;refine aaB hT hG (C1:=C1) (sC:=sC) (Bs:=fun b=>∃ n∈V,blk (m n [])=some b) ?_ ?_ ?_ (fun listed a w Hs hch=>Zx hT hG (sf:=sf) (fun a w H'=>⟨rfl,sf,q2,H'⟩) C2 (fun j hj w w'=>?_) Hs q1 hch) C1.length (C1::O2) ?_ H' k1 (fun b hb=>hb) ?_ hch
   ·intro j hj w w' hb hst hnw;rw [if_neg (by rw [ht j (by simp [hj])]; simp),if_pos (by simpa using hj)];exact ⟨hb,hst,hnw⟩
   ·intro j hj o ho n hn;have:=(k2 n hn);simp only [cv,cq] at this;have:=this.2 j hj;rw [ho] at this;simpa using this
   ·intro n hn;have:=(k2 n hn);simp only [cv,ads] at this;exact this.1
   ·rw [if_neg (by rw [ht j (by simp [hj])]; simp),if_neg (by simpa using c6 j hj)]
    trivial
   ·intro o ho j hj;rcases cK.1 ho with rfl|ho
    ·exact hj
    ·simpa using cq.1 (cq.1 c8 o ho) j hj
   ·intro o ho;rcases cK.1 ho with rfl|ho
    ·exact g1
    ·exact M7 g2 o ho
 ·rintro e a' w' ⟨⟨rfl,s,hz,Hf⟩,hsm⟩;exact ⟨⟨s,hz,Hf⟩,hsm⟩
end
end
end Go.Abs
