/- Plain facts on the models; no program in sight. -/
import Derived.Test.YtekgpnhfhkhpaaaGreatM
set_option linter.unusedSimpArgs false
set_option linter.unusedVariables false
namespace Go.Proofs.YtekgpnhfhkhpaaaGreat
open Go Go.Proofs Go.Abs
theorem gx_of {α β:Type} {l:List α} {i:Nat} {x:α} {k:α->Option β} (h:l[i]?=some x):gx l (i:Int) k=k x:=gx_nat h
def all2 {α:Type} (e:α->α->Bool):List α->List α->Bool
 | [],_=>true
 | x::xs,y::ys=>e x y && all2 e xs ys
 | _::_,[]=>false
theorem Bp {α:Type} {e:α->α->Bool} (he:∀ x y,e x y=true↔x=y):∀ {a b:List α},a.length=b.length->(all2 e a b=true↔a=b)
 | [],[],_=>by simp [all2]
 | [],_::_,h=>by simp at h
 | _::_,[],h=>by simp at h
 | x::a,y::b,h=>by
  simp only [all2,Bool.and_eq_true,he,List.cons.injEq];rw [Bp he (by simpa using h)]
theorem Cq {α:Type} {L:List α->Nat->Unit->Option Bool} (a1:List α) (e:α->α->Bool) (h0:∀ v,L [] v ()=some true)
  (h1:∀ x xs v,L (x::xs) v ()=gx a1 (v:Int) fun y=>if e x y=true then L xs (v+1) () else some false) :
  ∀ (xs:List α) (v:Nat),v+xs.length<=a1.length->L xs v ()=some (all2 e xs (a1.drop v))
 | [],v,_=>by rw [h0]; rfl
 | x::xs,v,h=>by
  simp only [List.length_cons] at h;have hv:v < a1.length:=by omega
  rw [h1,gx_of (List.getElem?_eq_getElem hv),List.drop_eq_getElem_cons hv,Cq a1 e h0 h1 xs (v+1) (by omega)];simp only [all2];cases e x a1[v]<;>simp
def eqL {α:Type} (e:α->α->Bool) (a b:List α):Bool:=decide (a.length=b.length) && all2 e a b
theorem Co {α:Type} {e:α->α->Bool} (he:∀ x y,e x y=true↔x=y) {a b:List α}:eqL e a b=true↔a=b:=by
 unfold eqL;by_cases h:a.length=b.length
 ·simp [h,Bp he h]
 ·have:¬ a=b:=fun e=>h (by rw [e]);simp [h,this]
theorem eq_fun {α:Type} {L:List α->Nat->Unit->Option Bool} (a0 a1:List α) (e:α->α->Bool) (h0:∀ v,L [] v ()=some true)
  (h1:∀ x xs v,L (x::xs) v ()=gx a1 (v:Int) fun y=>if e x y=true then L xs (v+1) () else some false) :
  (if ((a0.length:Nat):Int)=((a1.length:Nat):Int) then L a0 0 () else some false)=some (eqL e a0 a1):=by
 unfold eqL;by_cases h:a0.length=a1.length
 ·rw [if_pos (by omega),Cq a1 e h0 h1 a0 0 (by omega),List.drop_zero];simp [h]
 ·rw [if_neg (by omega)];simp [h]
def findP {α:Type} (p:α->Bool):List α->Nat->Int
 | [],_=>-1
 | x::xs,v=>if p x=true then (v:Int) else findP p xs (v+1)
theorem oE {α:Type} {L:List α->Nat->Unit->Option Int} (f:α->Option Bool) (p:α->Bool) (h0:∀ v,L [] v ()=some (-1))
  (h1:∀ x xs v,L (x::xs) v ()=(f x).bind fun r=>if r=true then some ((v:Nat):Int) else L xs (v+1) ()) :
  ∀ (xs:List α) (v:Nat),(∀ x∈xs,f x=some (p x))->L xs v ()=some (findP p xs v)
 | [],v,_=>by rw [h0]; rfl
 | x::xs,v,h=>by
  rw [h1,h x (by simp),Option.bind_some,oE f p h0 h1 xs (v+1) (fun y hy=>h y (by simp [hy]))];simp only [findP];cases p x<;>rfl
theorem pS {α:Type} (p:α->Bool):∀ (xs:List α) (v:Nat),decide (0<=findP p xs v)=xs.any p
 | [],v=>rfl
 | x::xs,v=>by
  simp only [findP,List.any_cons];by_cases h:p x=true
  ·have:(0:Int)<=(v:Int):=by omega
   simp [h,this]
  ·simpa [h] using pS p xs (v+1)
theorem apn_of {α β:Type} {b:Nat} {l:List α} {k:Option β} (h:l.length * (b+1)<=140737488355328):apn b l k=k:=by simp only [apn]; rw [if_pos h]
theorem apx_of {α β:Type} {b:Nat} {l l':List α} {k:List α->Option β} (h:(l.length+l'.length) * (b+1)<=140737488355328):apx b l l' k=k (l++l'):=by simp only [apx]; rw [if_pos h]
end Go.Proofs.YtekgpnhfhkhpaaaGreat

namespace Go.Proofs.YtekgpnhfhkhpaaaGreat
open Go Go.Proofs Go.Abs
theorem w64 {n:Int} (h1:-9223372036854775808<=n) (h2:n<=9223372036854775807):IntKind.i64.wrap n=n:=Aj h1 h2
theorem lC {α:Type} {l:List α} {k:Nat} {x:α} (h:k < l.length):(l.set k x).take (k+1)=l.take k++[x]:=by
 rw [List.take_add_one,List.getElem?_set];simp only [if_true,h,Option.toList_some];rw [List.take_set_of_le (Nat.le_refl k)]
theorem yg {a b:ae} (h1:a.e0=b.e0) (h2:a.e1=b.e1):a=b:=by
 cases a; cases b; simp only at h1 h2; rw [h1,h2]
theorem mS {a b:ae}:(decide (a.e0=b.e0) && decide (a.e1=b.e1))=true↔a=b:=by
 simp only [Bool.and_eq_true,decide_eq_true_eq];exact ⟨fun h=>yg h.1 h.2,fun h=>by rw [h]; exact ⟨rfl,rfl⟩⟩
instance:DecidableEq ae:=fun a b=>decidable_of_iff _ (mS (a:=a) (b:=b))
theorem AZ {α:Type} (p:α->Bool):∀ (xs:List α) (v:Nat),findP p xs v=-1∨(v:Int)<=findP p xs v
 | [],v=>.inl rfl
 | x::xs,v=>by
  simp only [findP];split
  ·exact .inr (Int.le_refl _)
  ·rcases AZ p xs (v+1) with h|h
   ·exact .inl h
   ·exact .inr (by omega)
theorem yC (a:Int):∀ (xs:List Int) (v:Nat),gr a xs v ()=some (findP (fun x=>decide (a=x)) xs v)
 | [],v=>rfl
 | x::xs,v=>by
  rw [gr,yC a xs (v+1)];simp only [findP];by_cases h:a=x<;>simp [h]
theorem fP (N:Nat) (l:List Int) (t:Int):aN N l t=some (decide (t∈l)):=by
 unfold aN gN;rw [yC,Option.bind_some,pS]
 congr 1
 rw [Bool.eq_iff_iff];simp
theorem As (a:ae):∀ (xs:List ae) (v:Nat),fS a xs v ()=some (findP (fun x=>decide (a=x)) xs v)
 | [],v=>rfl
 | x::xs,v=>by
  rw [fS,As a xs (v+1)];simp only [findP];by_cases h:a=x
  ·rw [if_pos (mS.2 h),if_pos (by simpa using h)]
  ·rw [if_neg (fun q=>h (mS.1 q)),if_neg (by simpa using h)]
theorem Bb (N:Nat) (l:List ae) (t:ae):fU N l t=some (decide (t∈l)):=by
 unfold fU kg;rw [As,Option.bind_some,pS]
 congr 1
 rw [Bool.eq_iff_iff];simp
def Ended (s:af) (t:Int):Prop:=t∈s.committed∨t∈s.aborted
def Has (s:af) (t a:Int):Prop:=(⟨t,a⟩:ae)∈s.prepared
def Begun (s:af) (t:Int):Prop:=∃ p∈s.prepared,p.e0=t
def onL:List ag->Int->List Int
 | [],_=>[]
 | x::xs,a=>if x.actor=a then x.txns else onL xs a
def Ready (s:af) (t:Int):Prop:=(∃ x∈s.stacks,t∈x.txns)/\∀ x∈s.stacks,t∈x.txns->Has s t x.actor
def Lowest (s:af) (t:Int):Prop:=∀ x∈s.stacks,t∈x.txns->x.txns.head?=some t
instance (s:af) (t:Int):Decidable (Ended s t):=by unfold Ended; infer_instance
instance (s:af) (t a:Int):Decidable (Has s t a):=by unfold Has; infer_instance
instance (s:af) (t:Int):Decidable (Begun s t):=by unfold Begun; infer_instance
instance (s:af) (t:Int):Decidable (Ready s t):=by unfold Ready; infer_instance
instance (s:af) (t:Int):Decidable (Lowest s t):=by unfold Lowest; infer_instance
theorem yw (N:Nat) (s:af) (t:Int):dC N s t=some (decide (Ended s t)):=by
 simp only [dC,fP,Option.bind_some,Ended];by_cases h:t∈s.committed<;>simp [h]
theorem has_eq (N:Nat) (s:af) (t a:Int):fb N s t a=some (decide (Has s t a)):=by
 simp only [fb,Bb,Option.bind_some,Has]
theorem E7 (N:Nat) (s:af) (t:Int):gv N s t=some (decide (Begun s t)):=by
 have h:∀ (xs:List ae) (v:Nat),aY N t xs v ()=some (findP (fun p=>decide (p.e0=t)) xs v):=fun xs v=>
  oE (L:=aY N t) (fun x=>io N x t) (fun p=>decide (p.e0=t)) (fun _=>rfl) (fun _ _ _=>rfl) xs v (fun _ _=>rfl)
 simp only [gv,bo,bB,h,Option.bind_some,pS]
 congr 1
 rw [Bool.eq_iff_iff,decide_eq_true_eq];unfold Begun;simp
theorem on_L1 (a:Int):∀ (xs:List ag) (v:Nat),gu a xs v ()=some (onL xs a)
 | [],v=>rfl
 | x::xs,v=>by
  rw [gu,on_L1 a xs (v+1),onL];split<;>rfl
theorem on_eq (N:Nat) (s:af) (a:Int):jB N s a=some (onL s.stacks a):=on_L1 a _ _
theorem yj (N:Nat) (s:af) (t:Int):∀ (xs:List ag) (v:Nat) (c:Bool),dL N t s xs v c=some (decide ((∀ x∈xs,t∈x.txns->Has s t x.actor)/\(c=true∨∃ x∈xs,t∈x.txns)))
 | [],v,c=>by simp [dL]
 | x::xs,v,c=>by
  rw [dL,fP,has_eq,Option.bind_some,Option.bind_some,yj N s t xs,yj N s t xs];by_cases h1:t∈x.txns<;>by_cases h2:Has s t x.actor<;>simp [h1,h2]
theorem AX (N:Nat) (s:af) (t:Int):fh N s t=some (decide (Ready s t)):=by
 unfold fh;rw [yj]
 congr 1
 rw [Bool.eq_iff_iff,decide_eq_true_eq,decide_eq_true_eq];unfold Ready;simp only [Bool.false_eq_true,false_or];exact And.comm
theorem Gw (N:Nat) (x:ag) (t:Int):en N x t=some (decide (t∈x.txns/\¬ x.txns.head?=some t)):=by
 unfold en gN;rw [yC,Option.bind_some]
 congr 1
 rw [Bool.eq_iff_iff];simp only [decide_eq_true_eq];cases x.txns with
 | nil=>simp [findP]
 | cons y ys=>
  simp only [findP,decide_eq_true_eq];by_cases e:t=y
  ·simp [e]
  ·rw [if_neg e];have h2:=AZ (fun x=>decide (t=x)) ys (0+1);have h3:=pS (fun x=>decide (t=x)) ys (0+1);have h4:(0:Int)<=findP (fun x=>decide (t=x)) ys (0+1)↔t∈ys:=by
    rw [Bool.eq_iff_iff] at h3;simpa using h3
   have e':¬ y=t:=fun q=>e q.symm;simp only [List.mem_cons,List.head?_cons,Option.some.injEq,e,e',false_or,not_false_eq_true,and_true,<-h4];omega
theorem zR (N:Nat) (s:af) (t:Int):eh N s t=some (decide (Lowest s t)):=by
 have h:∀ (xs:List ag) (v:Nat),aU N t xs v ()=some (findP (fun x=>decide (t∈x.txns/\¬ x.txns.head?=some t)) xs v):=fun xs v=>
  oE (L:=aU N t) (fun x=>en N x t) _ (fun _=>rfl) (fun _ _ _=>rfl) xs v (fun x _=>Gw N x t)
 simp only [eh,bg,br,h,Option.bind_some,pS]
 congr 1
 rw [Bool.eq_iff_iff,decide_eq_true_eq];unfold Lowest;simp
def Btw (n:Int):Prop:=1<=n/\n<=1099511627776
instance (n:Int):Decidable (Btw n):=by unfold Btw; infer_instance
theorem uN (N:Nat) (n:Int):gm N n=some (decide (Btw n)):=by
 simp only [gm,Btw];by_cases h:1<=n<;>simp [h]
def TopOk (s:af) (e:ah):Prop:=∀ y,(onL s.stacks e.Actor).getLast?=some y->y=e.Txn∨Has s y e.Actor
structure fu (s:af) (e:ah):Prop where
 bt:Btw e.Txn
 un:¬ Ended s e.Txn
 ok:(e.Kind=1/\Btw e.Actor/\¬ Begun s e.Txn/\TopOk s e)∨(e.Kind=2/\Btw e.Actor/\e.Txn∈onL s.stacks e.Actor/\¬ Has s e.Txn e.Actor) ∨
  (e.Kind=3/\e.Actor=0/\Ready s e.Txn/\Lowest s e.Txn)∨(e.Kind=4/\e.Actor=0)
theorem top_eq (N:Nat) (s:af) (e:ah) (hl:(onL s.stacks e.Actor).length<=1000000):∃ b,fK (onL s.stacks e.Actor) e N s=some b/\(b=true↔TopOk s e):=by
 unfold fK TopOk;generalize onL s.stacks e.Actor=own at *;by_cases h:own.length=0
 ·rw [if_pos (by omega)];have:own=[]:=List.eq_nil_of_length_eq_zero h;exact ⟨true,rfl,by simp [this]⟩
 ·rw [if_neg (by omega),w64 (by omega) (by omega),show ((own.length:Int) - 1)=((own.length - 1:Nat):Int) by omega];have hx:own[own.length - 1]?=some (own[own.length - 1]'(by omega)):=List.getElem?_eq_getElem (by omega);rw [gx_nat hx,List.getLast?_eq_getElem?,hx];generalize (own[own.length - 1]'(by omega))=x;by_cases h1:x=e.Txn
  ·exact ⟨true,by rw [if_pos h1],by simp [h1]⟩
  ·refine ⟨decide (Has s x e.Actor),by rw [if_neg h1,has_eq]; rfl,?_⟩;simp [h1]
theorem va (N:Nat) (s:af) (e:ah) (hl:(onL s.stacks e.Actor).length<=1000000):∃ b,dB N s e=some b/\(b=true↔fu s e):=by
 have no:∀ {b:Bool},b=false->¬ fu s e->(b=true↔fu s e):=fun h1 h2=>by simp [h1,h2]
 unfold dB;rw [uN,Option.bind_some];by_cases hb:Btw e.Txn
 case neg=>exact ⟨false,by simp [hb,eB],no rfl fun h=>hb h.bt⟩
 rw [if_pos (by simpa using hb),yw,Option.bind_some];by_cases hu:Ended s e.Txn
 ·exact ⟨false,by simp [hu,eB],no rfl fun h=>h.un hu⟩
 rw [show decide (Ended s e.Txn)=false by simpa using hu];simp only [eB,Bool.false_eq_true,if_false];unfold iV;rw [on_eq,Option.bind_some];by_cases k1:e.Kind=1
 ·rw [if_pos k1,uN,Option.bind_some];have n2:¬ e.Kind=2:=by omega
  have n3:¬ e.Kind=3:=by omega
  have n4:¬ e.Kind=4:=by omega
  by_cases ha:Btw e.Actor
  case neg=>exact ⟨false,by simp [ha,eE],no rfl fun h=>by have:=h.ok; simp [k1,n2,n3,n4,ha] at this⟩
  rw [if_pos (by simpa using ha),E7,Option.bind_some];by_cases hg:Begun s e.Txn
  ·exact ⟨false,by simp [hg,eE],no rfl fun h=>by have:=h.ok; simp [k1,n2,n3,n4,hg] at this⟩
  rw [show decide (Begun s e.Txn)=false by simpa using hg];simp only [eE,Bool.false_eq_true,if_false];obtain ⟨b,e1,e2⟩:=top_eq N s e hl;exact ⟨b,e1,e2.trans ⟨fun h=>⟨hb,hu,.inl ⟨k1,ha,hg,h⟩⟩,fun h=>by have:=h.ok; simp only [k1,n2,n3,n4,false_and,or_false] at this; simpa [ha,hg] using this⟩⟩
 rw [if_neg k1];by_cases k2:e.Kind=2
 ·rw [if_pos k2,uN,Option.bind_some];have n3:¬ e.Kind=3:=by omega
  have n4:¬ e.Kind=4:=by omega
  by_cases ha:Btw e.Actor
  case neg=>exact ⟨false,by simp [ha],no rfl fun h=>by have:=h.ok; simp [k1,k2,n3,n4,ha] at this⟩
  rw [if_pos (by simpa using ha),fP,Option.bind_some,has_eq];by_cases hm:e.Txn∈onL s.stacks e.Actor
  ·rw [if_pos (by simpa using hm)];refine ⟨!decide (Has s e.Txn e.Actor),rfl,?_⟩;simp only [Bool.not_eq_true',decide_eq_false_iff_not];exact ⟨fun h=>⟨hb,hu,.inr (.inl ⟨k2,ha,hm,h⟩)⟩,fun h=>by rcases h.ok with q|q|q|q<;>first|exact q.2.2.2|(exfalso; have:=q.1; omega)⟩
  ·exact ⟨false,by simp [hm],no rfl fun h=>by have:=h.ok; simp [k1,k2,n3,n4,hm] at this⟩
 rw [if_neg k2];by_cases k3:e.Kind=3
 ·rw [if_pos k3,AX,zR];have n4:¬ e.Kind=4:=by omega
  by_cases ha:e.Actor=0
  case neg=>exact ⟨false,by simp [ha],no rfl fun h=>by have:=h.ok; simp [k1,k2,k3,n4,ha] at this⟩
  rw [if_pos ha,Option.bind_some,Option.bind_some];by_cases hr:Ready s e.Txn
  ·rw [if_pos (by simpa using hr)];refine ⟨decide (Lowest s e.Txn),rfl,?_⟩;simp only [decide_eq_true_eq];exact ⟨fun h=>⟨hb,hu,.inr (.inr (.inl ⟨k3,ha,hr,h⟩))⟩,fun h=>by rcases h.ok with q|q|q|q<;>first|exact q.2.2.2|(exfalso; have:=q.1; omega)⟩
  ·exact ⟨false,by simp [hr],no rfl fun h=>by have:=h.ok; simp [k1,k2,k3,n4,hr] at this⟩
 rw [if_neg k3];by_cases k4:e.Kind=4
 ·rw [if_pos k4];refine ⟨decide (e.Actor=0),rfl,?_⟩;simp only [decide_eq_true_eq];exact ⟨fun h=>⟨hb,hu,.inr (.inr (.inr ⟨k4,h⟩))⟩,fun h=>by rcases h.ok with q|q|q|q<;>first|exact q.2|(exfalso; have:=q.1; omega)⟩
 ·rw [if_neg k4];exact ⟨false,rfl,no rfl fun h=>by have:=h.ok; simp [k1,k2,k3,k4] at this⟩
structure DInv (a l:List Int) (p:Int->Bool) (i j:Nat):Prop where
 len:l.length=a.length
 ij:i < j
 jl:j<=a.length
 pre:l.take i=(a.take j).filter fun x=>!p x
 rest:∀ q,j<=q->l[q]?=a[q]?
theorem tz {L:Nat->List Int × Int × Int->Option (List Int)} (f:Int->Option Bool) (p:Int->Bool) (kx:List Int->Int->Option (List Int)) (hf:∀ x,f x=some (p x))
  (h1:∀ n l4 v5 v6,L (n+1) (l4,v5,v6)=if v6 < ((l4.length:Nat):Int) then (gx l4 v6 fun x10=>(f x10).bind fun r11=>if r11=true then L n (l4,v5,IntKind.i64.wrap (v6+1)) else
   (gx l4 v5 fun x12=>L n ((l4.set ((v5).toNat) x10),(IntKind.i64.wrap (v5+1)),IntKind.i64.wrap (v6+1)))) else kx l4 v5)
  (a:List Int) (ha:a.length<=100000000):∀ (n:Nat) (l:List Int) (i j:Nat),a.length < j+n->DInv a l p i j->∃ l' i',DInv a l' p i' a.length/\L n (l,(i:Int),(j:Int))=kx l' ((i':Nat):Int)
 | 0,l,i,j,hn,h=>by have:=h.jl; omega
 | n+1,l,i,j,hn,h=>by
  have hl:=h.len; have hij:=h.ij; have hj:=h.jl;rw [h1];by_cases hlt:j < a.length
  ·have g1:l[j]?=some a[j]:=by rw [h.rest j (Nat.le_refl _),List.getElem?_eq_getElem hlt]
   have htk:a.take (j+1)=a.take j++[a[j]]:=by rw [List.take_add_one,List.getElem?_eq_getElem hlt]; rfl
   rw [if_pos (by omega),gx_nat g1,hf,Option.bind_some,w64 (n:=(j:Int)+1) (by omega) (by omega),show ((j:Int)+1)=((j+1:Nat):Int) by omega];cases e:p a[j] with
   | true=>
    rw [if_pos rfl];refine tz f p kx hf h1 a ha n l i (j+1) (by omega) ⟨hl,by omega,by omega,?_,fun q hq=>h.rest q (by omega)⟩;rw [h.pre,htk,List.filter_append]; simp [e]
   | false=>
    have hil:i < l.length:=by omega
    rw [if_neg (by simp)];rw [gx_nat (List.getElem?_eq_getElem hil),w64 (n:=(i:Int)+1) (by omega) (by omega),show ((i:Int)+1)=((i+1:Nat):Int) by omega,Int.toNat_natCast];refine tz f p kx hf h1 a ha n (l.set i a[j]) (i+1) (j+1) (by omega) ⟨by simp [hl],by omega,by omega,?_,fun q hq=>by rw [List.getElem?_set_ne (by omega)]; exact h.rest q (by omega)⟩;rw [lC hil,h.pre,htk,List.filter_append]; simp [e]
  ·rw [if_neg (by omega)];have:j=a.length:=by omega
   subst this;exact ⟨l,i,h,rfl⟩
theorem jI {α:Type} (p:α->Bool):∀ (xs:List α) (v:Nat),(findP p xs v=-1/\∀ x∈xs,p x=false)∨∃ i x,xs[i]?=some x/\p x=true/\(∀ y∈xs.take i,p y=false)/\findP p xs v=((v+i:Nat):Int)
 | [],v=>.inl ⟨rfl,by simp⟩
 | x::xs,v=>by
  simp only [findP];cases e:p x with
  | true=>exact .inr ⟨0,x,rfl,e,by simp,by simp⟩
  | false=>
   rw [if_neg (by simp)];rcases jI p xs (v+1) with ⟨h1,h2⟩|⟨i,y,h1,h2,h3,h4⟩
   ·refine .inl ⟨h1,fun y hy=>?_⟩;rcases List.mem_cons.1 hy with rfl|hy
    ·exact e
    ·exact h2 y hy
   ·refine .inr ⟨i+1,y,by simpa using h1,h2,fun z hz=>?_,by rw [h4]; congr 1; omega⟩;rw [List.take_succ_cons] at hz;rcases List.mem_cons.1 hz with rfl|hz
    ·exact e
    ·exact h3 z hz
theorem zf {L:Nat->List Int × Int × Int->Option (List Int)} (f:Int->Option Bool) (p:Int->Bool) (kx:List Int->Int->Option (List Int)) (hf:∀ x,f x=some (p x))
  (h1:∀ n l4 v5 v6,L (n+1) (l4,v5,v6)=if v6 < ((l4.length:Nat):Int) then (gx l4 v6 fun x10=>(f x10).bind fun r11=>if r11=true then L n (l4,v5,IntKind.i64.wrap (v6+1)) else
   (gx l4 v5 fun x12=>L n ((l4.set ((v5).toNat) x10),(IntKind.i64.wrap (v5+1)),IntKind.i64.wrap (v6+1)))) else kx l4 v5)
  (hk:∀ l15 v16,kx l15 v16=slx l15 v16 ((l15.length:Nat):Int) fun l17=>slx (clrL 0 (v16).toNat l15) 0 v16 fun l18=>some ((clrL 0 (v16).toNat l15).take ((v16).toNat)))
  (a:List Int) (ha:a.length<=100000000) (N:Nat) (hN:a.length<=N) :
  ((some (findP p a 0)).bind fun r1=>if r1=(-1) then (some a) else L N (a,r1,IntKind.i64.wrap (r1+1)))=some (a.filter fun x=>!p x):=by
 rw [Option.bind_some];rcases jI p a 0 with ⟨e1,e2⟩|⟨i,x,e1,e2,e3,e4⟩
 ·rw [e1,if_pos rfl,List.filter_eq_self.2 fun x hx=>by rw [e2 x hx]; rfl]
 ·have hil:=(List.getElem?_eq_some_iff.1 e1).1;rw [e4,if_neg (by omega),Nat.zero_add,w64 (by omega) (by omega),show ((i:Int)+1)=((i+1:Nat):Int) by omega];have hd:DInv a a p i (i+1):=⟨rfl,by omega,by omega,by
   rw [List.take_add_one,e1,Option.toList_some,List.filter_append,List.filter_eq_self.2 fun x hx=>by rw [e3 x hx]; rfl];simp [e2],fun _ _=>rfl⟩
  obtain ⟨l',i',h',e'⟩:=tz f p kx hf h1 a ha N a i (i+1) (by omega) hd;rw [e',hk];have q1:=h'.len; have q2:=h'.ij;unfold slx;rw [Int.toNat_natCast,if_pos ⟨by omega,by omega,by omega,by omega⟩];dsimp only;rw [if_pos ⟨by omega,by omega,by omega,by rw [zC (by omega)]; omega⟩];try dsimp only
  rw [yo (by omega),h'.pre,List.take_of_length_le (Nat.le_refl _)]
theorem wV (N:Nat) (a:List Int) (s:af) (ha:a.length<=100000000) (hN:a.length<=N):aM N a s.stacks s.prepared s.known s.committed s.aborted s.deps=some (a.filter fun x=>!decide (Ended s x)):=by
 unfold aM;have h:bO N a s.stacks s.prepared s.known s.committed s.aborted s.deps=some (findP (fun x=>decide (Ended s x)) a 0):=
  oE (L:=bD N s.stacks s.prepared s.known s.committed s.aborted s.deps) (fun x=>dC N s x) _ (fun _=>rfl) (fun _ _ _=>rfl) a 0 (fun x _=>yw N s x)
 rw [h];exact zf (L:=ba N s.stacks s.prepared s.known s.committed s.aborted s.deps et) (fun x=>dC N s x) (fun x=>decide (Ended s x)) _ (yw N s) (fun _ _ _ _=>rfl) (fun _ _=>rfl) a ha N hN
theorem Ex (N:Nat) (a k:List Int) (ha:a.length<=100000000) (hN:a.length<=N):a8 N a k=some (a.filter fun x=>!decide (x∈k)):=by
 unfold a8;have hp:∀ x,dc N x k=some (decide (x∈k)):=fun x=>by simp only [dc,fP,Option.bind_some]
 have h:bC N a k=some (findP (fun x=>decide (x∈k)) a 0):=
  oE (L:=bp N k) (fun x=>dc N x k) _ (fun _=>rfl) (fun _ _ _=>rfl) a 0 (fun x _=>hp x)
 rw [h];exact zf (L:=aW N k dX) (fun x=>dc N x k) (fun x=>decide (x∈k)) _ hp (fun _ _ _ _=>rfl) (fun _ _=>rfl) a ha N hN
def rmX (k:List Int) (x:ag):ag:=⟨x.actor,x.txns.filter fun t=>!decide (t∈k)⟩
def rmS (k:List Int) (l:List ag):List ag:=l.map (rmX k)
theorem zY (N:Nat) (s:af) (k:List Int):∀ (m v:Nat) (l:List ag),v+m=l.length->(∀ x∈l,x.txns.length<=100000000/\x.txns.length<=N) ->
  d6 s N k m v l=some (af.mk (l.take v++rmS k (l.drop v)) s.prepared s.known s.committed s.aborted s.deps)
 | 0,v,l,hv,_=>by
  rw [d6,List.take_of_length_le (by omega),List.drop_of_length_le (by omega)];simp [rmS]
 | m+1,v,l,hv,hl=>by
  have hvl:v < l.length:=by omega
  have hb:=hl l[v] (List.getElem_mem hvl);rw [d6,gx_nat (List.getElem?_eq_getElem hvl),Ex N _ k hb.1 hb.2,Option.bind_some,zY N s k m (v+1) _ (by simp; omega) (fun x hx=>?_)]
  ·rw [lC hvl,List.drop_set_of_lt (by omega),List.drop_eq_getElem_cons hvl];simp only [rmS,List.map_cons,List.append_assoc,List.singleton_append];rfl
  ·rcases List.mem_or_eq_of_mem_set hx with h|h
   ·exact hl x h
   ·subst h;have:=List.length_filter_le (fun x=>!decide (x∈k)) l[v].txns;simp only;omega
theorem qR (N:Nat) (s:af) (k:List Int) (hl:∀ x∈s.stacks,x.txns.length<=100000000/\x.txns.length<=N):da N s k=some { s with stacks:=rmS k s.stacks }:=by
 unfold da;rw [zY N s k _ 0 _ (by omega) hl];rfl
end Go.Proofs.YtekgpnhfhkhpaaaGreat

namespace Go.Proofs.YtekgpnhfhkhpaaaGreat
open Go Go.Proofs Go.Abs
def lp (a b:ae):Prop:=a.e0 < b.e0∨(a.e0=b.e0/\a.e1 < b.e1)
def leP (a b:ae):Prop:=¬ lp b a
instance (a b:ae):Decidable (lp a b):=by unfold lp; infer_instance
theorem Bq (a:ae):leP a a:=by unfold leP lp; omega
theorem lp_of {y p c:ae} (h1:leP y p) (h2:leP p c) (h3:¬ c=p):lp y c:=by
 have h3':¬ (c.e0=p.e0/\c.e1=p.e1):=fun q=>h3 (yg q.1 q.2);unfold leP lp at *;omega
theorem Gu (N:Nat) (a b:Int):iL N a b=some (if a < b then -1 else if b < a then 1 else 0):=by
 simp only [iL,ja,Option.bind_some];by_cases h1:a < b
 ·simp [h1]
 ·by_cases h2:b < a<;>simp [h1,h2]
theorem E8 (N:Nat) (a b:ae):∃ c,dK N a b=some c/\(c < 0↔lp a b):=by
 simp only [dK,Gu,Option.bind_some,qg,mP];unfold lp;by_cases h1:a.e0 < b.e0
 ·exact ⟨-1,by simp [h1],by simp [h1]⟩
 ·by_cases h2:b.e0 < a.e0
  ·refine ⟨1,by simp [h1,h2],by simp; omega⟩
  ·by_cases h3:a.e1 < b.e1
   ·exact ⟨-1,by simp [h1,h2,h3],by simp; omega⟩
   ·by_cases h4:b.e1 < a.e1
    ·exact ⟨1,by simp [h1,h2,h3,h4],by simp; omega⟩
    ·exact ⟨0,by simp [h1,h2,h3,h4],by simp; omega⟩
theorem sortP {c:ae->ae->Option Int} (hc:∀ x y,∃ z,c x y=some z/\(z < 0↔lp x y)) {l:List ae} (hl:l.length<=100000):∃ o,sortM c l=some o/\o.Perm l/\o.Pairwise leP:=by
 have hlt:∀ x y,Go.Proofs.ltOf (fun x y=>(c x y).getD 0) x y=decide (lp x y):=by
  intro x y;obtain ⟨z,e,hz⟩:=hc x y;simp only [Go.Proofs.ltOf,e,Option.getD_some,hz]
 obtain ⟨o,ho⟩:=EA (c:=c) (l:=l) (fun x y=>let ⟨z,e,_⟩:=hc x y; ⟨z,e⟩) ⟨fun x=>by rw [hlt]; simp [lp],fun x y z h1 h2=>by rw [hlt] at h1 h2 ⊢; simp only [decide_eq_true_eq,decide_eq_false_iff_not] at h1 h2 ⊢; unfold lp at h1 h2 ⊢; omega,fun x y z h1 h2=>by rw [hlt] at h1 h2 ⊢; simp only [decide_eq_true_eq,decide_eq_false_iff_not] at h1 h2 ⊢; unfold lp at h1 h2 ⊢; omega⟩ (by omega);obtain ⟨hp,hs⟩:=wY ho;refine ⟨o,ho,hp,hs.imp (fun {a b} q=>?_)⟩;obtain ⟨z,e,hz⟩:=hc b a;rw [e,Option.getD_some,hz] at q;exact q
structure CInv (a l:List ae) (k j:Nat):Prop where
 len:l.length=a.length
 kj:k<=j
 jl:j<=a.length
 j1:1<=j
 so:(l.take k).Pairwise lp
 mem:∀ z,z∈l.take k↔z∈a.take j
 rest:∀ i,j<=i+1->l[i]?=a[i]?
 kj':k<=j
theorem uy (a:List ae) (hs:a.Pairwise leP) (ha:a.length<=100000) (v3:Nat) (h1:1<=v3) (kx:List ae->Int->Option (List ae)) :
  ∀ (n:Nat) (l:List ae) (k m:Nat),a.length < v3+m+n->1<=m->CInv a l k (v3+m)->k < v3+m->∃ l' k',CInv a l' k' a.length/\ej a v3 kx n (l,(k:Int),(m:Int))=kx l' ((k':Nat):Int)
 | 0,l,k,m,hn,hm,h,hk=>by have:=h.jl; omega
 | n+1,l,k,m,hn,hm,h,hk=>by
  have hl:=h.len; have hj:=h.jl;rw [ej];by_cases hlt:v3+m < a.length
  ·rw [if_pos (by omega)];have e1:l[v3+m]?=a[v3+m]?:=h.rest _ (by omega);have e2:l[v3+(m - 1)]?=a[v3+(m - 1)]?:=h.rest _ (by omega);have g1:((l.drop v3).take (a.length - v3))[m]?=some a[v3+m]:=by
    rw [List.getElem?_take_of_lt (by omega),List.getElem?_drop,e1,List.getElem?_eq_getElem hlt]
   have g2:((l.drop v3).take (a.length - v3))[m - 1]?=some (a[v3+(m - 1)]'(by omega)):=by
    rw [List.getElem?_take_of_lt (by omega),List.getElem?_drop,e2,List.getElem?_eq_getElem (by omega)]
   rw [gx_nat g1,w64 (by omega) (by omega),show ((m:Int) - 1)=((m - 1:Nat):Int) by omega,gx_nat g2,w64 (n:=(m:Int)+1) (by omega) (by omega),show ((m:Int)+1)=((m+1:Nat):Int) by omega];have htk:∀ z,z∈a.take (v3+m+1)↔z∈a.take (v3+m)∨z=a[v3+m]:=by
    intro z;rw [List.take_add_one,List.getElem?_eq_getElem hlt,List.mem_append,Option.toList_some,List.mem_singleton]
   have hprev:(a[v3+(m - 1)]'(by omega))∈a.take (v3+m):=by
    refine List.mem_of_getElem? (i:=v3+(m - 1)) ?_;rw [List.getElem?_take_of_lt (by omega),List.getElem?_eq_getElem (by omega)]
   by_cases e:a[v3+m]=(a[v3+(m - 1)]'(by omega))
   ·rw [if_pos (mS.2 e)];refine uy a hs ha v3 h1 kx n l k (m+1) (by omega) (by omega) ⟨hl,by have:=h.kj; omega,by omega,by omega,h.so,fun z=>?_,fun i hi=>h.rest i (by omega),by omega⟩ (by omega);rw [h.mem,<-Nat.add_assoc,htk];constructor
    ·exact .inl
    ·rintro (q|q)
     ·exact q
     ·rw [q,e]; exact hprev
   ·rw [if_neg (fun q=>e (mS.1 q))];have hkl:k < l.length:=by omega
    rw [gx_nat (List.getElem?_eq_getElem hkl),w64 (n:=(k:Int)+1) (by omega) (by omega),show ((k:Int)+1)=((k+1:Nat):Int) by omega,Int.toNat_natCast];refine uy a hs ha v3 h1 kx n (l.set k a[v3+m]) (k+1) (m+1) (by omega) (by omega) ⟨by simp [hl],by omega,by omega,by omega,?_,fun z=>?_,fun i hi=>?_,by omega⟩ (by omega)
    ·rw [lC hkl,List.pairwise_append];refine ⟨h.so,by simp,fun y hy z hz=>?_⟩;obtain rfl:=List.mem_singleton.1 hz;have hy':=(h.mem y).1 hy;obtain ⟨i,hi⟩:=List.mem_iff_getElem?.1 hy';have hil:=(List.getElem?_eq_some_iff.1 hi).1;simp only [List.length_take] at hil;rw [List.getElem?_take_of_lt (by omega),List.getElem?_eq_getElem (by omega),Option.some.injEq] at hi;have hp1:leP (a[v3+(m - 1)]'(by omega)) a[v3+m]:=List.pairwise_iff_getElem.1 hs _ _ (by omega) hlt (by omega);rcases Nat.lt_or_ge i (v3+(m - 1)) with q|q
     ·have h1:=List.pairwise_iff_getElem.1 hs i (v3+(m - 1)) (by omega) (by omega) q;rw [hi] at h1;exact lp_of h1 hp1 e
     ·have:i=v3+(m - 1):=by omega
      subst this;rw [hi] at hp1 e;exact lp_of (Bq _) hp1 e
    ·rw [lC hkl,List.mem_append,List.mem_singleton,h.mem,<-Nat.add_assoc,htk]
    ·rw [List.getElem?_set_ne (by omega)]; exact h.rest i (by omega)
  ·rw [if_neg (by omega)];have:v3+m=a.length:=by omega
   rw [this] at h;exact ⟨l,k,h,rfl⟩
theorem Dl {a l:List ae} {k:Nat} (h:CInv a l k a.length):gC l (k:Int)=some (l.take k):=by
 have h1:=h.len; have h2:=h.kj;unfold gC slx;rw [Int.toNat_natCast,if_pos ⟨by omega,by omega,by omega,by omega⟩];dsimp only;rw [if_pos ⟨by omega,by omega,by omega,by rw [zC (by omega)]; omega⟩];try dsimp only
 rw [yo (by omega)]
theorem yN (N:Nat) (a:List ae) (hs:a.Pairwise leP) (ha:a.length<=100000) (hN:100002<=N):∀ (m v:Nat),v+m=a.length->1<=v->(a.take v).Pairwise lp->∃ r,eZ a N m v ()=some r/\r.Pairwise lp/\∀ z,z∈r↔z∈a
 | 0,v,hv,h1,hp=>⟨a,rfl,by rwa [List.take_of_length_le (by omega)] at hp,fun z=>Iff.rfl⟩
 | m+1,v,hv,h1,hp=>by
  have hvl:v < a.length:=by omega
  have g1:a[v]?=some a[v]:=List.getElem?_eq_getElem hvl;have g2:a[v - 1]?=some (a[v - 1]'(by omega)):=List.getElem?_eq_getElem (by omega);have hprev:(a[v - 1]'(by omega))∈a.take v:=by
   refine List.mem_of_getElem? (i:=v - 1) ?_;rw [List.getElem?_take_of_lt (by omega),g2]
  have htk:∀ z,z∈a.take (v+1)↔z∈a.take v∨z=a[v]:=by
   intro z;rw [List.take_add_one,g1,List.mem_append,Option.toList_some,List.mem_singleton]
  rw [eZ,gx_nat g1,w64 (by omega) (by omega),show ((v:Int) - 1)=((v - 1:Nat):Int) by omega,gx_nat g2];by_cases e:a[v]=(a[v - 1]'(by omega))
  ·rw [if_pos (mS.2 e)];unfold slx;rw [if_pos ⟨by omega,by omega,by omega,by omega⟩];dsimp only;have hc:CInv a a v (v+1):=⟨rfl,by omega,by omega,by omega,hp,fun z=>by
    rw [htk];constructor
    ·exact .inl
    ·rintro (q|q)
     ·exact q
     ·rw [q,e]; exact hprev,fun i _=>rfl,by omega⟩
   obtain ⟨l',k',h',e'⟩:=uy a hs ha v h1 gC N a v 1 (by omega) (by omega) hc (by omega);rw [show ((1:Int))=((1:Nat):Int) from rfl,e',Dl h'];exact ⟨_,rfl,h'.so,fun z=>by rw [h'.mem,List.take_of_length_le (Nat.le_refl _)]⟩
  ·rw [if_neg (fun q=>e (mS.1 q))];refine yN N a hs ha hN m (v+1) (by omega) (by omega) ?_;rw [List.take_add_one,g1,Option.toList_some,List.pairwise_append];refine ⟨hp,by simp,fun y hy z hz=>?_⟩;obtain rfl:=List.mem_singleton.1 hz;obtain ⟨i,hi⟩:=List.mem_iff_getElem?.1 hy;have hil:=(List.getElem?_eq_some_iff.1 hi).1;simp only [List.length_take] at hil;rw [List.getElem?_take_of_lt (by omega),List.getElem?_eq_getElem (by omega),Option.some.injEq] at hi;have hp1:leP (a[v - 1]'(by omega)) a[v]:=List.pairwise_iff_getElem.1 hs _ _ (by omega) hvl (by omega);rcases Nat.lt_or_ge i (v - 1) with q|q
   ·have h1:=List.pairwise_iff_getElem.1 hs i (v - 1) (by omega) (by omega) q;rw [hi] at h1;exact lp_of h1 hp1 e
   ·have:i=v - 1:=by omega
    subst this;rw [hi] at hp1 e;exact lp_of (Bq _) hp1 e
theorem CR (N:Nat) (hN:100002<=N) (a:List ae) (hs:a.Pairwise leP) (ha:a.length<=100000):∃ r,gA N a=some r/\r.Pairwise lp/\∀ z,z∈r↔z∈a:=by
 unfold gA;by_cases h:((a.length:Nat):Int) < 2
 ·rw [if_pos h];refine ⟨a,rfl,?_,fun z=>Iff.rfl⟩
  match a,h with
  | [],_=>exact List.Pairwise.nil
  | [x],_=>simp
  | _::_::_,h=>simp at h; omega
 ·rw [if_neg h];refine yN N a hs ha hN (a.length - 1) 1 (by omega) (by omega) ?_
  match a,h with
  | x::xs,_=>simp
theorem lI_of {y p c:Int} (h1:y<=p) (h2:p<=c) (h3:¬ c=p):y < c:=by omega
structure CIi (a l:List Int) (k j:Nat):Prop where
 len:l.length=a.length
 kj:k<=j
 jl:j<=a.length
 j1:1<=j
 so:(l.take k).Pairwise (· < ·)
 mem:∀ z,z∈l.take k↔z∈a.take j
 rest:∀ i,j<=i+1->l[i]?=a[i]?
 kj':k<=j
theorem tl (a:List Int) (hs:a.Pairwise (·<=·)) (ha:a.length<=100000) (v3:Nat) (h1:1<=v3) (kx:List Int->Int->Option (List Int)) :
  ∀ (n:Nat) (l:List Int) (k m:Nat),a.length < v3+m+n->1<=m->CIi a l k (v3+m)->k < v3+m->∃ l' k',CIi a l' k' a.length/\eF a v3 kx n (l,(k:Int),(m:Int))=kx l' ((k':Nat):Int)
 | 0,l,k,m,hn,hm,h,hk=>by have:=h.jl; omega
 | n+1,l,k,m,hn,hm,h,hk=>by
  have hl:=h.len; have hj:=h.jl;rw [eF];by_cases hlt:v3+m < a.length
  ·rw [if_pos (by omega)];have e1:l[v3+m]?=a[v3+m]?:=h.rest _ (by omega);have e2:l[v3+(m - 1)]?=a[v3+(m - 1)]?:=h.rest _ (by omega);have g1:((l.drop v3).take (a.length - v3))[m]?=some a[v3+m]:=by
    rw [List.getElem?_take_of_lt (by omega),List.getElem?_drop,e1,List.getElem?_eq_getElem hlt]
   have g2:((l.drop v3).take (a.length - v3))[m - 1]?=some (a[v3+(m - 1)]'(by omega)):=by
    rw [List.getElem?_take_of_lt (by omega),List.getElem?_drop,e2,List.getElem?_eq_getElem (by omega)]
   rw [gx_nat g1,w64 (by omega) (by omega),show ((m:Int) - 1)=((m - 1:Nat):Int) by omega,gx_nat g2,w64 (n:=(m:Int)+1) (by omega) (by omega),show ((m:Int)+1)=((m+1:Nat):Int) by omega];have htk:∀ z,z∈a.take (v3+m+1)↔z∈a.take (v3+m)∨z=a[v3+m]:=by
    intro z;rw [List.take_add_one,List.getElem?_eq_getElem hlt,List.mem_append,Option.toList_some,List.mem_singleton]
   have hprev:(a[v3+(m - 1)]'(by omega))∈a.take (v3+m):=by
    refine List.mem_of_getElem? (i:=v3+(m - 1)) ?_;rw [List.getElem?_take_of_lt (by omega),List.getElem?_eq_getElem (by omega)]
   by_cases e:a[v3+m]=(a[v3+(m - 1)]'(by omega))
   ·rw [if_pos e];refine tl a hs ha v3 h1 kx n l k (m+1) (by omega) (by omega) ⟨hl,by have:=h.kj; omega,by omega,by omega,h.so,fun z=>?_,fun i hi=>h.rest i (by omega),by omega⟩ (by omega);rw [h.mem,<-Nat.add_assoc,htk];constructor
    ·exact .inl
    ·rintro (q|q)
     ·exact q
     ·rw [q,e]; exact hprev
   ·rw [if_neg e];have hkl:k < l.length:=by omega
    rw [gx_nat (List.getElem?_eq_getElem hkl),w64 (n:=(k:Int)+1) (by omega) (by omega),show ((k:Int)+1)=((k+1:Nat):Int) by omega,Int.toNat_natCast];refine tl a hs ha v3 h1 kx n (l.set k a[v3+m]) (k+1) (m+1) (by omega) (by omega) ⟨by simp [hl],by omega,by omega,by omega,?_,fun z=>?_,fun i hi=>?_,by omega⟩ (by omega)
    ·rw [lC hkl,List.pairwise_append];refine ⟨h.so,by simp,fun y hy z hz=>?_⟩;obtain rfl:=List.mem_singleton.1 hz;have hy':=(h.mem y).1 hy;obtain ⟨i,hi⟩:=List.mem_iff_getElem?.1 hy';have hil:=(List.getElem?_eq_some_iff.1 hi).1;simp only [List.length_take] at hil;rw [List.getElem?_take_of_lt (by omega),List.getElem?_eq_getElem (by omega),Option.some.injEq] at hi;have hp1:(a[v3+(m - 1)]'(by omega))<=a[v3+m]:=List.pairwise_iff_getElem.1 hs _ _ (by omega) hlt (by omega);rcases Nat.lt_or_ge i (v3+(m - 1)) with q|q
     ·have h1:=List.pairwise_iff_getElem.1 hs i (v3+(m - 1)) (by omega) (by omega) q;rw [hi] at h1;exact lI_of h1 hp1 e
     ·have:i=v3+(m - 1):=by omega
      subst this;rw [hi] at hp1 e;exact lI_of (Int.le_refl _) hp1 e
    ·rw [lC hkl,List.mem_append,List.mem_singleton,h.mem,<-Nat.add_assoc,htk]
    ·rw [List.getElem?_set_ne (by omega)]; exact h.rest i (by omega)
  ·rw [if_neg (by omega)];have:v3+m=a.length:=by omega
   rw [this] at h;exact ⟨l,k,h,rfl⟩
theorem Cc {a l:List Int} {k:Nat} (h:CIi a l k a.length):ir l (k:Int)=some (l.take k):=by
 have h1:=h.len; have h2:=h.kj;unfold ir slx;rw [Int.toNat_natCast,if_pos ⟨by omega,by omega,by omega,by omega⟩];dsimp only;rw [if_pos ⟨by omega,by omega,by omega,by rw [zC (by omega)]; omega⟩];try dsimp only
 rw [yo (by omega)]
theorem wU (N:Nat) (a:List Int) (hs:a.Pairwise (·<=·)) (ha:a.length<=100000) (hN:100002<=N):∀ (m v:Nat),v+m=a.length->1<=v->(a.take v).Pairwise (· < ·)->∃ r,fB a N m v ()=some r/\r.Pairwise (· < ·)/\∀ z,z∈r↔z∈a
 | 0,v,hv,h1,hp=>⟨a,rfl,by rwa [List.take_of_length_le (by omega)] at hp,fun z=>Iff.rfl⟩
 | m+1,v,hv,h1,hp=>by
  have hvl:v < a.length:=by omega
  have g1:a[v]?=some a[v]:=List.getElem?_eq_getElem hvl;have g2:a[v - 1]?=some (a[v - 1]'(by omega)):=List.getElem?_eq_getElem (by omega);have hprev:(a[v - 1]'(by omega))∈a.take v:=by
   refine List.mem_of_getElem? (i:=v - 1) ?_;rw [List.getElem?_take_of_lt (by omega),g2]
  have htk:∀ z,z∈a.take (v+1)↔z∈a.take v∨z=a[v]:=by
   intro z;rw [List.take_add_one,g1,List.mem_append,Option.toList_some,List.mem_singleton]
  rw [fB,gx_nat g1,w64 (by omega) (by omega),show ((v:Int) - 1)=((v - 1:Nat):Int) by omega,gx_nat g2];by_cases e:a[v]=(a[v - 1]'(by omega))
  ·rw [if_pos e];unfold slx;rw [if_pos ⟨by omega,by omega,by omega,by omega⟩];dsimp only;have hc:CIi a a v (v+1):=⟨rfl,by omega,by omega,by omega,hp,fun z=>by
    rw [htk];constructor
    ·exact .inl
    ·rintro (q|q)
     ·exact q
     ·rw [q,e]; exact hprev,fun i _=>rfl,by omega⟩
   obtain ⟨l',k',h',e'⟩:=tl a hs ha v h1 ir N a v 1 (by omega) (by omega) hc (by omega);rw [show ((1:Int))=((1:Nat):Int) from rfl,e',Cc h'];exact ⟨_,rfl,h'.so,fun z=>by rw [h'.mem,List.take_of_length_le (Nat.le_refl _)]⟩
  ·rw [if_neg e];refine wU N a hs ha hN m (v+1) (by omega) (by omega) ?_;rw [List.take_add_one,g1,Option.toList_some,List.pairwise_append];refine ⟨hp,by simp,fun y hy z hz=>?_⟩;obtain rfl:=List.mem_singleton.1 hz;obtain ⟨i,hi⟩:=List.mem_iff_getElem?.1 hy;have hil:=(List.getElem?_eq_some_iff.1 hi).1;simp only [List.length_take] at hil;rw [List.getElem?_take_of_lt (by omega),List.getElem?_eq_getElem (by omega),Option.some.injEq] at hi;have hp1:(a[v - 1]'(by omega))<=a[v]:=List.pairwise_iff_getElem.1 hs _ _ (by omega) hvl (by omega);rcases Nat.lt_or_ge i (v - 1) with q|q
   ·have h1:=List.pairwise_iff_getElem.1 hs i (v - 1) (by omega) (by omega) q;rw [hi] at h1;exact lI_of h1 hp1 e
   ·have:i=v - 1:=by omega
    subst this;rw [hi] at hp1 e;exact lI_of (Int.le_refl _) hp1 e
theorem Cg (N:Nat) (hN:100002<=N) (a:List Int) (hs:a.Pairwise (·<=·)) (ha:a.length<=100000):∃ r,im N a=some r/\r.Pairwise (· < ·)/\∀ z,z∈r↔z∈a:=by
 unfold im;by_cases h:((a.length:Nat):Int) < 2
 ·rw [if_pos h];refine ⟨a,rfl,?_,fun z=>Iff.rfl⟩
  match a,h with
  | [],_=>exact List.Pairwise.nil
  | [x],_=>simp
  | _::_::_,h=>simp at h; omega
 ·rw [if_neg h];refine wU N a hs ha hN (a.length - 1) 1 (by omega) (by omega) ?_
  match a,h with
  | x::xs,_=>simp
theorem zW (N:Nat):∃ r,j9 N (IntKind.u64.wrap 0)=some r:=by
 have h:IntKind.u64.wrap 0=0:=by decide
 have h8:(IntKind.u8.wrap 0).toNat=0:=by decide
 rw [h];simp only [j9,lO,lS,lI];rw [if_neg (by decide),if_neg (by decide),if_neg (by decide)];unfold lQ gxs;rw [if_pos (by decide),h8];generalize hl:(((_:List UInt8).append _).append _)=l;have h0:l[0]?=some 0:=by rw [<-hl]; rfl
 have:(⟨l.toArray⟩:ByteArray)[0]?=some 0:=by
  obtain ⟨x,xs,rfl⟩:∃ x xs,l=x::xs:=by
   cases l with
   | nil=>simp at h0
   | cons x xs=>exact ⟨x,xs,rfl⟩
  simp at h0;subst h0;rfl
 rw [this];exact ⟨_,rfl⟩
theorem C8 (N:Nat):dV (N+1) []=some []:=by
 obtain ⟨r,hr⟩:=zW (N+1);have h1:a6 (N+1) [] 0 0=some []:=by
  simp only [a6,bY];rw [if_neg (by decide)];rfl
 have h2:bx (N+1) [] 0 0 r=some []:=by
  simp only [bx,eP];rw [if_pos (by decide),h1];rfl
 unfold dV;rw [show IntKind.u64.wrap ((([]:List Int).length:Nat):Int)=IntKind.u64.wrap 0 from rfl,hr,Option.bind_some,show ((([]:List Int).length:Nat):Int)=0 from rfl,h2];rfl
theorem wt (N:Nat) (hN:1<=N) (l:List Int) (hl:l.length<=100000000):∃ r,slices_Sort_int N l=some r/\r.Perm l/\r.Pairwise (·<=·):=by
 unfold slices_Sort_int;cases l with
 | nil=>
  obtain ⟨n,rfl⟩:∃ n,N=n+1:=⟨N - 1,by omega⟩;exact ⟨[],by simp [C8],List.Perm.refl _,List.Pairwise.nil⟩
 | cons x xs=>
  simp only [List.isEmpty_cons,Bool.false_eq_true,if_false];have hs:sortI (x::xs)=some ((x::xs).mergeSort fun x y=>decide (x<=y)):=by unfold sortI; rw [if_pos (by omega)]
  exact ⟨_,hs,wZ hs⟩
inductive Reach (deps:List ae) (txns:List Int):Int->Prop
 | base {t:Int}:t∈txns->Reach deps txns t
 | step {d:ae}:d∈deps->Reach deps txns d.e1->Reach deps txns d.e0
def Clo (deps:List ae) (l:List Int):Prop:=∀ d∈deps,d.e1∈l->d.e0∈l
def outs (deps:List ae) (l:List Int):Nat:=(deps.filter fun d=>!decide (d.e0∈l)).length
theorem ww (deps:List ae) (l:List Int):outs deps l<=deps.length:=List.length_filter_le _ _
theorem zX {α:Type} {p q:α->Bool} (hpq:∀ y,q y=true->p y=true):∀ xs:List α,(xs.filter q).length<=(xs.filter p).length
 | []=>Nat.le_refl _
 | z::xs=>by
  have ih:=zX hpq xs;simp only [List.filter_cons];cases hq:q z with
  | true=>rw [hpq z hq]; simpa using ih
  | false=>cases p z<;>simp<;>omega
theorem vS {α:Type} {p q:α->Bool} (hpq:∀ y,q y=true->p y=true) {x:α}:∀ {l:List α},x∈l->p x=true->q x=false->(l.filter q).length < (l.filter p).length
 | [],hx,_,_=>by simp at hx
 | y::l,hx,hp,hq=>by
  simp only [List.filter_cons];rcases List.mem_cons.1 hx with rfl|hx
  ·rw [hp,hq];have:=zX hpq l;simp; omega
  ·have ih:=vS hpq hx hp hq;cases hqy:q y with
   | true=>rw [hpq y hqy]; simpa using ih
   | false=>cases p y<;>simp<;>omega
theorem BJ {deps:List ae} {l:List Int} {d:ae} (hd:d∈deps) (h:d.e0∉l):outs deps (l++[d.e0]) < outs deps l:=by
 refine vS (fun y hy=>?_) hd (by simpa using h) (by simp);simp only [Bool.not_eq_true',decide_eq_false_iff_not] at hy ⊢;exact fun q=>hy (by simp [q])
structure CSet (deps:List ae) (txns l:List Int):Prop where
 nd:l.Nodup
 sub:∀ t∈txns,t∈l
 re:∀ t∈l,Reach deps txns t
 len:l.length+outs deps l<=txns.length+deps.length
theorem CSet.app {deps:List ae} {txns l:List Int} (h:CSet deps txns l) {d:ae} (hd:d∈deps) (h1:d.e1∈l) (h0:d.e0∉l):CSet deps txns (l++[d.e0]):=by
 refine ⟨?_,fun t ht=>by simp [h.sub t ht],fun t ht=>?_,?_⟩
 ·rw [List.nodup_append];exact ⟨h.nd,by simp,fun a ha b hb e=>h0 (by rw [List.mem_singleton.1 hb] at e; rw [<-e]; exact ha)⟩
 ·rcases List.mem_append.1 ht with ht|ht
  ·exact h.re t ht
  ·rw [List.mem_singleton.1 ht]; exact .step hd (h.re _ h1)
 ·have:=BJ hd h0;have:=h.len;simp only [List.length_append,List.length_cons,List.length_nil];omega
theorem uA (N:Nat) (deps:List ae) (txns:List Int) (hsz:txns.length+deps.length<=1000000) (rec7:List Int × Bool->Option (List Int)):∀ (xs:List ae) (v:Nat) (l:List Int) (c:Bool),(∀ d∈xs,d∈deps)->CSet deps txns l ->
  ∃ l' c',eL rec7 N xs v (l,c)=rec7 (l',c')/\CSet deps txns l'/\((c'=c/\l'=l/\∀ d∈xs,d.e1∈l->d.e0∈l)∨(c'=true/\outs deps l' < outs deps l))
 | [],v,l,c,_,h=>⟨l,c,rfl,h,.inl ⟨rfl,rfl,by simp⟩⟩
 | d::xs,v,l,c,hx,h=>by
  have hd:=hx d (by simp);have hx':∀ d∈xs,d∈deps:=fun d hd=>hx d (by simp [hd]);rw [eL,fP,fP,Option.bind_some,Option.bind_some];have no:(d.e1∈l->d.e0∈l)->∃ l' c',eL rec7 N xs (v+1) (l,c)=rec7 (l',c')/\CSet deps txns l'/\((c'=c/\l'=l/\∀ x∈d::xs,x.e1∈l->x.e0∈l)∨(c'=true/\outs deps l' < outs deps l)):=by
   intro hno;obtain ⟨l',c',e1,e2,e3⟩:=uA N deps txns hsz rec7 xs (v+1) l c hx' h;refine ⟨l',c',e1,e2,e3.imp (fun q=>⟨q.1,q.2.1,fun x hx=>?_⟩) id⟩;rcases List.mem_cons.1 hx with rfl|hx
   ·exact hno
   ·exact q.2.2 x hx
  by_cases h1:d.e1∈l
  ·rw [if_pos (by simpa using h1)];by_cases h0:d.e0∈l
   ·simp only [h0,decide_true,Bool.not_true,iD,Bool.false_eq_true,if_false];exact no fun _=>h0
   ·simp only [h0,decide_false,Bool.not_false,iD,if_true];have hlen:=h.len;rw [apx_of (by simp only [List.length_cons,List.length_nil]; omega)];have h':=h.app hd h1 h0;have hlt:=BJ hd h0;obtain ⟨l',c',e1,e2,e3⟩:=uA N deps txns hsz rec7 xs (v+1) (l++[d.e0]) true hx' h';refine ⟨l',c',e1,e2,.inr ?_⟩;rcases e3 with ⟨q1,q2,_⟩|⟨q1,q2⟩
    ·exact ⟨q1,by rw [q2]; exact hlt⟩
    ·exact ⟨q1,by omega⟩
  ·rw [if_neg (by simpa using h1)];simp only [iD,Bool.false_eq_true,if_false];exact no fun q=>absurd q h1
theorem yJ (N:Nat) (deps:List ae) (txns:List Int) (hsz:txns.length+deps.length<=1000000) (kx:List Int->Option (List Int)):∀ (n:Nat) (l:List Int),outs deps l+2<=n->CSet deps txns l ->
  ∃ l',eM N deps kx n (l,true)=kx l'/\CSet deps txns l'/\Clo deps l'
 | 0,l,hn,_=>by omega
 | n+1,l,hn,h=>by
  rw [eM,if_pos rfl];obtain ⟨l',c',e1,e2,e3⟩:=uA N deps txns hsz (eM N deps kx n) deps 0 l false (fun _ h=>h) h;rw [e1];rcases e3 with ⟨q1,q2,q3⟩|⟨q1,q2⟩
  ·subst q1;subst q2;obtain ⟨k,rfl⟩:∃ k,n=k+1:=⟨n - 1,by omega⟩;exact ⟨l',by rw [eM,if_neg (by simp)],e2,q3⟩
  ·subst q1;exact yJ N deps txns hsz kx n l' (by omega) e2
theorem rN (N:Nat) (deps:List ae) (txns:List Int) (hsz:txns.length+deps.length<=90000) (hN:100002<=N) :
  ∃ r,dw N deps txns=some r/\(∀ t,t∈r↔Reach deps txns t)/\r.Pairwise (· < ·)/\r.length<=txns.length+deps.length:=by
 unfold dw eT;rw [apn_of (by omega),Option.bind_some];obtain ⟨r1,e1,p1,s1⟩:=wt N (by omega) txns (by omega);have hl1:=p1.length_eq;rw [e1,Option.bind_some];obtain ⟨r2,e2,s2,m2⟩:=Cg N (by omega) r1 s1 (by omega);rw [e2,Option.bind_some];have hnd2:r2.Nodup:=s2.imp (fun {a b} h=>Int.ne_of_lt h);have hm2:∀ t,t∈r2↔t∈txns:=fun t=>(m2 t).trans p1.mem_iff;have hl2:r2.length<=txns.length:=List.Nodup.length_le_of_subset hnd2 (fun t ht=>(hm2 t).1 ht);obtain ⟨l,e3,h3,c3⟩:=yJ N deps txns (by omega) (lL N) N r2 (by have:=ww deps r2; omega) ⟨hnd2,fun t ht=>(hm2 t).2 ht,fun t ht=>.base ((hm2 t).1 ht),by have:=ww deps r2; omega⟩;rw [e3];have hl3:=h3.len;obtain ⟨r4,e4,p4,s4⟩:=wt N (by omega) l (by omega);refine ⟨r4,by rw [lL,e4]; rfl,fun t=>p4.mem_iff.trans ⟨h3.re t,fun h=>?_⟩,?_,by rw [p4.length_eq]; omega⟩
 ·induction h with
  | base h=>exact h3.sub _ h
  | step hd _ ih=>exact c3 _ hd ih
 ·have hnd:r4.Nodup:=p4.nodup_iff.2 h3.nd;exact (s4.and hnd).imp fun {a b} h=>Int.lt_iff_le_and_ne.2 h
end Go.Proofs.YtekgpnhfhkhpaaaGreat

namespace Go.Proofs.YtekgpnhfhkhpaaaGreat
open Go Go.Proofs Go.Abs
def DistA (l:List ag):Prop:=l.Pairwise fun x y=>x.actor≠y.actor
theorem qG {a:Int}:∀ {l:List ag},(∀ y∈l,y.actor≠a)->onL l a=[]
 | [],_=>rfl
 | y::l,h=>by rw [onL,if_neg (h y (by simp)),qG fun z hz=>h z (by simp [hz])]
theorem oT {a:Int}:∀ {l:List ag} {x:ag},DistA l->x∈l->x.actor=a->onL l a=x.txns
 | y::l,x,hd,hx,ha=>by
  rw [onL];have hd:=List.pairwise_cons.1 hd;rcases List.mem_cons.1 hx with rfl|hx
  ·rw [if_pos ha]
  ·rw [if_neg (fun q=>hd.1 x hx (q.trans ha.symm)),oT hd.2 hx ha]
theorem mC (l:List ag) (a:Int):(onL l a=[]/\∀ y∈l,y.actor≠a)∨∃ x∈l,x.actor=a/\onL l a=x.txns:=by
 induction l with
 | nil=>exact .inl ⟨rfl,by simp⟩
 | cons y l ih=>
  rw [onL];by_cases h:y.actor=a
  ·exact .inr ⟨y,by simp,h,by rw [if_pos h]⟩
  ·rw [if_neg h];rcases ih with ⟨h1,h2⟩|⟨x,h1,h2,h3⟩
   ·refine .inl ⟨h1,fun z hz=>?_⟩;rcases List.mem_cons.1 hz with rfl|hz
    ·exact h
    ·exact h2 z hz
   ·exact .inr ⟨x,by simp [h1],h2,h3⟩
def withA (l:List ag) (a:Int):List ag:=if ∃ x∈l,x.actor=a then l else l++[⟨a,[]⟩]
def pushX (a t:Int) (x:ag):ag:=if x.actor=a then ⟨x.actor,x.txns++[t]⟩ else x
def pushS (l:List ag) (a t:Int):List ag:=l.map (pushX a t)
def execS (s:af) (e:ah):af:=
 if e.Txn∈onL s.stacks e.Actor then s else
 {s with stacks:=pushS (withA s.stacks e.Actor) e.Actor e.Txn,deps:=match (onL s.stacks e.Actor).getLast? with|none=>s.deps|some y=>s.deps++[⟨e.Txn,y⟩] }
theorem AW {a t:Int} {l:List ag} {i:Nat} {x:ag} (h:l[i]?=some x) (hx:x.actor=a) (hd:DistA l):l.set i ⟨x.actor,x.txns++[t]⟩=pushS l a t:=by
 apply List.ext_getElem?;intro j;have hil:=(List.getElem?_eq_some_iff.1 h).1;unfold pushS;rw [List.getElem?_map,List.getElem?_set];split
 ·rename_i e;subst e;rw [h];simp [pushX,hx]
 ·rename_i e;cases hj:l[j]? with
  | none=>rfl
  | some y=>
   have hjl:=(List.getElem?_eq_some_iff.1 hj).1;have:y.actor≠a:=by
    intro q;have hp:=List.pairwise_iff_getElem.1 hd;rw [List.getElem?_eq_getElem hil,Option.some.injEq] at h;rw [List.getElem?_eq_getElem hjl,Option.some.injEq] at hj;rcases Nat.lt_or_gt_of_ne e with q1|q1
    ·have:=hp i j hil hjl q1; rw [h,hj,hx,q] at this; exact this rfl
    ·have:=hp j i hjl hil q1; rw [h,hj,hx,q] at this; exact this rfl
   simp [pushX,this]
theorem F2 (N:Nat) (s:af) (e:ah) (hd:DistA s.stacks) (hs:s.stacks.length<=100000) (hl:∀ x∈s.stacks,x.txns.length<=100000) (hdp:s.deps.length<=100000):iu N s e=some (execS s e):=by
 unfold iu;have hf:bA N s.stacks e.Kind e.Txn e.Actor=some (findP (fun x=>decide (x.actor=e.Actor)) s.stacks 0):=
  oE (L:=bn N e.Kind e.Txn e.Actor) (fun x=>iO N x e.Kind e.Txn e.Actor) _ (fun _=>rfl) (fun _ _ _=>rfl) _ 0 (fun _ _=>rfl)
 rw [hf,Option.bind_some];have key:∀ (l:List ag) (i:Nat) (x:ag),l[i]?=some x->x.actor=e.Actor->DistA l->onL s.stacks e.Actor=x.txns->x.txns.length<=100000->(e.Txn∈x.txns->l=s.stacks)->l=withA s.stacks e.Actor ->
   ig N e s l (i:Int)=some (execS s e):=by
  intro l i x h1 h2 h3 h4 h5 h6 h7;unfold ig;rw [gx_nat h1,fP,Option.bind_some];unfold execS;rw [h4];by_cases hm:e.Txn∈x.txns
  ·rw [if_pos (by simpa using hm),if_pos hm,h6 hm]
  ·rw [if_neg (by simpa using hm),if_neg hm];have j1:∀ dp,ic x e l (i:Int) s dp=some { s with stacks:=pushS (withA s.stacks e.Actor) e.Actor e.Txn,deps:=dp }:=by
    intro dp;unfold ic;rw [apx_of (by simp only [List.length_cons,List.length_nil]; omega),gx_nat h1,Int.toNat_natCast,AW h1 h2 h3,h7]
   by_cases h0:x.txns.length=0
   ·rw [if_neg (by omega),j1,List.eq_nil_of_length_eq_zero h0];rfl
   ·rw [if_pos (by omega),w64 (by omega) (by omega),show ((x.txns.length:Int) - 1)=((x.txns.length - 1:Nat):Int) by omega];have hx:x.txns[x.txns.length - 1]?=some (x.txns[x.txns.length - 1]'(by omega)):=List.getElem?_eq_getElem (by omega);rw [gx_nat hx,apx_of (by simp only [List.length_cons,List.length_nil]; omega),j1,List.getLast?_eq_getElem?,hx]
 rcases jI (fun x=>decide (x.actor=e.Actor)) s.stacks 0 with ⟨e1,e2⟩|⟨i,x,e1,e2,e3,e4⟩
 ·have hno:∀ y∈s.stacks,y.actor≠e.Actor:=fun y hy=>by simpa using e2 y hy
  have hw:withA s.stacks e.Actor=s.stacks++[⟨e.Actor,[]⟩]:=by
   unfold withA;rw [if_neg (by rintro ⟨y,h1,h2⟩; exact hno y h1 h2)]
  rw [e1,if_pos (by omega),apx_of (by simp only [List.length_cons,List.length_nil]; omega)];refine key _ s.stacks.length ⟨e.Actor,[]⟩ (by simp) rfl ?_ (qG hno) (by simp) (by simp) hw.symm;unfold DistA;rw [List.pairwise_append];exact ⟨hd,by simp,fun y hy z hz=>by rw [List.mem_singleton.1 hz]; exact hno y hy⟩
 ·have ha:x.actor=e.Actor:=by simpa using e2
  rw [e4,if_neg (by omega),Nat.zero_add];have hxm:=List.mem_of_getElem? e1;refine key _ i x e1 ha hd (oT hd hxm ha) (hl x hxm) (fun _=>rfl) ?_;unfold withA;rw [if_pos ⟨x,hxm,ha⟩]
def knw (s:af) (t:Int):List Int:=if t∈s.known then s.known else s.known++[t]
inductive Step (s:af) (e:ah):af->Prop
 | exec:e.Kind=1->Step s e (execS { s with known:=knw s e.Txn } e)
 | prep:e.Kind=2->Step s e { s with known:=knw s e.Txn,prepared:=s.prepared++[⟨e.Txn,e.Actor⟩] }
 | com:e.Kind=3->Step s e { s with known:=knw s e.Txn,committed:=s.committed++[e.Txn],stacks:=rmS [e.Txn] s.stacks }
 | abt (gone:List Int):e.Kind=4->(∀ t,t∈gone↔Reach s.deps [e.Txn] t/\¬ Ended s t)->gone.length<=1001->gone.Pairwise (· < ·) ->
  Step s e { s with known:=knw s e.Txn,aborted:=s.aborted++gone,stacks:=rmS gone s.stacks }
structure Sz (s:af) (n:Nat):Prop where
 kn:s.known.length<=n
 pr:s.prepared.length<=n
 co:s.committed.length<=n
 de:s.deps.length<=n
 ab:s.aborted.length<=n * 1001
 st:s.stacks.length<=n
 tx:∀ x∈s.stacks,x.txns.length<=n
theorem Cz (s:af) (t:Int):(knw s t).length<=s.known.length+1:=by
 unfold knw; split<;>simp
theorem D9 (l:List ag) (a:Int):(withA l a).length<=l.length+1:=by
 unfold withA; split<;>simp
theorem Ae {l:List ag} {a:Int} {x:ag} (h:x∈withA l a):x∈l∨(x=⟨a,[]⟩/\∀ y∈l,y.actor≠a):=by
 unfold withA at h;split at h
 ·exact .inl h
 ·rename_i hn;rcases List.mem_append.1 h with h|h
  ·exact .inl h
  ·exact .inr ⟨List.mem_singleton.1 h,fun y hy e=>hn ⟨y,hy,e⟩⟩
theorem ab1 {a b n:Nat} (h:a<=n * 1001) (hb:b<=1001):a+b<=(n+1) * 1001:=by
 rw [Nat.succ_mul];exact Nat.add_le_add h hb
theorem ab0 {a n:Nat} (h:a<=n * 1001):a<=(n+1) * 1001:=ab1 (b:=0) h (by omega)
theorem Fl {s:af} {e:ah} {n:Nat} (h:Sz s n):Sz (execS s e) (n+1):=by
 obtain ⟨h1,h2,h3,h4,h5,h6,h7⟩:=h;unfold execS;split
 ·exact ⟨by omega,by omega,by omega,by omega,ab0 h5,by omega,fun x hx=>by have:=h7 x hx; omega⟩
 ·refine ⟨Nat.le_succ_of_le h1,Nat.le_succ_of_le h2,Nat.le_succ_of_le h3,?_,ab0 h5,?_,fun x hx=>?_⟩
  ·show (match (onL s.stacks e.Actor).getLast? with|none=>s.deps|some y=>s.deps++[ae.mk e.Txn y]).length<=n+1;split
   ·omega
   ·rw [List.length_append]; simp only [List.length_cons,List.length_nil]; omega
  ·have:=D9 s.stacks e.Actor;simp only [pushS,List.length_map]; omega
  ·simp only [pushS,List.mem_map] at hx;obtain ⟨y,hy,rfl⟩:=hx;have hyl:y.txns.length<=n:=by
    rcases Ae hy with hy|⟨rfl,_⟩
    ·exact h7 y hy
    ·simp
   unfold pushX;split<;>simp<;>omega
theorem iw {k:List Int} {l:List ag} {x:ag}:x∈rmS k l↔∃ y∈l,x=rmX k y:=by
 simp only [rmS,List.mem_map];constructor
 ·rintro ⟨y,h1,h2⟩; exact ⟨y,h1,h2.symm⟩
 ·rintro ⟨y,h1,h2⟩; exact ⟨y,h1,h2.symm⟩
theorem kR (k:List Int) (x:ag):(rmX k x).txns=x.txns.filter fun t=>!decide (t∈k):=rfl
theorem oK {k:List Int} {x:ag} {t:Int}:t∈(rmX k x).txns↔t∈x.txns/\t∉k:=by
 rw [kR,List.mem_filter]; simp
theorem Gm {s s':af} {e:ah} {n:Nat} (h:Sz s n) (hs:Step s e s'):Sz s' (n+1):=by
 have hk:=Cz s e.Txn;cases hs with
 | exec _=>
  have:Sz { s with known:=knw s e.Txn } (n+1)->True:=fun _=>trivial;have h1:=Fl (s:=s) (e:=e) h;have hk':=h.kn;have e1:(execS { s with known:=knw s e.Txn } e).known=knw s e.Txn:=by unfold execS; split<;>rfl
  have e2:(execS { s with known:=knw s e.Txn } e).prepared=(execS s e).prepared:=by unfold execS; split<;>rfl
  have e3:(execS { s with known:=knw s e.Txn } e).committed=(execS s e).committed:=by unfold execS; split<;>rfl
  have e4:(execS { s with known:=knw s e.Txn } e).deps=(execS s e).deps:=by unfold execS; split<;>rfl
  have e5:(execS { s with known:=knw s e.Txn } e).aborted=(execS s e).aborted:=by unfold execS; split<;>rfl
  have e6:(execS { s with known:=knw s e.Txn } e).stacks=(execS s e).stacks:=by unfold execS; split<;>rfl
  exact ⟨by rw [e1]; omega,by rw [e2]; exact h1.pr,by rw [e3]; exact h1.co,by rw [e4]; exact h1.de,by rw [e5]; exact h1.ab,by rw [e6]; exact h1.st,by rw [e6]; exact h1.tx⟩
 | prep _=>
  obtain ⟨h1,h2,h3,h4,h5,h6,h7⟩:=h;exact ⟨by show (knw s e.Txn).length<=_; omega,by show (s.prepared++[_]).length<=_; rw [List.length_append]; simp only [List.length_cons,List.length_nil]; omega,Nat.le_succ_of_le h3,Nat.le_succ_of_le h4,ab0 h5,Nat.le_succ_of_le h6,fun x hx=>by have:=h7 x hx; omega⟩
 | com _=>
  obtain ⟨h1,h2,h3,h4,h5,h6,h7⟩:=h;refine ⟨by show (knw s e.Txn).length<=_; omega,Nat.le_succ_of_le h2,by show (s.committed++[_]).length<=_; rw [List.length_append]; simp only [List.length_cons,List.length_nil]; omega,Nat.le_succ_of_le h4,ab0 h5,by show (rmS _ _).length<=_; unfold rmS; rw [List.length_map]; omega,fun x hx=>?_⟩;obtain ⟨y,hy,rfl⟩:=iw.1 hx;have:=h7 y hy;have:=List.length_filter_le (fun t=>!decide (t∈[e.Txn])) y.txns;rw [kR]; omega
 | abt gone _ _ hg _=>
  obtain ⟨h1,h2,h3,h4,h5,h6,h7⟩:=h;refine ⟨by show (knw s e.Txn).length<=_; omega,Nat.le_succ_of_le h2,Nat.le_succ_of_le h3,Nat.le_succ_of_le h4,by show (s.aborted++gone).length<=_; rw [List.length_append]; exact ab1 h5 hg,by show (rmS _ _).length<=_; unfold rmS; rw [List.length_map]; omega,fun x hx=>?_⟩;obtain ⟨y,hy,rfl⟩:=iw.1 hx;have:=h7 y hy;have:=List.length_filter_le (fun t=>!decide (t∈gone)) y.txns;rw [kR]; omega
theorem zu {s:af} {n:Nat} (h:Sz s n) (a:Int):(onL s.stacks a).length<=n:=by
 rcases mC s.stacks a with ⟨h1,_⟩|⟨x,h1,_,h2⟩
 ·rw [h1]; simp
 ·rw [h2]; exact h.tx x h1
theorem BL (N:Nat) (hN:100002<=N) (s:af) (e:ah) {n:Nat} (h:Sz s n) (hn:n<=1000) (hd:DistA s.stacks) (ha:fu s e):∃ s',dQ N s e=some s'/\Step s e s':=by
 obtain ⟨h1,h2,h3,h4,h5,h6,h7⟩:=h;have hk:=Cz s e.Txn;unfold dQ;rw [fP,Option.bind_some];have hJ:∃ s',gB e N s (knw s e.Txn)=some s'/\Step s e s':=by
  unfold gB;by_cases k1:e.Kind=1
  ·rw [if_pos k1];have:=F2 N { s with known:=knw s e.Txn } e hd (by simp only; omega) (fun x hx=>by have:=h7 x hx; omega) (by simp only; omega);rw [this];exact ⟨_,rfl,.exec k1⟩
  rw [if_neg k1];by_cases k2:e.Kind=2
  ·rw [if_pos k2,apx_of (by simp only [List.length_cons,List.length_nil]; omega)];exact ⟨_,rfl,.prep k2⟩
  rw [if_neg k2];by_cases k3:e.Kind=3
  ·rw [if_pos k3,apx_of (by simp only [List.length_cons,List.length_nil]; omega),qR N _ _ (fun x hx=>by have:=h7 x hx; omega)];exact ⟨_,rfl,.com k3⟩
  rw [if_neg k3];by_cases k4:e.Kind=4
  ·obtain ⟨r,e1,e2,e3,e4⟩:=rN N s.deps [e.Txn] (by simp only [List.length_cons,List.length_nil]; omega) hN;simp only [List.length_cons,List.length_nil] at e4;have hf:=List.length_filter_le (fun x=>!decide (Ended s x)) r;rw [if_pos k4,e1,Option.bind_some];have:=wV N r { s with known:=knw s e.Txn } (by omega) (by omega);simp only at this;rw [this,Option.bind_some];have hends:∀ x,Ended { s with known:=knw s e.Txn } x↔Ended s x:=fun x=>Iff.rfl;have hff:(r.filter fun x=>!decide (Ended { s with known:=knw s e.Txn } x))=r.filter fun x=>!decide (Ended s x):=rfl;rw [hff,apx_of (by omega),qR N _ _ (fun x hx=>by have:=h7 x hx; omega)];refine ⟨_,rfl,.abt _ k4 (fun t=>?_) (by omega) (e3.filter _)⟩;rw [List.mem_filter,e2];simp
  ·exfalso;rcases ha.ok with q|q|q|q
   ·exact k1 q.1
   ·exact k2 q.1
   ·exact k3 q.1
   ·exact k4 q.1
 by_cases hm:e.Txn∈s.known
 ·rw [if_pos (by simpa using hm)];have:knw s e.Txn=s.known:=by unfold knw; rw [if_pos hm]
  rw [this] at hJ;exact hJ
 ·rw [if_neg (by simpa using hm),apx_of (by simp only [List.length_cons,List.length_nil]; omega)];have:knw s e.Txn=s.known++[e.Txn]:=by unfold knw; rw [if_neg hm]
  rw [this] at hJ;exact hJ
def V (N:Nat) (h:List ah) (s:af):Prop:=dD N h=some (s,-1)
theorem zv (N:Nat) (ys:List ah):∀ (xs:List ah) (v:Nat) (s:af),d9 N (xs++ys) v (s.stacks,s.prepared,s.known,s.committed,s.aborted,s.deps) =
  (d9 N xs v (s.stacks,s.prepared,s.known,s.committed,s.aborted,s.deps)).bind fun r=>if r.2=-1 then d9 N ys (v+xs.length) (r.1.stacks,r.1.prepared,r.1.known,r.1.committed,r.1.aborted,r.1.deps) else some r
 | [],v,s=>by simp [d9]
 | x::xs,v,s=>by
  rw [List.cons_append,d9,d9];cases dB N s x with
  | none=>rfl
  | some b=>
   rw [Option.bind_some,Option.bind_some];cases b with
   | false=>
    simp only [Bool.false_eq_true,if_false,Option.bind_some];rw [if_neg (by omega)]
   | true=>
    simp only [if_true];cases dQ N s x with
    | none=>rfl
    | some s1=>
     rw [Option.bind_some,Option.bind_some,zv N ys xs (v+1) s1,show v+1+xs.length=v+(x::xs).length by simp; omega]
theorem uJ {N:Nat} {h:List ah} {s:af} (hv:V N h s) (e:ah):dD N (h++[e])=(dB N s e).bind fun b=>if b=true then (dQ N s e).bind fun s'=>some (s',-1) else some (s,(h.length:Int)):=by
 have:=zv N [e] h 0 ⟨[],[],[],[],[],[]⟩;unfold dD;simp only at this;rw [this];unfold V dD at hv;rw [hv,Option.bind_some,if_pos rfl,d9,Nat.zero_add];rfl
inductive Chain (N:Nat):List ah->af->Prop
 | nil:Chain N [] ⟨[],[],[],[],[],[]⟩
 | snoc {h:List ah} {s s':af} {e:ah}:Chain N h s->fu s e->Step s e s'->V N (h++[e]) s'->Chain N (h++[e]) s'
theorem Chain.v {N:Nat} {h:List ah} {s:af} (c:Chain N h s):V N h s:=by
 cases c with
 | nil=>rfl
 | snoc _ _ _ h=>exact h
theorem Chain.sz {N:Nat} {h:List ah} {s:af} (c:Chain N h s):Sz s h.length:=by
 induction c with
 | nil=>exact ⟨by simp,by simp,by simp,by simp,by simp,by simp,by simp⟩
 | snoc _ _ hs _ ih=>
  rw [List.length_append];exact Gm ih hs
theorem zz {k:List Int} {l:List ag} (h:DistA l):DistA (rmS k l):=List.pairwise_map.2 h
theorem uV {l:List ag} {a:Int} (h:DistA l):DistA (withA l a):=by
 unfold withA;split
 ·exact h
 ·rename_i hn;unfold DistA;rw [List.pairwise_append];exact ⟨h,by simp,fun y hy z hz=>by rw [List.mem_singleton.1 hz]; exact fun q=>hn ⟨y,hy,q⟩⟩
theorem w5 (a t:Int) (x:ag):(pushX a t x).actor=x.actor:=by unfold pushX; split<;>rfl
theorem Ap {l:List ag} {a t:Int} (h:DistA l):DistA (pushS l a t):=by
 refine List.pairwise_map.2 (h.imp fun {x y} q=>?_);rw [w5,w5];exact q
theorem Es {s s':af} {e:ah} (h:DistA s.stacks) (hs:Step s e s'):DistA s'.stacks:=by
 cases hs with
 | exec _=>
  unfold execS;split
  ·exact h
  ·exact Ap (uV h)
 | prep _=>exact h
 | com _=>exact zz h
 | abt _ _ _ _ _=>exact zz h
theorem Chain.dist {N:Nat} {h:List ah} {s:af} (c:Chain N h s):DistA s.stacks:=by
 induction c with
 | nil=>exact List.Pairwise.nil
 | snoc _ _ hs _ ih=>exact Es ih hs
theorem Chain.add {N:Nat} (hN:100002<=N) {h:List ah} {s:af} (c:Chain N h s) (hl:h.length<=1000) {e:ah} (ha:fu s e):∃ s',Chain N (h++[e]) s'/\Step s e s':=by
 obtain ⟨s',e1,e2⟩:=BL N hN s e c.sz hl c.dist ha;obtain ⟨b,e3,e4⟩:=va N s e (by have:=zu c.sz e.Actor; omega);rw [e4.2 ha] at e3;have hv:V N (h++[e]) s':=by unfold V; rw [uJ c.v,e3,Option.bind_some,if_pos rfl,e1]; rfl
 exact ⟨s',.snoc c ha e2 hv,e2⟩
theorem yl {N:Nat} {h:List ah} {s:af} (c:V N h s):eb N h=some (0,true):=by
 unfold eb;unfold V at c;rw [c,Option.bind_some,if_neg (by simp)]
theorem Dr {N:Nat} (hN:100002<=N) {h:List ah} {s:af} (c:Chain N h s) (hl:h.length<=1000) (e:ah):(fu s e/\eb N (h++[e])=some (0,true))∨(¬ fu s e/\∃ k,eb N (h++[e])=some (k,false)):=by
 obtain ⟨b,e3,e4⟩:=va N s e (by have:=zu c.sz e.Actor; omega);by_cases ha:fu s e
 ·obtain ⟨s',c',_⟩:=c.add hN hl ha;exact .inl ⟨ha,yl c'.v⟩
 ·refine .inr ⟨ha,h.length,?_⟩;have:b=false:=by cases b with
   | false=>rfl
   | true=>exact absurd (e4.1 rfl) ha
  unfold eb;rw [uJ c.v,e3,this,Option.bind_some];simp only [Bool.false_eq_true,if_false,Option.bind_some];rw [if_pos (by omega)]
end Go.Proofs.YtekgpnhfhkhpaaaGreat

namespace Go.Proofs.YtekgpnhfhkhpaaaGreat
open Go Go.Proofs Go.Abs
theorem wB {u v:Int}:∀ {l:List Int},u∈l->v∈l->u≠v->[u,v].Sublist l∨[v,u].Sublist l
 | x::l,hu,hv,hn=>by
  rcases List.mem_cons.1 hu with e1|hu'
  ·rcases List.mem_cons.1 hv with e2|hv'
   ·exact absurd (e1.trans e2.symm) hn
   ·rw [e1]; exact .inl (.cons_cons _ (List.singleton_sublist.2 hv'))
  ·rcases List.mem_cons.1 hv with e2|hv'
   ·rw [e2]; exact .inr (.cons_cons _ (List.singleton_sublist.2 hu'))
   ·exact (wB hu' hv' hn).imp (.cons _) (.cons _)
theorem yA {R:Int->Int->Prop} {l:List Int} (h:l.Pairwise R) {u v:Int} (hs:[u,v].Sublist l):R u v:=by
 have:=h.sublist hs;simpa using this
theorem BP {u v:Int} {l:List Int} (h:u∈l):[u,v].Sublist (l++[v]):=by
 have:=(List.singleton_sublist.2 h).append (List.Sublist.refl [v]);simpa using this
theorem uP {u v:Int} {l:List Int} {p:Int->Bool} (h:[u,v].Sublist l) (hu:p u=true) (hv:p v=true):[u,v].Sublist (l.filter p):=by
 have:=h.filter p;simpa [hu,hv] using this
def bIdx (s:af) (t:Int):Nat:=s.prepared.findIdx fun p=>decide (p.e0=t)
theorem Gi (s:af) (t:Int):bIdx s t<=s.prepared.length:=List.findIdx_le_length
theorem FT {s:af} {t:Int} (h:Begun s t):bIdx s t < s.prepared.length:=by
 obtain ⟨p,hp,e⟩:=h;exact List.findIdx_lt_length_of_exists ⟨p,hp,by simpa using e⟩
theorem FR {s:af} {t:Int} (h:¬ Begun s t):bIdx s t=s.prepared.length:=by
 refine List.findIdx_eq_length_of_false fun p hp=>?_;have:¬ p.e0=t:=fun e=>h ⟨p,hp,e⟩;simpa using this
theorem Has.begun {s:af} {t a:Int} (h:Has s t a):Begun s t:=⟨_,h,rfl⟩
theorem AM {s s':af} {p:ae} (hp:s'.prepared=s.prepared++[p]) {u v:Int} (h:bIdx s u < bIdx s v):bIdx s' u < bIdx s' v:=by
 have hv:=Gi s v;unfold bIdx at *;rw [hp,List.findIdx_append,List.findIdx_append,if_pos (by omega)];split<;>omega
theorem Has.app {s s':af} {p:ae} (hp:s'.prepared=s.prepared++[p]) {t a:Int} (h:Has s t a):Has s' t a:=by
 unfold Has at *; rw [hp]; simp [h]
def J (s:af) (a u v:Int):Prop:=u=v∨u∈s.aborted∨v∈s.aborted∨s.committed.idxOf u < s.committed.idxOf v ∨
 (¬ Ended s u/\¬ Ended s v/\∃ x∈s.stacks,x.actor=a/\[u,v].Sublist x.txns)
structure KI (h:List ah) (s:af):Prop where
 dist:DistA s.stacks
 un:∀ x∈s.stacks,∀ t∈x.txns,¬ Ended s t
 kn:∀ x∈s.stacks,∀ t∈x.txns,t∈s.known
 knd:s.known.Nodup
 bt:∀ t∈s.known,Btw t
 dk:∀ d∈s.deps,d.e0∈s.known
 ord:∀ x∈s.stacks,x.txns.Pairwise fun u v=>Has s u x.actor/\bIdx s u < bIdx s v
 dord:∀ d∈s.deps,bIdx s d.e1 < bIdx s d.e0
 dst:∀ d∈s.deps,¬ Ended s d.e0->¬ Ended s d.e1->∃ x∈s.stacks,[d.e1,d.e0].Sublist x.txns
 dco:∀ d∈s.deps,d.e0∈s.committed->d.e1∈s.committed
 dab:∀ d∈s.deps,d.e1∈s.aborted->d.e0∈s.aborted
 dis:∀ t∈s.committed,t∉s.aborted
 hk:∀ e∈h,e.Txn∈s.known
 xs:∀ e∈h,e.Kind=1->Ended s e.Txn∨∃ x∈s.stacks,x.actor=e.Actor/\e.Txn∈x.txns
 ser:h.Pairwise fun e1 e2=>e1.Kind=1->e2.Kind=1->e1.Actor=e2.Actor->J s e1.Actor e1.Txn e2.Txn
theorem eN {s:af} {t u:Int}:u∈knw s t↔u∈s.known∨u=t:=by
 unfold knw;split
 ·rename_i h;exact ⟨.inl,fun q=>q.elim id fun e=>e ▸ h⟩
 ·simp
theorem sR {s:af} {t:Int} (h:s.known.Nodup):(knw s t).Nodup:=by
 unfold knw;split
 ·exact h
 ·rename_i hn;rw [List.nodup_append];exact ⟨h,by simp,fun a ha b hb e=>hn (by rw [List.mem_singleton.1 hb] at e; exact e ▸ ha)⟩
theorem zi {l:List Int} {t:Int} (h:t∉l):l.idxOf t=l.length:=List.idxOf_eq_length h
theorem yH {l:List Int} {t:Int} (h:t∈l):l.idxOf t < l.length:=List.idxOf_lt_length_of_mem h
theorem ou {s:af} {x:ag} (h:x.txns.Pairwise fun u v=>Has s u x.actor/\bIdx s u < bIdx s v):x.txns.Nodup:=h.imp fun {a b} q e=>by rw [e] at q; omega
theorem low_no {l:List Int} {u t:Int} (hn:l.Nodup) (hs:[u,t].Sublist l) (hh:l.head?=some t):False:=by
 cases l with
 | nil=>simp at hh
 | cons x l=>
  simp only [List.head?_cons,Option.some.injEq] at hh;subst hh;have hn:=List.nodup_cons.1 hn;cases hs with
  | cons _ h=>exact hn.1 (h.subset (by simp))
  | cons_cons _ h=>exact hn.1 (h.subset (by simp))
theorem KI.rm {h:List ah} {s s':af} {e:ah} (q:KI h s) (k:List Int) (hb:Btw e.Txn) (hst:s'.stacks=rmS k s.stacks) (hpr:s'.prepared=s.prepared) (hde:s'.deps=s.deps) (hkn:s'.known=knw s e.Txn)
  (hen:∀ u,Ended s' u↔Ended s u∨u∈k) (hdco:∀ d∈s.deps,d.e0∈s'.committed->d.e1∈s'.committed) (hdab:∀ d∈s.deps,d.e1∈s'.aborted->d.e0∈s'.aborted) (hdis:∀ t∈s'.committed,t∉s'.aborted)
  (hJ:∀ a u v,J s a u v->J s' a u v) (hk1:¬ e.Kind=1):KI (h++[e]) s':=by
 have hbi:∀ u,bIdx s' u=bIdx s u:=fun u=>by unfold bIdx; rw [hpr]
 have hhas:∀ u a,Has s' u a↔Has s u a:=fun u a=>by unfold Has; rw [hpr]
 have hmem:∀ {x},x∈s'.stacks->∃ y∈s.stacks,x=rmX k y:=fun hx=>iw.1 (hst ▸ hx);refine ⟨hst ▸ zz q.dist,?_,?_,hkn ▸ sR q.knd,?_,?_,?_,?_,?_,hde ▸ hdco,hde ▸ hdab,hdis,?_,?_,?_⟩
 ·intro x hx t ht he;obtain ⟨y,hy,rfl⟩:=hmem hx;obtain ⟨h1,h2⟩:=oK.1 ht;rcases (hen t).1 he with he|he
  ·exact q.un y hy t h1 he
  ·exact h2 he
 ·intro x hx t ht;obtain ⟨y,hy,rfl⟩:=hmem hx;rw [hkn,eN];exact .inl (q.kn y hy t (oK.1 ht).1)
 ·intro t ht;rw [hkn,eN] at ht;rcases ht with ht|rfl
  ·exact q.bt t ht
  ·exact hb
 ·intro d hd;rw [hkn,eN];exact .inl (q.dk d (hde ▸ hd))
 ·intro x hx;obtain ⟨y,hy,rfl⟩:=hmem hx;rw [kR];exact ((q.ord y hy).filter _).imp fun {a b} w=>by rw [hhas,hbi,hbi]; exact w
 ·intro d hd;rw [hbi,hbi];exact q.dord d (hde ▸ hd)
 ·intro d hd h0 h1;rw [hen] at h0 h1;obtain ⟨x,hx,hsb⟩:=q.dst d (hde ▸ hd) (fun w=>h0 (.inl w)) (fun w=>h1 (.inl w));refine ⟨rmX k x,by rw [hst]; exact iw.2 ⟨x,hx,rfl⟩,?_⟩;rw [kR];have g0:d.e0∉k:=fun w=>h0 (.inr w);have g1:d.e1∉k:=fun w=>h1 (.inr w);exact uP hsb (by simpa using g1) (by simpa using g0)
 ·intro f hf;rw [hkn,eN];rcases List.mem_append.1 hf with hf|hf
  ·exact .inl (q.hk f hf)
  ·exact .inr (by rw [List.mem_singleton.1 hf])
 ·intro f hf hf1;rcases List.mem_append.1 hf with hf|hf
  ·rcases q.xs f hf hf1 with w|⟨x,hx,ha,ht⟩
   ·exact .inl ((hen _).2 (.inl w))
   ·by_cases hm:f.Txn∈k
    ·exact .inl ((hen _).2 (.inr hm))
    ·exact .inr ⟨rmX k x,by rw [hst]; exact iw.2 ⟨x,hx,rfl⟩,ha,oK.2 ⟨ht,hm⟩⟩
  ·rw [List.mem_singleton.1 hf] at hf1; exact absurd hf1 hk1
 ·rw [List.pairwise_append];refine ⟨q.ser.imp fun {a b} w h1 h2 h3=>hJ _ _ _ (w h1 h2 h3),by simp,fun f hf g hg h1 h2=>?_⟩;rw [List.mem_singleton.1 hg] at h2; exact absurd h2 hk1
theorem uX {l:List ag} {a t:Int} (hd:DistA l) {x:ag} (h:x∈pushS (withA l a) a t):(x∈l/\x.actor≠a)∨x=⟨a,onL l a++[t]⟩:=by
 obtain ⟨y,hy,rfl⟩:=List.mem_map.1 h;rcases Ae hy with hy|⟨rfl,hn⟩
 ·by_cases e:y.actor=a
  ·refine .inr ?_;unfold pushX;rw [if_pos e,oT hd hy e,e]
  ·refine .inl ?_;unfold pushX;rw [if_neg e];exact ⟨hy,e⟩
 ·refine .inr ?_;unfold pushX;rw [if_pos rfl,qG hn]
theorem Af {l:List ag} {a t:Int} {x:ag} (h:x∈l) (e:x.actor≠a):x∈pushS (withA l a) a t:=by
 refine List.mem_map.2 ⟨x,?_,by unfold pushX; rw [if_neg e]⟩;unfold withA;split
 ·exact h
 ·simp [h]
theorem qS {l:List ag} (a t:Int) (hd:DistA l):(⟨a,onL l a++[t]⟩:ag)∈pushS (withA l a) a t:=by
 rcases mC l a with ⟨h1,h2⟩|⟨x,h1,h2,h3⟩
 ·rw [h1];refine List.mem_map.2 ⟨⟨a,[]⟩,?_,by unfold pushX; rw [if_pos rfl]⟩;unfold withA;rw [if_neg (by rintro ⟨y,q1,q2⟩; exact h2 y q1 q2)];simp
 ·refine List.mem_map.2 ⟨x,?_,by unfold pushX; rw [if_pos h2,h3,h2]⟩;unfold withA;rw [if_pos ⟨x,h1,h2⟩];exact h1
theorem KI.exec {h:List ah} {s:af} {e:ah} (q:KI h s) (ha:fu s e) (k1:e.Kind=1):KI (h++[e]) (execS { s with known:=knw s e.Txn } e):=by
 have hnb:¬ Begun s e.Txn/\TopOk s e:=by
  rcases ha.ok with w|w|w|w
  ·exact w.2.2
  ·exfalso; have:=w.1; omega
  ·exfalso; have:=w.1; omega
  ·exfalso; have:=w.1; omega
 obtain ⟨hnb,htop⟩:=hnb;have hnc:e.Txn∉s.committed:=fun w=>ha.un (.inl w);have hprev:∀ f∈h,f.Kind=1->f.Actor=e.Actor->f.Txn=e.Txn∨f.Txn∈s.aborted∨s.committed.idxOf f.Txn < s.committed.idxOf e.Txn∨(¬ Ended s f.Txn/\f.Txn∈onL s.stacks e.Actor):=by
  intro f hf hf1 hfa;by_cases he:Ended s f.Txn
  ·rcases he with he|he
   ·refine .inr (.inr (.inl ?_));rw [zi hnc];exact yH he
   ·exact .inr (.inl he)
  ·rcases q.xs f hf hf1 with w|⟨x,hx,hxa,ht⟩
   ·exact absurd w he
   ·exact .inr (.inr (.inr ⟨he,by rw [oT q.dist hx (hxa.trans hfa)]; exact ht⟩))
 by_cases hm:e.Txn∈onL s.stacks e.Actor
 ·have hs':execS { s with known:=knw s e.Txn } e={ s with known:=knw s e.Txn }:=by unfold execS; rw [if_pos hm]
  rw [hs'];obtain ⟨x,hx,hxa,hxo⟩:∃ x∈s.stacks,x.actor=e.Actor/\onL s.stacks e.Actor=x.txns:=by
   rcases mC s.stacks e.Actor with ⟨w,_⟩|w
   ·rw [w] at hm; simp at hm
   ·exact w
  refine ⟨q.dist,q.un,fun x hx t ht=>eN.2 (.inl (q.kn x hx t ht)),sR q.knd,fun t ht=>?_,fun d hd=>eN.2 (.inl (q.dk d hd)),q.ord,q.dord,q.dst,q.dco,q.dab,q.dis,?_,?_,?_⟩
  ·rcases eN.1 ht with ht|rfl
   ·exact q.bt t ht
   ·exact ha.bt
  ·intro f hf;rcases List.mem_append.1 hf with hf|hf
   ·exact eN.2 (.inl (q.hk f hf))
   ·exact eN.2 (.inr (by rw [List.mem_singleton.1 hf]))
  ·intro f hf hf1;rcases List.mem_append.1 hf with hf|hf
   ·exact q.xs f hf hf1
   ·rw [List.mem_singleton.1 hf];exact .inr ⟨x,hx,hxa,by rw [<-hxo]; exact hm⟩
  ·rw [List.pairwise_append];refine ⟨q.ser,by simp,fun f hf g hg h1 h2 h3=>?_⟩;obtain rfl:=List.mem_singleton.1 hg;rcases hprev f hf h1 h3 with w|w|w|⟨w1,w2⟩
   ·exact .inl w
   ·exact .inr (.inl w)
   ·exact .inr (.inr (.inr (.inl w)))
   ·by_cases hfe:f.Txn=g.Txn
    ·exact .inl hfe
    ·refine .inr (.inr (.inr (.inr ⟨w1,ha.un,x,hx,hxa.trans h3.symm,?_⟩)));rw [hxo] at w2 hm;rcases wB w2 hm hfe with w|w
     ·exact w
     ·exact absurd (yA (q.ord x hx) w).1.begun hnb
 ·have hown:∀ u∈onL s.stacks e.Actor,Has s u e.Actor:=by
   intro u hu;obtain ⟨x,hx,hxa,hxo⟩:∃ x∈s.stacks,x.actor=e.Actor/\onL s.stacks e.Actor=x.txns:=by
    rcases mC s.stacks e.Actor with ⟨w,_⟩|w
    ·rw [w] at hu; simp at hu
    ·exact w
   have hne:onL s.stacks e.Actor≠[]:=fun w=>by rw [w] at hu; simp at hu
   have hl:=List.getLast?_eq_some_getLast hne;have hlm:=List.getLast_mem hne;generalize (onL s.stacks e.Actor).getLast hne=y at hl hlm;have hy:Has s y e.Actor:=(htop y hl).resolve_left fun w=>hm (w ▸ hlm);by_cases huy:u=y
   ·rw [huy]; exact hy
   ·rcases wB hu hlm huy with w|w
    ·rw [hxo] at w;have:=(yA (q.ord x hx) w).1
     rwa [hxa] at this
    ·
     exfalso;have hnd:(onL s.stacks e.Actor).Nodup:=by rw [hxo]; exact ou (q.ord x hx)
     obtain ⟨l,hl'⟩:=List.getLast?_eq_some_iff.1 hl;rw [hl'] at w hnd;have hnd:=List.nodup_append.1 hnd;have hul:u∈l:=by
      have:u∈l++[y]:=w.subset (by simp);rcases List.mem_append.1 this with h|h
      ·exact h
      ·exact absurd (List.mem_singleton.1 h) huy
     have:[y,u].Sublist (l++[y]):=w;have hyl:y∈l:=by
      obtain ⟨l1,l2,e1,s1,s2⟩:=List.sublist_append_iff.1 this;cases l1 with
      | nil=>
       simp only [List.nil_append] at e1;rw [<-e1] at s2;have:=s2.length_le;simp at this
      | cons z l1=>
       simp only [List.cons_append,List.cons.injEq] at e1;rw [e1.1];exact s1.subset (by simp)
     exact hnd.2.2 y hyl y (by simp) rfl
  have hs':execS { s with known:=knw s e.Txn } e={ s with known:=knw s e.Txn,stacks:=pushS (withA s.stacks e.Actor) e.Actor e.Txn,deps:=match (onL s.stacks e.Actor).getLast? with|none=>s.deps|some y=>s.deps++[⟨e.Txn,y⟩] }:=by
   unfold execS; rw [if_neg hm]; try rfl
  rw [hs'];have hdeps:∀ d,d∈(match (onL s.stacks e.Actor).getLast? with|none=>s.deps|some y=>s.deps++[(⟨e.Txn,y⟩:ae)])->d∈s.deps∨(d.e0=e.Txn/\d.e1∈onL s.stacks e.Actor):=by
   intro d hd;split at hd
   ·exact .inl hd
   ·rename_i y hy;rcases List.mem_append.1 hd with hd|hd
    ·exact .inl hd
    ·rw [List.mem_singleton.1 hd];exact .inr ⟨rfl,List.mem_of_getLast? hy⟩
  have hbi:∀ u∈onL s.stacks e.Actor,bIdx s u < bIdx s e.Txn:=fun u hu=>by
   rw [FR hnb]; exact FT (hown u hu).begun
  have hkeep:∀ {a u v:Int} {x:ag},x∈s.stacks->x.actor=a->[u,v].Sublist x.txns->∃ x∈pushS (withA s.stacks e.Actor) e.Actor e.Txn,x.actor=a/\[u,v].Sublist x.txns:=by
   intro a u v x hx hxa hsb;by_cases hh:x.actor=e.Actor
   ·refine ⟨_,qS e.Actor e.Txn q.dist,?_,?_⟩
    ·exact hh.symm.trans hxa
    ·rw [oT q.dist hx hh];exact hsb.trans (List.sublist_append_left _ _)
   ·exact ⟨x,Af hx hh,hxa,hsb⟩
  refine ⟨Ap (uV q.dist),?_,?_,sR q.knd,?_,?_,?_,?_,?_,?_,?_,q.dis,?_,?_,?_⟩
  ·intro x hx t ht;rcases uX q.dist hx with ⟨hx,_⟩|rfl
   ·exact q.un x hx t ht
   ·rcases List.mem_append.1 ht with ht|ht
    ·rcases mC s.stacks e.Actor with ⟨w,_⟩|⟨y,hy,_,hyo⟩
     ·rw [w] at ht; simp at ht
     ·exact q.un y hy t (hyo ▸ ht)
    ·rw [List.mem_singleton.1 ht]; exact ha.un
  ·intro x hx t ht;rcases uX q.dist hx with ⟨hx,_⟩|rfl
   ·exact eN.2 (.inl (q.kn x hx t ht))
   ·rcases List.mem_append.1 ht with ht|ht
    ·rcases mC s.stacks e.Actor with ⟨w,_⟩|⟨y,hy,_,hyo⟩
     ·rw [w] at ht; simp at ht
     ·exact eN.2 (.inl (q.kn y hy t (hyo ▸ ht)))
    ·exact eN.2 (.inr (List.mem_singleton.1 ht))
  ·intro t ht;rcases eN.1 ht with ht|rfl
   ·exact q.bt t ht
   ·exact ha.bt
  ·intro d hd;rcases hdeps d hd with hd|⟨hd,_⟩
   ·exact eN.2 (.inl (q.dk d hd))
   ·exact eN.2 (.inr hd)
  ·intro x hx;rcases uX q.dist hx with ⟨hx,_⟩|rfl
   ·exact q.ord x hx
   ·simp only;rw [List.pairwise_append];refine ⟨?_,by simp,fun u hu v hv=>?_⟩
    ·rcases mC s.stacks e.Actor with ⟨w,_⟩|⟨y,hy,hya,hyo⟩
     ·rw [w]; exact List.Pairwise.nil
     ·rw [hyo];have:=q.ord y hy;rw [hya] at this;exact this
    ·rw [List.mem_singleton.1 hv];exact ⟨hown u hu,hbi u hu⟩
  ·intro d hd;rcases hdeps d hd with hd|⟨h0,h1⟩
   ·exact q.dord d hd
   ·have:=hbi _ h1;rw [h0];exact this
  ·intro d hd h0 h1;rcases hdeps d hd with hd|⟨e0,e1⟩
   ·obtain ⟨x,hx,hsb⟩:=q.dst d hd h0 h1;obtain ⟨x',hx',_,hsb'⟩:=hkeep hx rfl hsb;exact ⟨x',hx',hsb'⟩
   ·exact ⟨_,qS e.Actor e.Txn q.dist,by rw [e0]; exact BP e1⟩
  ·intro d hd h0;rcases hdeps d hd with hd|⟨e0,e1⟩
   ·exact q.dco d hd h0
   ·rw [e0] at h0; exact absurd h0 hnc
  ·intro d hd h1;rcases hdeps d hd with hd|⟨e0,e1⟩
   ·exact q.dab d hd h1
   ·exfalso;rcases mC s.stacks e.Actor with ⟨w,_⟩|⟨y,hy,_,hyo⟩
    ·rw [w] at e1; simp at e1
    ·exact q.un y hy _ (hyo ▸ e1) (.inr h1)
  ·intro f hf;rcases List.mem_append.1 hf with hf|hf
   ·exact eN.2 (.inl (q.hk f hf))
   ·exact eN.2 (.inr (by rw [List.mem_singleton.1 hf]))
  ·intro f hf hf1;rcases List.mem_append.1 hf with hf|hf
   ·rcases q.xs f hf hf1 with w|⟨x,hx,hxa,ht⟩
    ·exact .inl w
    ·by_cases hh:x.actor=e.Actor
     ·exact .inr ⟨_,qS e.Actor e.Txn q.dist,hh.symm.trans hxa,by rw [oT q.dist hx hh]; simp [ht]⟩
     ·exact .inr ⟨x,Af hx hh,hxa,ht⟩
   ·rw [List.mem_singleton.1 hf];exact .inr ⟨_,qS e.Actor e.Txn q.dist,rfl,by simp⟩
  ·rw [List.pairwise_append];refine ⟨q.ser.imp fun {f g} w h1 h2 h3=>?_,by simp,fun f hf g hg h1 h2 h3=>?_⟩
   ·rcases w h1 h2 h3 with w|w|w|w|⟨w1,w2,x,hx,hxa,hsb⟩
    ·exact .inl w
    ·exact .inr (.inl w)
    ·exact .inr (.inr (.inl w))
    ·exact .inr (.inr (.inr (.inl w)))
    ·exact .inr (.inr (.inr (.inr ⟨w1,w2,hkeep hx hxa hsb⟩)))
   ·obtain rfl:=List.mem_singleton.1 hg;rcases hprev f hf h1 h3 with w|w|w|⟨w1,w2⟩
    ·exact .inl w
    ·exact .inr (.inl w)
    ·exact .inr (.inr (.inr (.inl w)))
    ·exact .inr (.inr (.inr (.inr ⟨w1,ha.un,_,qS g.Actor g.Txn q.dist,h3.symm,BP w2⟩)))
theorem KI.step {h:List ah} {s s':af} {e:ah} (q:KI h s) (ha:fu s e) (hs:Step s e s'):KI (h++[e]) s':=by
 cases hs with
 | exec k1=>exact q.exec ha k1
 | prep k2=>
  have hn1:¬ e.Kind=1:=by omega
  refine ⟨q.dist,q.un,fun x hx t ht=>eN.2 (.inl (q.kn x hx t ht)),sR q.knd,fun t ht=>?_,fun d hd=>eN.2 (.inl (q.dk d hd)),fun x hx=>(q.ord x hx).imp fun {a b} w=>⟨w.1.app rfl,AM rfl w.2⟩,fun d hd=>AM rfl (q.dord d hd),q.dst,q.dco,q.dab,q.dis,fun f hf=>?_,fun f hf hf1=>?_,?_⟩
  ·rcases eN.1 ht with ht|rfl
   ·exact q.bt t ht
   ·exact ha.bt
  ·rcases List.mem_append.1 hf with hf|hf
   ·exact eN.2 (.inl (q.hk f hf))
   ·exact eN.2 (.inr (by rw [List.mem_singleton.1 hf]))
  ·rcases List.mem_append.1 hf with hf|hf
   ·exact q.xs f hf hf1
   ·rw [List.mem_singleton.1 hf] at hf1; exact absurd hf1 hn1
  ·rw [List.pairwise_append];refine ⟨q.ser,by simp,fun f hf g hg h1 h2=>?_⟩;rw [List.mem_singleton.1 hg] at h2; exact absurd h2 hn1
 | com k3=>
  have hlow:Lowest s e.Txn:=by
   rcases ha.ok with w|w|w|w
   ·exfalso; have:=w.1; omega
   ·exfalso; have:=w.1; omega
   ·exact w.2.2.2
   ·exfalso; have:=w.1; omega
  have hno:∀ x∈s.stacks,∀ u,¬ [u,e.Txn].Sublist x.txns:=fun x hx u w=>low_no (ou (q.ord x hx)) w (hlow x hx (w.subset (by simp)));have hmc:∀ u,u∈s.committed++[e.Txn]↔u∈s.committed∨u=e.Txn:=fun u=>by simp
  refine q.rm [e.Txn] ha.bt rfl rfl rfl rfl (fun u=>?_) (fun d hd h0=>?_) q.dab (fun t ht=>?_) (fun a u v w=>?_) (by omega)
  ·unfold Ended;simp only [hmc,List.mem_singleton];constructor
   ·rintro ((h|h)|h)
    ·exact .inl (.inl h)
    ·exact .inr h
    ·exact .inl (.inr h)
   ·rintro ((h|h)|h)
    ·exact .inl (.inl h)
    ·exact .inr h
    ·exact .inl (.inr h)
  ·simp only [hmc] at h0 ⊢;rcases h0 with h0|h0
   ·exact .inl (q.dco d hd h0)
   ·by_cases hen:Ended s d.e1
    ·rcases hen with w|w
     ·exact .inl w
     ·have:=q.dab d hd w;rw [h0] at this;exact absurd (.inr this) ha.un
    ·obtain ⟨x,hx,hsb⟩:=q.dst d hd (h0 ▸ ha.un) hen;rw [h0] at hsb;exact absurd hsb (hno x hx _)
  ·simp only [hmc] at ht;rcases ht with ht|rfl
   ·exact q.dis t ht
   ·exact fun w=>ha.un (.inr w)
  ·rcases w with w|w|w|w|⟨w1,w2,x,hx,hxa,hsb⟩
   ·exact .inl w
   ·exact .inr (.inl w)
   ·exact .inr (.inr (.inl w))
   ·refine .inr (.inr (.inr (.inl ?_)));have hv:s.committed.idxOf v<=s.committed.length:=List.idxOf_le_length;simp only;rw [List.idxOf_append,List.idxOf_append,if_pos (by exact List.idxOf_lt_length_iff.1 (by omega))];split<;>omega
   ·by_cases huv:u=v
    ·exact .inl huv
    ·have hv:v≠e.Txn:=fun w=>hno x hx u (w ▸ hsb);by_cases hu:u=e.Txn
     ·refine .inr (.inr (.inr (.inl ?_)));have h1:u∉s.committed:=fun w=>w1 (.inl w);have h2:v∉s.committed++[e.Txn]:=fun w=>((hmc v).1 w).elim (fun w=>w2 (.inl w)) hv;simp only;rw [zi h2];have:=yH (l:=s.committed++[e.Txn]) (t:=u) (by simp [hu]);exact this
     ·refine .inr (.inr (.inr (.inr ⟨?_,?_,rmX [e.Txn] x,iw.2 ⟨x,hx,rfl⟩,hxa,?_⟩)))
      ·rintro (w|w)
       ·exact ((hmc u).1 w).elim (fun w=>w1 (.inl w)) hu
       ·exact w1 (.inr w)
      ·rintro (w|w)
       ·exact ((hmc v).1 w).elim (fun w=>w2 (.inl w)) hv
       ·exact w2 (.inr w)
      ·rw [kR];exact uP hsb (by simpa using hu) (by simpa using hv)
 | abt gone k4 hg _ _=>
  have hma:∀ u,u∈s.aborted++gone↔u∈s.aborted∨u∈gone:=fun u=>by simp
  refine q.rm gone ha.bt rfl rfl rfl rfl (fun u=>?_) q.dco (fun d hd h1=>?_) (fun t ht w=>?_) (fun a u v w=>?_) (by omega)
  ·unfold Ended;simp only [hma];exact or_assoc.symm
  ·simp only [hma] at h1 ⊢;rcases h1 with h1|h1
   ·exact .inl (q.dab d hd h1)
   ·obtain ⟨r1,n1⟩:=(hg _).1 h1;by_cases hen:Ended s d.e0
    ·rcases hen with w|w
     ·exact absurd (.inl (q.dco d hd w)) n1
     ·exact .inl w
    ·exact .inr ((hg _).2 ⟨.step hd r1,hen⟩)
  ·rcases (hma t).1 w with w|w
   ·exact q.dis t ht w
   ·exact ((hg t).1 w).2 (.inl ht)
  ·rcases w with w|w|w|w|⟨w1,w2,x,hx,hxa,hsb⟩
   ·exact .inl w
   ·exact .inr (.inl ((hma u).2 (.inl w)))
   ·exact .inr (.inr (.inl ((hma v).2 (.inl w))))
   ·exact .inr (.inr (.inr (.inl w)))
   ·by_cases hu:u∈gone
    ·exact .inr (.inl ((hma u).2 (.inr hu)))
    ·by_cases hv:v∈gone
     ·exact .inr (.inr (.inl ((hma v).2 (.inr hv))))
     ·refine .inr (.inr (.inr (.inr ⟨?_,?_,rmX gone x,iw.2 ⟨x,hx,rfl⟩,hxa,?_⟩)))
      ·rintro (w|w)
       ·exact w1 (.inl w)
       ·exact ((hma u).1 w).elim (fun w=>w1 (.inr w)) hu
      ·rintro (w|w)
       ·exact w2 (.inl w)
       ·exact ((hma v).1 w).elim (fun w=>w2 (.inr w)) hv
      ·rw [kR];exact uP hsb (by simpa using hu) (by simpa using hv)
theorem KI.nil:KI [] ⟨[],[],[],[],[],[]⟩:=
 ⟨List.Pairwise.nil,by simp,by simp,by simp,by simp,by simp,by simp,by simp,by simp,by simp,by simp,by simp,by simp,by simp,List.Pairwise.nil⟩
theorem Chain.ki {N:Nat} {h:List ah} {s:af} (c:Chain N h s):KI h s:=by
 induction c with
 | nil=>exact KI.nil
 | snoc _ ha hs _ ih=>exact ih.step ha hs
end Go.Proofs.YtekgpnhfhkhpaaaGreat

namespace Go.Proofs.YtekgpnhfhkhpaaaGreat
open Go Go.Proofs Go.Abs
def statS (s:af) (t:Int):Int:=if t∈s.aborted then 4 else if t∈s.committed then 3 else if Ready s t then 2 else if t∈s.known then 1 else 0
theorem wg (N:Nat) (s:af) (t:Int):ee N s t=some (statS s t):=by
 unfold ee statS;rw [fP,fP,fP,AX];simp only [Option.bind_some,decide_eq_true_eq];repeat' split
 all_goals rfl
theorem sV {N:Nat} {h:List ah} {s:af} (c:V N h s) (t:Int):d8 N h t=some (statS s t):=by
 unfold d8;unfold V at c;rw [c,Option.bind_some,if_neg (by simp),wg];rfl
theorem BO {N:Nat} {h:List ah} {s:af} (c:V N h s):eW N h=some s.committed:=by
 unfold eW;unfold V at c;rw [c,Option.bind_some,if_neg (by simp)]
theorem CC {N:Nat} (hN:100002<=N) {h:List ah} {s:af} (c:V N h s) (hd:s.deps.length<=100000):∃ r,db N h=some r/\r.Pairwise lp/\∀ z,z∈r↔z∈s.deps:=by
 have small:aB N []=some []:=by
  obtain ⟨n,rfl⟩:∃ n,N=n+1:=⟨N - 1,by omega⟩;obtain ⟨r,hr⟩:=zW (n+1);have h1:aw (n+1) [] 0 0=some []:=by
   simp only [aw,aK];rw [if_neg (by decide)];rfl
  have h2:az (n+1) [] 0 0 r=some []:=by
   simp only [az,bj];rw [if_pos (by decide),h1];rfl
  unfold aB;rw [show IntKind.u64.wrap ((([]:List ae).length:Nat):Int)=IntKind.u64.wrap 0 from rfl,hr,Option.bind_some,show ((([]:List ae).length:Nat):Int)=0 from rfl,h2];rfl
 have hsort:∃ o,aG N s.deps=some o/\o.Perm s.deps/\o.Pairwise leP:=by
  unfold aG;cases hdd:s.deps with
  | nil=>exact ⟨[],by simpa using small,List.Perm.refl _,List.Pairwise.nil⟩
  | cons x xs=>
   simp only [List.isEmpty_cons,Bool.false_eq_true,if_false];exact sortP (E8 N) (by rw [<-hdd]; exact hd)
 obtain ⟨o,e1,p1,s1⟩:=hsort;obtain ⟨r,e2,s2,m2⟩:=CR N hN o s1 (by rw [p1.length_eq]; exact hd);unfold db;unfold V at c;rw [c,Option.bind_some,if_neg (by simp)];simp only [e1,e2,Option.bind_some];exact ⟨r,rfl,s2,fun z=>(m2 z).trans p1.mem_iff⟩
theorem one_of {α:Type} {r:List α} {a:α} (hn:r.Nodup) (h:∀ z,z∈r↔z=a):r=[a]:=by
 match r,hn,h with
 | [],_,h=>exact absurd ((h a).2 rfl) (by simp)
 | [x],_,h=>rw [(h x).1 (by simp)]
 | x::y::r,hn,h=>
  have:=(List.nodup_cons.1 hn).1;rw [(h x).1 (by simp),<-(h y).1 (by simp)] at this;exact absurd (by simp) this
def s3:af:=⟨[⟨1,[1,2]⟩],[⟨1,1⟩],[1,2],[],[],[⟨2,1⟩]⟩
def h3:List ah:=[⟨1,1,1⟩,⟨2,1,1⟩,⟨1,2,1⟩]
theorem v3 (N:Nat):V N h3 s3:=by
 unfold V dD h3 s3;rfl
theorem reach3 {a t:Int} (h:Reach [⟨2,1⟩] [a] t):t=a∨(t=2/\a=1):=by
 induction h with
 | base h=>exact .inl (by simpa using h)
 | step hd _ ih=>
  obtain rfl:=List.mem_singleton.1 hd;rcases ih with h|⟨h,_⟩
  ·exact .inr ⟨rfl,h.symm⟩
  ·cases h
theorem clo2 (N:Nat) (hN:100002<=N):dw N [⟨2,1⟩] [2]=some [2]:=by
 obtain ⟨r,e1,e2,e3,_⟩:=rN N [⟨2,1⟩] [2] (by simp) hN;rw [e1,one_of (a:=2) (e3.imp fun {a b} h=>by omega) fun z=>(e2 z).trans ⟨fun h=>?_,fun h=>.base (by simp [h])⟩];rcases reach3 h with h|⟨h,_⟩<;>exact h
theorem clo1 (N:Nat) (hN:100002<=N):∃ r,dw N [⟨2,1⟩] [1]=some r/\r.length=2:=by
 obtain ⟨r,e1,e2,e3,_⟩:=rN N [⟨2,1⟩] [1] (by simp) hN;have hn:r.Nodup:=e3.imp fun {a b} h=>by omega
 refine ⟨r,e1,Nat.le_antisymm (List.Nodup.length_le_of_subset (l₂:=[1,2]) hn fun z hz=>?_) (List.Nodup.length_le_of_subset (l₁:=[1,2]) (by decide) fun z hz=>?_)⟩
 ·rcases reach3 ((e2 z).1 hz) with h|⟨h,_⟩<;>simp [h]
 ·have h1:Reach [⟨2,1⟩] [1] 1:=.base (by simp);simp only [List.mem_cons,List.not_mem_nil,or_false] at hz;rcases hz with rfl|rfl
  ·exact (e2 _).2 h1
  ·exact (e2 _).2 (.step (d:=⟨2,1⟩) (by simp) h1)
theorem srt1 (N:Nat) (hN:100002<=N):slices_Sort_int N [1]=some [1]:=by
 obtain ⟨r,e1,e2,_⟩:=wt N (by omega) [1] (by simp);rw [e1,List.perm_singleton.1 e2]
theorem out3 (N:Nat) (hN:100002<=N):dz N h3=some ([1],[2]):=by
 have h:=v3 N;unfold V at h;unfold dz;rw [h,Option.bind_some,if_neg (by decide)];have e1:∀ k,ed k N (s3,-1) s3.known 0 []=k [2]:=by intro k; rfl
 simp only [e1];unfold lW;simp only [s3,clo2 N hN,Option.bind_some];have e2:aM N [2] [⟨1,[1,2]⟩] [⟨1,1⟩] [1,2] [] [] [⟨2,1⟩]=some [2]:=rfl;rw [e2,Option.bind_some];have e3:=qR N s3 [2] (fun x hx=>by
  simp only [s3,List.mem_singleton] at hx;subst hx;simp; omega)
 simp only [s3] at e3;rw [e3,Option.bind_some];have e4:∀ k,dI k N [2] ⟨rmS [2] [⟨1,[1,2]⟩],[⟨1,1⟩],[1,2],[],[],[⟨2,1⟩]⟩ [1,2] 0 []=k [1]:=by intro k; rfl
 rw [e4];unfold iB;rw [srt1 N hN,Option.bind_some];obtain ⟨n,rfl⟩:∃ n,N=n+1+1:=⟨N - 2,by omega⟩;rfl
theorem gx0 {α β:Type} {l:List α} {x:α} {k:α->Option β} (h:l[0]?=some x):gx l 0 k=k x:=gx_nat (i:=0) h
theorem EJ (N:Nat) (hN:100002<=N):mT N=some true:=by
 have hv:=v3 N;obtain ⟨r,e1,e2,e3⟩:=CC hN hv (by simp [s3]);have hr:r=[⟨2,1⟩]:=one_of (e2.imp fun {a b} h e=>by rw [e] at h; unfold lp at h; omega) fun z=>(e3 z).trans (by simp [s3]);have e4:=sV hv 1;have e5:=sV hv 2;have e6:eV N h3 1=some [1,2]:=by
  unfold V at hv;unfold eV;rw [hv];rfl
 have e7:=yl hv;have e8:=out3 N hN;obtain ⟨r9,e9,e10⟩:=clo1 N hN;have e11:eW N [⟨1,1,1⟩,⟨2,1,1⟩,⟨1,2,1⟩,⟨3,1,0⟩]=some [1]:=BO (s:=⟨[⟨1,[2]⟩],[⟨1,1⟩],[1,2],[1],[],[⟨2,1⟩]⟩) (by
  have:=uJ hv ⟨3,1,0⟩;have ha:dQ N s3 ⟨3,1,0⟩=some ⟨[⟨1,[2]⟩],[⟨1,1⟩],[1,2],[1],[],[⟨2,1⟩]⟩:=by
   obtain ⟨n,rfl⟩:∃ n,N=n+1+1+1:=⟨N - 3,by omega⟩;rfl
  rw [ha] at this;exact this)
 have e12:d8 N [⟨1,1,1⟩,⟨2,1,1⟩,⟨1,2,1⟩,⟨4,1,0⟩] 2=some 4:=by
  have ha:fu s3 ⟨4,1,0⟩:=⟨by simp [Btw],by simp [Ended,s3],.inr (.inr (.inr ⟨rfl,rfl⟩))⟩;have hsz:Sz s3 3:=⟨by simp [s3],by simp [s3],by simp [s3],by simp [s3],by simp [s3],by simp [s3],fun x hx=>by simp only [s3,List.mem_singleton] at hx; subst hx; simp⟩;obtain ⟨s',f1,f2⟩:=BL N hN s3 ⟨4,1,0⟩ hsz (by omega) (by simp [DistA,s3]) ha;have hv':V N (h3++[⟨4,1,0⟩]) s':=by
   unfold V;rw [uJ hv,f1];rfl
  have:=sV hv' 2;rw [show (h3++[⟨4,1,0⟩]:List ah)=[⟨1,1,1⟩,⟨2,1,1⟩,⟨1,2,1⟩,⟨4,1,0⟩] from rfl] at this;rw [this];have hab:(2:Int)∈s'.aborted:=by
   cases f2 with
   | exec h=>simp at h
   | prep h=>simp at h
   | com h=>simp at h
   | abt gone _ hg _ _=>exact List.mem_append.2 (.inr ((hg 2).2 ⟨.step (d:=⟨2,1⟩) (by simp [s3]) (.base (by simp)),by simp [Ended,s3]⟩))
  unfold statS;rw [if_pos hab]
 rw [hr] at e1;unfold mT;unfold h3 at e1 e4 e5 e6 e7 e8;rw [e1,Option.bind_some,if_pos (by decide),gx0 (x:=(⟨2,1⟩:ae)) rfl,if_pos (by decide),e4,Option.bind_some,if_pos (by decide),e5,Option.bind_some,if_pos (by decide),e6,Option.bind_some];unfold jm;rw [if_neg (by decide)];unfold jp;rw [e8,Option.bind_some,if_pos (by decide),gx0 (x:=(1:Int)) rfl,if_pos rfl,if_pos (by decide),gx0 (x:=(2:Int)) rfl];unfold kF;rw [if_neg (by decide)];unfold kH;rw [e7,Option.bind_some,if_pos rfl,e9,Option.bind_some,e10];unfold oH;rw [if_neg (by decide)];unfold oU;rw [apx_of (by simp),apx_of (by simp)];simp only [List.cons_append,List.nil_append];rw [e11,Option.bind_some,if_pos (by decide),gx0 (x:=(1:Int)) rfl,if_pos rfl,e12];rfl
theorem FK {N:Nat} (hN:100002<=N) {l:List ah} {s:af} (c:Chain N l s) (hl:l.length<=1000) (x:aj) (v:Nat) (rec:List ah->Option (List ah)) (a b:Int) :
  ∃ l' s',gS l x v N rec a b=rec l'/\Chain N l' s'/\l'.length<=l.length+1:=by
 unfold gS;rw [apn_of (by omega),apx_of (by simp only [List.length_cons,List.length_nil]; omega)];generalize (ah.mk a _ b)=e;rcases Dr hN c hl e with ⟨h1,h2⟩|⟨h1,k,h2⟩
 ·obtain ⟨s',c',_⟩:=c.add hN hl h1;exact ⟨l++[e],s',by rw [h2,Option.bind_some,if_pos rfl],c',by simp⟩
 ·exact ⟨l,s,by rw [h2,Option.bind_some,if_neg (by simp)],c,by omega⟩
theorem Gc (k:Int->Int->Option (List ah)) (x:aj) (c:Bool):∃ a b,jy k x c=k a b:=by
 have h1:∀ c,∃ a b,kX k x c=k a b:=by
  intro c;unfold kX;repeat' split
  all_goals exact ⟨_,_,rfl⟩
 unfold jy;split
 ·exact ⟨_,_,rfl⟩
 ·split
  ·exact h1 _
  ·exact h1 _
theorem Cr {N:Nat} (hN:100002<=N):∀ (xs:List aj) (v:Nat) (l:List ah) (s:af),Chain N l s->l.length+xs.length<=1000->∃ h s',eu N xs v l=some h/\Chain N h s'/\h.length<=l.length+xs.length
 | [],v,l,s,c,_=>⟨l,s,rfl,c,by simp⟩
 | x::xs,v,l,s,c,hl=>by
  simp only [List.length_cons] at hl ⊢;have go:∀ b,∃ h s',jy (gS l x v N (eu N xs (v+1))) x b=some h/\Chain N h s'/\h.length<=l.length+(xs.length+1):=by
   intro b;obtain ⟨a,b',e1⟩:=Gc (gS l x v N (eu N xs (v+1))) x b;obtain ⟨l',s',e2,c',h'⟩:=FK hN c (by omega) x v (eu N xs (v+1)) a b';obtain ⟨h,s'',e3,c'',h''⟩:=Cr hN xs (v+1) l' s' c' (by omega);exact ⟨h,s'',by rw [e1,e2,e3],c'',by omega⟩
  rw [eu];split
  ·exact go _
  ·exact go _
theorem C7 {N:Nat} (hN:100002<=N) (l:List aj) (hl:l.length<=1000):∃ h s,lB N l=some h/\Chain N h s/\h.length<=l.length:=by
 obtain ⟨h,s,e1,c,e2⟩:=Cr hN l 0 [] _ .nil (by simpa using hl);exact ⟨h,s,e1,c,by simpa using e2⟩
end Go.Proofs.YtekgpnhfhkhpaaaGreat

namespace Go.Proofs.YtekgpnhfhkhpaaaGreat
open Go Go.Proofs Go.Abs
theorem out_L1 (N:Nat) (s:af) (k:List Int->Option (List Int × List Int)):∀ (xs:List Int) (v:Nat) (acc:List Int),acc.length+xs.length<=100000->ed k N (s,-1) xs v acc=k (acc++xs.filter fun t=>decide (statS s t=1))
 | [],v,acc,_=>by simp [ed]
 | x::xs,v,acc,h=>by
  simp only [List.length_cons] at h;rw [ed];simp only [wg,Option.bind_some];by_cases e:statS s x=1
  ·rw [if_pos e,apx_of (by simp only [List.length_cons,List.length_nil]; omega),out_L1 N s k xs _ _ (by simp; omega),List.filter_cons_of_pos (by simpa using e)];simp
  ·rw [if_neg e,out_L1 N s k xs _ _ (by omega),List.filter_cons_of_neg (by simpa using e)]
theorem out_L2 (N:Nat) (s:af) (ab:List Int) (k:List Int->Option (List Int × List Int)):∀ (xs:List Int) (v:Nat) (acc:List Int),acc.length+xs.length<=100000->dI k N ab s xs v acc=k (acc++xs.filter fun t=>decide (t∉ab/\statS s t=2))
 | [],v,acc,_=>by simp [dI]
 | x::xs,v,acc,h=>by
  simp only [List.length_cons] at h;rw [dI];simp only [wg,fP,Option.bind_some];unfold lG;by_cases e1:x∈ab
  ·rw [if_pos (by simpa using e1),if_neg (by simp),out_L2 N s ab k xs _ _ (by omega),List.filter_cons_of_neg (by simp [e1])]
  ·rw [if_neg (by simpa using e1)];by_cases e2:statS s x=2
   ·rw [if_pos (by simpa using e2),apx_of (by simp only [List.length_cons,List.length_nil]; omega),out_L2 N s ab k xs _ _ (by simp; omega),List.filter_cons_of_pos (by simp [e1,e2])];simp
   ·rw [if_neg (by simpa using e2),out_L2 N s ab k xs _ _ (by omega),List.filter_cons_of_neg (by simp [e2])]
theorem yz (k k':List Int) (l:List ag):rmS k' (rmS k l)=rmS (k++k') l:=by
 unfold rmS;rw [List.map_map];refine List.map_congr_left fun x _=>?_;unfold rmX;simp only [Function.comp]
 congr 1
 rw [List.filter_filter];refine List.filter_congr fun t _=>?_;by_cases h1:t∈k<;>by_cases h2:t∈k'<;>simp [h1,h2]
def cutS (s:af) (k:List Int):af:={ s with stacks:=rmS k s.stacks }
theorem Am {s:af} {k:List Int} {t:Int} (h:t∉k):Ready (cutS s k) t↔Ready s t:=by
 constructor
 ·rintro ⟨⟨x,hx,ht⟩,h2⟩;obtain ⟨y,hy,rfl⟩:=iw.1 hx;exact ⟨⟨y,hy,(oK.1 ht).1⟩,fun z hz hzt=>h2 (rmX k z) (iw.2 ⟨z,hz,rfl⟩) (oK.2 ⟨hzt,h⟩)⟩
 ·rintro ⟨⟨x,hx,ht⟩,h2⟩;refine ⟨⟨rmX k x,iw.2 ⟨x,hx,rfl⟩,oK.2 ⟨ht,h⟩⟩,fun z hz hzt=>?_⟩;obtain ⟨y,hy,rfl⟩:=iw.1 hz;exact h2 y hy (oK.1 hzt).1
theorem low_ex {h:List ah} {s:af} (q:KI h s) {k rest:List Int} (hr:∀ x∈(cutS s k).stacks,∀ t∈x.txns,t∈rest) (hne:rest≠[]):∃ t∈rest,Lowest (cutS s k) t:=by
 obtain ⟨n,⟨t,ht,hn⟩,hmin⟩:=leastN (fun n=>∃ t∈rest,bIdx s t=n) (by
  obtain ⟨t,ht⟩:=List.exists_mem_of_ne_nil _ hne;exact ⟨_,t,ht,rfl⟩)
 refine ⟨t,ht,fun x hx hxt=>?_⟩;obtain ⟨y,hy,rfl⟩:=iw.1 hx;have ho:(rmX k y).txns.Pairwise fun u v=>bIdx s u < bIdx s v:=by
  rw [kR];exact ((q.ord y hy).filter _).imp fun {a b} w=>w.2
 have hall:=hr _ hx;generalize (rmX k y).txns=l at hxt ho hall;cases l with
 | nil=>simp at hxt
 | cons z zs=>
  rcases List.mem_cons.1 hxt with e|hz
  ·rw [e]; rfl
  ·exfalso;have h1:=(List.pairwise_cons.1 ho).1 t hz;have h2:=hmin _ ⟨z,hall z (by simp),rfl⟩;omega
theorem Ek {s:af} {k:List Int} {t:Int} (h:t∉k):statS (cutS s k) t=statS s t:=by
 have:=Am (s:=s) h;unfold statS;simp only [this];rfl
theorem stat2 {s:af} {t:Int}:statS s t=2↔t∉s.aborted/\t∉s.committed/\Ready s t:=by
 unfold statS;repeat' split
 all_goals simp_all
theorem stat1 {s:af} {t:Int}:statS s t=1↔t∉s.aborted/\t∉s.committed/\¬ Ready s t/\t∈s.known:=by
 unfold statS;repeat' split
 all_goals simp_all
def prepL (s:af) (ab:List Int):List Int:=s.known.filter fun t=>decide (t∉ab/\statS s t=2)
end Go.Proofs.YtekgpnhfhkhpaaaGreat

namespace Go.Proofs.YtekgpnhfhkhpaaaGreat
open Go Go.Proofs Go.Abs
theorem wd (t:Int):∀ (l:List Int) (v:Nat),gh t l v ()=some (decide (t∈l))
 | [],v=>by simp [gh]
 | x::l,v=>by
  rw [gh,wd t l (v+1)];by_cases e:x=t
  ·simp [e]
  ·have e':¬ t=x:=fun q=>e q.symm;simp [e,e']
theorem dG (N:Nat) (l:List Int) (t:Int):be N l t=some (decide (t∈l)):=wd t l 0
theorem wq (N:Nat) (n:Int):i8 N n=some (decide (Btw n)):=by
 simp only [i8,Btw];by_cases h:1<=n<;>simp [h]
theorem y6 (t:Int):∀ (l:List Int) (v:Nat),jA t l v ()=some (findP (fun x=>decide (x=t)) l v)
 | [],v=>rfl
 | x::l,v=>by
  rw [jA,y6 t l (v+1)];simp only [findP,decide_eq_true_eq];split<;>rfl
theorem u7 (N:Nat) (p:aa) (t:Int):j7 N p t=some (findP (fun x=>decide (x=t)) p.txns 0):=y6 t _ 0
theorem Aa (r:ac) (a:Int) (hl:r.piles.length<=100000):∀ (n v:Nat),r.piles.length < v+n->v<=r.piles.length->fx r a n (v:Int)=some (findP (fun x=>decide (x.actor=a)) (r.piles.drop v) v)
 | 0,v,h1,h2=>by omega
 | n+1,v,h1,h2=>by
  rw [fx];by_cases h:v < r.piles.length
  ·rw [if_pos (by omega),gx_nat (List.getElem?_eq_getElem h),List.drop_eq_getElem_cons h];simp only [findP,decide_eq_true_eq];split
   ·rfl
   ·rw [w64 (by omega) (by omega),show ((v:Int)+1)=((v+1:Nat):Int) by omega];exact Aa r a hl n (v+1) (by omega) (by omega)
  ·rw [if_neg (by omega),List.drop_of_length_le (by omega)];rfl
theorem En (N:Nat) (r:ac) (a:Int) (hl:r.piles.length<=100000) (hN:100002<=N):eK N r a=some (findP (fun x=>decide (x.actor=a)) r.piles 0):=
 Aa r a hl N 0 (by omega) (by omega)
theorem Cl {α:Type} {R:α->α->Prop} {l:List α} {v:Nat} {x:α} (hl:l.Pairwise R) (h1:∀ y∈l.take v,R y x) (h2:∀ y∈l.drop v,R x y):(l.take v++[x]++l.drop v).Pairwise R:=by
 have hs:l=l.take v++l.drop v:=(List.take_append_drop v l).symm;rw [hs,List.pairwise_append] at hl;rw [List.pairwise_append,List.pairwise_append];refine ⟨⟨hl.1,by simp,fun y hy z hz=>by rw [List.mem_singleton.1 hz]; exact h1 y hy⟩,hl.2.1,fun y hy z hz=>?_⟩;rcases List.mem_append.1 hy with hy|hy
 ·exact hl.2.2 y hy z hz
 ·rw [List.mem_singleton.1 hy]; exact h2 z hz
theorem Cv {α:Type} {l:List α} {v:Nat} {x z:α}:z∈l.take v++[x]++l.drop v↔z∈l∨z=x:=by
 have hs:z∈l↔z∈l.take v∨z∈l.drop v:=by
  rw [<-List.mem_append,List.take_append_drop]
 rw [hs];simp only [List.mem_append,List.mem_singleton];constructor
 ·rintro ((h|h)|h)
  ·exact .inl (.inl h)
  ·exact .inr h
  ·exact .inl (.inr h)
 ·rintro ((h|h)|h)
  ·exact .inl (.inl h)
  ·exact .inr h
  ·exact .inl (.inr h)
theorem tg {α:Type} {R:α->α->Prop} (hi:∀ a,¬ R a a) (ht:∀ a b,R a b->¬ R b a):∀ {l l':List α},l.Pairwise R->l'.Pairwise R->(∀ z,z∈l↔z∈l')->l=l'
 | [],[],_,_,_=>rfl
 | [],y::l',_,_,h=>by have:=(h y).2 (by simp); simp at this
 | x::l,[],_,_,h=>by have:=(h x).1 (by simp); simp at this
 | x::l,y::l',h1,h2,h=>by
  have h1:=List.pairwise_cons.1 h1;have h2:=List.pairwise_cons.1 h2;have e:x=y:=by
   rcases List.mem_cons.1 ((h x).1 (by simp)) with e|hx
   ·exact e
   ·rcases List.mem_cons.1 ((h y).2 (by simp)) with e|hy
    ·exact e.symm
    ·exact absurd (h1.1 y hy) (ht _ _ (h2.1 x hx))
  subst e
  congr 1
  refine tg hi ht h1.2 h2.2 fun z=>?_;constructor
  ·intro hz;rcases List.mem_cons.1 ((h z).1 (by simp [hz])) with e|hz'
   ·subst e; exact absurd (h1.1 z hz) (hi z)
   ·exact hz'
  ·intro hz;rcases List.mem_cons.1 ((h z).2 (by simp [hz])) with e|hz'
   ·subst e; exact absurd (h2.1 z hz) (hi z)
   ·exact hz'
theorem slt_eq {α β:Type} {l:List α} {v:Nat} {k:List α->Option β} (h:v<=l.length):slt l (v:Int) k=k (l.take v):=by
 unfold slt;rw [if_pos (by omega)];simp
theorem BC (l:List Int) (x:Int) (hl:l.length<=100000) (hs:l.Pairwise (· < ·)) (k:Int->Option (List Int)):∀ (n v:Nat),v < n->v<=l.length->(∀ y∈l.drop v,x<=y)->∃ v',v'<=l.length/\(∀ y∈l.take v',y < x)/\(∀ y∈l.drop v',x<=y)/\iX l k x n (v:Int)=k ((v':Nat):Int)
 | 0,v,h1,_,_=>by omega
 | n+1,v,h1,h2,h3=>by
  rw [iX];unfold m8;by_cases h0:v=0
  ·subst h0;rw [if_neg (by omega),if_neg (by simp)];exact ⟨0,by omega,by simp,h3,rfl⟩
  ·obtain ⟨j,rfl⟩:∃ j,v=j+1:=⟨v - 1,by omega⟩;have hj:j < l.length:=by omega
   rw [if_pos (by omega),w64 (by omega) (by omega),show (((j+1:Nat):Int) - 1)=(j:Int) by omega,gx_nat (List.getElem?_eq_getElem hj)];by_cases hx:x<=l[j]
   ·rw [if_pos (by simpa using hx)];refine BC l x hl hs k n j (by omega) (by omega) fun y hy=>?_;rw [List.drop_eq_getElem_cons hj] at hy;rcases List.mem_cons.1 hy with e|hy
    ·rw [e]; exact hx
    ·exact h3 y hy
   ·rw [if_neg (by simpa using hx)];refine ⟨j+1,h2,fun y hy=>?_,h3,rfl⟩;rw [List.take_add_one,List.getElem?_eq_getElem hj] at hy;rcases List.mem_append.1 hy with hy|hy
    ·obtain ⟨i,hi,e⟩:=List.mem_iff_getElem.1 hy;simp only [List.length_take] at hi;rw [List.getElem_take] at e;have:=List.pairwise_iff_getElem.1 hs i j (by omega) hj (by omega);omega
    ·have:y=l[j]:=by simpa using hy
     omega
theorem vb (N:Nat) (l:List Int) (x:Int) (hl:l.length<=100000) (hN:100002<=N) (hs:l.Pairwise (· < ·)):∃ r,iS N l x=some r/\r.Pairwise (· < ·)/\(∀ z,z∈r↔z∈l∨z=x)/\r.length<=l.length+1:=by
 unfold iS;obtain ⟨v,h1,h2,h3,e⟩:=BC l x hl hs (m5 l x) N l.length (by omega) (Nat.le_refl _) (by simp);rw [e];unfold m5;have new:(∀ y∈l.drop v,x < y)->∃ r,lE l (v:Int) x=some r/\r.Pairwise (· < ·)/\(∀ z,z∈r↔z∈l∨z=x)/\r.length<=l.length+1:=by
  intro h4;unfold lE slx;rw [if_pos ⟨by omega,by omega,by omega,by omega⟩];simp only [Int.toNat_natCast];have hdl:((l.drop v).take (l.length - v))=l.drop v:=List.take_of_length_le (by simp);rw [hdl,apn_of (by simp; omega),slt_eq h1,apx_of (by simp; omega),apx_of (by simp; omega)];exact ⟨_,rfl,Cl hs h2 h4,fun z=>Cv,by simp; omega⟩
 by_cases hv:v < l.length
 ·rw [if_pos (by omega),gx_nat (List.getElem?_eq_getElem hv)];unfold lV;by_cases hx:l[v]=x
  ·rw [if_pos (by simpa using hx)];refine ⟨l,rfl,hs,fun z=>⟨.inl,fun q=>q.elim id fun q=>?_⟩,by omega⟩;rw [q,<-hx];exact List.getElem_mem hv
  ·rw [if_neg (by simpa using hx)];refine new fun y hy=>?_;have hle:=h3 y hy;rw [List.drop_eq_getElem_cons hv] at hy;have hv0:=h3 l[v] (by rw [List.drop_eq_getElem_cons hv]; exact List.mem_cons_self);rcases List.mem_cons.1 hy with e|hy
   ·rw [e]; omega
   ·obtain ⟨i,hi,e⟩:=List.mem_iff_getElem.1 hy;simp only [List.length_drop] at hi;rw [List.getElem_drop] at e;have:=List.pairwise_iff_getElem.1 hs v (v+1+i) hv (by omega) (by omega);omega
 ·rw [if_neg (by omega)];unfold lV;rw [if_neg (by simp)];refine new fun y hy=>?_;rw [List.drop_of_length_le (by omega)] at hy;simp at hy
end Go.Proofs.YtekgpnhfhkhpaaaGreat

namespace Go.Proofs.YtekgpnhfhkhpaaaGreat
open Go Go.Proofs Go.Abs
theorem Ag (a:ae):¬ lp a a:=by unfold lp; omega
theorem Fb (a b:ae) (h:lp a b):¬ lp b a:=by unfold lp at *; omega
theorem BG {a b c:ae} (h1:lp a b) (h2:lp b c):lp a c:=by unfold lp at *; omega
theorem lp_tri {a b:ae} (h1:¬ lp a b) (h2:¬ a=b):lp b a:=by
 have:¬ (a.e0=b.e0/\a.e1=b.e1):=fun q=>h2 (yg q.1 q.2);unfold lp at *; omega
theorem Bg (l:List ae) (x:ae) (hl:l.length<=100000) (hs:l.Pairwise lp) (k:Int->Option (List ae)):∀ (n v:Nat),v < n->v<=l.length->(∀ y∈l.drop v,¬ lp y x)->∃ v',v'<=l.length/\(∀ y∈l.take v',lp y x)/\(∀ y∈l.drop v',¬ lp y x)/\eJ l x k n (v:Int)=k ((v':Nat):Int)
 | 0,v,h1,_,_=>by omega
 | n+1,v,h1,h2,h3=>by
  rw [eJ];unfold jV;by_cases h0:v=0
  ·subst h0;rw [if_neg (by omega),if_neg (by simp)];exact ⟨0,by omega,by simp,h3,rfl⟩
  ·obtain ⟨j,rfl⟩:∃ j,v=j+1:=⟨v - 1,by omega⟩;have hj:j < l.length:=by omega
   rw [if_pos (by omega),w64 (by omega) (by omega),show (((j+1:Nat):Int) - 1)=(j:Int) by omega,gx_nat (List.getElem?_eq_getElem hj)];have down:¬ lp l[j] x->∃ v',v'<=l.length/\(∀ y∈l.take v',lp y x)/\(∀ y∈l.drop v',¬ lp y x)/\eJ l x k n (j:Int)=k ((v':Nat):Int):=by
    intro hx;refine Bg l x hl hs k n j (by omega) (by omega) fun y hy=>?_;rw [List.drop_eq_getElem_cons hj] at hy;rcases List.mem_cons.1 hy with e|hy
    ·rw [e]; exact hx
    ·exact h3 y hy
   have stop:lp l[j] x->∃ v',v'<=l.length/\(∀ y∈l.take v',lp y x)/\(∀ y∈l.drop v',¬ lp y x)/\k ((j+1:Nat):Int)=k ((v':Nat):Int):=by
    intro hx;refine ⟨j+1,h2,fun y hy=>?_,h3,rfl⟩;rw [List.take_add_one,List.getElem?_eq_getElem hj] at hy;rcases List.mem_append.1 hy with hy|hy
    ·obtain ⟨i,hi,e⟩:=List.mem_iff_getElem.1 hy;simp only [List.length_take] at hi;rw [List.getElem_take] at e;have:=List.pairwise_iff_getElem.1 hs i j (by omega) hj (by omega);rw [e] at this;exact BG this hx
    ·have:y=l[j]:=by simpa using hy
     rw [this]; exact hx
   by_cases a1:x.e0 < l[j].e0
   ·rw [if_pos a1,if_pos rfl];exact down (by unfold lp; omega)
   ·rw [if_neg a1];by_cases a2:l[j].e0=x.e0
    ·rw [if_pos a2];by_cases a3:x.e1<=l[j].e1
     ·rw [if_pos (by simpa using a3)];exact down (by unfold lp; omega)
     ·rw [if_neg (by simpa using a3)];exact stop (by unfold lp; omega)
    ·rw [if_neg a2,if_neg (by simp)];exact stop (by unfold lp; omega)
theorem Eu (N:Nat) (l:List ae) (x:ae) (hl:l.length<=100000) (hN:100002<=N) (hs:l.Pairwise lp):∃ r,mo N l x=some r/\r.Pairwise lp/\(∀ z,z∈r↔z∈l∨z=x)/\r.length<=l.length+1:=by
 unfold mo;obtain ⟨v,h1,h2,h3,e⟩:=Bg l x hl hs (m7 l x) N l.length (by omega) (Nat.le_refl _) (by simp);rw [e];unfold m7;have new:(∀ y∈l.drop v,lp x y)->∃ r,lN l (v:Int) x=some r/\r.Pairwise lp/\(∀ z,z∈r↔z∈l∨z=x)/\r.length<=l.length+1:=by
  intro h4;unfold lN slx;rw [if_pos ⟨by omega,by omega,by omega,by omega⟩];simp only [Int.toNat_natCast];have hdl:((l.drop v).take (l.length - v))=l.drop v:=List.take_of_length_le (by simp);rw [hdl,apn_of (by simp; omega),slt_eq h1,apx_of (by simp; omega),apx_of (by simp; omega)];exact ⟨_,rfl,Cl hs h2 h4,fun z=>Cv,by simp; omega⟩
 by_cases hv:v < l.length
 ·rw [if_pos (by omega),gx_nat (List.getElem?_eq_getElem hv)];unfold lU;by_cases hx:l[v]=x
  ·rw [if_pos (mS.2 hx)];refine ⟨l,rfl,hs,fun z=>⟨.inl,fun q=>q.elim id fun q=>?_⟩,by omega⟩;rw [q,<-hx];exact List.getElem_mem hv
  ·rw [if_neg (fun q=>hx (mS.1 q))];refine new fun y hy=>?_;have hv0:=h3 l[v] (by rw [List.drop_eq_getElem_cons hv]; exact List.mem_cons_self);have hxv:=lp_tri hv0 hx;rw [List.drop_eq_getElem_cons hv] at hy;rcases List.mem_cons.1 hy with e|hy
   ·rw [e]; exact hxv
   ·obtain ⟨i,hi,e⟩:=List.mem_iff_getElem.1 hy;simp only [List.length_drop] at hi;rw [List.getElem_drop] at e;have:=List.pairwise_iff_getElem.1 hs v (v+1+i) hv (by omega) (by omega);rw [e] at this;exact BG hxv this
 ·rw [if_neg (by omega)];unfold lU;rw [if_neg (by simp)];refine new fun y hy=>?_;rw [List.drop_of_length_le (by omega)] at hy;simp at hy
theorem Fo {deps:List ae} {l l':List Int} {d:ae} (hd:d∈deps) (h:d.e0∉l) (hm:∀ z,z∈l'↔z∈l∨z=d.e0):outs deps l' < outs deps l:=by
 refine vS (fun y hy=>?_) hd (by simpa using h) (by simp [hm]);simp only [Bool.not_eq_true',decide_eq_false_iff_not] at hy ⊢;exact fun q=>hy ((hm _).2 (.inl q))
structure RSet (deps:List ae) (txns l:List Int):Prop where
 so:l.Pairwise (· < ·)
 sub:∀ t∈txns,t∈l
 re:∀ t∈l,Reach deps txns t
 len:l.length+outs deps l<=txns.length+deps.length
theorem Cu (N:Nat) (hN:100002<=N) (k:List Int->Option (List Int)):∀ (xs:List Int) (v:Nat) (l:List Int),l.Pairwise (· < ·)->l.length+xs.length<=100000->∃ l',jo k N xs v l=k l'/\l'.Pairwise (· < ·)/\(∀ z,z∈l'↔z∈l∨z∈xs)/\l'.length<=l.length+xs.length
 | [],v,l,hs,_=>⟨l,rfl,hs,by simp,by simp⟩
 | x::xs,v,l,hs,hl=>by
  simp only [List.length_cons] at hl;obtain ⟨r,e1,e2,e3,e4⟩:=vb N l x (by omega) hN hs;obtain ⟨l',f1,f2,f3,f4⟩:=Cu N hN k xs (v+1) r e2 (by omega);refine ⟨l',by rw [jo,e1,Option.bind_some,f1],f2,fun z=>?_,by simp; omega⟩;rw [f3,e3];simp only [List.mem_cons];exact or_assoc
theorem zH (N:Nat) (hN:100002<=N) (deps:List ae) (txns:List Int) (hsz:txns.length+deps.length<=90000) (rec:List Int × Bool->Option (List Int)):∀ (xs:List ae) (v:Nat) (l:List Int) (c:Bool),(∀ d∈xs,d∈deps)->RSet deps txns l ->
  ∃ l' c',fD rec N xs v (l,c)=rec (l',c')/\RSet deps txns l'/\((c'=c/\l'=l/\∀ d∈xs,d.e1∈l->d.e0∈l)∨(c'=true/\outs deps l' < outs deps l))
 | [],v,l,c,_,h=>⟨l,c,rfl,h,.inl ⟨rfl,rfl,by simp⟩⟩
 | d::xs,v,l,c,hx,h=>by
  have hd:=hx d (by simp);have hx':∀ d∈xs,d∈deps:=fun d hd=>hx d (by simp [hd]);rw [fD,dG,dG,Option.bind_some,Option.bind_some];have no:(d.e1∈l->d.e0∈l)->∃ l' c',fD rec N xs (v+1) (l,c)=rec (l',c')/\RSet deps txns l'/\((c'=c/\l'=l/\∀ x∈d::xs,x.e1∈l->x.e0∈l)∨(c'=true/\outs deps l' < outs deps l)):=by
   intro hno;obtain ⟨l',c',e1,e2,e3⟩:=zH N hN deps txns hsz rec xs (v+1) l c hx' h;refine ⟨l',c',e1,e2,e3.imp (fun q=>⟨q.1,q.2.1,fun x hx=>?_⟩) id⟩;rcases List.mem_cons.1 hx with rfl|hx
   ·exact hno
   ·exact q.2.2 x hx
  by_cases h1:d.e1∈l
  ·rw [if_pos (by simpa using h1)];by_cases h0:d.e0∈l
   ·simp only [h0,decide_true,Bool.not_true,jk,Bool.false_eq_true,if_false];exact no fun _=>h0
   ·simp only [h0,decide_false,Bool.not_false,jk,if_true];have hlen:=h.len;obtain ⟨r,e1,e2,e3,e4⟩:=vb N l d.e0 (by omega) hN h.so;have hlt:=Fo hd h0 e3;rw [e1,Option.bind_some];obtain ⟨l',c',f1,f2,f3⟩:=zH N hN deps txns hsz rec xs (v+1) r true hx' ⟨e2,fun t ht=>(e3 t).2 (.inl (h.sub t ht)),fun t ht=>by
     rcases (e3 t).1 ht with ht|rfl
     ·exact h.re t ht
     ·exact .step hd (h.re _ h1),by omega⟩
    refine ⟨l',c',f1,f2,.inr ?_⟩;rcases f3 with ⟨q1,q2,_⟩|⟨q1,q2⟩
    ·exact ⟨q1,by rw [q2]; exact hlt⟩
    ·exact ⟨q1,by omega⟩
  ·rw [if_neg (by simpa using h1)];simp only [jk,Bool.false_eq_true,if_false];exact no fun q=>absurd q h1
theorem CB (N:Nat) (hN:100002<=N) (deps:List ae) (txns:List Int) (hsz:txns.length+deps.length<=90000):∀ (n:Nat) (l:List Int),outs deps l+2<=n->RSet deps txns l ->
  ∃ l',fE N deps n (l,true)=some l'/\RSet deps txns l'/\Clo deps l'
 | 0,l,hn,_=>by omega
 | n+1,l,hn,h=>by
  rw [fE,if_pos rfl];obtain ⟨l',c',e1,e2,e3⟩:=zH N hN deps txns hsz (fE N deps n) deps 0 l false (fun _ h=>h) h;rw [e1];rcases e3 with ⟨q1,q2,q3⟩|⟨q1,q2⟩
  ·subst q1;subst q2;obtain ⟨k,rfl⟩:∃ k,n=k+1:=⟨n - 1,by omega⟩;exact ⟨l',by rw [fE,if_neg (by simp)],e2,q3⟩
  ·subst q1;exact CB N hN deps txns hsz n l' (by omega) e2
theorem FU (N:Nat) (deps:List ae) (txns:List Int) (hsz:txns.length+deps.length<=90000) (hN:100002<=N) :
  ∃ r,fO N deps txns=some r/\(∀ t,t∈r↔Reach deps txns t)/\r.Pairwise (· < ·)/\r.length<=txns.length+deps.length:=by
 unfold fO;obtain ⟨l,e1,e2,e3,e4⟩:=Cu N hN (mL N deps) txns 0 [] List.Pairwise.nil (by simp; omega);rw [e1];unfold mL;simp only [List.not_mem_nil,false_or,List.length_nil,Nat.zero_add] at e3 e4;obtain ⟨r,f1,f2,f3⟩:=CB N hN deps txns hsz N l (by have:=ww deps l; omega) ⟨e2,fun t ht=>(e3 t).2 ht,fun t ht=>.base ((e3 t).1 ht),by have:=ww deps l; omega⟩;refine ⟨r,f1,fun t=>⟨f2.re t,fun h=>?_⟩,f2.so,by have:=f2.len; omega⟩
 induction h with
 | base h=>exact f2.sub _ h
 | step hd _ ih=>exact f3 _ hd ih
theorem BM {N:Nat} {d1 d2:List ae} {t1 t2:List Int} (h1:t1.length+d1.length<=90000) (h2:t2.length+d2.length<=90000) (hN:100002<=N) (hd:∀ z,z∈d1↔z∈d2) (ht:∀ z,z∈t1↔z∈t2) :
  ∃ r,dw N d1 t1=some r/\fO N d2 t2=some r/\(∀ t,t∈r↔Reach d1 t1 t)/\r.Pairwise (· < ·)/\r.length<=t1.length+d1.length:=by
 obtain ⟨r,e1,e2,e3,e4⟩:=rN N d1 t1 h1 hN;obtain ⟨r',f1,f2,f3,_⟩:=FU N d2 t2 h2 hN;have mono:∀ {d1 d2:List ae} {t1 t2:List Int},(∀ z,z∈d1->z∈d2)->(∀ z,z∈t1->z∈t2)->∀ {t},Reach d1 t1 t->Reach d2 t2 t:=by
  intro d1 d2 t1 t2 a b t h
  induction h with
  | base h=>exact .base (b _ h)
  | step hd _ ih=>exact .step (a _ hd) ih
 have:r=r':=tg (fun a=>Int.lt_irrefl a) (fun a b h=>by omega) e3 f3 fun z=>by
  rw [e2,f2];exact ⟨mono (fun z=>(hd z).1) (fun z=>(ht z).1),mono (fun z=>(hd z).2) (fun z=>(ht z).2)⟩
 subst this;exact ⟨r,e1,f1,e2,e3,e4⟩
theorem EI (N:Nat) (a b:List Int):fN N a b=some (eqL (fun x y=>decide (x=y)) a b):=by
 unfold fN;exact eq_fun (L:=jt b) a b _ (fun _=>rfl) (fun x xs v=>by rw [jt]; simp only [decide_eq_true_eq])
theorem yW (N:Nat) (a:List Int):fN N a a=some true:=by
 rw [EI,(Co (fun x y=>by simp)).2 rfl]
theorem yP (N:Nat) (a:List ae):iN N a a=some true:=by
 have:iN N a a=some (eqL (fun x y=>decide (x.e0=y.e0) && decide (x.e1=y.e1)) a a):=by
  unfold iN;exact eq_fun (L:=gU a) a a _ (fun _=>rfl) (fun x xs v=>by rw [gU])
 rw [this,(Co (fun x y=>mS)).2 rfl]
end Go.Proofs.YtekgpnhfhkhpaaaGreat

namespace Go.Proofs.YtekgpnhfhkhpaaaGreat
open Go Go.Proofs Go.Abs
def pileOf (s:af) (x:ag):aa:=⟨x.actor,x.txns,x.txns.map fun t=>decide (Has s t x.actor)⟩
structure Rel (s:af) (r:ac):Prop where
 pi:r.piles=s.stacks.map (pileOf s)
 se:r.seen=s.known
 co:r.committed=s.committed
 ab:r.aborted=s.aborted
 de:∀ z,z∈r.deps↔z∈s.deps
 so:r.deps.Pairwise lp
 pr:∀ t,t∈r.prepared↔Begun s t
 pl:r.prepared.length<=s.prepared.length
theorem Rel.dl {s:af} {r:ac} (h:Rel s r):r.deps.length<=s.deps.length:=
 List.Nodup.length_le_of_subset (h.so.imp fun {a b} q e=>by rw [e] at q; exact Ag _ q) fun z hz=>(h.de z).1 hz
theorem Rel.nil:Rel ⟨[],[],[],[],[],[]⟩ ⟨[],[],[],[],[],[]⟩:=
 ⟨rfl,rfl,rfl,rfl,fun _=>Iff.rfl,List.Pairwise.nil,fun t=>by simp [Begun],Nat.le_refl _⟩
theorem z8 {α β:Type} (f:α->β) (p:β->Bool):∀ (xs:List α) (v:Nat),findP p (xs.map f) v=findP (fun x=>p (f x)) xs v
 | [],_=>rfl
 | x::xs,v=>by simp only [List.map_cons,findP,z8 f p xs]
theorem ym {N:Nat} (hN:100002<=N) {s:af} {r:ac} (h:Rel s r) (hl:s.stacks.length<=100000) (a:Int):eK N r a=some (findP (fun x=>decide (x.actor=a)) s.stacks 0):=by
 rw [En N r a (by rw [h.pi]; simpa using hl) hN,h.pi,z8];rfl
theorem vH {t:Int}:∀ {l:List Int} {i:Nat},l.Nodup->l[i]?=some t->l.take i++l.drop (i+1)=l.filter fun x=>!decide (x∈[t])
 | [],i,_,h=>by simp at h
 | x::l,0,hn,h=>by
  simp only [List.getElem?_cons_zero,Option.some.injEq] at h;subst h;have hn:=List.nodup_cons.1 hn;rw [List.filter_cons_of_neg (by simp)];simp only [List.take_zero,List.nil_append,List.drop_succ_cons,List.drop_zero];refine (List.filter_eq_self.2 fun y hy=>?_).symm;have:¬ y=x:=fun e=>hn.1 (e ▸ hy);simpa using this
 | x::l,i+1,hn,h=>by
  have hn:=List.nodup_cons.1 hn;have hi:l[i]?=some t:=by simpa using h
  have hx:¬ x=t:=fun e=>hn.1 (e ▸ List.mem_of_getElem? hi);rw [List.filter_cons_of_pos (by simpa using hx)];simp only [List.take_succ_cons,List.drop_succ_cons,List.cons_append,vH hn.2 hi]
theorem Fk {s:af} {x:ag} {t:Int} {i:Nat} (hn:x.txns.Nodup) (hi:x.txns[i]?=some t) :
  (⟨x.actor,x.txns.take i++x.txns.drop (i+1),(pileOf s x).prepared.take i++(pileOf s x).prepared.drop (i+1)⟩:aa)=pileOf s (rmX [t] x):=by
 unfold pileOf rmX;simp only;rw [<-vH hn hi,List.map_append,List.map_take,List.map_drop]
theorem DL {x:ag} {t:Int} (h:t∉x.txns):rmX [t] x=x:=by
 unfold rmX;rw [List.filter_eq_self.2 fun y hy=>?_];have:¬ y=t:=fun e=>h (e ▸ hy);simpa using this
theorem CF {N:Nat} (s:af) (t:Int) (r:ac) (hb:∀ x∈s.stacks,x.txns.Nodup/\x.txns.length<=100000) (hl:s.stacks.length<=100000):∀ (n v:Nat),s.stacks.length < v+n->v<=s.stacks.length ->
  eG N t r n ((s.stacks.take v).map (fun x=>pileOf s (rmX [t] x))++(s.stacks.drop v).map (pileOf s),(v:Int))=some ⟨s.stacks.map fun x=>pileOf s (rmX [t] x),r.seen,r.deps,r.committed,r.aborted,r.prepared⟩
 | 0,v,h1,h2=>by omega
 | n+1,v,h1,h2=>by
  rw [eG];have hlen:((s.stacks.take v).map (fun x=>pileOf s (rmX [t] x))++(s.stacks.drop v).map (pileOf s)).length=s.stacks.length:=by simp; omega
  by_cases hv:v < s.stacks.length
  ·have hx:=hb s.stacks[v] (List.getElem_mem hv);have ih:=CF (N:=N) s t r hb hl n (v+1) (by omega) (by omega);have hw:IntKind.i64.wrap ((v:Int)+1)=((v+1:Nat):Int):=by rw [w64 (by omega) (by omega)]; omega
   have hg:((s.stacks.take v).map (fun x=>pileOf s (rmX [t] x))++(s.stacks.drop v).map (pileOf s))[v]?=some (pileOf s s.stacks[v]):=by
    rw [List.getElem?_append_right (by simp; omega)];simp only [List.length_map,List.length_take,Nat.min_eq_left (Nat.le_of_lt hv),Nat.sub_self,List.drop_eq_getElem_cons hv,List.map_cons,List.getElem?_cons_zero]
   have hset:∀ y,((s.stacks.take v).map (fun x=>pileOf s (rmX [t] x))++(s.stacks.drop v).map (pileOf s)).set v y=(s.stacks.take v).map (fun x=>pileOf s (rmX [t] x))++y::(s.stacks.drop (v+1)).map (pileOf s):=by
    intro y;rw [List.set_append_right _ _ (by simp; omega)];simp only [List.length_map,List.length_take,Nat.min_eq_left (Nat.le_of_lt hv),Nat.sub_self,List.drop_eq_getElem_cons hv,List.map_cons,List.set_cons_zero]
   have htk:∀ y,y=pileOf s (rmX [t] s.stacks[v])->(s.stacks.take v).map (fun x=>pileOf s (rmX [t] x))++y::(s.stacks.drop (v+1)).map (pileOf s)=(s.stacks.take (v+1)).map (fun x=>pileOf s (rmX [t] x))++(s.stacks.drop (v+1)).map (pileOf s):=by
    intro y hy;rw [hy,List.take_add_one,List.getElem?_eq_getElem hv];simp only [Option.toList_some,List.map_append,List.map_cons,List.map_nil,List.append_assoc,List.singleton_append]
   rw [if_pos (by rw [hlen]; omega),gx_nat hg,u7,Option.bind_some];generalize hxe:s.stacks[v]=x at *;rcases jI (fun y=>decide (y=t)) (pileOf s x).txns 0 with ⟨e1,e2⟩|⟨i,y,e1,e2,_,e4⟩
   ·rw [e1,if_pos (by omega),hw];have hnm:t∉x.txns:=fun hm=>by simpa using e2 t hm
    rw [<-ih,<-htk (pileOf s x) (by rw [DL hnm]),List.drop_eq_getElem_cons hv,hxe];rfl
   ·have hyt:y=t:=by simpa using e2
    subst hyt;have hi:x.txns[i]?=some y:=e1;have hil:=(List.getElem?_eq_some_iff.1 hi).1;have hpl:(pileOf s x).prepared.length=x.txns.length:=by simp [pileOf]
    have htl:(pileOf s x).txns.length=x.txns.length:=rfl;rw [e4,if_neg (by omega),Nat.zero_add,slt_eq (by omega),w64 (n:=(i:Int)+1) (by omega) (by omega),show ((i:Int)+1)=((i+1:Nat):Int) by omega];unfold slx;rw [if_pos ⟨by omega,by omega,by omega,by omega⟩];simp only [Int.toNat_natCast];have d1:((pileOf s x).txns.drop (i+1)).take ((pileOf s x).txns.length - (i+1))=(pileOf s x).txns.drop (i+1):=List.take_of_length_le (by simp);have d2:((pileOf s x).prepared.drop (i+1)).take ((pileOf s x).prepared.length - (i+1))=(pileOf s x).prepared.drop (i+1):=List.take_of_length_le (by simp);rw [d1,apx_of (by simp only [List.length_take,List.length_drop]; omega),slt_eq (by omega),if_pos ⟨by omega,by omega,by omega,by omega⟩,d2,apx_of (by simp only [List.length_take,List.length_drop]; omega),hset,hw];rw [<-ih,<-htk _ (Fk hx.1 hi)];rfl
  ·have:v=s.stacks.length:=by omega
   subst this;rw [if_neg (by rw [hlen]; omega)];simp
theorem zB {N:Nat} (hN:100002<=N) {s:af} {r:ac} (hp:r.piles=s.stacks.map (pileOf s)) (hb:∀ x∈s.stacks,x.txns.Nodup/\x.txns.length<=100000) (hl:s.stacks.length<=100000) (t:Int) :
  dJ N r t=some { r with piles:=(rmS [t] s.stacks).map (pileOf s) }:=by
 have:=CF (N:=N) s t r hb hl N 0 (by omega) (by omega);unfold dJ;rw [hp];simp only [List.take_zero,List.map_nil,List.nil_append,List.drop_zero] at this;rw [show (0:Int)=((0:Nat):Int) from rfl,this];unfold rmS;rw [List.map_map];rfl
theorem all_L1 {N:Nat} (s:af) (t:Int) (r:ac) (hp:r.piles=s.stacks.map (pileOf s)) (hl:s.stacks.length<=100000):∀ (n v:Nat) (c2 c3:Bool),s.stacks.length < v+n->v<=s.stacks.length ->
  dH r N t n (c2,c3,(v:Int))=some (decide ((∀ x∈s.stacks.drop v,t∈x.txns->Has s t x.actor/\(c2=true->x.txns.head?=some t))/\(c3=true∨∃ x∈s.stacks.drop v,t∈x.txns)))
 | 0,v,c2,c3,h1,h2=>by omega
 | n+1,v,c2,c3,h1,h2=>by
  rw [dH];have hlen:r.piles.length=s.stacks.length:=by rw [hp]; simp
  by_cases hv:v < s.stacks.length
  ·have hw:IntKind.i64.wrap ((v:Int)+1)=((v+1:Nat):Int):=by rw [w64 (by omega) (by omega)]; omega
   have hg:r.piles[v]?=some (pileOf s s.stacks[v]):=by rw [hp,List.getElem?_map,List.getElem?_eq_getElem hv]; rfl
   have hdr:s.stacks.drop v=s.stacks[v]::s.stacks.drop (v+1):=List.drop_eq_getElem_cons hv;rw [if_pos (by omega),gx_nat hg,u7,Option.bind_some,hdr];generalize s.stacks[v]=x;unfold iQ;rw [hw];rcases jI (fun y=>decide (y=t)) (pileOf s x).txns 0 with ⟨e1,e2⟩|⟨i,y,e1,e2,e3,e4⟩
   ·have hnm:t∉x.txns:=fun hm=>by simpa using e2 t hm
    rw [e1,if_pos (by omega),all_L1 s t r hp hl n (v+1) c2 c3 (by omega) (by omega)];simp [hnm]
   ·have hyt:y=t:=by simpa using e2
    subst hyt;have hi:x.txns[i]?=some y:=e1;have hm:y∈x.txns:=List.mem_of_getElem? hi;have hf:(pileOf s x).prepared[i]?=some (decide (Has s y x.actor)):=by simp [pileOf,hi]
    have hh:(0:Int) < ((i:Nat):Int)↔¬ x.txns.head?=some y:=by
     cases i with
     | zero=>
      rw [List.head?_eq_getElem?,hi];simp
     | succ i=>
      refine ⟨fun _ e=>?_,fun _=>by omega⟩;cases hx:x.txns with
      | nil=>rw [hx] at e; simp at e
      | cons z zs=>
       rw [hx] at e;simp only [List.head?_cons,Option.some.injEq] at e;have:=e3 z (by show z∈x.txns.take (i+1); rw [hx]; simp);rw [e] at this;simp at this
    rw [e4,if_neg (by omega),Nat.zero_add,gx_nat hf];by_cases hH:Has s y x.actor
    ·rw [if_pos (by simpa using hH)];cases c2 with
     | true=>
      simp only [if_true];by_cases h0:(0:Int) < ((i:Nat):Int)
      ·rw [if_pos (by simpa using h0)];have:=hh.1 h0;simp [hm,this]
      ·rw [if_neg (by simpa using h0),all_L1 s y r hp hl n (v+1) true true (by omega) (by omega)];have:x.txns.head?=some y:=Classical.byContradiction fun q=>h0 (hh.2 q);simp [hm,hH,this]
     | false=>
      simp only [Bool.false_eq_true,if_false];rw [all_L1 s y r hp hl n (v+1) false true (by omega) (by omega)];simp [hm,hH]
    ·rw [if_neg (by simpa using hH),if_pos rfl];simp [hm,hH]
  ·rw [if_neg (by omega),List.drop_of_length_le (by omega)];simp
end Go.Proofs.YtekgpnhfhkhpaaaGreat

namespace Go.Proofs.YtekgpnhfhkhpaaaGreat
open Go Go.Proofs Go.Abs
theorem all_eq {N:Nat} (hN:100002<=N) {s:af} {r:ac} (hp:r.piles=s.stacks.map (pileOf s)) (hl:s.stacks.length<=100000) (t:Int) (first:Bool) :
  fc N r t first=some (decide (Ready s t/\(first=true->Lowest s t))):=by
 have:=all_L1 (N:=N) s t r hp hl N 0 first false (by omega) (by omega)
 unfold fc;rw [show (0:Int)=((0:Nat):Int) from rfl,this]
 congr 1
 rw [Bool.eq_iff_iff,decide_eq_true_eq,decide_eq_true_eq];unfold Ready Lowest;simp only [List.drop_zero,Bool.false_eq_true,false_or];constructor
 ·rintro ⟨h1,h2⟩;exact ⟨⟨h2,fun x hx ht=>(h1 x hx ht).1⟩,fun hf x hx ht=>(h1 x hx ht).2 hf⟩
 ·rintro ⟨⟨h1,h2⟩,h3⟩;exact ⟨fun x hx ht=>⟨h2 x hx ht,fun hf=>h3 hf x hx ht⟩,h1⟩
theorem yL {N:Nat} (hN:100002<=N) {s:af} {r:ac} (h:Rel s r) (hl:s.stacks.length<=100000) (t:Int):eU N r t=some (statS s t):=by
 unfold eU statS;rw [dG,dG,dG,all_eq hN h.pi hl,h.ab,h.co,h.se];simp only [Option.bind_some,decide_eq_true_eq,Bool.false_eq_true,false_implies,and_true];repeat' split
 all_goals rfl
theorem CS {N:Nat} (hN:100002<=N) {s:af} {r:ac} (h:Rel s r) (hb:∀ x∈s.stacks,x.txns.Nodup/\x.txns.length<=100000) (hl:s.stacks.length<=100000) (hc:s.committed.length<=100000) (t:Int) :
  fT N r t=some (if Ready s t/\Lowest s t then (true,{ r with piles:=(rmS [t] s.stacks).map (pileOf s),committed:=r.committed++[t] }) else (false,r)):=by
 unfold fT;rw [all_eq hN h.pi hl,Option.bind_some];by_cases hq:Ready s t/\Lowest s t
 ·rw [if_pos (by simpa using hq),zB hN h.pi hb hl,Option.bind_some,apx_of (by rw [h.co]; simp only [List.length_cons,List.length_nil]; omega),if_pos hq]
 ·rw [if_neg (by simpa using hq),if_neg hq]
theorem vY {N:Nat} (hN:100002<=N) (s:af) (hb:∀ x∈s.stacks,x.txns.Nodup/\x.txns.length<=100000) (hl:s.stacks.length<=100000):∀ (xs:List Int) (v:Nat) (k ab:List Int) (r:ac),xs.Nodup->(∀ t∈xs,t∈ab->t∈s.aborted)->(∀ t∈s.aborted,t∈ab)->ab.length+xs.length<=10000000 ->
  r.piles=(rmS k s.stacks).map (pileOf s)->r.committed=s.committed->r.aborted=ab ->
  b9 N xs v (r.piles,r.seen,r.deps,r.committed,r.aborted,r.prepared)=some { r with piles:=(rmS (k++xs.filter fun t=>!decide (Ended s t)) s.stacks).map (pileOf s),aborted:=ab++xs.filter fun t=>!decide (Ended s t) }
 | [],v,k,ab,r,_,_,_,_,hp,_,ha=>by
  rw [b9];simp [hp,ha]
 | x::xs,v,k,ab,r,hn,h1,h2,hz,hp,hc,ha=>by
  have hn:=List.nodup_cons.1 hn;simp only [List.length_cons] at hz;rw [b9,dG,dG,Option.bind_some,Option.bind_some,hc,ha];unfold jJ;have skip:Ended s x->b9 N xs (v+1) (r.piles,r.seen,r.deps,s.committed,ab,r.prepared)=some { r with piles:=(rmS (k++(x::xs).filter fun t=>!decide (Ended s t)) s.stacks).map (pileOf s),committed:=s.committed,aborted:=ab++(x::xs).filter fun t=>!decide (Ended s t) }:=by
   intro he;rw [List.filter_cons_of_neg (by simpa using he),<-hc,<-ha];rw [vY hN s hb hl xs (v+1) k ab r hn.2 (fun t ht=>h1 t (by simp [ht])) h2 (by omega) hp hc ha,ha]
  by_cases e1:x∈s.committed
  ·rw [if_pos (by simpa using e1),if_neg (by simp)];exact skip (.inl e1)
  ·rw [if_neg (by simpa using e1)];by_cases e2:x∈ab
   ·rw [if_neg (by simp [e2])];exact skip (.inr (h1 x (by simp) e2))
   ·have hne:¬ Ended s x:=by
     rintro (w|w)
     ·exact e1 w
     ·exact e2 (h2 x w)
    rw [if_pos (by simp [e2])];have hb':∀ y∈(cutS s k).stacks,y.txns.Nodup/\y.txns.length<=100000:=fun y hy=>by
     obtain ⟨z,hz,rfl⟩:=iw.1 hy;have:=hb z hz;have h3:=List.length_filter_le (fun t=>!decide (t∈k)) z.txns;rw [kR];exact ⟨this.1.filter _,by omega⟩
    have ht:=zB hN (s:=cutS s k) (r:=⟨r.piles,r.seen,r.deps,s.committed,ab,r.prepared⟩) (by simp only [hp]; rfl) hb' (by simp only [cutS,rmS,List.length_map]; exact hl) x;rw [ht,Option.bind_some,apx_of (by simp only [List.length_cons,List.length_nil]; omega)];have ih:=vY hN s hb hl xs (v+1) (k++[x]) (ab++[x]) { r with piles:=(rmS (k++[x]) s.stacks).map (pileOf s),aborted:=ab++[x] } hn.2 (fun t ht hta=>by
     rcases List.mem_append.1 hta with q|q
     ·exact h1 t (by simp [ht]) q
     ·exact absurd (List.mem_singleton.1 q ▸ ht) hn.1) (fun t ht=>by simp [h2 t ht]) (by simp; omega) rfl hc rfl
    rw [List.filter_cons_of_pos (by simpa using hne)];simp only [hc,List.append_assoc,List.singleton_append] at ih;simp only [cutS,yz];exact ih
end Go.Proofs.YtekgpnhfhkhpaaaGreat

namespace Go.Proofs.YtekgpnhfhkhpaaaGreat
open Go Go.Proofs Go.Abs
theorem FP {h:List ah} {s:af} (q:KI h s) {x:ag} (hx:x∈s.stacks) {t y:Int} (ht:t∈x.txns) (hy:x.txns.getLast?=some y) (hne:t≠y):Has s t x.actor:=by
 have hym:=List.mem_of_getLast? hy;rcases wB ht hym hne with w|w
 ·exact (yA (q.ord x hx) w).1
 ·exfalso;have hnd:=ou (q.ord x hx);obtain ⟨l,hl⟩:=List.getLast?_eq_some_iff.1 hy;rw [hl] at w hnd;have hnd:=List.nodup_append.1 hnd;have hyl:y∈l:=by
   obtain ⟨l1,l2,e1,s1,s2⟩:=List.sublist_append_iff.1 w;cases l1 with
   | nil=>
    simp only [List.nil_append] at e1;rw [<-e1] at s2;have:=s2.length_le;simp at this
   | cons z l1=>
    simp only [List.cons_append,List.cons.injEq] at e1;rw [e1.1];exact s1.subset (by simp)
  exact hnd.2.2 y hyl y (by simp) rfl
theorem Eo {s:af} {e:ah} (hn:¬ Has s e.Txn e.Actor) {x:ag} (ha:x.actor=e.Actor) :
  (⟨x.actor,x.txns++[e.Txn],(pileOf s x).prepared++[false]⟩:aa)=pileOf s ⟨x.actor,x.txns++[e.Txn]⟩:=by
 unfold pileOf;simp only [List.map_append,List.map_cons,List.map_nil,ha,hn,decide_false]
theorem FZ {N:Nat} (hN:100002<=N) {s:af} {r:ac} (hde:r.deps.Pairwise lp) (hdl:r.deps.length<=10000) {e:ah} {l:List ag} {i:Nat} {x:ag} (hi:l[i]?=some x) (hx:x.actor=e.Actor) (hd:DistA l) (hxl:x.txns.length<=100000)
  (hnh:¬ Has s e.Txn e.Actor) (hon:onL s.stacks e.Actor=x.txns) (hlast:e.Txn∈x.txns->TopOk s e->x.txns.getLast?=some e.Txn) :
  ∃ b r',fw r N e (l.map (pileOf s)) (i:Int)=some (b,r')/\(b=true↔TopOk s e)/\(b=true->r'.seen=r.seen/\r'.committed=r.committed/\r'.aborted=r.aborted/\r'.prepared=r.prepared/\r'.deps.Pairwise lp ∧
   (if e.Txn∈x.txns then r'.piles=l.map (pileOf s)/\r'.deps=r.deps else r'.piles=(pushS l e.Actor e.Txn).map (pileOf s)/\∀ z,z∈r'.deps↔z∈r.deps∨∃ y,x.txns.getLast?=some y/\z=⟨e.Txn,y⟩)):=by
 have hg:(l.map (pileOf s))[i]?=some (pileOf s x):=by rw [List.getElem?_map,hi]; rfl
 have hset:(l.map (pileOf s)).set i ⟨x.actor,x.txns++[e.Txn],(pileOf s x).prepared++[false]⟩=(pushS l e.Actor e.Txn).map (pileOf s):=by
  rw [Eo hnh hx,<-AW hi hx hd,List.map_set]
 unfold fw;rw [gx_nat hg];have hpl:(pileOf s x).prepared.length=x.txns.length:=by simp [pileOf]
 have htx:(pileOf s x).txns=x.txns:=rfl;rw [htx];unfold TopOk;rw [hon];have j3:∀ dp,ia (pileOf s x) e (l.map (pileOf s)) (i:Int) r dp=some (true,⟨(pushS l e.Actor e.Txn).map (pileOf s),r.seen,dp,r.committed,r.aborted,r.prepared⟩):=by
  intro dp;unfold ia;rw [htx,apx_of (by simp only [List.length_cons,List.length_nil]; omega),apx_of (by simp only [hpl,List.length_cons,List.length_nil]; omega),Int.toNat_natCast];rw [show (aa.mk (pileOf s x).actor (x.txns++[e.Txn]) ((pileOf s x).prepared++[false]))=⟨x.actor,x.txns++[e.Txn],(pileOf s x).prepared++[false]⟩ from rfl,hset]
 by_cases h0:x.txns.length=0
 ·have hnil:x.txns=[]:=List.eq_nil_of_length_eq_zero h0;rw [if_neg (by omega)];unfold ip;rw [if_neg (by simp)];unfold iF;rw [htx,if_neg (by omega)];unfold gV;rw [if_neg (by simp)];unfold iC;rw [htx,if_neg (by omega),j3];refine ⟨true,_,rfl,by simp [hnil],fun _=>⟨rfl,rfl,rfl,rfl,hde,?_⟩⟩;rw [if_neg (by simp [hnil])];exact ⟨rfl,fun z=>by simp [hnil]⟩
 ·have hw:IntKind.i64.wrap (((x.txns.length:Nat):Int) - 1)=((x.txns.length - 1:Nat):Int):=by rw [w64 (by omega) (by omega)]; omega
  have hy:x.txns[x.txns.length - 1]?=some (x.txns[x.txns.length - 1]'(by omega)):=List.getElem?_eq_getElem (by omega);have hgl:x.txns.getLast?=some (x.txns[x.txns.length - 1]'(by omega)):=by rw [List.getLast?_eq_getElem?,hy]
  rw [if_pos (by omega),hw,gx_nat hy];generalize (x.txns[x.txns.length - 1]'(by omega))=y at hy hgl;unfold ip;by_cases hye:y=e.Txn
  ·rw [if_pos (by simpa using hye)];have hm:e.Txn∈x.txns:=hye ▸ List.mem_of_getLast? hgl;refine ⟨true,_,rfl,?_,fun _=>⟨rfl,rfl,rfl,rfl,hde,?_⟩⟩
   ·simp only [true_iff];intro z hz;rw [hgl] at hz;cases hz;exact .inl hye
   ·rw [if_pos hm];exact ⟨rfl,rfl⟩
  ·rw [if_neg (by simpa using hye)];unfold iF;have hpy:(pileOf s x).prepared[x.txns.length - 1]?=some (decide (Has s y e.Actor)):=by simp [pileOf,hy,hx]
   rw [htx,if_pos (by omega),hw,gx_nat hpy];unfold gV;by_cases hH:Has s y e.Actor
   ·rw [if_neg (by simpa using hH)];unfold iC;rw [htx,if_pos (by omega),hw,gx_nat hy];obtain ⟨dp,f1,f2,f3,_⟩:=Eu N r.deps ⟨e.Txn,y⟩ (by omega) hN hde;rw [f1,Option.bind_some,j3];have htop:∀ z,x.txns.getLast?=some z->z=e.Txn∨Has s z e.Actor:=fun z hz=>by
     rw [hgl] at hz;cases hz;exact .inr hH
    refine ⟨true,_,rfl,by simpa using htop,fun _=>⟨rfl,rfl,rfl,rfl,f2,?_⟩⟩;have hm:e.Txn∉x.txns:=fun hm=>by
     have:=hlast hm (by unfold TopOk; rw [hon]; exact htop);rw [hgl] at this;cases this;exact hye rfl
    rw [if_neg hm];refine ⟨rfl,fun z=>?_⟩;rw [f3,hgl];simp
   ·rw [if_pos (by simpa using hH)];refine ⟨false,_,rfl,?_,fun h=>by cases h⟩;simp only [Bool.false_eq_true,false_iff];intro htop;rcases htop y hgl with w|w
    ·exact hye w
    ·exact hH w
theorem qP (s:af) (e:ah):(execS s e).committed=s.committed/\(execS s e).aborted=s.aborted/\(execS s e).known=s.known:=by
 unfold execS;split<;>exact ⟨rfl,rfl,rfl⟩
theorem vP {s s':af} (h:s'.prepared=s.prepared):pileOf s'=pileOf s:=by
 funext x
 unfold pileOf
 congr 1
 refine List.map_congr_left fun t _=>?_;rw [Bool.eq_iff_iff,decide_eq_true_eq,decide_eq_true_eq];unfold Has;rw [h]
theorem Fa {N:Nat} (hN:100002<=N) {h:List ah} {s:af} {r:ac} (hr:Rel s r) (q:KI h s) {n:Nat} (hz:Sz s n) (hn:n<=1000) (e:ah) :
  ∃ b r',iz N r e=some (b,r')/\(b=true↔¬ Begun s e.Txn/\TopOk s e)/\(b=true->Rel (execS s e) r'):=by
 obtain ⟨z1,z2,z3,z4,z5,z6,z7⟩:=hz;unfold iz;rw [dG,Option.bind_some];by_cases hb:Begun s e.Txn
 ·rw [if_pos (by simpa using (hr.pr _).2 hb)];exact ⟨false,r,rfl,by simp [hb],fun h=>by cases h⟩
 rw [if_neg (by simpa using fun w=>hb ((hr.pr _).1 w)),ym hN hr (by omega),Option.bind_some];have hnh:¬ Has s e.Txn e.Actor:=fun w=>hb w.begun;have hdl:=hr.dl;have hps:(execS s e).prepared=s.prepared:=by unfold execS; split<;>rfl
 have key:∀ (l:List ag) (i:Nat) (x:ag),l[i]?=some x->x.actor=e.Actor->DistA l->onL s.stacks e.Actor=x.txns->x.txns.length<=100000->(e.Txn∈x.txns->l=s.stacks)->l=withA s.stacks e.Actor ->
   ∃ b r',fw r N e (l.map (pileOf s)) (i:Int)=some (b,r')/\(b=true↔¬ Begun s e.Txn/\TopOk s e)/\(b=true->Rel (execS s e) r'):=by
  intro l i x h1 h2 h3 h4 h5 h6 h7;obtain ⟨b,r',g1,g2,g3⟩:=FZ hN (s:=s) (r:=r) hr.so (by omega) h1 h2 h3 h5 hnh h4 (fun hm htop=>by
   have hl:=h6 hm;rw [hl] at h1;have hxs:=List.mem_of_getElem? h1;have hne:x.txns≠[]:=fun w=>by rw [w] at hm; simp at hm
   have hgl:=List.getLast?_eq_some_getLast hne;generalize x.txns.getLast hne=y at hgl;by_cases hy:e.Txn=y
   ·rw [hgl,hy]
   ·exact absurd (h2 ▸ FP q hxs hm hgl hy) hnh)
  refine ⟨b,r',g1,g2.trans ⟨fun w=>⟨hb,w⟩,fun w=>w.2⟩,fun hbt=>?_⟩;obtain ⟨k1,k2,k3,k4,k5,k6⟩:=g3 hbt;have hst:(execS s e).known=s.known/\(execS s e).committed=s.committed/\(execS s e).aborted=s.aborted:=⟨(qP s e).2.2,(qP s e).1,(qP s e).2.1⟩;have hpr:∀ t,t∈r'.prepared↔Begun (execS s e) t:=fun t=>by unfold Begun; rw [k4,hps]; exact hr.pr t
  by_cases hm:e.Txn∈x.txns
  ·rw [if_pos hm] at k6;have he:execS s e=s:=by unfold execS; rw [h4,if_pos hm]
   rw [he] at hst hpr ⊢;exact ⟨by rw [k6.1,h6 hm],by rw [k1]; exact hr.se,by rw [k2]; exact hr.co,by rw [k3]; exact hr.ab,fun z=>by rw [k6.2]; exact hr.de z,k5,hpr,by rw [k4]; exact hr.pl⟩
  ·rw [if_neg hm] at k6;have he:execS s e={ s with stacks:=pushS (withA s.stacks e.Actor) e.Actor e.Txn,deps:=match x.txns.getLast? with|none=>s.deps|some y=>s.deps++[ae.mk e.Txn y] }:=by
    unfold execS; rw [h4,if_neg hm]; try (cases x.txns.getLast?<;>rfl)
   refine ⟨?_,by rw [k1,hst.1]; exact hr.se,by rw [k2,hst.2.1]; exact hr.co,by rw [k3,hst.2.2]; exact hr.ab,fun z=>?_,k5,hpr,by rw [k4,hps]; exact hr.pl⟩
   ·rw [k6.1,vP hps,he,h7]
   ·rw [k6.2,hr.de,he];simp only;cases x.txns.getLast? with
    | none=>simp
    | some y=>simp
 rcases jI (fun x=>decide (x.actor=e.Actor)) s.stacks 0 with ⟨e1,e2⟩|⟨i,x,e1,e2,e3,e4⟩
 ·have hno:∀ y∈s.stacks,y.actor≠e.Actor:=fun y hy=>by simpa using e2 y hy
  have hw:withA s.stacks e.Actor=s.stacks++[⟨e.Actor,[]⟩]:=by
   unfold withA;rw [if_neg (by rintro ⟨y,h1,h2⟩; exact hno y h1 h2)]
  rw [e1,if_pos (by omega),hr.pi,apx_of (by simp only [List.length_map,List.length_cons,List.length_nil]; omega)];have hmap:s.stacks.map (pileOf s)++[aa.mk e.Actor [] []]=(s.stacks++[(⟨e.Actor,[]⟩:ag)]).map (pileOf s):=by simp [pileOf]
  rw [hmap,w64 (by omega) (by simp only [List.length_map,List.length_append,List.length_cons,List.length_nil]; omega),show ((((s.stacks++[(⟨e.Actor,[]⟩:ag)]).map (pileOf s)).length:Nat):Int) - 1=((s.stacks.length:Nat):Int) by simp only [List.length_map,List.length_append,List.length_cons,List.length_nil]; omega];exact key _ s.stacks.length ⟨e.Actor,[]⟩ (by simp) rfl (by rw [<-hw]; exact uV q.dist) (qG hno) (by simp) (by simp) hw.symm
 ·have ha:x.actor=e.Actor:=by simpa using e2
  rw [e4,if_neg (by omega),Nat.zero_add,hr.pi];have hxm:=List.mem_of_getElem? e1;refine key _ i x e1 ha q.dist (oT q.dist hxm ha) (by have:=z7 x hxm; omega) (fun _=>rfl) ?_;unfold withA;rw [if_pos ⟨x,hxm,ha⟩]
end Go.Proofs.YtekgpnhfhkhpaaaGreat

namespace Go.Proofs.YtekgpnhfhkhpaaaGreat
open Go Go.Proofs Go.Abs
def prS (s:af) (t a:Int):af:={ s with prepared:=s.prepared++[⟨t,a⟩] }
theorem zn {s:af} {t a u b:Int}:Has (prS s t a) u b↔Has s u b∨(u=t/\b=a):=by
 unfold Has prS;simp only [List.mem_append,List.mem_singleton,ae.mk.injEq]
theorem Eh {s:af} {t a u:Int}:Begun (prS s t a) u↔Begun s u∨u=t:=by
 unfold Begun prS;constructor
 ·rintro ⟨p,hp,e⟩;rcases List.mem_append.1 hp with hp|hp
  ·exact .inl ⟨p,hp,e⟩
  ·rw [List.mem_singleton.1 hp] at e; exact .inr e.symm
 ·rintro (⟨p,hp,e⟩|rfl)
  ·exact ⟨p,by simp [hp],e⟩
  ·exact ⟨⟨u,a⟩,by simp,rfl⟩
theorem C0 {s:af} {t a:Int} {y:ag} (h:y.actor≠a):pileOf (prS s t a) y=pileOf s y:=by
 unfold pileOf
 congr 1
 refine List.map_congr_left fun u _=>?_;rw [Bool.eq_iff_iff,decide_eq_true_eq,decide_eq_true_eq,zn];exact ⟨fun w=>w.elim id fun w=>absurd w.2 h,.inl⟩
theorem Eb {s:af} {x:ag} {t:Int} {k:Nat} (hn:x.txns.Nodup) (hk:x.txns[k]?=some t) :
  (⟨x.actor,x.txns,(pileOf s x).prepared.set k true⟩:aa)=pileOf (prS s t x.actor) x:=by
 unfold pileOf
 congr 1
 apply List.ext_getElem?;intro j;have hkl:=(List.getElem?_eq_some_iff.1 hk).1;rw [List.getElem?_map,List.getElem?_set];by_cases e:k=j
 ·subst e;rw [if_pos rfl,if_pos (by simpa using hkl),hk];simp only [Option.map_some,Option.some.injEq];exact (decide_eq_true (zn.2 (.inr ⟨rfl,rfl⟩))).symm
 ·rw [if_neg e,List.getElem?_map];cases hj:x.txns[j]? with
  | none=>rfl
  | some u=>
   simp only [Option.map_some,Option.some.injEq];have hu:u≠t:=fun q=>e (by
    rw [q] at hj;have hjl:=(List.getElem?_eq_some_iff.1 hj).1;have h1:=(List.getElem?_eq_some_iff.1 hk).2;have h2:=(List.getElem?_eq_some_iff.1 hj).2;have hp:=List.pairwise_iff_getElem.1 hn;rcases Nat.lt_trichotomy k j with w|w|w
    ·exact absurd (h1.trans h2.symm) (hp k j hkl hjl w)
    ·exact w
    ·exact absurd (h2.trans h1.symm) (hp j k hjl hkl w))
   rw [Bool.eq_iff_iff,decide_eq_true_eq,decide_eq_true_eq,zn];exact ⟨.inl,fun w=>w.elim id fun w=>absurd w.1 hu⟩
theorem Bw {s s':af} {a:Int} (hs:∀ y:ag,y.actor≠a->pileOf s' y=pileOf s y):∀ {l:List ag} {i:Nat} {x:ag},l[i]?=some x->x.actor=a->DistA l->(l.map (pileOf s)).set i (pileOf s' x)=l.map (pileOf s')
 | [],i,x,h,_,_=>by simp at h
 | y::l,0,x,h,hx,hd=>by
  simp only [List.getElem?_cons_zero,Option.some.injEq] at h;subst h;have hd:=List.pairwise_cons.1 hd;simp only [List.map_cons,List.set_cons_zero]
  congr 1
  refine List.map_congr_left fun z hz=>(hs z fun q=>?_).symm;exact hd.1 z hz (hx.trans q.symm)
 | y::l,i+1,x,h,hx,hd=>by
  have hd:=List.pairwise_cons.1 hd;have hi:l[i]?=some x:=by simpa using h
  simp only [List.map_cons,List.set_cons_succ];rw [Bw hs hi hx hd.2,hs y fun q=>hd.1 x (List.mem_of_getElem? hi) (q.trans hx.symm)]
theorem B1 {N:Nat} (hN:100002<=N) {h:List ah} {s:af} {r:ac} (hr:Rel s r) (q:KI h s) {n:Nat} (hz:Sz s n) (hn:n<=1000) (e:ah) :
  ∃ b r',fA N r e=some (b,r')/\(b=true↔e.Txn∈onL s.stacks e.Actor/\¬ Has s e.Txn e.Actor)/\(b=true->Rel (prS s e.Txn e.Actor) r'):=by
 obtain ⟨z1,z2,z3,z4,z5,z6,z7⟩:=hz;unfold fA;rw [ym hN hr (by omega),Option.bind_some];rcases jI (fun x=>decide (x.actor=e.Actor)) s.stacks 0 with ⟨e1,e2⟩|⟨i,x,e1,e2,e3,e4⟩
 ·have hno:∀ y∈s.stacks,y.actor≠e.Actor:=fun y hy=>by simpa using e2 y hy
  rw [e1,if_pos (by omega)];exact ⟨false,r,rfl,by simp [qG hno],fun h=>by cases h⟩
 ·have ha:x.actor=e.Actor:=by simpa using e2
  have hxm:=List.mem_of_getElem? e1;have hg:r.piles[i]?=some (pileOf s x):=by rw [hr.pi,List.getElem?_map,e1]; rfl
  have hon:=oT q.dist hxm ha;rw [e4,if_neg (by omega),Nat.zero_add,gx_nat hg,u7,Option.bind_some,hon];rcases jI (fun y=>decide (y=e.Txn)) (pileOf s x).txns 0 with ⟨f1,f2⟩|⟨k,y,f1,f2,_,f4⟩
  ·have hnm:e.Txn∉x.txns:=fun hm=>by simpa using f2 e.Txn hm
   rw [f1,if_pos (by omega)];exact ⟨false,r,by simp [fC],by simp [hnm],fun h=>by cases h⟩
  ·have hyt:y=e.Txn:=by simpa using f2
   subst hyt;have hk:x.txns[k]?=some e.Txn:=f1;have hm:e.Txn∈x.txns:=List.mem_of_getElem? hk;have hf:(pileOf s x).prepared[k]?=some (decide (Has s e.Txn x.actor)):=by simp [pileOf,hk]
   rw [f4,if_neg (by omega),Nat.zero_add,gx_nat hf,ha];unfold fC;by_cases hH:Has s e.Txn e.Actor
   ·rw [if_pos (by simpa using hH)];exact ⟨false,r,rfl,by simp [hH],fun h=>by cases h⟩
   ·rw [if_neg (by simpa using hH)];unfold iY;rw [gx_nat hg,gx_nat hf,dG,Option.bind_some];have hpile:r.piles.set i ⟨(pileOf s x).actor,(pileOf s x).txns,(pileOf s x).prepared.set k true⟩=s.stacks.map (pileOf (prS s e.Txn e.Actor)):=by
     have h1:=Eb (s:=s) (ou (q.ord x hxm)) hk;rw [ha] at h1;rw [<-Bw (s:=s) (fun y hy=>C0 hy) e1 ha q.dist,hr.pi,<-h1,<-ha];rfl
    have hnd:∀ (pr:List Int),pr.length<=s.prepared.length+1->(∀ t,t∈pr↔t∈r.prepared∨t=e.Txn)->Rel (prS s e.Txn e.Actor) ⟨s.stacks.map (pileOf (prS s e.Txn e.Actor)),r.seen,r.deps,r.committed,r.aborted,pr⟩:=fun pr hl hp=>
     ⟨rfl,hr.se,hr.co,hr.ab,hr.de,hr.so,fun t=>by rw [hp,Eh,hr.pr],by
      have:(prS s e.Txn e.Actor).prepared.length=s.prepared.length+1:=by simp [prS]
      rw [this]; exact hl⟩
    have hpl:=hr.pl;simp only [Int.toNat_natCast];rw [hpile];by_cases hc:e.Txn∈r.prepared
    ·rw [if_pos (by simpa using hc)];exact ⟨true,_,rfl,by simp [hm,hH],fun _=>hnd _ (by omega) fun t=>⟨.inl,fun w=>w.elim id fun w=>w ▸ hc⟩⟩
    ·rw [if_neg (by simpa using hc),apx_of (by simp only [List.length_cons,List.length_nil]; omega)];exact ⟨true,_,rfl,by simp [hm,hH],fun _=>hnd _ (by simp; omega) fun t=>by simp⟩
theorem Ct (l:List ag):rmS [] l=l:=by
 unfold rmS;refine (List.map_congr_left fun x _=>?_).trans (List.map_id l);unfold rmX;rw [List.filter_eq_self.2 (by simp)];rfl
theorem Rel.know {s:af} {r:ac} (h:Rel s r) (k:List Int):Rel { s with known:=k } { r with seen:=k }:=
 ⟨by rw [vP (s:=s) (s':={ s with known:=k }) rfl]; exact h.pi,rfl,h.co,h.ab,h.de,h.so,h.pr,h.pl⟩
theorem Dj (s:af) (e:ah) (k:List Int):execS { s with known:=k } e={ execS s e with known:=k }:=by
 unfold execS;split<;>rfl
theorem DN {N:Nat} (hN:100002<=N) {h:List ah} {s:af} {r:ac} (hr:Rel s r) (q:KI h s) {n:Nat} (hz:Sz s n) (hn:n<=1000) (t:Int) :
  ∃ gone:List Int,gone.Pairwise (· < ·)/\(∀ u,u∈gone↔Reach s.deps [t] u/\¬ Ended s u)/\gy N r t=some { r with piles:=(rmS gone s.stacks).map (pileOf s),aborted:=s.aborted++gone }:=by
 obtain ⟨z1,z2,z3,z4,z5,z6,z7⟩:=hz;have hdl:=hr.dl;obtain ⟨xs,e1,e2,e3,e4,e5⟩:=BM (N:=N) (d1:=s.deps) (d2:=r.deps) (t1:=[t]) (t2:=[t]) (by simp; omega) (by simp; omega) hN (fun z=>(hr.de z).symm) (fun _=>Iff.rfl);have hsm:n * 1001<=1000 * 1001:=Nat.mul_le_mul_right _ hn;have:=vY hN s (fun x hx=>⟨ou (q.ord x hx),by have:=z7 x hx; omega⟩) (by omega) xs 0 [] s.aborted r (e4.imp fun {a b} w=>by omega) (fun _ _ w=>w) (fun _ w=>w) (by simp only [List.length_cons,List.length_nil] at e5; omega) (by rw [Ct]; exact hr.pi) hr.co hr.ab;refine ⟨xs.filter fun u=>!decide (Ended s u),e4.filter _,fun u=>?_,?_⟩
 ·rw [List.mem_filter,e3]; simp
 ·unfold gy;rw [e2,Option.bind_some,this,List.nil_append]
theorem Fj {N:Nat} {s s1:af} {r:ac} {e:ah} (h:Rel s1 r) (hk:s1.known=s.known) (hl:s.known.length<=1000) :
  ∃ r',aO N e r.piles r.seen r.deps r.committed r.aborted r.prepared true=some (true,r')/\Rel { s1 with known:=knw s e.Txn } r':=by
 have hs:r.seen=s.known:=h.se.trans hk;have hr:=h.know (knw s e.Txn);unfold aO;rw [if_pos rfl,dG,Option.bind_some];unfold gT knw at *;rw [hs];by_cases hm:e.Txn∈s.known
 ·rw [if_neg (by simpa using hm)];rw [if_pos hm] at hr ⊢;exact ⟨_,rfl,hr⟩
 ·rw [if_pos (by simpa using hm),apx_of (by simp only [List.length_cons,List.length_nil]; omega)];rw [if_neg hm] at hr ⊢;exact ⟨_,rfl,hr⟩
theorem Fw (N:Nat) (e:ah) (a:List aa) (b:List Int) (c:List ae) (d f g:List Int):aO N e a b c d f g false=some (false,⟨a,b,c,d,f,g⟩):=by
 unfold aO gT;rw [if_neg (by simp),if_neg (by simp)]
theorem EL {N:Nat} (hN:100002<=N) {h:List ah} {s:af} {r:ac} (hr:Rel s r) (q:KI h s) {n:Nat} (hz:Sz s n) (hn:n<=1000) (e:ah) :
  ∃ b r',fG N r e=some (b,r')/\(b=true↔fu s e)/\(b=true->∀ s',Step s e s'->Rel s' r'):=by
 have z:=hz;obtain ⟨z1,z2,z3,z4,z5,z6,z7⟩:=z;have no:∀ {b:Bool},b=false->¬ fu s e->(b=true↔fu s e):=fun h1 h2=>by simp [h1,h2]
 unfold fG;rw [wq,Option.bind_some];by_cases hb:Btw e.Txn
 case neg=>exact ⟨false,r,by simp [hb,dT],no rfl fun h=>hb h.bt,fun h=>by cases h⟩
 rw [if_pos (by simpa using hb),dG,Option.bind_some,hr.co];by_cases hc:e.Txn∈s.committed
 ·exact ⟨false,r,by simp [hc,dT],no rfl fun h=>h.un (.inl hc),fun h=>by cases h⟩
 rw [if_neg (by simpa using hc),dG,Option.bind_some,hr.ab];by_cases hab:e.Txn∈s.aborted
 ·exact ⟨false,r,by simp [hab,dT],no rfl fun h=>h.un (.inr hab),fun h=>by cases h⟩
 have hu:¬ Ended s e.Txn:=fun w=>w.elim hc hab;rw [show decide (e.Txn∈s.aborted)=false by simpa using hab];simp only [dT,Bool.false_eq_true,if_false];unfold gX;have stop:¬ fu s e->∀ r1:ac,∃ b r',aO N e r1.piles r1.seen r1.deps r1.committed r1.aborted r1.prepared false=some (b,r')/\(b=true↔fu s e)/\(b=true->∀ s',Step s e s'->Rel s' r'):=
  fun h1 r1=>⟨false,_,Fw _ _ _ _ _ _ _ _,no rfl h1,fun h=>by cases h⟩
 have go:fu s e->∀ (s1:af) (r1:ac),Rel s1 r1->s1.known=s.known->(∀ s',Step s e s'->s'={ s1 with known:=knw s e.Txn }) ->
   ∃ b r',aO N e r1.piles r1.seen r1.deps r1.committed r1.aborted r1.prepared true=some (b,r')/\(b=true↔fu s e)/\(b=true->∀ s',Step s e s'->Rel s' r'):=by
  intro h1 s1 r1 h2 h3 h4;obtain ⟨r',g1,g2⟩:=Fj (N:=N) (e:=e) h2 h3 (by omega);exact ⟨true,r',g1,by simp [h1],fun _ s' hs=>by rw [h4 s' hs]; exact g2⟩
 by_cases k1:e.Kind=1
 ·rw [if_pos k1,wq,Option.bind_some];have n2:¬ e.Kind=2:=by omega
  have n3:¬ e.Kind=3:=by omega
  have n4:¬ e.Kind=4:=by omega
  by_cases ha:Btw e.Actor
  case neg=>rw [if_neg (by simpa using ha)]; exact stop (fun h=>by have:=h.ok; simp [k1,n2,n3,n4,ha] at this) r
  rw [if_pos (by simpa using ha)];obtain ⟨b,r',f1,f2,f3⟩:=Fa hN hr q hz hn e;rw [f1,Option.bind_some];cases b with
  | false=>exact stop (fun h=>by have:=h.ok; simp only [k1,n2,n3,n4,ha,true_and,false_and,or_false] at this; have:=f2.2 (by simpa using this); cases this) r'
  | true=>
   refine go ⟨hb,hu,.inl ⟨k1,ha,f2.1 rfl⟩⟩ (execS s e) r' (f3 rfl) (qP s e).2.2 fun s' hs=>?_;cases hs with
   | exec _=>exact Dj s e _
   | prep w=>omega
   | com w=>omega
   | abt _ w _ _ _=>omega
 rw [if_neg k1];by_cases k2:e.Kind=2
 ·rw [if_pos k2,wq,Option.bind_some];have n3:¬ e.Kind=3:=by omega
  have n4:¬ e.Kind=4:=by omega
  by_cases ha:Btw e.Actor
  case neg=>rw [if_neg (by simpa using ha)]; exact stop (fun h=>by have:=h.ok; simp [k1,k2,n3,n4,ha] at this) r
  rw [if_pos (by simpa using ha)];obtain ⟨b,r',f1,f2,f3⟩:=B1 hN hr q hz hn e;rw [f1,Option.bind_some];cases b with
  | false=>exact stop (fun h=>by
    rcases h.ok with w|w|w|w
    ·omega
    ·have:=f2.2 w.2.2; cases this
    ·omega
    ·omega) r'
  | true=>
   refine go ⟨hb,hu,.inr (.inl ⟨k2,ha,f2.1 rfl⟩)⟩ (prS s e.Txn e.Actor) r' (f3 rfl) rfl fun s' hs=>?_;cases hs with
   | exec w=>omega
   | prep _=>rfl
   | com w=>omega
   | abt _ w _ _ _=>omega
 rw [if_neg k2];by_cases k3:e.Kind=3
 ·rw [if_pos k3];have n4:¬ e.Kind=4:=by omega
  by_cases ha:e.Actor=0
  case neg=>rw [if_neg ha]; exact stop (fun h=>by have:=h.ok; simp [k1,k2,k3,n4,ha] at this) r
  rw [if_pos ha,CS hN hr (fun x hx=>⟨ou (q.ord x hx),by have:=z7 x hx; omega⟩) (by omega) (by omega),Option.bind_some];by_cases hq:Ready s e.Txn/\Lowest s e.Txn
  ·rw [if_pos hq];refine go ⟨hb,hu,.inr (.inr (.inl ⟨k3,ha,hq⟩))⟩ { s with committed:=s.committed++[e.Txn],stacks:=rmS [e.Txn] s.stacks } _ ⟨rfl,hr.se,?_,hr.ab,hr.de,hr.so,hr.pr,hr.pl⟩ rfl fun s' hs=>?_
   ·show r.committed++[e.Txn]=s.committed++[e.Txn];rw [hr.co]
   ·cases hs with
    | exec w=>omega
    | prep w=>omega
    | com _=>rfl
    | abt _ w _ _ _=>omega
  ·rw [if_neg hq];exact stop (fun h=>by
    rcases h.ok with w|w|w|w
    ·omega
    ·omega
    ·exact hq w.2.2
    ·omega) r
 rw [if_neg k3];by_cases k4:e.Kind=4
 ·rw [if_pos k4];by_cases ha:e.Actor=0
  case neg=>rw [if_neg ha]; exact stop (fun h=>by have:=h.ok; simp [k1,k2,k3,k4,ha] at this) r
  obtain ⟨gone,g1,g2,g3⟩:=DN hN hr q hz hn e.Txn;rw [if_pos ha,g3,Option.bind_some];refine go ⟨hb,hu,.inr (.inr (.inr ⟨k4,ha⟩))⟩ { s with aborted:=s.aborted++gone,stacks:=rmS gone s.stacks } _ ⟨rfl,hr.se,hr.co,rfl,hr.de,hr.so,hr.pr,hr.pl⟩ rfl fun s' hs=>?_;cases hs with
  | exec w=>omega
  | prep w=>omega
  | com w=>omega
  | abt gone' _ h1 _ h3=>
   have:gone'=gone:=tg (fun a=>Int.lt_irrefl a) (fun a b h=>by omega) h3 g1 fun z=>(h1 z).trans (g2 z).symm;subst this;rfl
 ·rw [if_neg k4];exact stop (fun h=>by have:=h.ok; simp [k1,k2,k3,k4] at this) r
theorem yU {N:Nat} (hN:100002<=N):∀ (ys xs:List ah) (s:af) (r:ac),Chain N xs s->Rel s r->xs.length+ys.length<=1000 ->
  (∃ s' r',Chain N (xs++ys) s'/\gP N ys xs.length (r.piles,r.seen,r.deps,r.committed,r.aborted,r.prepared)=some (r',0,true)/\Rel s' r') ∨
  (∃ (k:Nat) (s':af) (r':ac),dD N (xs++ys)=some (s',(k:Int))/\gP N ys xs.length (r.piles,r.seen,r.deps,r.committed,r.aborted,r.prepared)=some (r',(k:Int),false))
 | [],xs,s,r,c,hr,_=>.inl ⟨s,r,by rw [List.append_nil]; exact c,rfl,hr⟩
 | e::ys,xs,s,r,c,hr,hl=>by
  simp only [List.length_cons] at hl;obtain ⟨b,r',f1,f2,f3⟩:=EL hN hr c.ki c.sz (by omega) e;rw [gP];have f1':fG N (ac.mk r.piles r.seen r.deps r.committed r.aborted r.prepared) e=some (b,r'):=f1;rw [f1',Option.bind_some];cases b with
  | true=>
   obtain ⟨s',c',hs⟩:=c.add hN (by omega) (f2.1 rfl);have:=yU hN ys (xs++[e]) s' r' c' (f3 rfl s' hs) (by simp; omega);rw [List.append_assoc,List.singleton_append,List.length_append] at this;simp only [if_true];exact this
  | false=>
   refine .inr ⟨xs.length,s,r',?_,by simp⟩;have hna:¬ fu s e:=fun w=>by have:=f2.2 w; cases this
   obtain ⟨b,g1,g2⟩:=va N s e (by have:=zu c.sz e.Actor; omega);have hbf:b=false:=by cases b with
    | false=>rfl
    | true=>exact absurd (g2.1 rfl) hna
   have:=zv N (e::ys) xs 0 ⟨[],[],[],[],[],[]⟩;have hv:=c.v;unfold V dD at hv;unfold dD;simp only at this;rw [this,hv,Option.bind_some,if_pos rfl,d9];have g1':dB N (af.mk s.stacks s.prepared s.known s.committed s.aborted s.deps) e=some b:=g1;rw [g1',Option.bind_some,hbf];simp
theorem CG {N:Nat} (hN:100002<=N) (h:List ah) (hl:h.length<=1000) :
  (∃ s r,Chain N h s/\eA N h=some (r,0,true)/\Rel s r)∨(∃ (k:Nat) (s:af) (r:ac),dD N h=some (s,(k:Int))/\eA N h=some (r,(k:Int),false)):=
 yU hN h [] _ _ .nil Rel.nil (by simpa using hl)
end Go.Proofs.YtekgpnhfhkhpaaaGreat

namespace Go.Proofs.YtekgpnhfhkhpaaaGreat
open Go Go.Proofs Go.Abs
inductive GS (s:af) (ab R:List Int):List Int->Prop
 | nil:GS s ab R []
 | snoc {p:List Int} {t:Int}:GS s ab R p->t∈R->t∉p->(∀ u∈R,u∉p->Lowest (cutS s (ab++p)) u->t<=u)->Lowest (cutS s (ab++p)) t->GS s ab R (p++[t])
theorem GS.mem {s:af} {ab R p:List Int} (h:GS s ab R p):p.Nodup/\∀ t∈p,t∈R:=by
 induction h with
 | nil=>exact ⟨List.nodup_nil,by simp⟩
 | snoc _ h1 h2 _ _ ih=>
  refine ⟨?_,fun t ht=>?_⟩
  ·rw [List.nodup_append];exact ⟨ih.1,by simp,fun a ha b hb e=>h2 (by rw [List.mem_singleton.1 hb] at e; exact e ▸ ha)⟩
  ·rcases List.mem_append.1 ht with ht|ht
   ·exact ih.2 t ht
   ·rw [List.mem_singleton.1 ht]; exact h1
theorem GS.len {s:af} {ab R p q:List Int} (h:GS s ab R p) (g:GS s ab R q) (hq:∀ t∈R,t∈q):p.length<=q.length:=
 List.Nodup.length_le_of_subset h.mem.1 fun t ht=>hq t (h.mem.2 t ht)
theorem GS.uniq {s:af} {ab R p:List Int} (h:GS s ab R p):∀ {q:List Int},GS s ab R q->p.length=q.length->p=q:=by
 induction h with
 | nil=>intro q _ e; exact (List.eq_nil_of_length_eq_zero (by simpa using e.symm)).symm
 | @snoc p t hp h1 h2 h3 h4 ih=>
  intro q hq e;cases hq with
  | nil=>simp at e
  | @snoc q u hq g1 g2 g3 g4=>
   have:=ih hq (by simpa using e);subst this;have a:=h3 u g1 g2 g4;have b:=g3 t h1 h2 h4;have:t=u:=by omega
   rw [this]
theorem GS.same {s:af} {ab R p q:List Int} (h:GS s ab R p) (g:GS s ab R q) (hp:∀ t∈R,t∈p) (hq:∀ t∈R,t∈q):p=q:=
 h.uniq g (Nat.le_antisymm (h.len g hq) (g.len h hp))
theorem CE {N:Nat} (hN:100002<=N) {h:List ah} {s:af} (q:KI h s) (hsz:Sz s 1000) (ab R:List Int) (hst:∀ x∈s.stacks,∀ t∈x.txns,t∉ab->t∈R) :
  ∀ (n:Nat) (com rest:List Int) (sk:af),sk=cutS s (ab++com)->rest.length < n->com.length+rest.length<=1000->rest.Pairwise (· < ·)->(∀ t,t∈rest↔t∈R/\t∉com)->GS s ab R com ->
   ∃ com',iy N ab n (sk.stacks,sk.prepared,sk.known,sk.committed,sk.aborted,sk.deps,com,rest)=some (com',ab)/\GS s ab R com'/\∀ t∈R,t∈com'
 | 0,com,rest,sk,_,hn,_,_,_,_=>by omega
 | n+1,com,rest,sk,hsk,hn,hl,hnd,hm,hc=>by
  rw [iy];by_cases h0:rest.length=0
  ·rw [if_neg (by omega)];refine ⟨com,rfl,hc,fun t ht=>?_⟩;by_cases hcm:t∈com
   ·exact hcm
   ·have:=(hm t).2 ⟨ht,hcm⟩;rw [List.eq_nil_of_length_eq_zero h0] at this;simp at this
  ·rw [if_pos (by omega)];have hf:bL N rest sk.stacks sk.prepared sk.known sk.committed sk.aborted sk.deps=some (findP (fun x=>decide (Lowest sk x)) rest 0):=
    oE (L:=bw N sk.stacks sk.prepared sk.known sk.committed sk.aborted sk.deps) (fun x=>eh N sk x) _ (fun _=>rfl) (fun _ _ _=>rfl) rest 0 (fun x _=>zR N sk x)
   rw [hf,Option.bind_some];obtain ⟨t0,ht0,hlow⟩:=low_ex q (k:=ab++com) (rest:=rest) (fun x hx t ht=>by
    obtain ⟨y,hy,rfl⟩:=iw.1 hx;obtain ⟨h1,h2⟩:=oK.1 ht;simp only [List.mem_append,not_or] at h2;exact (hm t).2 ⟨hst y hy t h1 h2.1,h2.2⟩) (fun e=>h0 (by rw [e]; rfl))
   rcases jI (fun x=>decide (Lowest sk x)) rest 0 with ⟨e1,e2⟩|⟨i,x,e1,e2,e3,e4⟩
   ·have:=e2 t0 ht0;rw [hsk] at this;simp only [decide_eq_false_iff_not] at this;exact absurd hlow this
   ·have hil:=(List.getElem?_eq_some_iff.1 e1).1;have hxm:=List.mem_of_getElem? e1;have hxl:Lowest sk x:=by simpa using e2
    rw [e4,if_neg (by omega),Nat.zero_add,gx_nat e1,apx_of (by simp only [List.length_cons,List.length_nil]; omega),w64 (by omega) (by omega),show ((i:Int)+1)=((i+1:Nat):Int) by omega];unfold slx;rw [if_pos ⟨by omega,by omega,by omega,by omega⟩];simp only [Int.toNat_natCast];have hone:(rest.drop i).take (i+1 - i)=[x]:=by
     rw [List.drop_eq_getElem_cons hil,show i+1 - i=1 by omega];rw [List.getElem?_eq_getElem hil,Option.some.injEq] at e1;simp [e1]
    rw [hone];have hrm:=qR N sk [x] (fun y hy=>by
     have:y.txns.length<=1000:=by
      rw [hsk] at hy;obtain ⟨z,hz,rfl⟩:=iw.1 hy;have h1:=hsz.tx z hz;have h2:=List.length_filter_le (fun t=>!decide (t∈ab++com)) z.txns;rw [kR]; omega
     omega)
    have hrm':da N (af.mk sk.stacks sk.prepared sk.known sk.committed sk.aborted sk.deps) [x]=some { sk with stacks:=rmS [x] sk.stacks }:=hrm;rw [hrm',Option.bind_some];unfold ke delM;rw [if_pos ⟨by omega,by omega,by omega⟩,Option.bind_some,Int.toNat_natCast,Int.toNat_natCast];have hxc:x∈R/\x∉com:=(hm x).1 hxm;have hsplit:rest=rest.take i++x::rest.drop (i+1):=by
     rw [List.getElem?_eq_getElem hil,Option.some.injEq] at e1;rw [<-e1,<-List.drop_eq_getElem_cons hil,List.take_append_drop]
    have hs2:=hnd;rw [hsplit,List.pairwise_append] at hs2;obtain ⟨n1,n2,n3⟩:=hs2;have n2:=List.pairwise_cons.1 n2;have hmem:∀ t,t∈rest.take i++rest.drop (i+1)↔t∈rest/\t≠x:=by
     intro t;rw [hsplit];simp only [List.mem_append,List.mem_cons];rw [<-hsplit];constructor
     ·rintro (ht|ht)
      ·have:=n3 t ht x (by simp);exact ⟨.inl ht,by omega⟩
      ·have:=n2.1 t ht;exact ⟨.inr (.inr ht),by omega⟩
     ·rintro ⟨ht|ht|ht,hne⟩
      ·exact .inl ht
      ·exact absurd ht hne
      ·exact .inr ht
    have hlen:(rest.take i++rest.drop (i+1)).length+1=rest.length:=by
     simp only [List.length_append,List.length_take,List.length_drop]; omega
    refine CE hN q hsz ab R hst n (com++[x]) (rest.take i++rest.drop (i+1)) { sk with stacks:=rmS [x] sk.stacks } ?_ (by omega) (by simp only [List.length_append,List.length_cons,List.length_nil] at hlen ⊢; omega) ?_ (fun t=>?_) (.snoc hc hxc.1 hxc.2 (fun u hu huc hlu=>?_) (hsk ▸ hxl))
    ·rw [hsk];simp only [cutS,yz,List.append_assoc]
    ·rw [List.pairwise_append];exact ⟨n1,n2.2,fun a ha b hb=>n3 a ha b (by simp [hb])⟩
    ·rw [hmem,hm];simp only [List.mem_append,List.mem_singleton,not_or];constructor
     ·rintro ⟨⟨a,b⟩,c⟩; exact ⟨a,b,c⟩
     ·rintro ⟨a,b,c⟩; exact ⟨⟨a,b⟩,c⟩
    ·have hur:u∈rest:=(hm u).2 ⟨hu,huc⟩;rw [hsplit] at hur;rcases List.mem_append.1 hur with w|w
     ·have:=e3 u w;rw [hsk] at this;simp only [decide_eq_false_iff_not] at this;exact absurd hlu this
     ·rcases List.mem_cons.1 w with w|w
      ·omega
      ·have:=n2.1 u w;omega
theorem FV {N:Nat} (hN:100002<=N) {h:List ah} {s:af} (c:Chain N h s) (hl:h.length<=300) {r:List Int}
  (e1:dw N s.deps (s.known.filter fun t=>decide (statS s t=1))=some r) (e2:∀ t,t∈r↔Reach s.deps (s.known.filter fun t=>decide (statS s t=1)) t) (e4:r.length<=(s.known.filter fun t=>decide (statS s t=1)).length+s.deps.length) :
  ∃ com,dz N h=some (com,r.filter fun x=>!decide (Ended s x))/\GS s (r.filter fun x=>!decide (Ended s x)) (prepL s (r.filter fun x=>!decide (Ended s x))) com/\(∀ t∈prepL s (r.filter fun x=>!decide (Ended s x)),t∈com) ∧
   (∀ x∈s.stacks,∀ t∈x.txns,t∉(r.filter fun x=>!decide (Ended s x))->t∈prepL s (r.filter fun x=>!decide (Ended s x))):=by
 have q:=c.ki;have hz:=c.sz;have hv:=c.v;unfold V at hv;unfold dz;have hk:=hz.kn;have hd:=hz.de;rw [hv,Option.bind_some,if_neg (by simp),out_L1 N s _ _ _ _ (by simp; omega),List.nil_append];unfold lW;simp only;have hrl:=List.length_filter_le (fun t=>decide (statS s t=1)) s.known;rw [e1,Option.bind_some,wV N r s (by omega) (by omega),Option.bind_some];have hab:=List.length_filter_le (fun x=>!decide (Ended s x)) r;have hre:∀ t,t∈(r.filter fun x=>!decide (Ended s x))↔Reach s.deps (s.known.filter fun t=>decide (statS s t=1)) t/\¬ Ended s t:=fun t=>by
  rw [List.mem_filter,e2]; simp
 generalize (r.filter fun x=>!decide (Ended s x))=ab at hab hre;rw [qR N s ab (fun x hx=>by have:=hz.tx x hx; omega),Option.bind_some];have hR:=List.length_filter_le (fun t=>decide (t∉ab/\statS (cutS s ab) t=2)) s.known;have ho:=out_L2 N (cutS s ab) ab (iB N ab (cutS s ab)) s.known 0 [] (by simp; omega);rw [List.nil_append] at ho;have ho':dI (iB N ab { s with stacks:=rmS ab s.stacks }) N ab { s with stacks:=rmS ab s.stacks } s.known 0 []=_:=ho;rw [ho'];have hpr:(s.known.filter fun t=>decide (t∉ab/\statS (cutS s ab) t=2))=prepL s ab:=by
  unfold prepL;refine List.filter_congr fun t _=>?_;by_cases hm:t∈ab
  ·simp [hm]
  ·rw [Ek hm]
 rw [hpr] at hR ⊢;unfold iB;obtain ⟨r2,f1,f2,f3⟩:=wt N (by omega) (prepL s ab) (by omega);rw [f1,Option.bind_some];have hl2:=f2.length_eq;have hnd:r2.Nodup:=f2.nodup_iff.2 (q.knd.filter _);have hlt:r2.Pairwise (· < ·):=(f3.and hnd).imp fun {a b} w=>by have:=w.1; have:=w.2; omega
 have hcs:cutS s ab=cutS s (ab++[]):=by rw [List.append_nil]
 have hstk:∀ x∈s.stacks,∀ t∈x.txns,t∉ab->t∈prepL s ab:=fun x hx t ht hta=>by
  have hun:=q.un x hx t ht;have hkn:=q.kn x hx t ht;unfold prepL;rw [List.mem_filter];refine ⟨hkn,?_⟩;simp only [decide_eq_true_eq];refine ⟨hta,?_⟩;rw [stat2];have h1:t∉s.aborted:=fun w=>hun (.inr w);have h2:t∉s.committed:=fun w=>hun (.inl w);refine ⟨h1,h2,?_⟩;by_cases hrd:Ready s t
  ·exact hrd
  ·exfalso;refine hta ((hre t).2 ⟨.base ?_,hun⟩);rw [List.mem_filter];exact ⟨hkn,by simpa using stat1.2 ⟨h1,h2,hrd,hkn⟩⟩
 obtain ⟨com,g1,g2,g4⟩:=CE hN q (s:=s) ⟨by omega,by have:=hz.pr; omega,by have:=hz.co; omega,by omega,Nat.le_trans hz.ab (Nat.mul_le_mul_right _ (by omega)),by have:=hz.st; omega,fun x hx=>by have:=hz.tx x hx; omega⟩ ab (prepL s ab) hstk N [] r2 (cutS s ab) hcs (by omega) (by simp; omega) hlt (fun t=>by rw [f2.mem_iff]; simp) .nil;exact ⟨com,g1,g2,g4,hstk⟩
end Go.Proofs.YtekgpnhfhkhpaaaGreat

namespace Go.Proofs.YtekgpnhfhkhpaaaGreat
open Go Go.Proofs Go.Abs
theorem wx {N:Nat} (hN:100002<=N) {s:af} {r:ac} (hr:Rel s r) (hl:s.stacks.length<=100000) (kx:List Int->List Int->Option (List Int × List Int)) (m:Int × Bool) :
  ∀ (xs:List Int) (v:Nat) (l4 l5:List Int),l4.Pairwise (· < ·)->l5.Pairwise (· < ·)->l4.length+xs.length<=10000->l5.length+xs.length<=10000 ->
   ∃ a b,ek kx N (r,m) xs v (l4,l5)=kx a b/\a.Pairwise (· < ·)/\b.Pairwise (· < ·)/\(∀ z,z∈a↔z∈l4∨(z∈xs/\statS s z=1))/\(∀ z,z∈b↔z∈l5∨(z∈xs/\statS s z=2))/\a.length<=l4.length+xs.length/\b.length<=l5.length+xs.length
 | [],v,l4,l5,h4,h5,_,_=>⟨l4,l5,rfl,h4,h5,by simp,by simp,by simp,by simp⟩
 | x::xs,v,l4,l5,h4,h5,z4,z5=>by
  simp only [List.length_cons] at z4 z5;rw [ek,yL hN hr hl,Option.bind_some];by_cases e1:statS s x=1
  ·obtain ⟨o,f1,f2,f3,f4⟩:=vb N l4 x (by omega) hN h4;obtain ⟨a,b,g1,g2,g3,g4,g5,g6,g7⟩:=wx hN hr hl kx m xs (v+1) o l5 f2 h5 (by omega) (by omega);refine ⟨a,b,by rw [if_pos e1,f1,Option.bind_some,g1],g2,g3,fun z=>?_,fun z=>?_,by simp only [List.length_cons]; omega,by simp only [List.length_cons]; omega⟩
   ·rw [g4,f3];simp only [List.mem_cons];constructor
    ·rintro ((w|rfl)|w)
     ·exact .inl w
     ·exact .inr ⟨.inl rfl,e1⟩
     ·exact .inr ⟨.inr w.1,w.2⟩
    ·rintro (w|⟨rfl|w,w2⟩)
     ·exact .inl (.inl w)
     ·exact .inl (.inr rfl)
     ·exact .inr ⟨w,w2⟩
   ·rw [g5];simp only [List.mem_cons];constructor
    ·rintro (w|w)
     ·exact .inl w
     ·exact .inr ⟨.inr w.1,w.2⟩
    ·rintro (w|⟨rfl|w,w2⟩)
     ·exact .inl w
     ·omega
     ·exact .inr ⟨w,w2⟩
  ·rw [if_neg e1];by_cases e2:statS s x=2
   ·obtain ⟨o,f1,f2,f3,f4⟩:=vb N l5 x (by omega) hN h5;obtain ⟨a,b,g1,g2,g3,g4,g5,g6,g7⟩:=wx hN hr hl kx m xs (v+1) l4 o h4 f2 (by omega) (by omega);refine ⟨a,b,by rw [if_pos e2,f1,Option.bind_some,g1],g2,g3,fun z=>?_,fun z=>?_,by simp only [List.length_cons]; omega,by simp only [List.length_cons]; omega⟩
    ·rw [g4];simp only [List.mem_cons];constructor
     ·rintro (w|w)
      ·exact .inl w
      ·exact .inr ⟨.inr w.1,w.2⟩
     ·rintro (w|⟨rfl|w,w2⟩)
      ·exact .inl w
      ·omega
      ·exact .inr ⟨w,w2⟩
    ·rw [g5,f3];simp only [List.mem_cons];constructor
     ·rintro ((w|rfl)|w)
      ·exact .inl w
      ·exact .inr ⟨.inl rfl,e2⟩
      ·exact .inr ⟨.inr w.1,w.2⟩
     ·rintro (w|⟨rfl|w,w2⟩)
      ·exact .inl (.inl w)
      ·exact .inl (.inr rfl)
      ·exact .inr ⟨w,w2⟩
   ·obtain ⟨a,b,g1,g2,g3,g4,g5,g6,g7⟩:=wx hN hr hl kx m xs (v+1) l4 l5 h4 h5 (by omega) (by omega);refine ⟨a,b,by rw [if_neg e2,g1],g2,g3,fun z=>?_,fun z=>?_,by simp only [List.length_cons]; omega,by simp only [List.length_cons]; omega⟩
    ·rw [g4];simp only [List.mem_cons];constructor
     ·rintro (w|w)
      ·exact .inl w
      ·exact .inr ⟨.inr w.1,w.2⟩
     ·rintro (w|⟨rfl|w,w2⟩)
      ·exact .inl w
      ·omega
      ·exact .inr ⟨w,w2⟩
    ·rw [g5];simp only [List.mem_cons];constructor
     ·rintro (w|w)
      ·exact .inl w
      ·exact .inr ⟨.inr w.1,w.2⟩
     ·rintro (w|⟨rfl|w,w2⟩)
      ·exact .inl w
      ·omega
      ·exact .inr ⟨w,w2⟩
theorem AH {N:Nat} (hN:100002<=N) {s:af} (hb:∀ x∈s.stacks,x.txns.Nodup/\x.txns.length<=100000) (hl:s.stacks.length<=100000) (k:List Int) (t:Int) (se:List Int) (de:List ae) (co ab pr:List Int) :
  dJ N ⟨(rmS k s.stacks).map (pileOf s),se,de,co,ab,pr⟩ t=some ⟨(rmS (k++[t]) s.stacks).map (pileOf s),se,de,co,ab,pr⟩:=by
 have hb':∀ y∈(cutS s k).stacks,y.txns.Nodup/\y.txns.length<=100000:=fun y hy=>by
  obtain ⟨z,hz,rfl⟩:=iw.1 hy;have:=hb z hz;have h3:=List.length_filter_le (fun t=>!decide (t∈k)) z.txns;rw [kR];exact ⟨this.1.filter _,by omega⟩
 have ht:=zB hN (s:=cutS s k) (r:=⟨(rmS k s.stacks).map (pileOf s),se,de,co,ab,pr⟩) rfl hb' (by simp only [cutS,rmS,List.length_map]; exact hl) t;rw [ht];simp only [cutS,yz];rfl
theorem zA {N:Nat} (hN:100002<=N) {s:af} (hb:∀ x∈s.stacks,x.txns.Nodup/\x.txns.length<=100000) (hl:s.stacks.length<=100000) (kx:List aa->List Int->List ae->List Int->List Int->List Int->List Int->Option (List Int × List Int)) (a b:List Int) (se:List Int) (de:List ae) (co abt pr:List Int) :
  ∀ (xs:List Int) (v:Nat) (ab:List Int),ab.length+xs.length<=100000 ->
   ew kx N a b xs v ((rmS ab s.stacks).map (pileOf s),se,de,co,abt,pr,ab)=kx ((rmS (ab++xs.filter fun x=>decide (x∈a∨x∈b)) s.stacks).map (pileOf s)) se de co abt pr (ab++xs.filter fun x=>decide (x∈a∨x∈b))
 | [],v,ab,_=>by rw [ew]; simp
 | x::xs,v,ab,hz=>by
  simp only [List.length_cons] at hz;rw [ew,dG,dG,Option.bind_some,Option.bind_some];have yes:(x∈a∨x∈b)->jz ab x N ((rmS ab s.stacks).map (pileOf s)) se de co abt pr (ew kx N a b xs (v+1)) true=kx ((rmS (ab++(x::xs).filter fun x=>decide (x∈a∨x∈b)) s.stacks).map (pileOf s)) se de co abt pr (ab++(x::xs).filter fun x=>decide (x∈a∨x∈b)):=by
   intro hm;unfold jz;rw [if_pos rfl,apx_of (by simp only [List.length_cons,List.length_nil]; omega),AH hN hb hl,Option.bind_some,List.filter_cons_of_pos (by simpa using hm)];have:=zA hN hb hl kx a b se de co abt pr xs (v+1) (ab++[x]) (by simp; omega);simp only [List.append_assoc,List.singleton_append] at this ⊢;exact this
  by_cases h1:x∈a
  ·rw [if_pos (by simpa using h1)];exact yes (.inl h1)
  ·rw [if_neg (by simpa using h1)];by_cases h2:x∈b
   ·rw [show decide (x∈b)=true by simpa using h2];exact yes (.inr h2)
   ·rw [show decide (x∈b)=false by simpa using h2];unfold jz;rw [if_neg (by simp),List.filter_cons_of_neg (by simp [h1,h2])];exact zA hN hb hl kx a b se de co abt pr xs (v+1) ab (by omega)
theorem zN {N:Nat} (hN:100002<=N) {h:List ah} {s:af} (q:KI h s) (hb:∀ x∈s.stacks,x.txns.Nodup/\x.txns.length<=100000) (hl:s.stacks.length<=100000) (ab b R:List Int) (hbs:b.Pairwise (· < ·)) (hbl:b.length<=1000)
  (hR:∀ t,t∈R↔t∈b/\t∉ab) (hrd:∀ t∈R,Ready s t) (hst:∀ x∈s.stacks,∀ t∈x.txns,t∉ab->t∈R) (se:List Int) (de:List ae) (co abt pr:List Int) :
  ∀ (n:Nat) (com:List Int) (i:Nat),i<=b.length->(b.length - com.length) * (b.length+1)+(b.length - i)+1<=n->GS s ab R com->(∀ j t,j < i->b[j]?=some t->t∈ab∨t∈com∨¬ Lowest (cutS s (ab++com)) t) ->
   ∃ com',dE b N ab n ((rmS (ab++com) s.stacks).map (pileOf s),se,de,co,abt,pr,com,(i:Int))=some (com',ab)/\GS s ab R com'/\∀ t∈R,t∈com'
 | 0,com,i,hi,hn,hg,hj=>by omega
 | n+1,com,i,hi,hn,hg,hj=>by
  rw [dE];by_cases hlt:i < b.length
  ·have hxe:b[i]?=some b[i]:=List.getElem?_eq_getElem hlt;have hxb:b[i]∈b:=List.getElem_mem hlt;have hso:=fun j (hjl:j < b.length) (w:i < j)=>List.pairwise_iff_getElem.1 hbs i j hlt hjl w;generalize hx0:b[i]=x at hxe hxb hso;have hw:IntKind.i64.wrap ((i:Int)+1)=((i+1:Nat):Int):=by rw [w64 (by omega) (by omega)]; omega
   rw [if_pos (by omega),gx_nat hxe,dG,dG,Option.bind_some,Option.bind_some];have next:(x∈ab∨x∈com∨¬ Lowest (cutS s (ab++com)) x)->∃ com',dE b N ab n ((rmS (ab++com) s.stacks).map (pileOf s),se,de,co,abt,pr,com,IntKind.i64.wrap ((i:Int)+1))=some (com',ab)/\GS s ab R com'/\∀ t∈R,t∈com':=by
    intro hc;rw [hw];refine zN hN q hb hl ab b R hbs hbl hR hrd hst se de co abt pr n com (i+1) (by omega) (by omega) hg fun j t hjl hjt=>?_;by_cases e:j=i
    ·subst e;rw [hxe] at hjt;cases hjt;exact hc
    ·exact hj j t (by omega) hjt
   by_cases h1:x∈ab
   ·rw [if_pos (by simpa using h1)];unfold gQ;rw [if_pos rfl];exact next (.inl h1)
   rw [if_neg (by simpa using h1)];by_cases h2:x∈com
   ·rw [if_pos (by simpa using h2)];unfold gQ;rw [if_pos rfl];exact next (.inr (.inl h2))
   have hxR:x∈R:=(hR x).2 ⟨hxb,h1⟩;have hcut:x∉ab++com:=fun w=>(List.mem_append.1 w).elim h1 h2;rw [if_neg (by simpa using h2),all_eq hN (s:=cutS s (ab++com)) (by rfl) (by simp only [cutS,rmS,List.length_map]; exact hl),Option.bind_some];have hrdy:Ready (cutS s (ab++com)) x:=(Am hcut).2 (hrd x hxR);unfold gQ;by_cases h3:Lowest (cutS s (ab++com)) x
   ·rw [if_neg (by simp [hrdy,h3])];unfold kQ;have hnew:GS s ab R (com++[x]):=.snoc hg hxR h2 (fun u hu huc hlu=>by
     obtain ⟨hub,hua⟩:=(hR u).1 hu;obtain ⟨j,hjl,hje⟩:=List.mem_iff_getElem.1 hub;by_cases w:j < i
     ·rcases hj j u w (by rw [List.getElem?_eq_getElem hjl,hje]) with v|v|v
      ·exact absurd v hua
      ·exact absurd v huc
      ·exact absurd hlu v
     ·by_cases w2:j=i
      ·subst w2;rw [hx0] at hje;omega
      ·have:=hso j hjl (by omega);omega) h3
    have hcl:(com++[x]).length<=b.length:=List.Nodup.length_le_of_subset hnew.mem.1 fun t ht=>((hR t).1 (hnew.mem.2 t ht)).1;simp only [List.length_append,List.length_cons,List.length_nil] at hcl;rw [apx_of (by simp only [List.length_cons,List.length_nil]; omega),AH hN hb hl,Option.bind_some,List.append_assoc];refine zN hN q hb hl ab b R hbs hbl hR hrd hst se de co abt pr n (com++[x]) 0 (by omega) ?_ hnew (fun j t w=>by omega);obtain ⟨d,hd⟩:∃ d,b.length - com.length=d+1:=⟨b.length - com.length - 1,by omega⟩;have hd2:b.length - (com++[x]).length=d:=by simp; omega
    rw [hd,Nat.succ_mul] at hn;rw [hd2];omega
   ·rw [if_pos (by simp [h3])];exact next (.inr (.inr h3))
  ·rw [if_neg (by omega)];refine ⟨com,rfl,hg,fun t ht=>Classical.byContradiction fun hc=>?_⟩;have hne:(R.filter fun t=>!decide (t∈com))≠[]:=fun w=>by
    have:t∈(R.filter fun t=>!decide (t∈com)):=by rw [List.mem_filter]; exact ⟨ht,by simpa using hc⟩
    rw [w] at this;simp at this
   obtain ⟨t0,ht0,hlow⟩:=low_ex q (k:=ab++com) (rest:=R.filter fun t=>!decide (t∈com)) (fun x hx t ht=>by
    obtain ⟨y,hy,rfl⟩:=iw.1 hx;obtain ⟨h1,h2⟩:=oK.1 ht;simp only [List.mem_append,not_or] at h2;rw [List.mem_filter];exact ⟨hst y hy t h1 h2.1,by simpa using h2.2⟩) hne
   rw [List.mem_filter] at ht0;obtain ⟨hr0,hc0⟩:=ht0;obtain ⟨hb0,ha0⟩:=(hR t0).1 hr0;obtain ⟨j,hjl,hje⟩:=List.mem_iff_getElem.1 hb0;rcases hj j t0 (by omega) (by rw [List.getElem?_eq_getElem hjl,hje]) with v|v|v
   ·exact ha0 v
   ·simp [v] at hc0
   ·exact v hlow
theorem F7 {N:Nat} (hN:100002<=N) {h:List ah} {s:af} {r:ac} (c:Chain N h s) (hl:h.length<=300) (ht:eA N h=some (r,0,true)) (hr:Rel s r) :
  ∃ com ab,dz N h=some (com,ab)/\gE N h=some (com,ab):=by
 have q:=c.ki;have hz:=c.sz;have hk:=hz.kn;have hd:=hz.de;have hdl:=hr.dl;have hst:=hz.st;have hb:∀ x∈s.stacks,x.txns.Nodup/\x.txns.length<=100000:=fun x hx=>⟨ou (q.ord x hx),by have:=hz.tx x hx; omega⟩;unfold gE;rw [ht,Option.bind_some,if_pos rfl];obtain ⟨a,b,g1,g2,g3,g4,g5,g6,g7⟩:=wx hN hr (by omega) (gO N (r,0,true)) (0,true) s.known 0 [] [] List.Pairwise.nil List.Pairwise.nil (by simp; omega) (by simp; omega);simp only [List.not_mem_nil,false_or,List.length_nil,Nat.zero_add] at g4 g5 g6 g7;have hrl:=List.length_filter_le (fun t=>decide (statS s t=1)) s.known;obtain ⟨rc,e1,f1,e2,e3,e4⟩:=BM (N:=N) (d1:=s.deps) (d2:=r.deps) (t1:=s.known.filter fun t=>decide (statS s t=1)) (t2:=a) (by omega) (by omega) hN (fun z=>(hr.de z).symm) (fun z=>by rw [g4,List.mem_filter]; simp);obtain ⟨com,h1,h2,h3,h4⟩:=FV hN c hl e1 e2 e4;have hknown:∀ t∈rc,t∈s.known:=fun t htc=>by
  have w:=(e2 t).1 htc;cases w with
  | base w=>exact (List.mem_filter.1 w).1
  | step w _=>exact q.dk _ w
 have hfil:(rc.filter fun x=>decide (x∈a∨x∈b))=rc.filter fun x=>!decide (Ended s x):=by
  refine List.filter_congr fun t htc=>?_;have hkn:=hknown t htc;rw [Bool.eq_iff_iff,decide_eq_true_eq];simp only [Bool.not_eq_true',decide_eq_false_iff_not];rw [g4,g5,stat1,stat2];unfold Ended;by_cases w1:t∈s.aborted<;>by_cases w2:t∈s.committed<;>by_cases w3:Ready s t<;>simp [w1,w2,w3,hkn]
 have hin:ek (gO N (r,0,true)) N (r,0,true) (r,(0:Int),true).1.seen 0 ([],[])=gO N (r,0,true) a b:=by
  show ek (gO N (r,0,true)) N (r,0,true) r.seen 0 ([],[])=_;rw [hr.se];exact g1
 rw [hin];unfold gO;show ∃ com ab,_/\((fO N r.deps a).bind fun r19=>ew (mI b N) N a b r19 0 (r.piles,r.seen,r.deps,r.committed,r.aborted,r.prepared,[]))=_;have hp:r.piles=(rmS [] s.stacks).map (pileOf s):=by rw [Ct]; exact hr.pi
 rw [f1,Option.bind_some,hp,zA hN hb (by omega) _ _ _ _ _ _ _ _ rc 0 [] (by simp; omega),List.nil_append,hfil];unfold mI;generalize (rc.filter fun x=>!decide (Ended s x))=ab at h1 h2 h3 h4;have hR:∀ t,t∈prepL s ab↔t∈b/\t∉ab:=fun t=>by
  rw [g5];unfold prepL;rw [List.mem_filter];simp only [decide_eq_true_eq];constructor
  ·rintro ⟨x,y,z⟩; exact ⟨⟨x,z⟩,y⟩
  ·rintro ⟨⟨x,z⟩,y⟩; exact ⟨x,y,z⟩
 have hfuel:(b.length - ([]:List Int).length) * (b.length+1)+(b.length - 0)+1<=N:=by
  have h5:b.length * (b.length+1)<=300 * 301:=Nat.mul_le_mul (by omega) (by omega);simp only [List.length_nil,Nat.sub_zero];omega
 obtain ⟨com',k1,k2,k3⟩:=zN hN q hb (by omega) ab b (prepL s ab) g3 (by omega) hR (fun t htp=>by
  unfold prepL at htp;have:=(List.mem_filter.1 htp).2;simp only [decide_eq_true_eq] at this;exact (stat2.1 this.2).2.2) h4 r.seen r.deps r.committed r.aborted r.prepared N [] 0 (by omega) hfuel .nil (fun j t w=>by omega)
 rw [List.append_nil] at k1;have:com'=com:=k2.same h2 k3 h3;subst this;exact ⟨com',ab,h1,k1⟩
end Go.Proofs.YtekgpnhfhkhpaaaGreat

namespace Go.Proofs.YtekgpnhfhkhpaaaGreat
open Go Go.Proofs Go.Abs
theorem yy {N:Nat} (hN:200000<=N) (h:List ah) (hl:h.length<=300) (t a:Int):l8 N h t a=some true:=by
 have hN':100002<=N:=by omega
 unfold l8;rcases CG hN' h (by omega) with ⟨s,r,c,ht,hr⟩|⟨k,s,r,hv,ht⟩
 ·have hv:=c.v;have hz:=c.sz;have hst:=hz.st;have hde:=hz.de;have q:=c.ki;obtain ⟨com,ab,o1,o2⟩:=F7 hN' c hl ht hr;have r1:kD N h=some (0,true):=by unfold kD; rw [ht]; rfl
  have r2:jM N h t=some (statS s t):=by unfold jM; rw [ht,Option.bind_some,if_pos rfl,yL hN' hr (by omega)]; rfl
  have r3:jG N h=some s.committed:=by unfold jG; rw [ht,Option.bind_some,if_pos rfl,hr.co]
  have r4:km N h a=some (onL s.stacks a):=by
   unfold km;rw [ht,Option.bind_some,if_pos rfl,ym hN' hr (by omega),Option.bind_some];rcases jI (fun x=>decide (x.actor=a)) s.stacks 0 with ⟨e1,e2⟩|⟨i,x,e1,e2,e3,e4⟩
   ·have hno:∀ y∈s.stacks,y.actor≠a:=fun y hy=>by simpa using e2 y hy
    rw [e1,if_pos (by omega),qG hno]
   ·have ha:x.actor=a:=by simpa using e2
    have hxm:=List.mem_of_getElem? e1;have hg:r.piles[i]?=some (pileOf s x):=by rw [hr.pi,List.getElem?_map,e1]; rfl
    have hx:=hz.tx x hxm;rw [e4,if_neg (by omega),Nat.zero_add,gx_nat hg,oT q.dist hxm ha,apn_of (by show x.txns.length * _<=_; omega)];rfl
  obtain ⟨dp,d1,d2,d3⟩:=CC hN' hv (by omega);have r5:ei N h=some dp:=by
   unfold ei;rw [ht,Option.bind_some,if_pos rfl];exact congrArg some (tg Ag Fb hr.so d2 fun z=>(hr.de z).trans (d3 z).symm)
  have p1:eV N h a=some (onL s.stacks a):=by
   unfold eV;unfold V at hv;rw [hv,Option.bind_some,if_neg (by simp),on_eq];rfl
  simp only [yl hv,r1,o1,o2,Option.bind_some,yW,jn,Bool.not_true,Bool.false_eq_true,if_false,if_true,js,sV hv,r2,p1,r4,d1,r5,yP,BO hv,r3]
 ·have hk:(0:Int)<=((k:Nat):Int):=by omega
  have p1:eb N h=some ((k:Int),false):=by unfold eb; rw [hv,Option.bind_some,if_pos hk]
  have p2:dz N h=some ([],[]):=by unfold dz; rw [hv,Option.bind_some,if_pos hk]
  have p3:d8 N h t=some 0:=by unfold d8; rw [hv,Option.bind_some,if_pos hk]
  have p4:eV N h a=some []:=by unfold eV; rw [hv,Option.bind_some,if_pos hk]
  have p5:db N h=some []:=by unfold db; rw [hv,Option.bind_some,if_pos hk]
  have p6:eW N h=some []:=by unfold eW; rw [hv,Option.bind_some,if_pos hk]
  have r1:kD N h=some ((k:Int),false):=by unfold kD; rw [ht]; rfl
  have r2:gE N h=some ([],[]):=by unfold gE; rw [ht,Option.bind_some,if_neg (by simp)]
  have r3:jM N h t=some 0:=by unfold jM; rw [ht,Option.bind_some,if_neg (by simp)]
  have r4:km N h a=some []:=by unfold km; rw [ht,Option.bind_some,if_neg (by simp)]
  have r5:ei N h=some []:=by unfold ei; rw [ht,Option.bind_some,if_neg (by simp)]
  have r6:jG N h=some []:=by unfold jG; rw [ht,Option.bind_some,if_neg (by simp)]
  simp only [p1,p2,p3,p4,p5,p6,r1,r2,r3,r4,r5,r6,Option.bind_some,yW,jn,Bool.not_true,Bool.false_eq_true,if_false,if_true,js,yP]
theorem tk (l:List aj) (x:Int) (h0:0<=x) (h1:x<=255):eX 200000 l x=some true:=by
 unfold eX;rw [EJ _ (by omega),Option.bind_some,if_pos rfl];by_cases hl:l.length<=100
 case neg=>rw [if_pos (by omega)]
 obtain ⟨h,s,e1,c,e2⟩:=C7 (N:=200000) (by omega) l (by omega);rw [if_neg (by omega),e1,Option.bind_some,yy (by omega) h (by omega),Option.bind_some,if_pos rfl];by_cases hh:h.length=0
 ·rw [if_neg (by omega)];unfold fq;rw [yy (by omega) h (by omega)];rfl
 ·have hw:IntKind.i64.wrap x=x:=w64 (by omega) (by omega);have hlt:Int.tmod x ((h.length:Nat):Int) < ((h.length:Nat):Int):=Int.tmod_lt_of_pos _ (by omega);have hge:0<=Int.tmod x ((h.length:Nat):Int):=Int.tmod_nonneg _ h0;rw [if_pos (by omega),hw];generalize Int.tmod x ((h.length:Nat):Int)=m at hlt hge;obtain ⟨k,rfl⟩:∃ k:Nat,m=(k:Int):=⟨m.toNat,by omega⟩;unfold dvx;rw [if_neg (by omega),gx_nat (List.getElem?_eq_getElem (by omega))];unfold fq;rw [yy (by omega) _ (by rw [List.length_set]; omega)];rfl
end Go.Proofs.YtekgpnhfhkhpaaaGreat
