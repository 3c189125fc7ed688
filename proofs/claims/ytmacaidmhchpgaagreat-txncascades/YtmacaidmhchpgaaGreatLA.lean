/- Plain facts on the models; no program in sight. -/
import Derived.Test.YtmacaidmhchpgaaGreatM
set_option linter.defProp false
set_option linter.unusedSimpArgs false
set_option linter.unusedVariables false
namespace Go.Proofs.YtmacaidmhchpgaaGreat
open Go Go.Proofs Go.Abs
def Gm {a b:ByteArray}:sEq a b=true↔a=b:=by
 unfold sEq;rw [beq_iff_eq,ByteArray.toList_eq,ByteArray.toList_eq];obtain ⟨⟨x⟩⟩:=a;obtain ⟨⟨y⟩⟩:=b;simp
theorem GX (a:ByteArray):sEq a a=true:=Gm.2 rfl
theorem Ep {c:Prop} [Decidable c] {a b:Bool}:(if c then some a else some b)=some (if c then a else b):=by split<;>rfl
def JU {c:Prop} [Decidable c] {a b:Bool}:((if c then a else b)=true)↔((c/\a=true)∨(¬ c/\b=true)):=by split<;>simp [*]
def HC {a b:Bool}:(some a=some b)↔(a=true↔b=true):=by cases a<;>cases b<;>simp
def G0 {α β:Type} {l:List α} {i:Nat} {x:α} {k:α->Option β} (h:l[i]?=some x):gx l (i:Int) k=k x:=aO h
def LX {α:Type} (e:α->α->Bool):List α->List α->Bool
 | [],_=>true
 | x::xs,y::ys=>e x y && LX e xs ys
 | _::_,[]=>false
def QB {α:Type} {e:α->α->Bool} (he:∀ x y,e x y=true↔x=y):∀ {a b:List α},a.length=b.length->(LX e a b=true↔a=b)
 | [],[],_=>by simp [LX]
 | [],_::_,h=>by simp at h
 | _::_,[],h=>by simp at h
 | x::a,y::b,h=>by
  simp only [LX,cv,he,acZ];rw [QB he (by simpa using h)]
def Tz {α:Type} {L:List α->Nat->Unit->Option Bool} (a1:List α) (e:α->α->Bool) (h0:∀ v,L [] v ()=some true)
  (h1:∀ x xs v,L (x::xs) v ()=gx a1 (v:Int) fun y=>if e x y=true then L xs (v+1) () else some false) :
  ∀ (xs:List α) (v:Nat),v+xs.length<=a1.length->L xs v ()=some (LX e xs (a1.drop v))
 | [],v,_=>by rw [h0]; rfl
 | x::xs,v,h=>by
  simp only [cC] at h;have hv:v < a1.length:=by omega
  rw [h1,G0 (cn hv),xp hv,Tz a1 e h0 h1 xs (v+1) (by omega)];simp only [LX];cases e x a1[v]<;>simp
def eqL {α:Type} (e:α->α->Bool) (a b:List α):Bool:=decide (a.length=b.length) && LX e a b
def Ol {α:Type} {e:α->α->Bool} (he:∀ x y,e x y=true↔x=y) {a b:List α}:eqL e a b=true↔a=b:=by
 unfold eqL;by_cases h:a.length=b.length
 ·simp [h,QB he h]
 ·have:¬ a=b:=fun e=>h (by rw [e]);simp [h,this]
def P6 {α:Type} {L:List α->Nat->Unit->Option Bool} (a0 a1:List α) (e:α->α->Bool) (h0:∀ v,L [] v ()=some true)
  (h1:∀ x xs v,L (x::xs) v ()=gx a1 (v:Int) fun y=>if e x y=true then L xs (v+1) () else some false) :
  (if ((a0.length:Nat):Int)=((a1.length:Nat):Int) then L a0 0 () else some false)=some (eqL e a0 a1):=by
 unfold eqL;by_cases h:a0.length=a1.length
 ·rw [if_pos (by omega),Tz a1 e h0 h1 a0 0 (by omega),nQ];simp [h]
 ·rw [if_neg (by omega)];simp [h]
def C3 {α:Type} (p:α->Bool):List α->Nat->Int
 | [],_=>-1
 | x::xs,v=>if p x=true then (v:Int) else C3 p xs (v+1)
theorem kM {α:Type} {L:List α->Nat->Unit->Option Int} (f:α->Option Bool) (p:α->Bool) (h0:∀ v,L [] v ()=some (-1))
  (h1:∀ x xs v,L (x::xs) v ()=(f x).bind fun r=>if r=true then some ((v:Nat):Int) else L xs (v+1) ()) :
  ∀ (xs:List α) (v:Nat),(∀ x∈xs,f x=some (p x))->L xs v ()=some (C3 p xs v)
 | [],v,_=>by rw [h0]; rfl
 | x::xs,v,h=>by
  rw [h1,h x (by simp),cc,kM f p h0 h1 xs (v+1) (fun y hy=>h y (by simp [hy]))];simp only [C3];cases p x<;>rfl
def tq {α:Type} (p:α->Bool):∀ (xs:List α) (v:Nat),decide (0<=C3 p xs v)=xs.any p
 | [],v=>rfl
 | x::xs,v=>by
  simp only [C3,adS];by_cases h:p x=true
  ·have:(0:Int)<=(v:Int):=by omega
   simp [h,this]
  ·simpa [h] using tq p xs (v+1)
def Qk {α ρ:Type} {L:List α->Nat->Unit->Option ρ} (p:α->Bool) (k no:Option ρ) (h0:∀ v,L [] v ()=k)
  (h1:∀ x xs v,L (x::xs) v ()=if p x=true then L xs (v+1) () else no) :
  ∀ (xs:List α) (v:Nat),L xs v ()=if xs.all p=true then k else no
 | [],v=>by rw [h0]; rfl
 | x::xs,v=>by
  rw [h1,Qk p k no h0 h1 xs (v+1)];simp only [xT];by_cases h:p x=true<;>simp [h]
theorem tF {α:Type} {l:List α} {i:Nat} {x:α} (h:l[i]?=some x):l.set i x=l:=by
 apply nO;intro j;rw [hC];split
 ·rename_i e;subst e;have:=(cd.1 h).1;rw [if_pos this,h]
 ·rfl
def tV {α ρ:Type} {L:Nat->Nat->List α->Option ρ} (P:α->Prop)
  (h1:∀ m v l x,l[v]?=some x->P x->L (m+1) v l=L m (v+1) l) :
  ∀ (m v:Nat) (l:List α),v+m<=l.length->(∀ x∈l,P x)->L m v l=L 0 (v+m) l
 | 0,v,l,_,_=>rfl
 | m+1,v,l,h,hp=>by
  have hv:v < l.length:=by omega
  rw [h1 m v l l[v] (cn hv) (hp _ (nw hv)),tV P h1 m (v+1) l (by omega) hp]
  congr 1; omega
def vW {α β:Type} {b:Nat} {l:List α} {k:Option β} (h:l.length * (b+1)<=140737488355328):apn b l k=k:=by simp only [apn]; rw [if_pos h]
def mU {α β:Type} {b:Nat} {l l':List α} {k:List α->Option β} (h:(l.length+l'.length) * (b+1)<=140737488355328):apx b l l' k=k (l++l'):=by simp only [apx]; rw [if_pos h]
def w64 {n:Int} (h1:-9223372036854775808<=n) (h2:n<=9223372036854775807):IntKind.i64.wrap n=n:=lW h1 h2
def OB:∀ x:List UInt8,Op.bytesLess x x=false
 | []=>rfl
 | a::x=>by simp [Op.bytesLess,OB x]
def Qu:∀ {x y z:List UInt8},Op.bytesLess x y=true->Op.bytesLess y z=true->Op.bytesLess x z=true
 | _,[],_,h1,h2=>by simp [Op.bytesLess] at h1
 | _,_::_,[],h1,h2=>by simp [Op.bytesLess] at h2
 | [],_::_,_::_,h1,h2=>rfl
 | a::x,b::y,c::z,h1,h2=>by
  simp only [Op.bytesLess,nx,decide_eq_true_eq,cv,beq_iff_eq] at h1 h2 ⊢;rcases h1 with h1|⟨rfl,h1⟩
  ·rcases h2 with h2|⟨rfl,h2⟩
   ·exact .inl (UInt8.lt_trans h1 h2)
   ·exact .inl h1
  ·rcases h2 with h2|⟨rfl,h2⟩
   ·exact .inl h2
   ·exact .inr ⟨rfl,Qu h1 h2⟩
def Vr:∀ x y:List UInt8,Op.bytesLess x y=true∨x=y∨Op.bytesLess y x=true
 | [],[]=>.inr (.inl rfl)
 | [],_::_=>.inl rfl
 | _::_,[]=>.inr (.inr rfl)
 | a::x,b::y=>by
  simp only [Op.bytesLess,nx,decide_eq_true_eq,cv,beq_iff_eq];rcases UInt8.lt_or_lt_of_ne (a:=a) (b:=b) |> fun h=>(Classical.em (a=b)).imp id h with rfl|h|h
  ·rcases Vr x y with h|rfl|h
   ·exact .inl (.inr ⟨rfl,h⟩)
   ·exact .inr (.inl rfl)
   ·exact .inr (.inr (.inr ⟨rfl,h⟩))
  ·exact .inl (.inl h)
  ·exact .inr (.inr (.inl h))
def AO {a b:ByteArray}:sEq a b=true↔a=b:=by
 unfold sEq;rw [beq_iff_eq,ByteArray.toList_eq,ByteArray.toList_eq];obtain ⟨⟨x⟩⟩:=a;obtain ⟨⟨y⟩⟩:=b;simp
def Ut {a b:ByteArray} (h:a.toList=b.toList):a=b:=AO.1 (by simpa [sEq] using h)
def GO (a:ByteArray):sLt a a=false:=OB _
def OC {a b c:ByteArray} (h1:sLt a b=true) (h2:sLt b c=true):sLt a c=true:=Qu h1 h2
def TB (a b:ByteArray):sLt a b=true∨a=b∨sLt b a=true:=by
 rcases Vr a.toList b.toList with h|h|h
 ·exact .inl h
 ·exact .inr (.inl (Ut h))
 ·exact .inr (.inr h)
def yR (a b:ByteArray):Int:=if sLt a b=true then -1 else if sEq a b=true then 0 else 1
theorem Wy (N:Nat) (a b:ByteArray):eZ N a b=some (yR a b):=by
 have n1:sEq a a=true:=AO.2 rfl;have n2:sEq b b=true:=AO.2 rfl;simp only [eZ,k8,n1,n2,cc,yR];cases sLt a b<;>cases sEq a b<;>rfl
def BD {a b:ByteArray}:yR a b=0↔a=b:=by
 unfold yR;constructor
 ·intro h;split at h
  ·omega
  ·split at h
   ·rename_i e; exact AO.1 e
   ·omega
 ·rintro rfl;simp [GO,AO.2 rfl]
def QA {a b:ByteArray}:yR a b < 0↔sLt a b=true:=by
 unfold yR;split
 ·simp [*]
 ·split<;>simp [*]
def rl (a b:Ref):Bool:=sLt a.Type_ b.Type_ || (sEq a.Type_ b.Type_ && sLt a.Key b.Key)
def Qf {a b:Ref}:rl a b=true↔sLt a.Type_ b.Type_=true∨(a.Type_=b.Type_/\sLt a.Key b.Key=true):=by
 simp [rl,AO]
def jk (a:Ref):rl a a=false:=by
 simp [rl,GO]
def yZ {a b c:Ref} (h1:rl a b=true) (h2:rl b c=true):rl a c=true:=by
 rw [Qf] at *;rcases h1 with h1|⟨e1,h1⟩
 ·rcases h2 with h2|⟨e2,h2⟩
  ·exact .inl (OC h1 h2)
  ·exact .inl (e2 ▸ h1)
 ·rcases h2 with h2|⟨e2,h2⟩
  ·exact .inl (e1 ▸ h2)
  ·exact .inr ⟨e1.trans e2,OC h1 h2⟩
def N0 {a b:Ref} (h1:a.Type_=b.Type_) (h2:a.Key=b.Key):a=b:=by
 cases a; cases b; simp only at h1 h2; rw [h1,h2]
def I5 (a b:Ref):rl a b=true∨a=b∨rl b a=true:=by
 simp only [Qf];rcases TB a.Type_ b.Type_ with h|h|h
 ·exact .inl (.inl h)
 ·rcases TB a.Key b.Key with q|q|q
  ·exact .inl (.inr ⟨h,q⟩)
  ·exact .inr (.inl (N0 h q))
  ·exact .inr (.inr (.inr ⟨h.symm,q⟩))
 ·exact .inr (.inr (.inl h))
def EY (a b:Ref):Int:=if yR a.Type_ b.Type_=0 then yR a.Key b.Key else yR a.Type_ b.Type_
def N3 (N:Nat) (a b:Ref):mO N a b=some (EY a b):=by
 simp only [mO,Wy,cc,tO,qh,EY];by_cases h1:yR a.Type_ b.Type_=0
 ·by_cases h2:yR a.Key b.Key=0<;>simp [h1,h2]
 ·simp [h1]
def AY {a b:Ref}:EY a b < 0↔rl a b=true:=by
 unfold EY;rw [Qf];by_cases h1:yR a.Type_ b.Type_=0
 ·rw [if_pos h1,QA];have e:=BD.1 h1;simp [e,GO]
 ·rw [if_neg h1,QA];have e:¬ a.Type_=b.Type_:=fun q=>h1 (BD.2 q);simp [e]
def IY {a b:Ref}:EY a b=0↔a=b:=by
 unfold EY;by_cases h1:yR a.Type_ b.Type_=0
 ·rw [if_pos h1,BD];have e:=BD.1 h1;exact ⟨fun h=>N0 e h,fun h=>by rw [h]⟩
 ·rw [if_neg h1];exact ⟨fun h=>absurd h h1,fun h=>by rw [h] at h1; exact absurd (BD.2 rfl) h1⟩
def XM (N:Nat) (a b:Ref):wG N a b=some (rl a b):=by
 simp only [wG,rl];cases sLt a.Type_ b.Type_<;>cases sEq a.Type_ b.Type_<;>simp
structure VA (a:Ref):Prop where
 t1:1<=a.Type_.size
 t2:a.Type_.size<=32
 k:a.Key.size<=32
structure VL (x:ai):Prop where
 a:VA x.Actor
 o1:1<=x.Owner
 o2:x.Owner<=1099511627776
 wl:x.Waiters.length<=32
 w:∀ n∈x.Waiters,1<=n/\n < x.Owner
 so:x.Waiters.Pairwise (· < ·)
structure VT (t:List ai):Prop where
 len:t.length<=128
 l:∀ x∈t,VL x
 so:t.Pairwise fun a b=>rl a.Actor b.Actor=true
def LF (N:Nat) {a:Ref} (h:VA a):iI N a=some true:=by
 have:=h.t1; have:=h.t2; have:=h.k;simp only [iI];rw [if_pos (by omega),if_pos (by omega)];simp; omega
def Q2 (N:Nat) {n:Int} (h1:1<=n) (h2:n<=1099511627776):jP N n=some true:=by
 simp [jP,h1,h2]
def JQ {α:Type} {l xs:List α} {v:Nat} {x:α} (hd:l.drop v=x::xs):v < l.length/\l[v]?=some x/\l.drop (v+1)=xs:=by
 have hvl:v < l.length:=by
  rcases nS v l.length with h|h
  ·exact h
  ·rw [xe h] at hd; simp at hd
 rw [xp hvl] at hd;simp only [acZ] at hd;exact ⟨hvl,by rw [cn hvl,hd.1],hd.2⟩
def NN {α:Type} {R:α->α->Prop} {l:List α} (hs:l.Pairwise R) {v:Nat} {x:α} (hv:0 < v) (hx:l[v]?=some x):∃ y,l[v - 1]?=some y/\R y x:=by
 have hvl:=(cd.1 hx).1;have hxe:=(cd.1 hx).2;refine ⟨_,cn (by omega),?_⟩;have:=nj.1 hs (v - 1) v (by omega) hvl (by omega)
 rwa [hxe] at this
def Tg {x:ai} (h:VL x):∀ (xs:List Int) (v:Nat),x.Waiters.drop v=xs->eV x xs v ()=some true
 | [],v,_=>rfl
 | n::xs,v,hd=>by
  obtain ⟨hvl,hx,hd'⟩:=JQ hd;have hn:=h.w n (cg hx);have hl:=h.wl;have ih:=Tg h xs (v+1) hd';rw [eV,if_neg (by omega),if_neg (by omega)];by_cases h0:0 < v
  ·obtain ⟨y,hy,hlt⟩:=NN h.so h0 hx;rw [if_pos (by omega),w64 (by omega) (by omega),show ((v:Int) - 1)=((v - 1:Nat):Int) by omega,aO hy];have:¬ n<=y:=by omega
   simp [this,iE,ih]
  ·rw [if_neg (by omega)];simp [iE,ih]
def Yk (N:Nat) {x:ai} (h:VL x):mu N x=some true:=by
 have hl:=h.wl;have:¬ (32:Int) < (x.Waiters.length:Int):=by omega
 simp [mu,LF N h.a,Q2 N h.o1 h.o2,this,mo,mf,Tg h x.Waiters 0 rfl]
def RA (N:Nat) {t:List ai} (h:VT t):∀ (xs:List ai) (v:Nat),t.drop v=xs->jL N t xs v ()=some true
 | [],v,_=>rfl
 | x::xs,v,hd=>by
  obtain ⟨hvl,hx,hd'⟩:=JQ hd;have hl:=h.len;have ih:=RA N h xs (v+1) hd';rw [jL,Yk N (h.l x (cg hx)),cc,if_pos rfl];by_cases h0:0 < v
  ·obtain ⟨y,hy,hlt⟩:=NN h.so h0 hx;rw [if_pos (by omega),w64 (by omega) (by omega),show ((v:Int) - 1)=((v - 1:Nat):Int) by omega,aO hy,N3,cc];have:=AY.2 hlt;have:¬ 0<=EY y.Actor x.Actor:=by omega
   simp [this,oC,ih]
  ·rw [if_neg (by omega)];simp [oC,ih]
theorem AG (N:Nat) {t:List ai} (h:VT t):js N t=some true:=by
 have:=h.len;rw [js,if_neg (by omega)];exact RA N h t 0 rfl
section
variable {α:Type} {p:α->Bool}
def plc (p:α->Bool) (t:List α):Nat:=(t.takeWhile p).length
def Jw (t:List α):plc p t<=t.length:=(List.takeWhile_sublist p).length_le
def U1 (p:α->Bool) (t:List α):Prop:=t.Pairwise fun a b=>p b=true->p a=true
def uA:∀ {t:List α},U1 p t->∀ {i:Nat} {r:α},t[i]?=some r->(p r=true↔i < plc p t)
 | [],hp,i,r,hr=>by simp at hr
 | x::xs,hp,i,r,hr=>by
  have hp':=xQ.1 hp;by_cases h:p x=true
  ·have e:plc p (x::xs)=plc p xs+1:=by simp [plc,aeI,h]
   rw [e];cases i with
   | zero=>simp only [cr,cb] at hr; subst hr; simp [h]
   | succ i=>
    rw [nn] at hr;rw [uA (t:=xs) hp'.2 hr]; omega
  ·have e:plc p (x::xs)=0:=by simp [plc,aeI,h]
   rw [e];constructor
   ·intro hlt;exfalso;cases i with
    | zero=>simp only [cr,cb] at hr; subst hr; exact h hlt
    | succ i=>
     rw [nn] at hr;exact h (hp'.1 r (cg hr) hlt)
   ·omega
end
def QT {i j:Nat} (h:i+j<=1000000):IntKind.i64.wrap (j8 .u64 (IntKind.u64.wrap (IntKind.i64.wrap ((i:Int)+(j:Int)))) 1)=(((i+j) / 2:Nat):Int):=by
 rw [w64 (n:=(i:Int)+(j:Int)) (by omega) (by omega)];have e:IntKind.u64.wrap ((i:Int)+(j:Int))=(i:Int)+(j:Int):=Ts ⟨by show (0:Int)<=_; omega,by show _<=(18446744073709551615:Int); omega⟩;rw [e];have e2:j8 .u64 ((i:Int)+(j:Int)) 1=(((i+j) / 2:Nat):Int):=by
  show ((i:Int)+(j:Int)).fdiv 2=_;rw [adf _ (by omega)];omega
 rw [e2,w64 (by omega) (by omega)]
def pa (t:List ai) (a:Ref):Nat:=plc (fun x=>rl x.Actor a) t
def eqA (a b:Ref):Bool:=sEq a.Type_ b.Type_ && sEq a.Key b.Key
def Ge {a b:Ref}:eqA a b=true↔a=b:=by
 simp only [eqA,cv,AO];exact ⟨fun q=>N0 q.1 q.2,fun q=>by rw [q]; exact ⟨rfl,rfl⟩⟩
def vR (t:List ai) (a:Ref):Bool:=match t[pa t a]? with
 | some x=>eqA x.Actor a
 | none=>false
def Hl {t:List ai} (hs:t.Pairwise fun a b=>rl a.Actor b.Actor=true) (a:Ref):U1 (fun x:ai=>rl x.Actor a) t:=hs.imp (fun h1 h2=>yZ h1 h2)
def P9 {t:List ai} (h:VT t) (N:Nat) (a:Ref) (kx:Int->Option (Int × Bool)) :
  ∀ (n i j:Nat),j < i+n->i<=pa t a->pa t a<=j->j<=t.length->aY t N a kx n ((i:Int),(j:Int))=kx ((pa t a:Nat):Int)
 | 0,i,j,h1,h2,h3,h4=>by omega
 | n+1,i,j,h1,h2,h3,h4=>by
  have hl:=h.len;rw [aY];by_cases hij:i < j
  ·rw [if_pos (by omega),QT (by omega)];have hm:(i+j) / 2 < t.length:=by omega
   have hx:t[(i+j) / 2]?=some t[(i+j) / 2]:=cn hm;have hc:=uA (Hl h.so a) hx;rw [aO hx,pe,N3];simp only [cc,AY];by_cases hs:rl t[(i+j) / 2].Actor a=true
   ·rw [if_pos hs,w64 (by omega) (by omega)];have:(i+j) / 2 < pa t a:=hc.1 hs;exact P9 h N a kx n ((i+j) / 2+1) j (by omega) (by omega) h3 h4
   ·rw [if_neg hs];have:¬ (i+j) / 2 < pa t a:=fun q=>hs (hc.2 q);exact P9 h N a kx n i ((i+j) / 2) (by omega) h2 (by omega) (by omega)
  ·rw [if_neg (by omega)];have:i=pa t a:=by omega
   rw [this]
def Oi (N:Nat) (hN:200<=N) {t:List ai} (h:VT t) (a:Ref):qB N t a=some (((pa t a:Nat):Int),vR t a):=by
 have hl:=h.len;have hp:pa t a<=t.length:=Jw t;have:=P9 h N a (dM t N a) N 0 t.length (by omega) (by omega) hp (by omega);simp only [qB,dg];rw [show (0:Int)=((0:Nat):Int) from rfl,this];unfold dM vR;cases hq:t[pa t a]? with
 | none=>
  have:=ac1.1 hq;rw [if_neg (by omega)]; rfl
 | some s=>
  have:=(cd.1 hq).1;rw [if_pos (by omega),aO hq,pe,N3];have e:decide (EY s.Actor a=0)=eqA s.Actor a:=by rw [xY,decide_eq_true_eq,IY,Ge]
  simp [e]
def zh {t:List ai} {a:Ref} (h:vR t a=true):∃ x,t[pa t a]?=some x/\x.Actor=a:=by
 unfold vR at h;split at h
 ·rename_i s hs; exact ⟨s,hs,Ge.1 h⟩
 ·cases h
theorem XQ {t:List ai} (hp:t.Pairwise fun a b=>rl a.Actor b.Actor=true) {i:Nat} {x:ai} (hi:t[i]?=some x):pa t x.Actor=i/\vR t x.Actor=true:=by
 have h1:=uA (Hl hp x.Actor) hi;simp only [jk] at h1;have hle:pa t x.Actor<=i:=by
  rcases nS i (pa t x.Actor) with h|h
  ·exact absurd (h1.2 h) (by simp)
  ·exact h
 have hil:=(cd.1 hi).1;have hie:=(cd.1 hi).2;have hpl:pa t x.Actor < t.length:=by omega
 have e:pa t x.Actor=i:=by
  rcases nS (pa t x.Actor) i with h|h
  ·exfalso;have h2:=uA (Hl hp x.Actor) (cn hpl);have h3:=nj.1 hp _ i hpl hil h;rw [hie] at h3;have:pa t x.Actor < pa t x.Actor:=h2.1 h3;omega
  ·omega
 refine ⟨e,?_⟩;unfold vR;rw [e,hi];exact Ge.2 rfl
def W6 {α:Type} {l:List α} {v:Nat} {x:α} (h:l[v]?=some x):l.set v x=l:=by
 apply nO;intro i;rw [hC];by_cases e:v=i
 ·subst e;have hlt:=(cd.1 h).1;simp [hlt,<-h]
 ·simp [e]
def Rb (N:Nat) {t:List ai} (h:VT t):∀ (m v:Nat),v+m=t.length->lJ N m v t=some t
 | 0,v,hv=>by rw [lJ,Yt (by omega)]
 | m+1,v,hv=>by
  have hx:t[v]?=some t[v]:=cn (by omega);have hw:=(h.l _ (cg hx)).wl;rw [lJ,aO hx,dT,Vn (by omega),cc];rw [W6 (x:=t[v]) hx];exact Rb N h m (v+1) (by omega)
def Dw (N:Nat) {t:List ai} (h:VT t):fX N t=some t:=by
 have:=h.len;rw [fX,eL,Vn (by omega),cc];exact Rb N h _ 0 (by omega)
def pz (w:List Int) (n:Int):Nat:=plc (fun x=>decide (x < n)) w
def aas {w:List Int} (hs:w.Pairwise (· < ·)) (n:Int):U1 (fun x:Int=>decide (x < n)) w:=hs.imp (fun h1 h2=>by simp only [decide_eq_true_eq] at *; omega)
def M5 {w:List Int} (hs:w.Pairwise (· < ·)) {n:Int} {i:Nat} {x:Int} (hx:w[i]?=some x):x < n↔i < pz w n:=by
 have:=uA (aas hs n) hx;simpa [pz] using this
def PD (w:List Int) (n:Int):pz w n<=w.length:=Jw w
def W7 (N:Nat) (a b:Int):pj N a b=some (decide (a < b)):=by
 simp [pj,qk]
def ZD {w:List Int} (hs:w.Pairwise (· < ·)) {n:Int}:n∈w↔w[pz w n]?=some n:=by
 constructor
 ·intro h;obtain ⟨i,hi⟩:=nZ.1 h;have h1:=M5 hs hi (n:=n);have hle:pz w n<=i:=by omega
  have hil:=(cd.1 hi).1;have hpl:pz w n < w.length:=by omega
  rcases nS (pz w n) i with q|q
  ·exfalso;have h2:=M5 hs (cn hpl) (n:=n);have h3:=nj.1 hs _ i hpl hil q;have h4:w[i]=n:=(cd.1 hi).2;omega
  ·have:pz w n=i:=by omega
   rw [this]; exact hi
 ·exact cg
def PZ {w:List Int} (hl:w.length<=32) (hs:w.Pairwise (· < ·)) (N:Nat) (a:Int) (kx:Int->Option (Int × Bool)) :
  ∀ (n i j:Nat),j < i+n->i<=pz w a->pz w a<=j->j<=w.length->dR w N a kx n ((i:Int),(j:Int))=kx ((pz w a:Nat):Int)
 | 0,i,j,h1,h2,h3,h4=>by omega
 | n+1,i,j,h1,h2,h3,h4=>by
  rw [dR];by_cases hij:i < j
  ·rw [if_pos (by omega),QT (by omega)];have hm:(i+j) / 2 < w.length:=by omega
   have hx:w[(i+j) / 2]?=some w[(i+j) / 2]:=cn hm;have hc:=M5 hs hx (n:=a);rw [aO hx,W7];simp only [cc,decide_eq_true_eq];by_cases hlt:w[(i+j) / 2] < a
   ·rw [if_pos hlt,w64 (by omega) (by omega)];have:(i+j) / 2 < pz w a:=hc.1 hlt;exact PZ hl hs N a kx n ((i+j) / 2+1) j (by omega) (by omega) h3 h4
   ·rw [if_neg hlt];have:¬ (i+j) / 2 < pz w a:=fun q=>hlt (hc.2 q);exact PZ hl hs N a kx n i ((i+j) / 2) (by omega) h2 (by omega) (by omega)
  ·rw [if_neg (by omega)];have:i=pz w a:=by omega
   rw [this]
def Zr (N:Nat) (hN:200<=N) {w:List Int} (hl:w.length<=32) (hs:w.Pairwise (· < ·)) (a:Int):gm N w a=some (((pz w a:Nat):Int),decide (a∈w)):=by
 have hp:=PD w a;have:=PZ hl hs N a (jt w a N) N 0 w.length (by omega) (by omega) hp (by omega);simp only [gm];rw [show (0:Int)=((0:Nat):Int) from rfl,this];unfold jt;have hm:=ZD hs (n:=a);cases hq:w[pz w a]? with
 | none=>
  have:=ac1.1 hq;rw [if_neg (by omega)];rw [hq] at hm;have:a∉w:=fun q=>by simpa using hm.1 q
  simp [this]
 | some s=>
  have:=(cd.1 hq).1;rw [if_pos (by omega),aO hq];rw [hq] at hm;by_cases e:s=a
  ·subst e;have:s∈w:=hm.2 rfl;simp [this]
  ·have:a∉w:=fun q=>e (ng (hm.1 q));simp [e,this,k7]
def E5 (w:List Int) (n:Int):List Int:=w.take (pz w n)++[n]++w.drop (pz w n)
def Lt {w:List Int} {n z:Int}:z∈E5 w n↔z=n∨z∈w:=by
 unfold E5;have:z∈w↔z∈w.take (pz w n)∨z∈w.drop (pz w n):=by rw [<-cF,xA]
 rw [this];simp only [cF,cG];constructor
 ·rintro ((h|h)|h)<;>simp [h]
 ·rintro (h|h|h)<;>simp [h]
def XR {w:List Int} {n:Int}:(E5 w n).length=w.length+1:=by
 have:=PD w n;simp [E5]; omega
def Ym {w:List Int} (hs:w.Pairwise (· < ·)) {n:Int} (hn:n∉w):(E5 w n).Pairwise (· < ·):=by
 unfold E5;have hp:=PD w n;have h1:∀ z∈w.take (pz w n),z < n:=by
  intro z hz;obtain ⟨i,hi⟩:=nZ.1 hz;have hil:=(cd.1 hi).1;rw [nD] at hil;rw [xl (by omega)] at hi;exact (M5 hs hi).2 (by omega)
 have h2:∀ z∈w.drop (pz w n),n < z:=by
  intro z hz;obtain ⟨i,hi⟩:=nZ.1 hz;rw [cZ] at hi;have:=M5 hs hi (n:=n);have hne:z≠n:=fun q=>hn (q ▸ cg hi);omega
 rw [nq,xk];refine ⟨hs.sublist (ady _ _),?_,fun a ha b hb=>?_⟩
 ·rw [xR,xQ];exact ⟨fun b hb=>h2 b hb,hs.sublist (ad7 _ _)⟩
 ·have:=h1 a ha;rcases cF.1 hb with hb|hb
  ·rw [cG] at hb; omega
  ·have:=h2 b hb; omega
def acq (t:List ai) (a:Ref) (n:Int):List ai × Int × Int:=
 if vR t a=true then
  match t[pa t a]? with
  | some x=>if x.Owner=n then (t,1,0) else if x.Owner < n then (t,3,0) else if n∈x.Waiters then (t,2,0) else if x.Waiters.length=32 then ([],0,5) else (t.set (pa t a) ⟨x.Actor,x.Owner,E5 x.Waiters n⟩,2,0)
  | none=>([],0,0)
 else if t.length=128 then ([],0,5) else (t.take (pa t a)++[⟨a,n,[]⟩]++t.drop (pa t a),1,0)
def Ye (t:List ai) (a:Ref):pa t a<=t.length:=Jw t
def Zq (N:Nat) (hN:200<=N) {t:List ai} (h:VT t) {a:Ref} (ha:VA a) {n:Int} (n1:1<=n) (n2:n<=1099511627776):qg N t a n=some (acq t a n):=by
 have hl:=h.len;have hp:=Ye t a;simp only [qg,AG N h,LF N ha,Q2 N n1 n2,cc,if_true,ny,oU,cR,if_false,py,Oi N hN h];unfold acq;by_cases hh:vR t a=true
 ·obtain ⟨x,hx,hxa⟩:=zh hh;have hv:=h.l x (cg hx);have hw:=hv.wl;rw [if_pos hh,if_pos hh,aO hx,Zr N hN hv.wl hv.so,hx];simp only [cc,Dw N h];by_cases e1:x.Owner=n
  ·simp [e1]
  ·by_cases e2:x.Owner < n
   ·simp [e1,e2]
   ·by_cases e3:n∈x.Waiters
    ·simp [e1,e2,e3]
    ·by_cases e4:x.Waiters.length=32
     ·simp [e1,e2,e3,e4]
     ·have e4':¬ ((x.Waiters.length:Nat):Int)=32:=by omega
      have hpz:=PD x.Waiters n;simp only [e1,e2,e3,e4,e4',if_false,decide_false,cR,aO hx];unfold mV Jr;rw [if_pos ⟨by omega,by omega,rfl,by omega⟩];simp [E5]
 ·rw [if_neg hh,if_neg hh];by_cases e:t.length=128
  ·rw [if_pos (by omega),if_pos e]
  ·rw [if_neg (by omega),if_neg e,Dw N h,cc];unfold lX Jr;rw [if_pos ⟨by omega,by omega,rfl,by omega⟩];simp
def Rg {α β:Type} {R:β->β->Prop} {f:α->β} {l:List α} (h:l.Pairwise fun a b=>R (f a) (f b)) {i:Nat} {x y:α} (hx:l[i]?=some x) (he:f y=f x):(l.set i y).Pairwise fun a b=>R (f a) (f b):=by
 rw [nj] at *;intro j k hj hk hjk;rw [cX] at hj hk;have hxi:l[i]'((cd.1 hx).1)=x:=(cd.1 hx).2;have key:∀ j (hj:j < l.length),f ((l.set i y)[j]'(by rw [cX]; exact hj))=f l[j]:=by
  intro j hj;rw [List.getElem_set];split
  ·rename_i e; subst e; rw [he,hxi]
  ·rfl
 rw [key j hj,key k hk];exact h j k hj hk hjk
def VT.set {t:List ai} (h:VT t) {i:Nat} {x y:ai} (hx:t[i]?=some x) (he:y.Actor=x.Actor) (hy:VL y):VT (t.set i y):=by
 refine ⟨by rw [cX]; exact h.len,fun z hz=>?_,Rg (f:=ai.Actor) (R:=fun a b=>rl a b=true) h.so hx he⟩;rcases aew hz with hz|rfl
 ·exact h.l z hz
 ·exact hy
def Yp {t:List ai} (hs:t.Pairwise fun a b=>rl a.Actor b.Actor=true) {a:Ref} (hh:¬ vR t a=true) (x:ai) (hx:x.Actor=a):(t.take (pa t a)++[x]++t.drop (pa t a)).Pairwise fun a b=>rl a.Actor b.Actor=true:=by
 have h1:∀ z∈t.take (pa t a),rl z.Actor a=true:=by
  intro z hz;obtain ⟨i,hi⟩:=nZ.1 hz;have hil:=(cd.1 hi).1;rw [nD] at hil;rw [xl (by omega)] at hi;exact (uA (Hl hs a) hi).2 (by show i < pa t a; omega)
 have h2:∀ z∈t.drop (pa t a),rl a z.Actor=true:=by
  intro z hz;obtain ⟨i,hi⟩:=nZ.1 hz;rw [cZ] at hi;have hc:=uA (Hl hs a) hi;rcases I5 z.Actor a with q|q|q
  ·have:pa t a+i < pa t a:=hc.1 q;omega
  ·exact absurd (q ▸ (XQ hs hi).2) hh
  ·exact q
 rw [nq,xk];refine ⟨hs.sublist (ady _ _),?_,fun y hy z hz=>?_⟩
 ·rw [xR,xQ];exact ⟨fun b hb=>hx ▸ h2 b hb,hs.sublist (ad7 _ _)⟩
 ·have:=h1 y hy;rcases cF.1 hz with hz|hz
  ·rw [cG] at hz; rw [hz,hx]; exact this
  ·exact yZ this (h2 z hz)
def Zj {t:List ai} (h:VT t) {a:Ref} (ha:VA a) {n:Int} (n1:1<=n) (n2:n<=1099511627776):VT (acq t a n).1:=by
 have nil:VT []:=⟨by simp,by simp,List.Pairwise.nil⟩;have hl:=h.len;have hp:=Ye t a;unfold acq;split
 ·rename_i hh;obtain ⟨x,hx,hxa⟩:=zh hh;have hv:=h.l x (cg hx);have hw:=hv.wl;rw [hx];dsimp only;split
  ·exact h
  split
  ·exact h
  split
  ·exact h
  split
  ·exact nil
  rename_i e1 e2 e3 e4;exact h.set hx rfl ⟨hv.a,hv.o1,hv.o2,by rw [XR]; show x.Waiters.length+1<=32; omega,fun z hz=>by
   rcases Lt.1 hz with rfl|hz
   ·exact ⟨n1,by show z < x.Owner; omega⟩
   ·exact hv.w z hz,Ym hv.so e3⟩
 ·rename_i hh;split
  ·exact nil
  ·rename_i e;refine ⟨by simp; omega,fun z hz=>?_,Yp h.so hh ⟨a,n,[]⟩ rfl⟩;simp only [cF,cG] at hz;rcases hz with (hz|rfl)|hz
   ·exact h.l z (nI hz)
   ·exact ⟨ha,n1,n2,by simp,by simp,List.Pairwise.nil⟩
   ·exact h.l z (xu hz)
def yE {α:Type} {l:List α} {k:Nat} {x:α} (h:k < l.length):(l.set k x).take (k+1)=l.take k++[x]:=by
 rw [xB,hC];simp only [if_true,h,xP];rw [aez (cw k)]
theorem V7 (N:Nat) (x id:Int):lf N x id=some (decide (x=id)):=rfl
def Rv (N:Nat) (id:Int):∀ (xs:List Int) (v:Nat),(id∉xs/\bj N id xs v ()=some (-1))∨∃ i,xs[i]?=some id/\id∉xs.take i/\bj N id xs v ()=some ((v+i:Nat):Int)
 | [],v=>.inl ⟨by simp,rfl⟩
 | x::xs,v=>by
  rw [bj,V7,cc];by_cases e:x=id
  ·exact .inr ⟨0,by simp [e],by simp,by simp [e]⟩
  ·have e':¬ id=x:=fun q=>e q.symm;rcases Rv N id xs (v+1) with ⟨h1,h2⟩|⟨i,h1,h2,h3⟩
   ·exact .inl ⟨by simp [e',h1],by simp [e,h2]⟩
   ·refine .inr ⟨i+1,by simpa using h1,by simp [e',h2],?_⟩;simp only [e,decide_false,cR,if_false,h3]
    congr 2; omega
def neB (id:Int) (x:Int):Bool:=!decide (x=id)
structure WN (a l:List Int) (id:Int) (i j:Nat):Prop where
 len:l.length=a.length
 ij:i < j
 jl:j<=a.length
 pre:l.take i=(a.take j).filter (neB id)
 rest:∀ q,j<=q->l[q]?=a[q]?
theorem Jf (N:Nat) (a:List Int) (id:Int) (ha:a.length<=1000) (kx:List Int->Int->Option (List Int)):∀ (n:Nat) (l:List Int) (i j:Nat),a.length < j+n->WN a l id i j->∃ l' i',WN a l' id i' a.length/\bf N id kx n (l,(i:Int),(j:Int))=kx l' ((i':Nat):Int)
 | 0,l,i,j,hn,h=>by have:=h.jl; omega
 | n+1,l,i,j,hn,h=>by
  have hl:=h.len; have hij:=h.ij; have hj:=h.jl;rw [bf];by_cases hlt:j < a.length
  ·have g1:l[j]?=some a[j]:=by rw [h.rest j (cw _),cn hlt]
   have htk:a.take (j+1)=a.take j++[a[j]]:=by rw [xB,cn hlt]; rfl
   rw [if_pos (by omega),aO g1,V7,cc,w64 (n:=(j:Int)+1) (by omega) (by omega),show ((j:Int)+1)=((j+1:Nat):Int) by omega];by_cases e:a[j]=id
   ·simp only [e,decide_true,if_true];refine Jf N a id ha kx n l i (j+1) (by omega) ⟨hl,by omega,by omega,?_,fun q hq=>h.rest q (by omega)⟩;rw [h.pre,htk,xz]; simp [neB,e]
   ·have hil:i < l.length:=by omega
    simp only [e,decide_false,cR,if_false];rw [aO (cn hil),w64 (n:=(i:Int)+1) (by omega) (by omega),show ((i:Int)+1)=((i+1:Nat):Int) by omega,cL];refine Jf N a id ha kx n (l.set i a[j]) (i+1) (j+1) (by omega) ⟨by simp [hl],by omega,by omega,?_,fun q hq=>by rw [xC (by omega)]; exact h.rest q (by omega)⟩;rw [yE hil,h.pre,htk,xz]; simp [neB,e]
  ·rw [if_neg (by omega)];have:j=a.length:=by omega
   subst this;exact ⟨l,i,h,rfl⟩
def U4 (N:Nat) (hN:1001<=N) (a:List Int) (id:Int) (ha:a.length<=1000):bA N a id=some (a.filter (neB id)):=by
 unfold bA dF;rcases Rv N id a 0 with ⟨h1,h2⟩|⟨i,h1,h2,h3⟩
 ·rw [h2,cc,if_pos rfl];have hf:a.filter (neB id)=a:=xO.2 (fun x hx=>by
   simp only [neB];by_cases e:x=id
   ·exact absurd (e ▸ hx) h1
   ·simp [e])
  rw [hf]
 ·have hil:=(cd.1 h1).1;rw [h3,cc,if_neg (by omega),cS,w64 (by omega) (by omega),show ((i:Int)+1)=((i+1:Nat):Int) by omega];have hd:WN a a id i (i+1):=⟨rfl,by omega,by omega,by
   rw [xB,h1,xP,xz];have e1:(a.take i).filter (neB id)=a.take i:=xO.2 fun x hx=>by
    simp only [neB];by_cases e:x=id
    ·exact absurd (e ▸ hx) h2
    ·simp [e]
   rw [e1]; simp [neB],fun _ _=>rfl⟩
  obtain ⟨l',i',h',e'⟩:=Jf N a id ha dV N a i (i+1) (by omega) hd;rw [e'];have q1:=h'.len; have q2:=h'.ij;unfold dV slx;rw [cL,if_pos ⟨by omega,by omega,by omega,by omega⟩];dsimp only;rw [if_pos ⟨by omega,by omega,by omega,by rw [N6 (by omega)]; omega⟩];try dsimp only
  rw [LS (by omega),h'.pre,ni (cw _)]
def ve (w:List Int):Int:=(w[w.length - 1]?).getD 0
def pM (t:List ai) (p:Nat):List ai × Int:=match t[p]? with
 | some x=>if x.Waiters.length=0 then (t.take p++t.drop (p+1),0) else (t.set p ⟨x.Actor,ve x.Waiters,x.Waiters.take (x.Waiters.length - 1)⟩,ve x.Waiters)
 | none=>(t,0)
theorem Ej {w:List Int} (h:w.length≠0):w[w.length - 1]?=some (ve w):=by
 have:w.length - 1 < w.length:=by omega
 rw [ve,cn this]; rfl
def Ti (N:Nat) {t:List ai} {p:Nat} {x:ai} (hx:t[p]?=some x) (hp:t.length<=1000) (hw:x.Waiters.length<=32):tA N t (p:Int)=some (pM t p):=by
 have hlt:=(cd.1 hx).1;rw [tA,aO hx,pM,hx];dsimp only;by_cases e:x.Waiters.length=0
 ·rw [if_pos (by omega),if_pos e,w64 (by omega) (by omega)];unfold lV TW;rw [if_pos ⟨by omega,by omega,by omega⟩,cc];simp only [cL,show ((p:Int)+1).toNat=p+1 by omega]
 ·rw [if_neg (by omega),if_neg e,w64 (by omega) (by omega),show ((x.Waiters.length:Nat):Int) - 1=((x.Waiters.length - 1:Nat):Int) by omega,aO (Ej e)];unfold slt;rw [cL,if_pos ⟨by omega,by omega⟩];simp only [adQ,cL]
def VL.passed {x:ai} (h:VL x) (e:x.Waiters.length≠0):VL ⟨x.Actor,ve x.Waiters,x.Waiters.take (x.Waiters.length - 1)⟩:=by
 have hg:=Ej e;have hm:=h.w _ (cg hg);have h1:=h.o2; have h2:=h.wl;refine ⟨h.a,hm.1,by show ve x.Waiters<=_; omega,by simp; omega,fun z hz=>⟨(h.w z (nI hz)).1,?_⟩,h.so.sublist (ady _ _)⟩;obtain ⟨i,hi⟩:=nZ.1 hz;have hil:=(cd.1 hi).1;rw [nD] at hil;rw [xl (by omega)] at hi;have hlt:i < x.Waiters.length:=by omega
 have:=nj.1 h.so i (x.Waiters.length - 1) hlt (by omega) (by omega);rw [(cd.1 hi).2,(cd.1 hg).2] at this;exact this
def W9 {t:List ai} (h:VT t) (p:Nat):VT (pM t p).1:=by
 unfold pM;split
 ·rename_i x hx;split
  ·refine ⟨?_,fun z hz=>?_,?_⟩
   ·have:=h.len;simp only [hU,nD,ac8]; omega
   ·rcases cF.1 hz with hz|hz
    ·exact h.l z (nI hz)
    ·exact h.l z (xu hz)
   ·refine h.so.sublist ?_
    conv=>rhs; rw [<-xA p t]
    refine List.Sublist.append (List.Sublist.refl _) ?_;rw [<-acW];exact ad7 _ _
  ·rename_i e;exact h.set hx rfl ((h.l x (cg hx)).passed e)
 ·exact h
def rls (t:List ai) (a:Ref) (n:Int):List ai × Int × Int:=
 if vR t a=true then
  match t[pa t a]? with
  | some x=>if x.Owner=n then ((pM t (pa t a)).1,(pM t (pa t a)).2,0) else ([],0,10)
  | none=>([],0,0)
 else ([],0,10)
def Zv (N:Nat) (hN:200<=N) {t:List ai} (h:VT t) {a:Ref} (ha:VA a) {n:Int} (n1:1<=n) (n2:n<=1099511627776):mQ N t a n=some (rls t a n):=by
 have hl:=h.len;simp only [mQ,AG N h,LF N ha,Q2 N n1 n2,cc,if_true,ny,pA,cR,if_false,oY,Oi N hN h];unfold rls;by_cases hh:vR t a=true
 ·obtain ⟨x,hx,hxa⟩:=zh hh;have hv:=h.l x (cg hx);rw [if_pos hh,if_pos hh,aO hx,hx];by_cases e:x.Owner=n
  ·simp [e,lB,tu,Dw N h,Ti N hx (by omega) hv.wl]
  ·simp [e,lB]
 ·rw [if_neg hh,if_neg hh];simp [lB]
def VT.nil:VT []:=⟨by simp,by simp,List.Pairwise.nil⟩
def j3 (n:Int):List ai->List ai × List az
 | []=>([],[])
 | x::xs=>if x.Owner=n then (if x.Waiters.length=0 then j3 n xs else (⟨x.Actor,ve x.Waiters,x.Waiters.take (x.Waiters.length - 1)⟩::(j3 n xs).1,⟨x.Actor,ve x.Waiters⟩::(j3 n xs).2)) else (x::(j3 n xs).1,(j3 n xs).2)
def z6 {α:Type} {A B:List α} {x:α}:(A++x::B)[A.length]?=some x:=by simp
def JF {α:Type} {A B:List α} {x y:α}:(A++x::B).set A.length y=A++y::B:=by simp
def Um {A B:List ai} {x:ai} (e:x.Waiters.length=0):pM (A++x::B) A.length=(A++B,0):=by
 rw [pM,z6];dsimp only;rw [if_pos e];simp
def TZ {A B:List ai} {x:ai} (e:x.Waiters.length≠0):pM (A++x::B) A.length=(A++⟨x.Actor,ve x.Waiters,x.Waiters.take (x.Waiters.length - 1)⟩::B,ve x.Waiters):=by
 rw [pM,z6];dsimp only;rw [if_neg e,JF]
def Xk {x:ai} (h:VL x) (e:x.Waiters.length≠0):1<=ve x.Waiters:=(h.w _ (cg (Ej e))).1
def Et (N:Nat) (n:Int):∀ (B A:List ai) (g:List az) (k:Nat),B.length < k->A.length+B.length<=200->g.length+B.length<=1000->(∀ x∈B,VL x)->eI n N k (A++B,g,((A.length:Nat):Int))=some (A++(j3 n B).1,g++(j3 n B).2)
 | _,_,_,0,h,_,_,_=>by omega
 | [],A,g,k+1,h,h1,h2,hB=>by
  rw [eI,if_neg (by simp)];simp [j3]
 | x::B,A,g,k+1,h,h1,h2,hB=>by
  simp only [cC] at h h1 h2;have hx:=hB x (by simp);rw [eI,if_pos (by simp; omega),aO z6];by_cases e:x.Owner=n
  ·rw [if_pos e,Ti N z6 (by simp; omega) hx.wl,cc];by_cases e0:x.Waiters.length=0
   ·rw [Um e0];dsimp only;rw [if_pos rfl,Et N n B A g k (by omega) (by omega) (by omega) (fun y hy=>hB y (by simp [hy]))];simp [j3,e,e0]
   ·have hp:=Xk hx e0;rw [TZ e0];dsimp only;rw [if_neg (by omega),ZX (by simp only [cC,cW]; omega),w64 (by omega) (by omega)];have:=Et N n B (A++[⟨x.Actor,ve x.Waiters,x.Waiters.take (x.Waiters.length - 1)⟩]) (g++[⟨x.Actor,ve x.Waiters⟩]) k (by omega) (by simp; omega) (by simp; omega) (fun y hy=>hB y (by simp [hy]));simp only [hU,cC,cW,nq,xR] at this;rw [show ((A.length:Nat):Int)+1=((A.length+(0+1):Nat):Int) by omega,this];simp [j3,e,e0]
  ·rw [if_neg e,w64 (by omega) (by omega)];have:=Et N n B (A++[x]) g k (by omega) (by simp; omega) (by omega) (fun y hy=>hB y (by simp [hy]));simp only [hU,cC,cW,nq,xR] at this;rw [show ((A.length:Nat):Int)+1=((A.length+(0+1):Nat):Int) by omega,this];simp [j3,e]
def VK (N:Nat) (hN:200<=N) {t:List ai} (h:VT t) (n:Int):lz N t n=some (j3 n t):=by
 have hl:=h.len;have:=Et N n t [] [] N (by omega) (by simp; omega) (by simp; omega) h.l;simp only [lz,AG N h,cc,if_true,Dw N h];simpa using this
def Dy {n:Int}:∀ {t:List ai} {y:ai},y∈(j3 n t).1->∃ x∈t,y.Actor=x.Actor/\(VL x->VL y)
 | [],y,h=>by simp [j3] at h
 | x::xs,y,h=>by
  unfold j3 at h;split at h
  ·split at h
   ·obtain ⟨z,hz,q⟩:=Dy h;exact ⟨z,by simp [hz],q⟩
   ·rename_i e0;rcases cK.1 h with rfl|h
    ·exact ⟨x,by simp,rfl,fun hv=>hv.passed e0⟩
    ·obtain ⟨z,hz,q⟩:=Dy h;exact ⟨z,by simp [hz],q⟩
  ·rcases cK.1 h with rfl|h
   ·exact ⟨y,by simp,rfl,id⟩
   ·obtain ⟨z,hz,q⟩:=Dy h;exact ⟨z,by simp [hz],q⟩
def QJ {n:Int}:∀ (t:List ai),(j3 n t).1.length<=t.length
 | []=>by simp [j3]
 | x::xs=>by
  have:=QJ (n:=n) xs;unfold j3;split
  ·split<;>simp<;>omega
  ·simp; omega
def Tn {n:Int}:∀ {t:List ai},(t.Pairwise fun a b=>rl a.Actor b.Actor=true)->(j3 n t).1.Pairwise fun a b=>rl a.Actor b.Actor=true
 | [],_=>by simp [j3]
 | x::xs,h=>by
  rw [xQ] at h;have ih:=Tn (n:=n) h.2;have hd:∀ y∈(j3 n xs).1,rl x.Actor y.Actor=true:=by
   intro y hy;obtain ⟨z,hz,q,_⟩:=Dy hy;rw [q]; exact h.1 z hz
  unfold j3;split
  ·split
   ·exact ih
   ·rw [xQ]; exact ⟨hd,ih⟩
  ·rw [xQ]; exact ⟨hd,ih⟩
def Tt {t:List ai} (h:VT t) (n:Int):VT (j3 n t).1:=by
 refine ⟨nA (QJ t) h.len,fun y hy=>?_,Tn h.so⟩;obtain ⟨x,hx,_,q⟩:=Dy hy;exact q (h.l x hx)
def wd1 (n:Int) (x:ai):ai:=⟨x.Actor,x.Owner,x.Waiters.filter (neB n)⟩
theorem XZ (N:Nat) (hN:1001<=N) (n:Int):∀ (B A:List ai) (m:Nat),m=B.length->(∀ x∈B,VL x)->iY N n m A.length (A++B)=some (A++B.map (wd1 n))
 | [],A,m,hm,hB=>by subst hm; simp [iY]
 | x::B,A,m,hm,hB=>by
  subst hm;have hx:=hB x (by simp);have hw:=hx.wl;rw [cC,iY,aO z6,U4 N hN _ n (by omega),cc,JF];have:=XZ N hN n B (A++[wd1 n x]) B.length rfl (fun y hy=>hB y (by simp [hy]));simp only [hU,cC,cW,nq,xR,wd1] at this;rw [this]; rfl
def aau (N:Nat) (hN:1001<=N) {t:List ai} (h:VT t) (n:Int):oO N t n=some (t.map (wd1 n)):=by
 have:=XZ N hN n t [] t.length rfl h.l;simp only [oO,AG N h,cc,if_true,Dw N h];simpa using this
def X9 {t:List ai} (h:VT t) (n:Int):VT (t.map (wd1 n)):=by
 refine ⟨by rw [cy]; exact h.len,fun y hy=>?_,?_⟩
 ·obtain ⟨x,hx,rfl⟩:=cJ.1 hy;have hv:=h.l x hx;exact ⟨hv.a,hv.o1,hv.o2,nA (adz _ _) hv.wl,fun z hz=>hv.w z (nR.1 hz).1,hv.so.sublist List.filter_sublist⟩
 ·rw [n5];exact h.so
def JW (l:List ByteArray):Bool:=l.all fun s=>decide (s.size<=64)
def MZ:∀ (xs:List ByteArray) (v:Nat),jN xs v ()=some (JW xs)
 | [],v=>rfl
 | x::xs,v=>by
  have ih:=MZ xs (v+1);simp only [jN,ih,JW,xT]
  grind
def mg (v:Value):Bool:=
 decide (0<=v.Kind) && decide (v.Kind<=5) &&
 decide (v.N=0∨v.Kind=1∨(v.Kind=2/\v.N=1)) &&
 (sEq v.S ⟨#[]⟩ || decide (v.Kind=3)) && (decide (v.I.length=0) || decide (v.Kind=4)) && (decide (v.L.length=0) || decide (v.Kind=5)) &&
 decide (v.S.size<=64) && decide (v.I.length<=16) && decide (v.L.length<=16) && JW v.L
def qG (N:Nat) (v:Value):gW N v=some (mg v):=by
 simp only [gW,qT,qI,qQ,ra,jS,mn,lU,jR,qW,MZ,mg];generalize JW v.L=q;generalize sEq v.S ⟨#[]⟩=z;cases z<;>cases q<;>simp only [Ep,HC,JU,if_true,if_false,cR,cv,nx,nC,decide_eq_true_eq,decide_eq_false_iff_not,nB,nJ,nE,nH,nU,nt,ny,nV,and_false,false_and,or_false,false_or,adA,true_and,and_true,iff_false,false_iff,not_false_eq_true,not_true_eq_false,true_or,or_true ]<;>omega
def UE (a b:List Int):Bool:=eqL (fun x y=>decide (x=y)) a b
def US (a b:List ByteArray):Bool:=eqL sEq a b
def GV (a b:Ref):Bool:=sEq a.Type_ b.Type_ && sEq a.Key b.Key
def VP {a b:List Int}:UE a b=true↔a=b:=Ol (by simp)
def Wb {a b:List ByteArray}:US a b=true↔a=b:=Ol (fun _ _=>Gm)
def Dz (a b:Ref):GV a b=true↔a=b:=by
 obtain ⟨a1,a2⟩:=a;obtain ⟨b1,b2⟩:=b;simp [GV,Gm]
def LC (N:Nat) (a b:List Int):uB N a b=some (UE a b):=
 P6 (L:=lx b) a b _ (fun _=>rfl) (fun x xs v=>by simp [lx])
def Ih (N:Nat) (a b:List ByteArray):po N a b=some (US a b):=
 P6 (L:=jo b) a b _ (fun _=>rfl) (fun x xs v=>by simp [jo])
def Qo (a b:Value):Bool:=decide (a.Kind=b.Kind) && decide (a.N=b.N) && sEq a.S b.S && UE a.I b.I && US a.L b.L
def WH (a b:Value):Qo a b=true↔a=b:=by
 obtain ⟨a1,a2,a3,a4,a5⟩:=a;obtain ⟨b1,b2,b3,b4,b5⟩:=b;simp [Qo,Gm,VP,Wb,and_assoc]
def Kw (N:Nat) (a b:Value):oR N a b=some (Qo a b):=by
 simp only [oR,LC,Ih,cc,Qo,Ep,HC,JU,if_true,if_false,cR,cv,nx,nC,decide_eq_true_eq,decide_eq_false_iff_not,nB,nJ,nE,nH,nU,nt,ny,nV,and_false,false_and,or_false,false_or,adA,true_and,and_true,iff_false,false_iff,not_false_eq_true,not_true_eq_false,true_or,or_true ];all_goals grind
def X3 (s:ByteArray):Bool:=decide (1<=s.size) && decide (s.size<=32)
def TE (r:Ref):Bool:=decide (1<=r.Type_.size) && decide (r.Type_.size<=32) && decide (r.Key.size<=32)
def JR {α:Type} (p:α->Bool) (l:List α):(l.any fun x=>!p x)=!(l.all p):=by
 induction l with
 | nil=>rfl
 | cons x l ih=>simp [ih]
def NB (v:Value):Bool:=mg v && !decide (v.Kind=0)
def qY (c:ah):Bool:=TE c.Target && X3 c.Method && decide (c.Args.length<=4) && c.Args.all NB
def Zb (N:Nat) (l:List Value):bu N l=some (!(l.all NB)):=by
 have h:=kM (L:=bZ N) (mv N) (fun v=>!NB v) (fun _=>rfl) (fun _ _ _=>rfl) l 0 (fun x _=>by
  simp only [mv,qG,cc,NB];by_cases h:x.Kind=0<;>simp [h])
 simp only [bu,dw,h,cc,tq,JR]
def LO (N:Nat) (c:ah):qn N c=some (qY c):=by
 simp only [qn,iz,iG,Zb,cc,ad8,qY,TE,X3];generalize c.Args.all NB=z;cases z<;>simp only [Ep,HC,JU,if_true,if_false,cR,cv,nx,nC,decide_eq_true_eq,decide_eq_false_iff_not,nB,nJ,nE,nH,nU,nt,ny,nV,and_false,false_and,or_false,false_or,adA,true_and,and_true,iff_false,false_iff,not_false_eq_true,not_true_eq_false,true_or,or_true ]<;>omega
def bdV (v:Value):Prop:=v.I.length<=17592186044416/\v.L.length<=8796093022208
def E6 (l:List Value):Prop:=l.length<=1759218604441/\∀ v∈l,bdV v
def TL (l:List ah):Prop:=l.length<=2000000/\∀ c∈l,E6 c.Args
def Cd {v:Value} (h:mg v=true):bdV v:=by
 simp only [mg,cv,decide_eq_true_eq] at h;exact ⟨by omega,by omega⟩
def Q5 {c:ah} (h:qY c=true):E6 c.Args:=by
 simp only [qY,cv,decide_eq_true_eq,cq] at h;refine ⟨by omega,fun v hv=>Cd ?_⟩;have:=h.2 v hv;simp only [NB,cv] at this;exact this.1
def OE {N:Nat} {l:List Int} (h:l.length<=17592186044416):dT N l=some l:=vW (by omega)
def Rp {N:Nat} {l:List ByteArray} (h:l.length<=8796093022208):fJ N l=some l:=vW (by omega)
def Sb {N:Nat} {l:List Value} (h:l.length<=1759218604441):gf N l=some l:=vW (by omega)
def MF {N:Nat} {l:List ah} (h:l.length<=2000000):ey N l=some l:=vW (by omega)
def Te (o:Option Bool) (P:Prop):Prop:=∃ b,o=some b/\(b=true↔P)
def Te.iff {o:Option Bool} {P Q:Prop} (h:Te o P) (e:P↔Q):Te o Q:=by
 obtain ⟨b,h1,h2⟩:=h;exact ⟨b,h1,h2.trans e⟩
def Te.dec {p:Prop} [Decidable p]:Te (some (decide p)) p:=⟨_,rfl,by simp⟩
def Te.f {P:Prop} (h:¬ P):Te (some false) P:=⟨_,rfl,by simp [h]⟩
def Te.bind {o:Option Bool} {P Q:Prop} {f:Bool->Option Bool} (h:Te o P) (h1:P->Te (f true) Q) (h2:¬ P->Te (f false) Q):Te (o.bind f) Q:=by
 obtain ⟨b,rfl,h⟩:=h;cases b with
 | true=>exact h1 (h.1 rfl)
 | false=>exact h2 fun p=>by cases h.2 p
def Te.ite {c:Prop} [Decidable c] {a b:Option Bool} {Q:Prop} (h1:c->Te a Q) (h2:¬ c->Te b Q):Te (if c then a else b) Q:=by
 split
 ·exact h1 ‹_›
 ·exact h2 ‹_›
def Te.is {o:Option Bool} {P:Prop} (h:Te o P) (p:P):o=some true:=by
 obtain ⟨b,h1,h2⟩:=h;rw [h1,h2.2 p]
def Te.isnt {o:Option Bool} {P:Prop} (h:Te o P) (p:¬ P):o=some false:=by
 obtain ⟨b,h1,h2⟩:=h;cases b with
 | true=>exact absurd (h2.1 rfl) p
 | false=>exact h1
def X7 {α:Type} {l:List α} {L:List α->Nat->Unit->Option Bool} {P:Nat->α->Prop} {C:Prop} (h0:∀ v,Te (L [] v ()) C)
  (hs:∀ x xs v,l[v]?=some x->∀ R,Te (L xs (v+1) ()) R->Te (L (x::xs) v ()) (P v x/\R)):∀ xs v,l.drop v=xs->Te (L xs v ()) ((∀ i x,v<=i->l[i]?=some x->P i x)/\C)
 | [],v,hd=>(h0 v).iff ⟨fun h=>⟨fun i x hi hx=>by
   have:=List.drop_eq_nil_iff.1 hd;have:=(cd.1 hx).1;omega,h⟩,fun h=>h.2⟩
 | x::xs,v,hd=>by
  obtain ⟨hv,hx,hd'⟩:=JQ hd;refine (hs x xs v hx _ (X7 h0 hs xs (v+1) hd')).iff ⟨fun h=>⟨fun i y hi hy=>?_,h.2.2⟩,fun h=>⟨h.1 v x (cw _) hx,fun i y hi hy=>h.1 i y (by omega) hy,h.2⟩⟩;rcases aeK hi with hlt|rfl
  ·exact h.2.1 i y hlt hy
  ·rw [hx,cb] at hy;subst hy;exact h.1
def ZP {α:Type} {l:List α} {L:List α->Nat->Unit->Option Bool} {P:Nat->α->Prop} {C:Prop} (h0:∀ v,Te (L [] v ()) C)
  (hs:∀ x xs v,l[v]?=some x->∀ R,Te (L xs (v+1) ()) R->Te (L (x::xs) v ()) (P v x/\R)):Te (L l 0 ()) ((∀ i x,l[i]?=some x->P i x)/\C):=
 (X7 h0 hs l 0 rfl).iff ⟨fun h=>⟨fun i x hx=>h.1 i x (cU _) hx,h.2⟩,fun h=>⟨fun i x _ hx=>h.1 i x hx,h.2⟩⟩
def uO {α:Type} (p:α->Bool):∀ (l:List α) (v:Nat),(C3 p l v=-1/\∀ x∈l,p x=false)∨∃ i x,C3 p l v=((v+i:Nat):Int)/\l[i]?=some x/\p x=true/\∀ y∈l.take i,p y=false
 | [],v=>.inl ⟨rfl,by simp⟩
 | x::xs,v=>by
  simp only [C3];by_cases h:p x=true
  ·exact .inr ⟨0,x,by simp [h],rfl,h,by simp⟩
  ·rw [if_neg h];rcases uO p xs (v+1) with ⟨e,ha⟩|⟨i,y,e,hy,hp,ht⟩
   ·exact .inl ⟨e,by simpa [h] using ha⟩
   ·exact .inr ⟨i+1,y,by rw [e]; omega,by simpa using hy,hp,by simpa [h] using ht⟩
structure XV (x:Txn):Prop where
 i1:1<=x.ID
 i2:x.ID<=1099511627776
 c1:1<=x.Calls.length
 c2:x.Calls.length<=4
 d1:0<=x.Done
 d2:x.Done<=x.Calls.length
 la:mg x.Last=true
 ca:∀ c∈x.Calls,qY c=true
def zK (x:Txn):Prop:=0<=x.Born/\x.Born<=1099511627776/\1<=x.Client.size/\x.Client.size<=32/\1<=x.Seq/\x.Seq<=1099511627776/\(x.Done=0->x.Last.Kind=0)
def XS (N:Nat) (l:List ah):bn N l=some (!(l.all qY)):=by
 have h:=kM (L:=bC N) (oP N) (fun v=>!qY v) (fun _=>rfl) (fun _ _ _=>rfl) l 0 (fun x _=>by
  simp only [oP,LO,cc])
 simp only [bn,b8,h,cc,tq,JR]
def KR (N:Nat) (x:Txn):Te (pf N x) (XV x/\zK x):=by
 have e:(XV x/\zK x)↔((1<=x.ID/\x.ID<=1099511627776/\1<=x.Calls.length/\x.Calls.length<=4/\0<=x.Done/\x.Done<=x.Calls.length/\mg x.Last=true/\x.Calls.all qY=true)/\zK x):=
  and_congr_left fun _=>⟨fun h=>⟨h.i1,h.i2,h.c1,h.c2,h.d1,h.d2,h.la,cq.2 h.ca⟩,fun ⟨a,b,c,d,e,f,g,h⟩=>⟨a,b,c,d,e,f,g,cq.1 h⟩⟩
 refine Te.iff ?_ e.symm;simp only [pf,fW,gV,gX,fS,XS,qG,cc,ad8,zK];generalize x.Calls.all qY=z;generalize mg x.Last=v;refine ⟨decide ((1<=x.ID/\x.ID<=1099511627776/\1<=x.Calls.length/\x.Calls.length<=4/\0<=x.Done/\x.Done<=x.Calls.length/\v=true/\z=true)/\0<=x.Born/\x.Born<=1099511627776/\1<=x.Client.size/\x.Client.size<=32/\1<=x.Seq/\x.Seq<=1099511627776/\(x.Done=0->x.Last.Kind=0)),?_,decide_eq_true_iff⟩;cases v<;>cases z<;>simp only [Ep,HC,JU,if_true,if_false,cR,cv,nx,nC,decide_eq_true_eq,decide_eq_false_iff_not,nB,nJ,nE,nH,nU,nt,ny,nV,and_false,false_and,or_false,false_or,adA,true_and,and_true,iff_false,false_iff,not_false_eq_true,not_true_eq_false,true_or,or_true ]<;>omega
structure TX (t:ae):Prop where
 x:∀ x∈t.Txns,XV x/\zK x
 so:t.Txns.Pairwise fun a b=>a.ID < b.ID
 len:t.Txns.length<=32
def HS {α:Type} {f:α->Int} {l:List α}:(l.Pairwise fun a b=>f a < f b)↔∀ i x y,l[i+1]?=some x->l[i]?=some y->f y < f x:=by
 constructor
 ·intro h i x y hx hy;obtain ⟨h1,rfl⟩:=cd.1 hx;obtain ⟨h2,rfl⟩:=cd.1 hy;exact nj.1 h i (i+1) h2 h1 (by omega)
 ·intro h;rw [nj];intro i j hi hj hij
  induction j with
  | zero=>omega
  | succ j ih=>
   have h1:=h j _ _ (cn hj) (cn (by omega));rcases aeK (Nat.le_of_lt_succ hij) with h2|rfl
   ·have:=ih (by omega) h2; omega
   ·exact h1
def RJ (N:Nat) (t:ae) (hl:t.Txns.length<=1000000):Te (uC N t) (TX t):=by
 have h:=ZP (l:=t.Txns) (L:=gv t N) (P:=fun v x=>(XV x/\zK x)/\(∀ y,0 < v->t.Txns[v - 1]?=some y->y.ID < x.ID)) (C:=t.Txns.length<=32)
  (fun v=>by simp only [gv]; exact Te.dec.iff (by omega))
  (fun x xs v hx R hR=>by
   have hv:=(cd.1 hx).1;simp only [gv];refine (KR N x).bind (fun p=>?_) fun p=>Te.f fun q=>p q.1.1;simp only [if_true];by_cases h0:0 < v
   ·rw [if_pos (by omega),w64 (by omega) (by omega),show ((v:Int) - 1)=((v - 1:Nat):Int) by omega,aO (cn (by omega))];simp only [lL,decide_eq_true_eq];refine Te.ite (fun q=>Te.f fun r=>?_) fun q=>hR.iff ⟨fun r=>⟨⟨p,fun y _ hy=>?_⟩,r⟩,fun r=>r.2⟩
    ·have:=r.1.2 _ h0 (cn (by omega)); omega
    ·rw [cn (by omega),cb] at hy; subst hy; omega
   ·rw [if_neg (by omega)];simp only [lL,cR,if_false];exact hR.iff ⟨fun r=>⟨⟨p,fun y h=>absurd h h0⟩,r⟩,fun r=>r.2⟩)
 refine h.iff ⟨fun h=>⟨fun x hx=>?_,HS.2 fun i x y hx hy=>(h.1 _ _ hx).2 y (by omega) (by simpa using hy),h.2⟩,fun h=>⟨fun v x hx=>⟨h.x x (cg hx),fun y h0 hy=>?_⟩,h.len⟩⟩
 ·obtain ⟨i,hi⟩:=cH hx;exact (h.1 i x hi).1
 ·exact HS.1 h.so (v - 1) x y (by rw [show v - 1+1=v by omega]; exact hx) hy
def ids (t:ae):List Int:=t.Txns.map Txn.ID
def XU (N:Nat) (t:ae) (n:Int):fh N t n=some (C3 (fun x:Txn=>decide (x.ID=n)) t.Txns 0):=by
 have h:=kM (L:=dN N n) (fun x=>ye N x n) (fun x=>decide (x.ID=n)) (fun _=>rfl) (fun _ _ _=>rfl) t.Txns 0 (fun x _=>rfl);simp only [fh,eE,h,cc]
def Br (N:Nat) (t:ae) (n:Int):(n∉ids t/\fh N t n=some (-1))∨∃ i x,fh N t n=some ((i:Nat):Int)/\t.Txns[i]?=some x/\x.ID=n:=by
 rw [XU];rcases uO (fun x:Txn=>decide (x.ID=n)) t.Txns 0 with ⟨h,ha⟩|⟨i,x,h,hx,hp,_⟩
 ·refine .inl ⟨fun hm=>?_,by rw [h]⟩;obtain ⟨x,hx,rfl⟩:=cJ.1 hm;simpa using ha x hx
 ·exact .inr ⟨i,x,by rw [h]; simp,hx,by simpa using hp⟩
theorem C8 {t:ae} {i:Nat} {x:Txn} (h:t.Txns[i]?=some x):x.ID∈ids t:=cJ.2 ⟨x,cg h,rfl⟩
def tX {N:Nat} {t:ae} {n:Int} (h:n∈ids t):∃ i x,fh N t n=some ((i:Nat):Int)/\t.Txns[i]?=some x/\x.ID=n:=by
 rcases Br N t n with h1|h1
 ·exact absurd h h1.1
 ·exact h1
def TX.uniq {t:ae} (h:TX t) {x y:Txn} (hx:x∈t.Txns) (hy:y∈t.Txns) (e:x.ID=y.ID):x=y:=by
 obtain ⟨i,hi,rfl⟩:=ad9.1 hx;obtain ⟨j,hj,rfl⟩:=ad9.1 hy;have:=nj.1 h.so;rcases xy i j with q|rfl|q
 ·have:=this i j hi hj q; omega
 ·rfl
 ·have:=this j i hj hi q; omega
theorem Ee {α ρ:Type} {l:List α} {L:List α->Nat->Unit->Option ρ} {k:Option ρ} (h0:∀ v,L [] v ()=k)
  (hs:∀ x xs v,l[v]?=some x->L (x::xs) v ()=L xs (v+1) ()):L l 0 ()=k:=by
 have:∀ xs v,l.drop v=xs->L xs v ()=k:=by
  intro xs
  induction xs with
  | nil=>intro v _; exact h0 v
  | cons x xs ih=>
   intro v hd;obtain ⟨hv,hx,hd'⟩:=JQ hd;rw [hs x xs v hx];exact ih (v+1) hd'
 exact this l 0 rfl
def X5 {α:Type} {L:List α->Nat->Unit->Option Int} (f:α->Option Bool) (h0:∀ v,L [] v ()=some (-1))
  (h1:∀ x xs v,L (x::xs) v ()=(f x).bind fun r=>if r=true then some ((v:Nat):Int) else L xs (v+1) ()) (xs:List α) (h:∀ x∈xs,f x=some false):L xs 0 ()=some (-1):=by
 rw [kM f (fun _=>false) h0 h1 xs 0 h];have:=tq (fun _:α=>false) xs 0;rcases uO (fun _:α=>false) xs 0 with ⟨h,_⟩|⟨i,x,_,_,h,_⟩
 ·rw [h]
 ·cases h
def DU (t:ae) (a:Ref) (n:Int):Prop:=∃ s∈t.Stacks,s.Actor=a/\∃ y∈s.Layers,y.Txn_=n
def s7 (l:List Value):Bool:=decide (l.length<=8) && l.all mg
def At (x:Txn) (a:Ref):Prop:=∃ c,x.Calls[x.Done.toNat]?=some c/\c.Target=a
structure SV (t:ae) (s:aa):Prop where
 ne:s.Layers≠[]
 id:∀ l∈s.Layers,l.Txn_∈ids t
 fi:∀ l∈s.Layers,s7 l.Fields=true
 up:∀ (i:Nat) l,s.Layers[i]?=some l->l.Prepared=false->i+1=s.Layers.length/\∃ k∈t.Locks,k.Actor=s.Actor/\k.Owner=l.Txn_
 ex:∀ l∈s.Layers,∀ x∈t.Txns,x.ID=l.Txn_->(∃ c∈x.Calls.take x.Done.toNat,c.Target=s.Actor)/\(l.Prepared=true->x.Done=x.Calls.length)
structure LP (t:ae) (l:ai):Prop where
 ow:l.Owner∈ids t
 wa:∀ w∈l.Waiters,w∈ids t
 dn:∀ x∈t.Txns,x.ID=l.Owner->x.Done=x.Calls.length->∃ s∈t.Stacks,s.Actor=l.Actor/\∃ y∈s.Layers,y.Txn_=x.ID/\y.Prepared=false
 op:∀ x∈t.Txns,x.ID=l.Owner->x.Done < x.Calls.length->DU t l.Actor x.ID∨At x l.Actor
 wt:∀ x∈t.Txns,x.ID∈l.Waiters->x.Done < x.Calls.length/\At x l.Actor
def Rk (r:Int->Nat) (s:aa):Prop:=s.Layers.Pairwise fun a b=>r a.Txn_ < r b.Txn_
structure TV (t:ae):Prop where
 tx:TX t
 lk:VT t.Locks
 ss:t.Stacks.Pairwise fun a b=>rl a.Actor b.Actor=true
 st:∀ s∈t.Stacks,SV t s
 pr:∀ x∈t.Txns,∀ c∈x.Calls.take x.Done.toNat,DU t c.Target x.ID
 lp:∀ l∈t.Locks,LP t l
 ac:∃ r:Int->Nat,∀ s∈t.Stacks,Rk r s
def Fv (N:Nat) (l:List Value):kv N l=some (s7 l):=by
 have h:=kM (L:=bL N) (kC N) (fun v=>!mg v) (fun _=>rfl) (fun _ _ _=>rfl) l 0 (fun x _=>by
  simp only [kC,qG,cc])
 simp only [kv,bM,dq,h,cc,tq,JR,s7,ad8];by_cases q:l.length<=8
 ·rw [if_pos (by omega)]; simp [q]
 ·rw [if_neg (by omega)]; simp [q]
theorem Pr (N:Nat) {t:ae} (h:TV t):oQ N t=some true:=by
 rw [oQ,AG N h.lk,cc,if_pos rfl];refine Ee (fun v=>by rw [iS]) fun x xs v hx=>?_;have hp:=h.lp x (cg hx);obtain ⟨i,y,e,_⟩:=tX (N:=N) hp.ow;have hw:=X5 (L:=dj N t.Txns t.Locks t.Stacks) (fun w=>lj N w t.Txns t.Locks t.Stacks) (fun _=>rfl) (fun _ _ _=>rfl) x.Waiters (fun w hw=>by
  obtain ⟨j,z,e,_⟩:=tX (N:=N) (hp.wa w hw);rw [lj,e,cc];simp)
 rw [iS,e,cc,if_neg (by omega),de,dG,hw];rfl
def Lf {α:Type} {l:List α} (h:l≠[]):∃ x,l[l.length - 1]?=some x:=⟨_,cn (by have:=xG.2 h; omega)⟩
def My {α β:Type} {l:List α} {n:Nat} {k:List α->Option β} (h:n<=l.length):slx l 0 (n:Int) k=k (l.take n):=by
 simp only [slx];rw [if_pos (by omega)];simp
def JI {r:Int->Nat} {s:aa} (h:Rk r s) {i j:Nat} {x y:al} (hx:s.Layers[i]?=some x) (hy:s.Layers[j]?=some y) (e:x.Txn_=y.Txn_):i=j:=by
 obtain ⟨hi,rfl⟩:=cd.1 hx;obtain ⟨hj,rfl⟩:=cd.1 hy;have:=nj.1 h;rcases xy i j with q|q|q
 ·have:=this i j hi hj q; rw [e] at this; omega
 ·exact q
 ·have:=this j i hj hi q; rw [e] at this; omega
theorem N2 (N:Nat) {t:ae} {s:aa} (h:SV t s) {r:Int->Nat} (hr:Rk r s) (hl:s.Layers.length<=1000000):kq N t s.Layers=some true:=by
 rw [kq];have hp:=xG.2 h.ne;refine Ee (fun v=>by rw [eu]; simp; omega) fun x xs v hx=>?_;have hv:=(cd.1 hx).1;have hm:=cg hx;obtain ⟨i,y,e,_⟩:=tX (N:=N) (h.id x hm);have hc:aZ N (s.Layers.take v) x.Txn_ x.Fields x.Prepared=some false:=by
  have:=X5 (L:=bO N x.Txn_ x.Fields x.Prepared) (fun y=>kE N y x.Txn_ x.Fields x.Prepared) (fun _=>rfl) (fun _ _ _=>rfl) (s.Layers.take v) (fun y hy=>by
   obtain ⟨j,hj⟩:=cH hy;rw [cY] at hj;split at hj
   ·rw [kE];have:¬ y.Txn_=x.Txn_:=fun e=>by have:=JI hr hj hx e; omega
    simp [this]
   ·cases hj)
  rw [aZ,dh,this];rfl
 rw [eu,e,cc,if_neg (by omega),Fv,h.fi x hm,cc,if_pos rfl];cases hb:x.Prepared with
 | true=>rw [if_pos rfl,My (by omega),<-hb,hc]; rfl
 | false=>
  have:=(h.up v x hx hb).1;rw [if_neg (by simp),w64 (by omega) (by omega),if_neg (by omega),My (by omega),<-hb,hc];rfl
def y6 (N:Nat) (a b:Ref):gF N a b=some (EY a b):=by
 simp only [gF,Wy,cc,tO,qh,EY];by_cases h1:yR a.Type_ b.Type_=0
 ·by_cases h2:yR a.Key b.Key=0<;>simp [h1,h2]
 ·simp [h1]
def Nn (N:Nat) (l:List ah) (a:Ref):ov N l a=some (l.any fun c=>GV c.Target a):=by
 have h:=kM (L:=bP N a.Type_ a.Key) (fun x=>uF N x a.Type_ a.Key) (fun c=>GV c.Target a) (fun _=>rfl) (fun _ _ _=>rfl) l 0 (fun x _=>rfl);simp only [ov,bN,dc,h,cc,tq]
theorem Uc (N:Nat) {l:List ah} {a:Ref} (h:∃ c∈l,c.Target=a):ov N l a=some true:=by
 rw [Nn];obtain ⟨c,hc,rfl⟩:=h
 congr 1
 exact aea.2 ⟨c,hc,(Dz _ _).2 rfl⟩
def Ls {x:Txn} (h:XV x):∃ n:Nat,x.Done=n/\x.Done.toNat=n/\n<=x.Calls.length:=⟨x.Done.toNat,by have:=h.d1; omega,rfl,by have:=h.d2; omega⟩
theorem AM {t:List ai} (h:VT t) {k:ai} (hk:k∈t):t[pa t k.Actor]?=some k/\vR t k.Actor=true:=by
 obtain ⟨i,hi⟩:=cH hk;have h1:=uA (Hl h.so k.Actor) hi;simp only [jk] at h1;have h2:¬ i < pa t k.Actor:=fun q=>by have:=h1.2 q; cases this
 have hil:=(cd.1 hi).1;have e:pa t k.Actor=i:=by
  rcases nS (pa t k.Actor) i with q|q
  ·have hj:t[pa t k.Actor]?=some t[pa t k.Actor]:=cn (by omega);have h3:=(uA (Hl h.so k.Actor) hj).1 (by
    have:=nj.1 h.so _ _ (by omega) hil q
    rwa [(cd.1 hi).2] at this)
   unfold pa at h3; omega
  ·omega
 refine ⟨by rw [e]; exact hi,?_⟩;rw [vR,e,hi];exact Ge.2 rfl
def WO (N:Nat) (hN:200<=N) {t:List ai} (h:VT t) (a:Ref):ot N t a=some (if vR t a=true then ((t[pa t a]?).map ai.Owner).getD 0 else 0):=by
 simp only [ot,AG N h,cc,if_true,Oi N hN h];by_cases hh:vR t a=true
 ·obtain ⟨x,hx,_⟩:=zh hh;rw [if_pos hh,if_pos hh,aO hx,hx]; rfl
 ·rw [if_neg hh,if_neg hh]
theorem RI (N:Nat) (hN:200<=N) {t:List ai} (h:VT t) {k:ai} (hk:k∈t):ot N t k.Actor=some k.Owner:=by
 obtain ⟨h1,h2⟩:=AM h hk;rw [WO N hN h,if_pos h2,h1]; rfl
def Ow (N:Nat) {t:ae} (hx:TX t) {s:aa} (h:SV t s) (rec3:Unit->Option Bool):ff rec3 N t s s.Layers 0 ()=rec3 ():=by
 refine Ee (fun v=>by rw [ff]) fun y xs v hy=>?_;have hm:=cg hy;obtain ⟨i,x,e,hi,hid⟩:=tX (N:=N) (h.id y hm);have hxm:=cg hi;obtain ⟨n,e1,e2,e3⟩:=Ls (hx.x x hxm).1;obtain ⟨h1,h2⟩:=h.ex y hm x hxm hid;rw [ff,e,cc,aO hi,e1,My (by omega),Uc N (by rw [<-e2]; exact h1),cc,if_pos rfl];cases hp:y.Prepared with
 | true=>
  have:=h2 hp;rw [if_pos rfl,jK,if_neg (by simp; omega)]
 | false=>rw [if_neg (by simp),jK,if_neg (by simp)]
def NA (N:Nat) (hN:200<=N) {t:ae} (h:TV t) (hl:t.Stacks.length<=1000000) (hll:∀ s∈t.Stacks,s.Layers.length<=1000000):mF N t=some true:=by
 rw [mF];refine Ee (fun v=>by rw [ew]) fun s xs v hs=>?_;have hv:=(cd.1 hs).1;have hm:=cg hs;obtain ⟨r,hr⟩:=h.ac;have hS:=h.st s hm;have h5:jY (jQ s (ew t N xs (v+1)) N t) (!true)=ew t N xs (v+1) ():=by
  have hpos:=xG.2 hS.ne;have:=hll s hm;obtain ⟨y,hy⟩:=Lf hS.ne;rw [jY,if_neg (by simp),jQ,w64 (by omega) (by omega),show ((s.Layers.length:Int) - 1)=((s.Layers.length - 1:Nat):Int) by omega,aO hy];cases hp:y.Prepared with
  | true=>rw [if_pos rfl,lZ,if_neg (by simp),mh,Ow N h.tx hS]
  | false=>
   obtain ⟨_,k,hk,h1,h2⟩:=hS.up _ y hy hp;rw [if_neg (by simp),<-h1,RI N hN h.lk hk,cc,lZ,if_neg (by simp [h2]),mh,Ow N h.tx hS]
 rw [ew,N2 N hS (hr s hm) (hll s hm),cc];by_cases h0:0 < v
 ·obtain ⟨z,hz,hlt⟩:=NN h.ss h0 hs;have:=AY.2 hlt;rw [if_pos (by omega),w64 (by omega) (by omega),show ((v:Int) - 1)=((v - 1:Nat):Int) by omega,aO hz,y6,cc,if_neg (by omega)];exact h5
 ·rw [if_neg (by omega)];exact h5
def EO (N:Nat) (t:ae) (a:Ref):(lY N t a=some (-1)/\∀ s∈t.Stacks,s.Actor≠a)∨∃ i s,lY N t a=some ((i:Nat):Int)/\t.Stacks[i]?=some s/\s.Actor=a:=by
 have h:=kM (L:=bU N a.Type_ a.Key) (fun x=>yq N x a.Type_ a.Key) (fun s=>GV s.Actor a) (fun _=>rfl) (fun _ _ _=>rfl) t.Stacks 0 (fun x _=>rfl);simp only [lY,dt,h,cc];rcases uO (fun s:aa=>GV s.Actor a) t.Stacks 0 with ⟨e,ha⟩|⟨i,s,e,hi,hp,_⟩
 ·refine .inl ⟨by rw [e],fun s hs q=>?_⟩;have:=ha s hs;rw [(Dz _ _).2 q] at this; cases this
 ·exact .inr ⟨i,s,by rw [e]; simp,hi,(Dz _ _).1 hp⟩
def De {t:ae} (h:t.Stacks.Pairwise fun a b=>rl a.Actor b.Actor=true) {i:Nat} {s s':aa} (hi:t.Stacks[i]?=some s) (hs:s'∈t.Stacks) (e:s'.Actor=s.Actor):s'=s:=by
 obtain ⟨j,hj⟩:=cH hs;obtain ⟨h1,rfl⟩:=cd.1 hi;obtain ⟨h2,rfl⟩:=cd.1 hj;have:=nj.1 h;rcases xy i j with q|rfl|q
 ·have:=this i j h1 h2 q; rw [e,jk] at this; cases this
 ·rfl
 ·have:=this j i h2 h1 q; rw [e,jk] at this; cases this
def Hm (N:Nat) {t:ae} (h:t.Stacks.Pairwise fun a b=>rl a.Actor b.Actor=true) {s:aa} (hs:s∈t.Stacks):∃ i:Nat,lY N t s.Actor=some (i:Int)/\t.Stacks[i]?=some s:=by
 rcases EO N t s.Actor with ⟨_,q⟩|⟨i,s',e,hi,q⟩
 ·exact absurd rfl (q s hs)
 ·exact ⟨i,e,by rw [hi,De h hi hs q.symm]⟩
def Lx (n:Int) (l:List al):al × Bool:=match l.find? fun y=>decide (y.Txn_=n) with
 | some y=>(y,true)
 | none=>(⟨0,[],false⟩,false)
def P5 (n:Int):∀ (l:List al) (v:Nat),sU n l v ()=some (Lx n l)
 | [],v=>rfl
 | y::l,v=>by
  rw [sU,P5 n l (v+1)];by_cases q:y.Txn_=n<;>simp [Lx,List.find?_cons,q]
def RL (N:Nat) {t:ae} (h:t.Stacks.Pairwise fun a b=>rl a.Actor b.Actor=true) {s:aa} (hs:s∈t.Stacks) (n:Int):ji N t s.Actor n=some (Lx n s.Layers):=by
 obtain ⟨i,e,hi⟩:=Hm N h hs;rw [ji,e,cc,if_pos (by omega),aO hi,P5]
def Xe (N:Nat) {t:ae} {a:Ref} (h:∀ s∈t.Stacks,s.Actor≠a) (n:Int):ji N t a n=some (⟨0,[],false⟩,false):=by
 rcases EO N t a with ⟨e,_⟩|⟨i,s,_,hi,q⟩
 ·rw [ji,e,cc,if_neg (by omega)]
 ·exact absurd q (h s (cg hi))
def Zc {r:Int->Nat} {s:aa} (hr:Rk r s) {y:al} (hy:y∈s.Layers):Lx y.Txn_ s.Layers=(y,true):=by
 rw [Lx];cases e:s.Layers.find? fun z=>decide (z.Txn_=y.Txn_) with
 | none=>exact absurd (aeL.1 e y hy) (by simp)
 | some z=>
  have h1:=List.find?_some e;have h2:=List.mem_of_find?_eq_some e;obtain ⟨i,hi⟩:=cH h2;obtain ⟨j,hj⟩:=cH hy;have:=JI hr hi hj (by simpa using h1);subst this;rw [hi] at hj;simp only [cb] at hj;rw [hj]
def YW {n:Int} {l:List al} (h:∀ y∈l,y.Txn_≠n):Lx n l=(⟨0,[],false⟩,false):=by
 rw [Lx,aeL.2 (fun y hy=>by simpa using h y hy)]
def o4 (N:Nat) {t:ae} (h:t.Stacks.Pairwise fun a b=>rl a.Actor b.Actor=true) (hr:∃ r:Int->Nat,∀ s∈t.Stacks,Rk r s) {a:Ref} {n:Int} {s:aa} {y:al} (hs:s∈t.Stacks) (ha:s.Actor=a) (hy:y∈s.Layers) (hn:y.Txn_=n):ji N t a n=some (y,true):=by
 subst ha; subst hn;obtain ⟨r,hr⟩:=hr;rw [RL N h hs,Zc (hr s hs) hy]
def OA (N:Nat) {t:ae} (h:t.Stacks.Pairwise fun a b=>rl a.Actor b.Actor=true) {a:Ref} {n:Int} (hn:¬ DU t a n):ji N t a n=some (⟨0,[],false⟩,false):=by
 by_cases q:∃ s∈t.Stacks,s.Actor=a
 ·obtain ⟨s,hs,rfl⟩:=q;rw [RL N h hs,YW fun y hy e=>hn ⟨s,hs,rfl,y,hy,e⟩]
 ·exact Xe N (fun s hs e=>q ⟨s,hs,e⟩) n
def Yc {x:Txn} {a:Ref} (hx:XV x) (h:At x a):∃ n c,x.Done=((n:Nat):Int)/\x.Calls[n]?=some c/\c.Target=a:=by
 obtain ⟨c,h1,h2⟩:=h;exact ⟨x.Done.toNat,c,by have:=hx.d1; omega,h1,h2⟩
def Sg (N:Nat) {t:ae} (h:TV t) {x:Txn} (hx:x∈t.Txns) (rec3:Unit->Option Bool):gC rec3 N t x (x.Calls.take x.Done.toNat) 0 ()=rec3 ():=by
 refine Ee (fun v=>by rw [gC]) fun c xs v hc=>?_;obtain ⟨s,hs,ha,y,hy,hn⟩:=h.pr x hx c (cg hc);rw [gC,o4 N h.ss h.ac hs ha hy hn,cc,if_pos rfl]
def Sj (N:Nat) {t:ae} (h:TV t) {l:ai} (hl:LP t l) (rec18:Unit->Option Bool):fg rec18 N t l l.Waiters 0 ()=rec18 ():=by
 refine Ee (fun v=>by rw [fg]) fun w xs v hw=>?_;have hm:=cg hw;obtain ⟨i,x,e,hi,hid⟩:=tX (N:=N) (hl.wa w hm);have hx:=cg hi;obtain ⟨h1,h2⟩:=hl.wt x hx (by rw [hid]; exact hm);obtain ⟨n,c,e1,e2,e3⟩:=Yc (h.tx.x x hx).1 h2;rw [fg,e,cc,aO hi,if_neg (by omega),e1,aO e2,<-e3];simp [mY,GX]
def KY (N:Nat) {t:ae} (h:TV t):kI N t=some true:=by
 rw [kI];have h4:od N t=some true:=by
  rw [od];refine Ee (fun v=>by rw [bH]) fun l xs v hl=>?_;have hlm:=cg hl;have hp:=h.lp l hlm;obtain ⟨i,x,e,hi,hid⟩:=tX (N:=N) hp.ow;have hx:=cg hi;have h3:eX (fe (bH N t xs (v+1)) N t l) false=bH N t xs (v+1) ():=by
   rw [eX,if_neg (by simp),fe,Sj N h hp]
  have hd:=(h.tx.x x hx).1.d2;rw [bH,e,cc,aO hi];by_cases hL:DU t l.Actor x.ID
  ·obtain ⟨s,hs,ha,y,hy,hn⟩:=hL;rw [o4 N h.ss h.ac hs ha hy hn,cc];by_cases hd':x.Done < x.Calls.length
   ·rw [if_pos hd',if_pos rfl]; exact h3
   ·obtain ⟨s',hs',ha',y',hy',hn',hp'⟩:=hp.dn x hx hid (by omega);have:=o4 N h.ss h.ac hs ha hy hn;rw [o4 N h.ss h.ac hs' ha' hy' hn'] at this;simp only [cb,cz,and_true] at this;rw [if_neg hd',if_pos rfl,if_neg (by rw [<-this,hp']; simp)]; exact h3
  ·rw [OA N h.ss hL,cc];by_cases hd':x.Done < x.Calls.length
   ·have hat:=(hp.op x hx hid hd').resolve_left hL;obtain ⟨n,c,e1,e2,e3⟩:=Yc (h.tx.x x hx).1 hat;rw [if_pos hd',if_neg (by simp),e1,aO e2,show (!(sEq c.Target.Type_ l.Actor.Type_ && sEq c.Target.Key l.Actor.Key))=false by rw [e3]; simp [GX]];exact h3
   ·obtain ⟨s',hs',ha',y',hy',hn',_⟩:=hp.dn x hx hid (by omega);exact absurd ⟨s',hs',ha',y',hy',hn'⟩ hL
 rw [h4];refine Ee (fun v=>by rw [iN]) fun x xs v hx=>?_;have hm:=cg hx;obtain ⟨n,e1,e2,e3⟩:=Ls (h.tx.x x hm).1;rw [iN,e1,My e3,<-e2,Sg N h hm]
def uN (N:Nat) (l:List Int) (n:Int):dy N l n=some (decide (n∈l)):=by
 have h:=kM (L:=jm n) (fun x=>some (decide (n=x))) (fun x=>decide (n=x)) (fun _=>rfl) (fun x xs v=>by rw [jm]; by_cases q:n=x<;>simp [q]) l 0 (fun x _=>rfl)
 simp only [dy,pd,h,cc,tq]
 congr 1
 rw [xY];simp
def zx (id:Int) (gone:List Int):List al->Bool->Bool
 | [],_=>true
 | y::l,c=>if y.Txn_=id/\c=true then false else zx id gone l (c || !decide (y.Txn_∈gone))
def BV (t:ae) (id:Int) (gone:List Int):Bool:=t.Stacks.all fun s=>zx id gone s.Layers false
def K4 (N:Nat) (id:Int) (gone:List Int) (rec3:Unit->Option Bool):∀ (l:List al) (v:Nat) (c:Bool),km rec3 id N gone l v c=if zx id gone l c=true then rec3 () else some false
 | [],v,c=>by simp [km,zx]
 | y::l,v,c=>by
  have e:vO c (km rec3 id N gone l (v+1)) N gone y=if zx id gone l (c || !decide (y.Txn_∈gone))=true then rec3 () else some false:=by
   rw [vO,uN,cc,K4 N id gone rec3 l,K4 N id gone rec3 l];cases c<;>simp
  rw [km,e,zx];simp only [zL];by_cases q:y.Txn_=id<;>cases c<;>simp [q]
def PT (N:Nat) (t:ae) (id:Int) (gone:List Int):vG N t id gone=some (BV t id gone):=by
 rw [vG,Qk (L:=oT id N gone) (fun s=>zx id gone s.Layers false) (some true) (some false) (fun v=>by rw [oT]) (fun s xs v=>by rw [oT,K4]) t.Stacks 0,BV];split
 ·rename_i h; rw [h]
 ·rename_i h; rw [xm] at h; rw [h]
def EP {id:Int} {gone:List Int}:∀ {l:List al} {c:Bool},(c=true->∀ y∈l,y.Txn_≠id)->(∀ (i:Nat) y,l[i]?=some y->y.Txn_=id->∀ z∈l.take i,z.Txn_∈gone)->zx id gone l c=true
 | [],_,_,_=>rfl
 | y::l,c,h1,h2=>by
  rw [zx,if_neg (fun q=>h1 q.2 y (by simp) q.1)];refine EP (fun hc z hz e=>?_) fun i z hz e u hu=>h2 (i+1) z (by simpa using hz) e u (by simp [hu]);rw [nx] at hc;rcases hc with hc|hc
  ·exact h1 hc z (by simp [hz]) e
  ·obtain ⟨i,hi⟩:=cH hz;have:=h2 (i+1) z (by simpa using hi) e y (by simp);simp [this] at hc
def jg {l:List Int}:∀ {k:List Int},k.Nodup->(∀ x∈k,x∈l)->k.length<=l.length:=by
 induction l with
 | nil=>
  intro k _ h;cases k with
  | nil=>simp
  | cons x k=>have:=h x (by simp); simp at this
 | cons a l ih=>
  intro k hk h;have h1:=ih (k:=k.erase a) (hk.erase a) fun x hx=>by
   obtain ⟨h2,h3⟩:=(hk.mem_erase_iff).1 hx;exact (cK.1 (h x h3)).resolve_left h2
  by_cases q:a∈k
  ·rw [List.length_erase_of_mem q] at h1; simp; omega
  ·rw [List.erase_of_not_mem q] at h1; simp; omega
def va (t:ae):List Txn->List Int->List Int
 | [],g=>g
 | x::xs,g=>va t xs (if x.ID∈g then g else if BV t x.ID g=true then g++[x.ID] else g)
structure GI (t:ae) (g:List Int):Prop where
 nd:g.Nodup
 sub:∀ n∈g,n∈ids t
def GI.add {t:ae} {g:List Int} (h:GI t g) {x:Txn} (hx:x∈t.Txns):GI t (if x.ID∈g then g else if BV t x.ID g=true then g++[x.ID] else g):=by
 split
 ·exact h
 ·split
  ·rename_i h1 _;refine ⟨adb.2 ⟨h.nd,by simp,fun a ha b hb=>?_⟩,fun n hn=>?_⟩
   ·simp only [cG] at hb; rw [hb]; exact fun e=>h1 (e ▸ ha)
   ·rcases cF.1 hn with hn|hn
    ·exact h.sub n hn
    ·simp only [cG] at hn; rw [hn]; exact cJ.2 ⟨x,hx,rfl⟩
  ·exact h
def GI.len {t:ae} {g:List Int} (h:GI t g):g.length<=t.Txns.length:=by
 have:=jg h.nd h.sub;simpa [ids] using this
def GH {t:ae}:∀ {xs:List Txn} {g:List Int},(∀ x∈xs,x∈t.Txns)->GI t g->GI t (va t xs g)
 | [],g,_,h=>h
 | x::xs,g,hx,h=>by rw [va]; exact GH (fun y hy=>hx y (by simp [hy])) (h.add (hx x (by simp)))
def GR {t:ae}:∀ {xs:List Txn} {g:List Int} {n:Int},n∈g->n∈va t xs g
 | [],g,n,h=>h
 | x::xs,g,n,h=>by rw [va]; exact GR (t:=t) (xs:=xs) (by split; exact h; split; exact ad5 _ h; exact h)
def RO {t:ae}:∀ {xs:List Txn} {g:List Int} {u:Int},u∈xs.map Txn.ID->(∀ g',(∀ n∈g,n∈g')->BV t u g'=true)->u∈va t xs g
 | x::xs,g,u,h,hf=>by
  simp only [nv,cK] at h;have hsub:∀ n∈g,n∈(if x.ID∈g then g else if BV t x.ID g=true then g++[x.ID] else g):=fun n hn=>by
   split; exact hn; split; exact ad5 _ hn; exact hn
  rw [va];rcases h with rfl|h
  ·refine GR ?_;split
   ·assumption
   ·rw [if_pos (hf g fun n hn=>hn)]; simp
  ·exact RO h fun g' hg=>hf g' fun n hn=>hg n (hsub n hn)
def Ty (N:Nat) (t:ae) (rec4:List Int->Option Bool) (hl:t.Txns.length<=1000):∀ (xs:List Txn) (v:Nat) (g:List Int),(∀ x∈xs,x∈t.Txns)->GI t g->jA rec4 N t xs v g=rec4 (va t xs g)
 | [],v,g,_,_=>by rw [jA]; rfl
 | x::xs,v,g,hx,hg=>by
  have ih:=Ty N t rec4 hl xs (v+1) _ (fun y hy=>hx y (by simp [hy])) (hg.add (hx x (by simp)));have:=hg.len;rw [jA,uN,cc,va];by_cases q:x.ID∈g
  ·rw [if_pos q] at ih ⊢;simp [q,su,ih]
  ·rw [if_neg q] at ih ⊢;rw [if_neg (by simpa using q),PT,cc,su];by_cases f:BV t x.ID g=true
   ·rw [if_pos f] at ih ⊢;rw [if_pos f,mU (by simp; omega),ih]
   ·rw [if_neg f] at ih ⊢;rw [if_neg f,ih]
def GF (t:ae):Nat->List Int->List Int
 | 0,g=>g
 | m+1,g=>GF t m (va t t.Txns g)
def Tb (N:Nat) (t:ae) (hl:t.Txns.length<=1000):∀ (m v:Nat) (g:List Int),GI t g->lv t N m v g=some (decide ((GF t m g).length=t.Txns.length))
 | 0,v,g,_=>by
  rw [lv,GF]
  congr 1
  rw [xY]; simp; omega
 | m+1,v,g,hg=>by
  rw [lv,Ty N t _ hl _ _ _ (fun x hx=>hx) hg,Tb N t hl m _ _ (GH (fun x hx=>hx) hg),GF]
def Rs {r:Int->Nat}:∀ {l:List Int},l≠[]->∃ u∈l,∀ n∈l,r u<=r n
 | [x],_=>⟨x,by simp,by simp⟩
 | x::y::l,_=>by
  obtain ⟨u,hu,h⟩:=Rs (r:=r) (l:=y::l) (by simp);by_cases q:r x<=r u
  ·exact ⟨x,by simp,fun n hn=>by
    rcases cK.1 hn with rfl|hn
    ·exact cw _
    ·exact nA q (h n hn)⟩
  ·exact ⟨u,aeb _ hu,fun n hn=>by
    rcases cK.1 hn with rfl|hn
    ·omega
    ·exact h n hn⟩
def UD {t:ae} (h:TV t) {g:List Int} (hg:GI t g):g.length+1<=(va t t.Txns g).length∨∀ n∈ids t,n∈g:=by
 obtain ⟨r,hr⟩:=h.ac;by_cases q:(ids t).filter (fun n=>!decide (n∈g))=[]
 ·exact .inr fun n hn=>by
   have:=List.filter_eq_nil_iff.1 q n hn;simpa using this
 ·obtain ⟨u,hu,hm⟩:=Rs (r:=r) q;simp only [nR,nC,decide_eq_false_iff_not] at hu hm;have hin:u∈va t t.Txns g:=by
   refine RO hu.1 fun g' hg'=>cq.2 fun s hs=>EP (by simp) fun i y hy e z hz=>hg' _ ?_;obtain ⟨j,hj⟩:=cH hz;rw [cY] at hj;split at hj
   ·rename_i hji;have hlt:r z.Txn_ < r y.Txn_:=by
     obtain ⟨h1,rfl⟩:=cd.1 hj;obtain ⟨h2,rfl⟩:=cd.1 hy;exact nj.1 (hr s hs) j i h1 h2 hji
    by_cases hzg:z.Txn_∈g
    ·exact hzg
    ·have:=hm z.Txn_ ⟨(h.st s hs).id z (cg hj),hzg⟩;rw [e] at hlt; omega
   ·cases hj
  have hG:=GH (fun x hx=>hx) hg;have:=jg (l:=va t t.Txns g) (k:=u::g) (ado.2 ⟨hu.2,hg.nd⟩) fun x hx=>by
   rcases cK.1 hx with rfl|hx
   ·exact hin
   ·exact GR hx
  exact .inl (by simpa using this)
def TX.nd {t:ae} (h:TX t):(ids t).Nodup:=by
 unfold ids List.Nodup;rw [n5];exact h.so.imp fun q e=>by omega
def K0 {t:ae} (h:TV t):∀ (m:Nat) {g:List Int},GI t g->t.Txns.length<=m+g.length->(GF t m g).length=t.Txns.length
 | 0,g,hg,hl=>by have:=hg.len; rw [GF]; omega
 | m+1,g,hg,hl=>by
  have hG:=GH (fun x hx=>hx) hg;rw [GF];rcases UD h hg with q|q
  ·exact K0 h m hG (by omega)
  ·refine K0 h m hG ?_;have:=jg (l:=va t t.Txns g) h.tx.nd fun n hn=>GR (q n hn);simp [ids] at this;omega
def UI (N:Nat) {t:ae} (h:TV t):uQ N t=some true:=by
 have hl:=h.tx.len;rw [uQ,Tb N t (by omega) _ _ _ ⟨by simp,by simp⟩,K0 h _ ⟨by simp,by simp⟩ (by simp)];simp
def zU {l:List Ref}:∀ {k:List Ref},k.Nodup->(∀ x∈k,x∈l)->k.length<=l.length:=by
 classical
 induction l with
 | nil=>
  intro k _ h;cases k with
  | nil=>simp
  | cons x k=>have:=h x (by simp); simp at this
 | cons a l ih=>
  intro k hk h;have h1:=ih (k:=k.filter fun x=>!decide (x=a)) (hk.filter _) fun x hx=>by
   simp only [nR,nC,decide_eq_false_iff_not] at hx;exact (cK.1 (h x hx.1)).resolve_left hx.2
  have h2:k.length<=(k.filter fun x=>!decide (x=a)).length+1:=by
   clear h1 h ih
   induction k with
   | nil=>simp
   | cons b k ih=>
    rw [ado] at hk;by_cases q:b=a
    ·subst q;have:(k.filter fun x=>!decide (x=b))=k:=xO.2 fun x hx=>by simp; exact fun e=>hk.1 (e ▸ hx)
     simp [this]
    ·have:=ih hk.2;simp [q]; omega
  simp only [cC]; omega
def TV.stacks_len {t:ae} (h:TV t):t.Stacks.length<=128:=by
 have hcl:∀ {l:List Txn},(∀ x∈l,XV x)->(l.flatMap fun x=>x.Calls.map ah.Target).length<=l.length * 4:=by
  intro l
  induction l with
  | nil=>simp
  | cons x l ih=>
   intro hx;have h1:=ih fun y hy=>hx y (by simp [hy]);have h2:=(hx x (by simp)).c2;simp only [adR,hU,cy,cC];omega
 have hnd:(t.Stacks.map aa.Actor).Nodup:=by
  unfold List.Nodup;rw [n5];exact h.ss.imp fun q e=>by rw [e,jk] at q; cases q
 have:=zU (l:=t.Txns.flatMap fun x=>x.Calls.map ah.Target) hnd fun a ha=>by
  obtain ⟨s,hs,rfl⟩:=cJ.1 ha;have hS:=h.st s hs;obtain ⟨y,hy⟩:=ad4 _ hS.ne;obtain ⟨x,hx,e⟩:=cJ.1 (hS.id y hy);obtain ⟨c,hc,e2⟩:=(hS.ex y hy x hx e).1;exact List.mem_flatMap.2 ⟨x,hx,cJ.2 ⟨c,nI hc,e2⟩⟩
 have h2:=hcl fun x hx=>(h.tx.x x hx).1;have:=h.tx.len;simp only [cy] at *;omega
def TV.layers_len {t:ae} (h:TV t) {s:aa} (hs:s∈t.Stacks):s.Layers.length<=32:=by
 obtain ⟨r,hr⟩:=h.ac;have:=jg (l:=ids t) (k:=s.Layers.map al.Txn_) (by
  unfold List.Nodup;rw [n5];exact (hr s hs).imp fun q e=>by rw [e] at q; omega) fun n hn=>by
   obtain ⟨y,hy,rfl⟩:=cJ.1 hn;exact (h.st s hs).id y hy
 have:=h.tx.len;simp [ids] at *;omega
def o9 (N:Nat) (hN:200<=N) {t:ae} (h:TV t):jb N t=some true:=by
 have hl:=h.tx.len;simp only [jb,(RJ N t (by omega)).is h.tx,Pr N h,NA N hN h (by have:=h.stacks_len; omega) (fun s hs=>by have:=h.layers_len hs; omega),KY N h,UI N h,cc,if_true]
def yC {N:Nat} {v:Value} (h:bdV v):gI N v=some v:=by
 simp only [gI,OE h.1,Rp h.2,cc]
def sH {N:Nat} {l:List Value} (h:E6 l):eD N l=some l:=by
 have:=tV (L:=iH N) bdV (fun m v l x hx hp=>by
  simp only [iH,G0 hx,yC hp,cc,tF hx]) l.length 0 l (by simp) h.2
 simp only [eD,Sb h.1,cc,cV,this,iH]
def Jc {N:Nat} {c:ah} (h:E6 c.Args):kN N c=some c:=by
 simp only [kN,sH h,cc]
def XV.bd {x:Txn} (h:XV x):TL x.Calls/\bdV x.Last:=⟨⟨by have:=h.c2; omega,fun c hc=>Q5 (h.ca c hc)⟩,Cd h.la⟩
def Fo {N:Nat} {x:Txn} (h:TL x.Calls/\bdV x.Last):kd N x=some x:=by
 have:=tV (L:=j9 (vc N x) N) (fun c:ah=>E6 c.Args) (fun m v l y hy hp=>by
  simp only [j9,G0 hy,Jc hp,cc,tF hy]) x.Calls.length 0 x.Calls (by simp) h.1.2
 simp only [kd,MF h.1.1,cc,cV,this,j9,vc,yC h.2]
def G9 {l:List Value} (h:s7 l=true):E6 l:=by
 simp only [s7,cv,decide_eq_true_eq,cq] at h;exact ⟨by omega,fun v hv=>Cd (h.2 v hv)⟩
def XJ (l:List al):Prop:=l.length<=1000000/\∀ y∈l,E6 y.Fields
def Bg {N:Nat} {l:List al} (h:XJ l):ky N l=some l:=by
 have:=tV (L:=iA N) (fun y:al=>E6 y.Fields) (fun m v l x hx hp=>by
  simp only [iA,G0 hx,sH hp,cc,tF hx]) l.length 0 l (by simp) h.2
 simp only [ky,gg,vW (b:=39) (l:=l) (by have:=h.1; omega),cc,cV,this,iA]
def TV.bdL {t:ae} (h:TV t) {s:aa} (hs:s∈t.Stacks):XJ s.Layers:=⟨by have:=h.layers_len hs; omega,fun y hy=>G9 ((h.st s hs).fi y hy)⟩
def zf {N:Nat} {t:ae} (h:TV t):kL N t=some t:=by
 have h1:=h.tx.len; have h2:=h.lk.len; have h3:=h.stacks_len;have e1:=tV (L:=pG (zO N t.Stacks t.Locks) N) (fun x:Txn=>TL x.Calls/\bdV x.Last) (fun m v l x hx hp=>by
  simp only [pG,G0 hx,Fo hp,cc,tF hx]) t.Txns.length 0 t.Txns (by simp) (fun x hx=>(h.tx.x x hx).1.bd)
 have e2:=tV (L:=oX (Ac t.Txns N t.Stacks) N) (fun x:ai=>x.Waiters.length<=32) (fun m v l x hx hp=>by
  simp only [oX,G0 hx,OE (N:=N) (l:=x.Waiters) (by omega),cc,tF hx]) t.Locks.length 0 t.Locks (by simp) (fun x hx=>(h.lk.l x hx).wl)
 have e3:=tV (L:=pk t.Txns t.Locks N) (fun x:aa=>XJ x.Layers) (fun m v l x hx hp=>by
  simp only [pk,G0 hx,Bg hp,cc,tF hx]) t.Stacks.length 0 t.Stacks (by simp) (fun s hs=>h.bdL hs)
 simp only [kL,iF,eL,dU];rw [vW (by omega),cc,vW (by omega),cc,vW (by omega),cc,cV,e1,cS,pG,zO,cV,e2,cS,oX,Ac,cV,e3,cS,pk];simp [NL]
structure Xv {α:Type} (p:α->Bool) (a l:List α) (i j:Nat):Prop where
 len:l.length=a.length
 ij:i < j
 jl:j<=a.length
 pre:l.take i=(a.take j).filter fun x=>!p x
 rest:∀ q,j<=q->l[q]?=a[q]?
section
variable {α:Type} {f:α->Option Bool} {p:α->Bool} {L:Nat->List α × Int × Int->Option (List α)} {J:List α->Int->Option (List α)}
theorem NX (hL:∀ n l v5 v6,L (n+1) (l,v5,v6)=if v6 < ((l.length:Nat):Int) then gx l v6 fun x=>(f x).bind fun r=>if r=true then L n (l,v5,IntKind.i64.wrap (v6+1)) else gx l v5 fun _=>L n (l.set v5.toNat x,IntKind.i64.wrap (v5+1),IntKind.i64.wrap (v6+1)) else J l v5)
  (a:List α) (hf:∀ x∈a,f x=some (p x)) (ha:a.length<=1000):∀ (n:Nat) (l:List α) (i j:Nat),a.length < j+n->Xv p a l i j->∃ l' i',Xv p a l' i' a.length/\L n (l,(i:Int),(j:Int))=J l' (i':Int)
 | 0,l,i,j,hn,h=>by have:=h.jl; omega
 | n+1,l,i,j,hn,h=>by
  have hl:=h.len; have hij:=h.ij; have hj:=h.jl;rw [hL];by_cases hlt:j < a.length
  ·have g1:l[j]?=some a[j]:=by rw [h.rest j (cw _),cn hlt]
   have htk:a.take (j+1)=a.take j++[a[j]]:=by rw [xB,cn hlt]; rfl
   rw [if_pos (by omega),aO g1,hf _ (nw hlt),cc,w64 (n:=(j:Int)+1) (by omega) (by omega),show ((j:Int)+1)=((j+1:Nat):Int) by omega];by_cases e:p a[j]=true
   ·rw [if_pos e];refine NX hL a hf ha n l i (j+1) (by omega) ⟨hl,by omega,by omega,?_,fun q hq=>h.rest q (by omega)⟩;rw [h.pre,htk,xz]; simp [e]
   ·have hil:i < l.length:=by omega
    rw [if_neg e,aO (cn hil),w64 (n:=(i:Int)+1) (by omega) (by omega),show ((i:Int)+1)=((i+1:Nat):Int) by omega,cL];refine NX hL a hf ha n (l.set i a[j]) (i+1) (j+1) (by omega) ⟨by simp [hl],by omega,by omega,?_,fun q hq=>by rw [xC (by omega)]; exact h.rest q (by omega)⟩;rw [yE hil,h.pre,htk,xz]; simp [e]
  ·rw [if_neg (by omega)];have:j=a.length:=by omega
   subst this;exact ⟨l,i,h,rfl⟩
def Ny (hL:∀ n l v5 v6,L (n+1) (l,v5,v6)=if v6 < ((l.length:Nat):Int) then gx l v6 fun x=>(f x).bind fun r=>if r=true then L n (l,v5,IntKind.i64.wrap (v6+1)) else gx l v5 fun _=>L n (l.set v5.toNat x,IntKind.i64.wrap (v5+1),IntKind.i64.wrap (v6+1)) else J l v5) {z:α}
  (hJ:∀ l v,J l v=slx l v ((l.length:Nat):Int) fun _=>slx (tL z v.toNat l) 0 v fun _=>some ((tL z v.toNat l).take v.toNat)) {I:List α->Nat->Unit->Option Int} (hI0:∀ v,I [] v ()=some (-1)) (hI1:∀ x xs v,I (x::xs) v ()=(f x).bind fun r=>if r=true then some ((v:Nat):Int) else I xs (v+1) ()) (N:Nat) (hN:1001<=N)
  (a:List α) (hf:∀ x∈a,f x=some (p x)) (ha:a.length<=1000):((I a 0 ()).bind fun r1=>if r1=-1 then some a else L N (a,r1,IntKind.i64.wrap (r1+1)))=some (a.filter fun x=>!p x):=by
 rw [kM f p hI0 hI1 a 0 hf,cc];rcases uO p a 0 with ⟨h1,h2⟩|⟨i,x,h1,h2,h3,h4⟩
 ·rw [h1,if_pos rfl,xO.2 fun x hx=>by simp [h2 x hx]]
 ·have hil:=(cd.1 h2).1;rw [h1,cS,if_neg (by omega),w64 (by omega) (by omega),show ((i:Int)+1)=((i+1:Nat):Int) by omega];have hd:Xv p a a i (i+1):=⟨rfl,by omega,by omega,by
   rw [xB,h2,xP,xz,xO.2 fun y hy=>by simp [h4 y hy]];simp [h3],fun _ _=>rfl⟩
  obtain ⟨l',i',h',e'⟩:=NX hL a hf ha N a i (i+1) (by omega) hd;rw [e',hJ];have q1:=h'.len; have q2:=h'.ij;unfold slx;rw [cL,if_pos ⟨by omega,by omega,by omega,by omega⟩];dsimp only;rw [if_pos ⟨by omega,by omega,by omega,by rw [N6 (by omega)]; omega⟩];try dsimp only
  rw [LS (by omega),h'.pre,ni (cw _)]
end
def kT (D:List Int) (n:Int):Bool:=!decide (n∈D)
def z8 (D:List Int) (s:aa):aa:=⟨s.Actor,s.Layers.filter fun y=>kT D y.Txn_⟩
def Gp (D:List Int) (l:List aa):List aa:=(l.map (z8 D)).filter fun s=>!decide (s.Layers=[])
def zz (t:ae) (D:List Int):ae:=⟨t.Txns.filter fun x=>kT D x.ID,t.Locks,Gp D t.Stacks⟩
theorem Ox (N:Nat) (hN:1001<=N) {t:ae} (h:TV t) (D:List Int):tG N t D=some (zz t D):=by
 have h1:=h.tx.len; have h3:=h.stacks_len;have e1:=Ny (f:=fun x=>pC N x D) (p:=fun x=>decide (x.ID∈D)) (L:=bq N D eN) (J:=eN) (fun _ _ _ _=>by rw [bq]) (fun _ _=>rfl) (I:=dL N D) (fun _=>rfl) (fun _ _ _=>rfl) N hN t.Txns (fun x _=>by simp only [pC,uN,cc]) (by omega);have e2:∀ {l:List al},l.length<=1000->dK N l D=some (l.filter fun y=>kT D y.Txn_):=fun {l} hl=>
  Ny (f:=fun x=>pK N x D) (p:=fun x=>decide (x.Txn_∈D)) (L:=bk N D eC) (J:=eC) (fun _ _ _ _=>by rw [bk]) (fun _ _=>rfl) (I:=du N D) (fun _=>rfl) (fun _ _ _=>rfl) N hN l (fun x _=>by simp only [pK,uN,cc]) hl
 have e3:∀ {l:List aa},l.length<=1000->bY N l=some (l.filter fun s=>!decide (s.Layers=[])):=fun {l} hl=>
  Ny (f:=fun x=>oZ N x) (p:=fun s=>decide (s.Layers=[])) (L:=aX N dJ) (J:=dJ) (fun _ _ _ _=>by rw [aX]) (fun _ _=>rfl) (I:=bQ N) (fun _=>rfl) (fun _ _ _=>rfl) N hN l (fun x _=>by simp [oZ]) hl
 have e4:∀ (m v:Nat) (A:List aa),v+m=t.Stacks.length->A.length=v->mN (yK N (t.Txns.filter fun x=>kT D x.ID) t) N D m v (A++t.Stacks.drop v)=some ⟨t.Txns.filter fun x=>kT D x.ID,t.Locks,(A++(t.Stacks.drop v).map (z8 D)).filter fun s=>!decide (s.Layers=[])⟩:=by
  intro m
  induction m with
  | zero=>
   intro v A hv hA;rw [mN,xe (by omega),cT,yK,e3 (by omega)];simp
  | succ m ih=>
   intro v A hv hA;subst hA;have hvl:A.length < t.Stacks.length:=by omega
   rw [xp hvl,mN,aO z6,e2 (by have:=h.layers_len (nw hvl); omega),cc,JF];have:=ih (A.length+1) (A++[z8 D t.Stacks[A.length]]) (by omega) (by simp);rw [nq,nq] at this;rw [nv];simp only [nK,cO] at this;exact this
 simp only [tG,zf h,cc];rw [show dW N t.Txns D=some (t.Txns.filter fun x=>kT D x.ID) from e1,cc,cV];exact e4 t.Stacks.length 0 [] (by omega) rfl
def XG {t:ae} (h:TV t) {x:Txn} (hx:XV x/\zK x) (h0:x.Done=0) (hlt:∀ y∈t.Txns,y.ID < x.ID) (hl:t.Txns.length < 32):TV ⟨t.Txns++[x],t.Locks,t.Stacks⟩:=by
 have hid:∀ {n:Int},n∈ids t->n∈ids ⟨t.Txns++[x],t.Locks,t.Stacks⟩:=fun hn=>by simp only [ids,nr,cF] at *; exact .inl hn
 have hnew:∀ {y:Txn},y∈t.Txns++[x]->y.ID∈ids t->y∈t.Txns:=fun {y} hy hn=>by
  rcases cF.1 hy with hy|hy
  ·exact hy
  ·simp only [cG] at hy;obtain ⟨z,hz,e⟩:=cJ.1 hn;have:=hlt z hz;rw [hy] at e; omega
 refine ⟨⟨fun y hy=>?_,?_,by simp; omega⟩,h.lk,h.ss,fun s hs=>?_,fun y hy c hc=>?_,fun l hm=>?_,h.ac⟩
 ·rcases cF.1 hy with hy|hy
  ·exact h.tx.x y hy
  ·simp only [cG] at hy; rw [hy]; exact hx
 ·exact xk.2 ⟨h.tx.so,by simp,fun a ha b hb=>by simp only [cG] at hb; rw [hb]; exact hlt a ha⟩
 ·have hS:=h.st s hs;exact ⟨hS.ne,fun l hl=>hid (hS.id l hl),hS.fi,hS.up,fun l hl y hy e=>hS.ex l hl y (hnew hy (e ▸ hS.id l hl)) e⟩
 ·rcases cF.1 hy with hy|hy
  ·exact h.pr y hy c hc
  ·simp only [cG] at hy;rw [hy,h0] at hc;simp at hc
 ·have hL:=h.lp l hm;exact ⟨hid hL.ow,fun w hw=>hid (hL.wa w hw),fun y hy e=>hL.dn y (hnew hy (e ▸ hL.ow)) e,fun y hy e=>hL.op y (hnew hy (e ▸ hL.ow)) e,fun y hy hw=>hL.wt y (hnew hy (hL.wa _ hw)) hw⟩
def LP.locks {t:ae} {l:ai} (h:LP t l) (L:List ai):LP ⟨t.Txns,L,t.Stacks⟩ l:=⟨h.ow,h.wa,h.dn,h.op,h.wt⟩
def OO {t:ae} (h:TV t) {L:List ai} (hv:VT L) (hp:∀ l∈L,LP t l) (hk:∀ s∈t.Stacks,∀ y∈s.Layers,y.Prepared=false->∀ k∈t.Locks,k.Actor=s.Actor->k.Owner=y.Txn_->∃ k'∈L,k'.Actor=s.Actor/\k'.Owner=y.Txn_):TV ⟨t.Txns,L,t.Stacks⟩:=
 ⟨⟨h.tx.x,h.tx.so,h.tx.len⟩,hv,h.ss,fun s hs=>⟨(h.st s hs).ne,(h.st s hs).id,(h.st s hs).fi,fun i y hy hpr=>by
  obtain ⟨h1,k,h2,h3,h4⟩:=(h.st s hs).up i y hy hpr;exact ⟨h1,hk s hs y (cg hy) hpr k h2 h3 h4⟩,(h.st s hs).ex⟩,h.pr,fun l hl=>(hp l hl).locks L,h.ac⟩
def LP.pass {t:ae} {l l':ai} (h:LP t l) (ha:l'.Actor=l.Actor) (ho:l'.Owner=l.Owner∨l'.Owner∈l.Waiters) (hw:∀ w∈l'.Waiters,w∈l.Waiters):LP t l':=by
 refine ⟨?_,fun w hm=>h.wa w (hw w hm),fun x hx e=>?_,fun x hx e=>?_,fun x hx hm=>ha ▸ h.wt x hx (hw _ hm)⟩
 ·rcases ho with ho|ho
  ·rw [ho]; exact h.ow
  ·exact h.wa _ ho
 ·rcases ho with ho|ho
  ·rw [ha]; exact h.dn x hx (e.trans ho)
  ·have:=(h.wt x hx (e ▸ ho)).1;intro q; omega
 ·rcases ho with ho|ho
  ·rw [ha]; exact h.op x hx (e.trans ho)
  ·exact fun _=>.inr (ha ▸ (h.wt x hx (e ▸ ho)).2)
def rH {D:List Int} {n:Int}:kT D n=true↔n∉D:=by simp [kT]
def Bc {D:List Int} {l:List aa} {s:aa}:s∈Gp D l↔∃ s0∈l,s=z8 D s0/\s.Layers≠[]:=by
 simp only [Gp,nR,cJ,nC,decide_eq_false_iff_not];constructor
 ·rintro ⟨⟨s0,h1,h2⟩,h3⟩; exact ⟨s0,h1,h2.symm,h3⟩
 ·rintro ⟨s0,h1,h2,h3⟩; exact ⟨⟨s0,h1,h2.symm⟩,h3⟩
def K8 {t:ae} {D:List Int} {L:List ai} {s:aa} {y:al} (hs:s∈t.Stacks) (hy:y∈s.Layers) (hn:y.Txn_∉D):∃ s'∈Gp D t.Stacks,s'.Actor=s.Actor/\y∈s'.Layers:=by
 have hm:y∈(z8 D s).Layers:=nR.2 ⟨hy,rH.2 hn⟩;exact ⟨z8 D s,Bc.2 ⟨s,hs,rfl,aeM hm⟩,rfl,hm⟩
structure Lks (t:ae) (D:List Int) (L:List ai):Prop where
 vt:VT L
 fr:∀ l'∈L,∃ l∈t.Locks,l'.Actor=l.Actor/\(l'.Owner=l.Owner∨l'.Owner∈l.Waiters)/\(∀ w∈l'.Waiters,w∈l.Waiters)/\l'.Owner∉D/\∀ w∈l'.Waiters,w∉D
 to:∀ l∈t.Locks,l.Owner∉D->∃ l'∈L,l'.Actor=l.Actor/\l'.Owner=l.Owner
def Wh {t:ae} (h:TV t) {D:List Int} {L:List ai} (hL:Lks t D L):TV ⟨t.Txns.filter fun x=>kT D x.ID,L,Gp D t.Stacks⟩:=by
 have hx:∀ {x:Txn},(x∈t.Txns.filter fun x=>kT D x.ID)->x∈t.Txns/\x.ID∉D:=fun {x} hx=>by
  obtain ⟨h1,h2⟩:=nR.1 hx;exact ⟨h1,rH.1 h2⟩
 have hid:∀ {n:Int},n∈ids t->n∉D->n∈ids ⟨t.Txns.filter fun x=>kT D x.ID,L,Gp D t.Stacks⟩:=fun {n} h1 h2=>by
  obtain ⟨x,hx,rfl⟩:=cJ.1 h1;exact cJ.2 ⟨x,nR.2 ⟨hx,rH.2 h2⟩,rfl⟩
 refine ⟨⟨fun x q=>h.tx.x x (hx q).1,h.tx.so.filter _,nA (adz _ _) h.tx.len⟩,hL.vt,?_,fun s hs=>?_,fun x q c hc=>?_,fun l' hl'=>?_,?_⟩
 ·unfold Gp;exact (n5.2 (h.ss.imp fun q=>q)).filter _
 ·obtain ⟨s0,hs0,rfl,hne⟩:=Bc.1 hs;have hS:=h.st s0 hs0;have hin:∀ {y:al},y∈(z8 D s0).Layers->y∈s0.Layers/\y.Txn_∉D:=fun hy=>by
   obtain ⟨h1,h2⟩:=nR.1 hy;exact ⟨h1,rH.1 h2⟩
  refine ⟨hne,fun y hy=>hid (hS.id y (hin hy).1) (hin hy).2,fun y hy=>hS.fi y (hin hy).1,fun i y hy hp=>?_,fun y hy x q e=>hS.ex y (hin hy).1 x (hx q).1 e⟩;have hm:=hin (cg hy);obtain ⟨j,hj⟩:=cH hm.1;obtain ⟨h1,k,h2,h3,h4⟩:=hS.up j y hj hp;refine ⟨?_,?_⟩
  ·
   have hjl:=(cd.1 hj).1;have e:s0.Layers=s0.Layers.take j++[y]:=by
    have:=xA j s0.Layers;rw [xp hjl,(cd.1 hj).2,xe (by omega)] at this;exact this.symm
   have e2:(z8 D s0).Layers=(s0.Layers.take j).filter (fun y=>kT D y.Txn_)++[y]:=by
    have q:=congrArg (List.filter fun y=>kT D y.Txn_) e;have:kT D y.Txn_=true:=rH.2 hm.2;rw [xz,show [y].filter (fun y=>kT D y.Txn_)=[y] by simp [this]] at q;exact q
   rw [e2] at hy ⊢;rcases nS i ((s0.Layers.take j).filter fun y=>kT D y.Txn_).length with q|q
   ·exfalso;rw [cE q] at hy;have hm2:=cg hy;obtain ⟨i2,hi2⟩:=cH (nR.1 hm2).1;rw [cY] at hi2;split at hi2
    ·obtain ⟨g1,_⟩:=hS.up i2 y hi2 hp;omega
    ·cases hi2
   ·have:=(cd.1 hy).1;simp at this ⊢; omega
  ·obtain ⟨k',g1,g2,g3⟩:=hL.to k h2 (h4 ▸ hm.2);exact ⟨k',g1,g2.trans h3,g3.trans h4⟩
 ·obtain ⟨hm,hn⟩:=hx q;obtain ⟨s,hs,ha,y,hy,e⟩:=h.pr x hm c hc;obtain ⟨s',g1,g2,g3⟩:=K8 (L:=L) hs hy (e ▸ hn);exact ⟨s',g1,g2.trans ha,y,g3,e⟩
 ·obtain ⟨l,h1,h2,h3,h4,h5,h6⟩:=hL.fr l' hl';have hP:=(h.lp l h1).pass h2 h3 h4;refine ⟨hid hP.ow h5,fun w hw=>hid (hP.wa w hw) (h6 w hw),fun x q e hd=>?_,fun x q e hd=>?_,fun x q hw=>hP.wt x (hx q).1 hw⟩
  ·obtain ⟨s,hs,ha,y,hy,g1,g2⟩:=hP.dn x (hx q).1 e hd;obtain ⟨s',q1,q2,q3⟩:=K8 (L:=L) hs hy (g1 ▸ (hx q).2);exact ⟨s',q1,q2.trans ha,y,q3,g1,g2⟩
  ·rcases hP.op x (hx q).1 e hd with ⟨s,hs,ha,y,hy,g1⟩|g
   ·obtain ⟨s',q1,q2,q3⟩:=K8 (L:=L) hs hy (g1 ▸ (hx q).2);exact .inl ⟨s',q1,q2.trans ha,y,q3,g1⟩
   ·exact .inr g
 ·obtain ⟨r,hr⟩:=h.ac;refine ⟨r,fun s hs=>?_⟩;obtain ⟨s0,hs0,rfl,_⟩:=Bc.1 hs;exact (hr s0 hs0).filter _
def OU {t:List ai} (h:VT t) {k k':ai} (hk:k∈t) (hk':k'∈t) (e:k.Actor=k'.Actor):k=k':=by
 have h1:=(AM h hk).1;have h2:=(AM h hk').1;rw [e,h2] at h1;simpa using h1.symm
def j5 (n:Int) (f:List Value) (l:List al):List al:=match l[l.length - 1]? with
 | some z=>if z.Txn_=n then l.set (l.length - 1) ⟨z.Txn_,f,z.Prepared⟩ else l++[⟨n,f,false⟩]
 | none=>[⟨n,f,false⟩]
def OL {α:Type} {l:List α} {z:α} (h:l[l.length - 1]?=some z):l=l.take (l.length - 1)++[z]:=by
 have hl:=(cd.1 h).1;have:=xA (l.length - 1) l;rw [xp hl,(cd.1 h).2,xe (by omega)] at this;exact this.symm
def Xa {α:Type} {l:List α} {y z:α} (h:l[l.length - 1]?=some z):l.set (l.length - 1) y=l.take (l.length - 1)++[y]:=by
 have hl:=(cd.1 h).1;rw [List.set_eq_take_append_cons_drop,if_pos hl,xe (by omega)]
structure abh (n:Int) (f:List Value) (lay base new:List al):Prop where
 new:new=base++[⟨n,f,false⟩]
 old:∀ y∈base,y∈lay/\y.Txn_≠n/\y.Prepared=true
 all:∀ y∈lay,y∈base∨(y.Txn_=n/\y.Prepared=false)
 sub:base.Sublist lay
structure Exe (t:ae) (i:Nat) (x:Txn) (c:ah) (k:ai):Prop where
 hi:t.Txns[i]?=some x
 dn:x.Done < x.Calls.length
 hc:x.Calls[x.Done.toNat]?=some c
 hk:k∈t.Locks
 ka:k.Actor=c.Target
 ko:k.Owner=x.ID
section
variable {t:ae} {i:Nat} {x:Txn} {c:ah} {k:ai}
def Exe.np (h:TV t) (e:Exe t i x c k) {s:aa} (hs:s∈t.Stacks) {y:al} (hy:y∈s.Layers) (hn:y.Txn_=x.ID):y.Prepared=false:=by
 cases hp:y.Prepared with
 | false=>rfl
 | true=>
  have:=((h.st s hs).ex y hy x (cg e.hi) hn.symm).2 hp;have:=e.dn; omega
def Yi (h:TV t) (e:Exe t i x c k) (f:List Value) {lay:List al} (hl:lay=[]∨(⟨c.Target,lay⟩:aa)∈t.Stacks):∃ base,abh x.ID f lay base (j5 x.ID f lay):=by
 rcases hl with rfl|hs
 ·exact ⟨[],⟨by simp [j5],by simp,by simp,.slnil⟩⟩
 ·have hS:=h.st _ hs;obtain ⟨z,hz⟩:=Lf hS.ne;have hlen:=xG.2 hS.ne;simp only at hz hlen;have hzm:=cg hz;unfold j5;rw [hz];by_cases q:z.Txn_=x.ID
  ·have hzp:=e.np h hs hzm q;simp only [q,if_true,Xa hz,hzp];refine ⟨_,⟨rfl,fun y hy=>?_,fun y hy=>?_,ady _ _⟩⟩
   ·obtain ⟨j,hj⟩:=cH hy;rw [cY] at hj;split at hj
    ·have hym:=cg hj;have hp:y.Prepared=true:=by
      cases hp:y.Prepared with
      | true=>rfl
      | false=>have:=(hS.up j y hj hp).1; simp only at this; omega
     exact ⟨hym,fun e2=>(by rw [e.np h hs hym e2] at hp; cases hp),hp⟩
    ·cases hj
   ·rw [OL hz] at hy;rcases cF.1 hy with hy|hy
    ·exact .inl hy
    ·simp only [cG] at hy; rw [hy]; exact .inr ⟨q,hzp⟩
  ·simp only [q,if_false];have hall:∀ y∈lay,y.Prepared=true:=fun y hy=>by
    cases hp:y.Prepared with
    | true=>rfl
    | false=>
     exfalso;obtain ⟨j,hj⟩:=cH hy;obtain ⟨g1,k',g2,g3,g4⟩:=hS.up j y hj hp;simp only at g1 g3;have:j=lay.length - 1:=by omega
     rw [this,hz] at hj;simp only [cb] at hj;have:=OU h.lk e.hk g2 (e.ka.trans g3.symm);rw [<-this,e.ko,<-hj] at g4;exact q g4.symm
   refine ⟨lay,⟨rfl,fun y hy=>⟨hy,fun e2=>?_,hall y hy⟩,fun y hy=>.inl hy,List.Sublist.refl _⟩⟩;have:=hall y hy;rw [e.np h hs hy e2] at this; cases this
def Gc {α:Type} {l:List α} {i:Nat} {x y z:α} (hx:l[i]?=some x) (h:z∈l.set i y):z=y∨∃ j,j≠i/\l[j]?=some z:=by
 obtain ⟨j,hj⟩:=cH h;rw [hC] at hj;split at hj
 ·split at hj
  ·simp only [cb] at hj; exact .inl hj.symm
  ·cases hj
 ·rename_i q; exact .inr ⟨j,fun e=>q e.symm,hj⟩
theorem Tq {l:List Txn} {i:Nat} {x y:Txn} (hx:l[i]?=some x) (e:y.ID=x.ID):(l.set i y).map Txn.ID=l.map Txn.ID:=by
 rw [xU,e];exact tF (by rw [cu,hx]; rfl)
def yW (t:ae) (i:Nat) (x:Txn) (r:Value) (S:List aa):ae:=⟨t.Txns.set i ⟨x.ID,x.Born,x.Client,x.Seq,x.Calls,x.Done+1,r⟩,t.Locks,S⟩
def Tl (h:TV t) (e:Exe t i x c k) {f:List Value} {r:Value} (hf:s7 f=true) (hr:mg r=true) {A B:List aa} {lay:List al} (hsp:t.Stacks=A++⟨c.Target,lay⟩::B∨(t.Stacks=A++B/\lay=[]))
  (hA:∀ s∈A,rl s.Actor c.Target=true) (hB:∀ s∈B,rl c.Target s.Actor=true):TV (yW t i x r (A++⟨c.Target,j5 x.ID f lay⟩::B)):=by
 have hx:=cg e.hi;obtain ⟨hX,hR⟩:=h.tx.x x hx;have hd1:=hX.d1; have hdn:=e.dn;have hAS:∀ s∈A,s∈t.Stacks:=fun s hs=>by rcases hsp with q|⟨q,_⟩<;>rw [q]<;>simp [hs]
 have hBS:∀ s∈B,s∈t.Stacks:=fun s hs=>by rcases hsp with q|⟨q,_⟩<;>rw [q]<;>simp [hs]
 have hcase:∀ s∈t.Stacks,s∈A∨s∈B∨s=⟨c.Target,lay⟩:=fun s hs=>by
  rcases hsp with q|⟨q,_⟩
  ·rw [q] at hs; simp only [cF,cK] at hs;rcases hs with hs|hs|hs
   ·exact .inl hs
   ·exact .inr (.inr hs)
   ·exact .inr (.inl hs)
  ·rw [q] at hs;rcases cF.1 hs with hs|hs
   ·exact .inl hs
   ·exact .inr (.inl hs)
 have hlay:lay=[]∨(⟨c.Target,lay⟩:aa)∈t.Stacks:=by
  rcases hsp with q|⟨_,q⟩
  ·exact .inr (by rw [q]; simp)
  ·exact .inl q
 obtain ⟨base,hP⟩:=Yi h e f hlay;have hT:∀ {y:Txn},y∈t.Txns.set i ⟨x.ID,x.Born,x.Client,x.Seq,x.Calls,x.Done+1,r⟩->y=⟨x.ID,x.Born,x.Client,x.Seq,x.Calls,x.Done+1,r⟩∨(y∈t.Txns/\y.ID≠x.ID):=fun {y} hy=>by
  rcases Gc e.hi hy with q|⟨j,hj,q⟩
  ·exact .inl q
  ·refine .inr ⟨cg q,fun e2=>hj ?_⟩;obtain ⟨h1,rfl⟩:=cd.1 q;obtain ⟨h2,h3⟩:=cd.1 e.hi;subst h3;have:=nj.1 h.tx.so;rcases xy j i with q2|q2|q2
   ·have:=this j i h1 h2 q2; omega
   ·exact q2
   ·have:=this i j h2 h1 q2; omega
 have hids:ids (yW t i x r (A++⟨c.Target,j5 x.ID f lay⟩::B))=ids t:=Tq e.hi rfl;have hnw:(⟨x.ID,f,false⟩:al)∈j5 x.ID f lay:=by rw [hP.new]; simp
 have hnS:(⟨c.Target,j5 x.ID f lay⟩:aa)∈A++⟨c.Target,j5 x.ID f lay⟩::B:=by simp
 have keep:∀ s∈t.Stacks,∀ y∈s.Layers,∃ s'∈A++(⟨c.Target,j5 x.ID f lay⟩:aa)::B,s'.Actor=s.Actor/\∃ y'∈s'.Layers,y'.Txn_=y.Txn_/\y'.Prepared=y.Prepared:=fun s hs y hy=>by
  rcases hcase s hs with q|q|rfl
  ·exact ⟨s,by simp [q],rfl,y,hy,rfl,rfl⟩
  ·exact ⟨s,by simp [q],rfl,y,hy,rfl,rfl⟩
  ·refine ⟨_,hnS,rfl,?_⟩;rcases hP.all y hy with q|⟨q1,q2⟩
   ·exact ⟨y,by rw [hP.new]; simp [q],rfl,rfl⟩
   ·exact ⟨_,hnw,q1.symm,q2.symm⟩
 have keepL:∀ {a:Ref} {n:Int},DU t a n->DU (yW t i x r (A++⟨c.Target,j5 x.ID f lay⟩::B)) a n:=fun ⟨s,hs,ha,y,hy,hn⟩=>by
  obtain ⟨s',g1,g2,y',g3,g4,_⟩:=keep s hs y hy;exact ⟨s',g1,g2.trans ha,y',g3,g4.trans hn⟩
 have newL:DU (yW t i x r (A++⟨c.Target,j5 x.ID f lay⟩::B)) c.Target x.ID:=⟨_,hnS,rfl,_,hnw,rfl⟩;have exold:∀ s∈t.Stacks,∀ l∈s.Layers,∀ y∈t.Txns.set i ⟨x.ID,x.Born,x.Client,x.Seq,x.Calls,x.Done+1,r⟩,y.ID=l.Txn_->(∃ c∈y.Calls.take y.Done.toNat,c.Target=s.Actor)/\(l.Prepared=true->y.Done=y.Calls.length):=fun s hs l hl y hy hyl=>by
  rcases hT hy with rfl|⟨q1,q2⟩
  ·have hnp:=e.np h hs hl hyl.symm;obtain ⟨⟨c',g1,g2⟩,_⟩:=(h.st s hs).ex l hl x hx hyl;refine ⟨⟨c',?_,g2⟩,fun q=>by rw [hnp] at q; cases q⟩;show c'∈x.Calls.take (x.Done+1).toNat;obtain ⟨j,hj⟩:=cH g1;rw [cY] at hj;split at hj
   ·exact cg (i:=j) (by rw [cY,if_pos (by omega)]; exact hj)
   ·cases hj
  ·exact (h.st s hs).ex l hl y q1 hyl
 have svold:∀ s∈t.Stacks,SV (yW t i x r (A++⟨c.Target,j5 x.ID f lay⟩::B)) s:=fun s hs=>
  ⟨(h.st s hs).ne,fun l hl=>hids ▸ (h.st s hs).id l hl,(h.st s hs).fi,(h.st s hs).up,exold s hs⟩
 refine ⟨⟨fun y hy=>?_,?_,?_⟩,h.lk,?_,fun s hs=>?_,fun y hy c' hc'=>?_,fun l hl=>?_,?_⟩
 ·rcases hT hy with rfl|⟨q,_⟩
  ·exact ⟨⟨hX.i1,hX.i2,hX.c1,hX.c2,by simp only; omega,by simp only; omega,hr,hX.ca⟩,hR.1,hR.2.1,hR.2.2.1,hR.2.2.2.1,hR.2.2.2.2.1,hR.2.2.2.2.2.1,fun q=>by simp only at q; omega⟩
  ·exact h.tx.x y q
 ·have hso:=h.tx.so;have:=(n5 (f:=Txn.ID) (R:=fun a b:Int=>a < b)).2 hso;rw [<-Tq e.hi (y:=⟨x.ID,x.Born,x.Client,x.Seq,x.Calls,x.Done+1,r⟩) rfl] at this;exact n5.1 this
 ·show (t.Txns.set i _).length<=32;rw [cX]; exact h.tx.len
 ·show (A++⟨c.Target,j5 x.ID f lay⟩::B).Pairwise _;have hss:=h.ss;have hAB:(A++B).Pairwise fun a b=>rl a.Actor b.Actor=true:=by
   rcases hsp with q|⟨q,_⟩
   ·rw [q] at hss; exact hss.sublist (List.Sublist.append_left (List.sublist_cons_self _ _) _)
   ·rwa [q] at hss
  obtain ⟨g1,g2,g3⟩:=xk.1 hAB;refine xk.2 ⟨g1,xQ.2 ⟨fun s hs=>hB s hs,g2⟩,fun a ha b hb=>?_⟩;rcases cK.1 hb with rfl|hb
  ·exact hA a ha
  ·exact g3 a ha b hb
 ·simp only [yW,cF,cK] at hs;rcases hs with hs|rfl|hs
  ·exact svold s (hAS s hs)
  ·have hbase:∀ y∈base,(⟨c.Target,lay⟩:aa)∈t.Stacks/\y∈lay:=fun y hy=>by
    have:=(hP.old y hy).1;rcases hlay with q|q
    ·rw [q] at this; cases this
    ·exact ⟨q,this⟩
   have hin:∀ {y:al},y∈j5 x.ID f lay->y∈base∨y=⟨x.ID,f,false⟩:=fun hy=>by
    rw [hP.new] at hy;simpa using hy
   refine ⟨by rw [hP.new]; simp,fun l hl=>?_,fun l hl=>?_,fun j l hj hp=>?_,fun l hl y hy hyl=>?_⟩
   ·rw [hids];rcases hin hl with q|rfl
    ·exact (h.st _ (hbase l q).1).id l (hbase l q).2
    ·exact C8 e.hi
   ·rcases hin hl with q|rfl
    ·exact (h.st _ (hbase l q).1).fi l (hbase l q).2
    ·exact hf
   ·simp only [hP.new] at hj ⊢;rcases nS j base.length with q|q
    ·rw [cE q] at hj;have:=(hP.old l (cg hj)).2.2;rw [hp] at this; cases this
    ·have hjl:=(cd.1 hj).1;simp at hjl;have:j=base.length:=by omega
     subst this;simp only [hU,aec,true_and];simp at hj;exact ⟨k,e.hk,e.ka,by rw [<-hj]; exact e.ko⟩
   ·rcases hin hl with q|rfl
    ·exact exold _ (hbase l q).1 l (hbase l q).2 y hy hyl
    ·refine ⟨?_,fun q=>by cases q⟩;rcases hT hy with rfl|⟨_,q⟩
     ·refine ⟨c,?_,rfl⟩;show c∈x.Calls.take (x.Done+1).toNat;exact cg (i:=x.Done.toNat) (by rw [cY,if_pos (by omega)]; exact e.hc)
     ·exact absurd hyl q
  ·exact svold s (hBS s hs)
 ·rcases hT hy with rfl|⟨q,_⟩
  ·have hc2:c'∈x.Calls.take (x.Done+1).toNat:=hc';obtain ⟨j,hj⟩:=cH hc2;rw [cY] at hj;split at hj
   ·rename_i hlt;rcases nS j x.Done.toNat with q|q
    ·exact keepL (h.pr x hx c' (cg (i:=j) (by rw [cY,if_pos q]; exact hj)))
    ·have:j=x.Done.toNat:=by omega
     rw [this,e.hc] at hj;simp only [cb] at hj;rw [<-hj]; exact newL
   ·cases hj
  ·exact keepL (h.pr y q c' hc')
 ·have hL:=h.lp l hl;have oldat:At x l.Actor->c.Target=l.Actor:=fun ⟨c2,g1,g2⟩=>by
   rw [e.hc] at g1;simp only [cb] at g1;rw [g1]; exact g2
  have hasx:x.ID=l.Owner->DU t l.Actor x.ID∨c.Target=l.Actor:=fun q=>(hL.op x hx q e.dn).imp_right oldat;refine ⟨hids ▸ hL.ow,fun w hw=>hids ▸ hL.wa w hw,fun y hy hyo hd=>?_,fun y hy hyo hd=>?_,fun y hy hw=>?_⟩
  ·rcases hT hy with rfl|⟨q,_⟩
   ·rcases hasx hyo with ⟨s,hs,ha,z,hz,hn⟩|q
    ·obtain ⟨s',g1,g2,z',g3,g4,g5⟩:=keep s hs z hz;exact ⟨s',g1,g2.trans ha,z',g3,g4.trans hn,g5.trans (e.np h hs hz hn)⟩
    ·exact ⟨_,hnS,q,_,hnw,rfl,rfl⟩
   ·obtain ⟨s,hs,ha,z,hz,hn,hp⟩:=hL.dn y q hyo hd;obtain ⟨s',g1,g2,z',g3,g4,g5⟩:=keep s hs z hz;exact ⟨s',g1,g2.trans ha,z',g3,g4.trans hn,g5.trans hp⟩
  ·rcases hT hy with rfl|⟨q,_⟩
   ·rcases hasx hyo with q|q
    ·exact .inl (keepL q)
    ·exact .inl (q ▸ newL)
   ·exact (hL.op y q hyo hd).imp_left keepL
  ·rcases hT hy with rfl|⟨q,_⟩
   ·exfalso;have hat:=oldat (hL.wt x hx hw).2;have:=OU h.lk e.hk hl (e.ka.trans hat);subst this;have:=((h.lk.l k e.hk).w x.ID hw).2;rw [e.ko] at this; omega
   ·exact hL.wt y q hw
 ·obtain ⟨rk,hrk⟩:=h.ac;obtain ⟨M,hM⟩:∃ M,∀ n∈ids t,rk n<=M:=by
   generalize ids t=l
   induction l with
   | nil=>exact ⟨0,by simp⟩
   | cons a l ih=>
    obtain ⟨M,hM⟩:=ih;refine ⟨max M (rk a),fun n hn=>?_⟩;rcases cK.1 hn with rfl|hn
    ·exact n9 _ _
    ·exact nA (hM n hn) (nW _ _)
  refine ⟨fun n=>if n=x.ID then M+1 else rk n,fun s hs=>?_⟩;have old:∀ s∈t.Stacks,Rk (fun n=>if n=x.ID then M+1 else rk n) s:=fun s hs=>by
   unfold Rk;rw [nj];intro a b ha hb hab;have hlt:=nj.1 (hrk s hs) a b ha hb hab;have hane:s.Layers[a].Txn_≠x.ID:=fun q=>by
    have:=((h.st s hs).up a _ (cn ha) (e.np h hs (nw ha) q)).1;omega
   simp only [hane,if_false];split
   ·have:=hM _ ((h.st s hs).id _ (nw ha)); omega
   ·exact hlt
  simp only [yW,cF,cK] at hs;rcases hs with hs|rfl|hs
  ·exact old s (hAS s hs)
  ·unfold Rk;simp only [hP.new];refine xk.2 ⟨?_,by simp,fun a ha b hb=>?_⟩
   ·rcases hlay with q|q
    ·have:base=[]:=by rw [q] at hP; exact List.sublist_nil.1 hP.sub
     rw [this]; exact .nil
    ·exact (old _ q).sublist hP.sub
   ·simp only [cG] at hb;subst hb;simp only [if_true,(hP.old a ha).2.1,if_false];rcases hlay with q|q
    ·rw [q] at hP; have:=(hP.old a ha).1; cases this
    ·have:=hM _ ((h.st _ q).id a (hP.old a ha).1); omega
  ·exact old s (hBS s hs)
end
def YC {t:ae} (h:TV t) {x:Txn} (hx:x∈t.Txns) (hd:x.Done=x.Calls.length) {j:Nat} {s:aa} (hj:t.Stacks[j]?=some s) {y:al} (hy:s.Layers[s.Layers.length - 1]?=some y) (hn:y.Txn_=x.ID) (hp:y.Prepared=false)
  {k:ai} (hk:k∈t.Locks) (hka:k.Actor=s.Actor) {L:List ai} (hv:VT L) (h1:∀ l'∈L,(l'∈t.Locks/\l'.Actor≠s.Actor)∨(l'.Actor=k.Actor/\l'.Owner∈k.Waiters/\∀ w∈l'.Waiters,w∈k.Waiters)) (h2:∀ l∈t.Locks,l.Actor≠s.Actor->l∈L) :
  TV ⟨t.Txns,L,t.Stacks.set j ⟨s.Actor,s.Layers.set (s.Layers.length - 1) ⟨y.Txn_,y.Fields,true⟩⟩⟩:=by
 have hs:=cg hj;have hS:=h.st s hs;have hym:=cg hy;have hne:∀ {s':aa} {i:Nat},i≠j->t.Stacks[i]?=some s'->s'.Actor≠s.Actor:=fun {s' i} hi q e=>by
  have:=De h.ss hj (cg q) e;obtain ⟨g1,rfl⟩:=cd.1 q;obtain ⟨g2,g3⟩:=cd.1 hj;have hp:=nj.1 h.ss;rcases xy i j with q2|q2|q2
  ·have:=hp i j g1 g2 q2; rw [g3,e,jk] at this; cases this
  ·exact hi q2
  ·have:=hp j i g2 g1 q2; rw [g3,e,jk] at this; cases this
 have hin:∀ {s':aa},s'∈t.Stacks.set j ⟨s.Actor,s.Layers.set (s.Layers.length - 1) ⟨y.Txn_,y.Fields,true⟩⟩->s'=⟨s.Actor,s.Layers.set (s.Layers.length - 1) ⟨y.Txn_,y.Fields,true⟩⟩∨(s'∈t.Stacks/\s'.Actor≠s.Actor):=fun hs'=>by
  rcases Gc hj hs' with q|⟨i,hi,q⟩
  ·exact .inl q
  ·exact .inr ⟨cg q,hne hi q⟩
 have hto:∀ {s':aa},s'∈t.Stacks->s'.Actor≠s.Actor->s'∈t.Stacks.set j ⟨s.Actor,s.Layers.set (s.Layers.length - 1) ⟨y.Txn_,y.Fields,true⟩⟩:=fun {s'} hs' q=>by
  obtain ⟨i,hi⟩:=cH hs';have:j≠i:=fun e=>by rw [<-e,hj] at hi; simp only [cb] at hi; exact q (hi ▸ rfl)
  exact cg (i:=i) (by rw [xC this]; exact hi)
 have hnew:(⟨s.Actor,s.Layers.set (s.Layers.length - 1) ⟨y.Txn_,y.Fields,true⟩⟩:aa)∈t.Stacks.set j ⟨s.Actor,s.Layers.set (s.Layers.length - 1) ⟨y.Txn_,y.Fields,true⟩⟩:=
  cg (i:=j) (by rw [adB (cd.1 hj).1])
 have hlay:∀ {l:al},l∈s.Layers.set (s.Layers.length - 1) ⟨y.Txn_,y.Fields,true⟩->l=⟨y.Txn_,y.Fields,true⟩∨(l∈s.Layers/\l.Prepared=true):=fun {l} hl=>by
  rcases Gc hy hl with q|⟨i,hi,q⟩
  ·exact .inl q
  ·refine .inr ⟨cg q,?_⟩;cases hpp:l.Prepared with
   | true=>rfl
   | false=>have:=(hS.up i l q hpp).1; omega
 have keepL:∀ {a:Ref} {n:Int},DU t a n->DU ⟨t.Txns,L,t.Stacks.set j ⟨s.Actor,s.Layers.set (s.Layers.length - 1) ⟨y.Txn_,y.Fields,true⟩⟩⟩ a n:=fun ⟨s',hs',ha,z,hz,hzn⟩=>by
  by_cases q:s'.Actor=s.Actor
  ·have:=De h.ss hj hs' q;subst this;refine ⟨_,hnew,ha,?_⟩;obtain ⟨i,hi⟩:=cH hz;by_cases e:i=s'.Layers.length - 1
   ·subst e;rw [hi] at hy;simp only [cb] at hy;exact ⟨⟨y.Txn_,y.Fields,true⟩,cg (i:=s'.Layers.length - 1) (by rw [adB (cd.1 hi).1]),by rw [<-hy]; exact hzn⟩
   ·exact ⟨z,cg (i:=i) (by rw [xC (fun q=>e q.symm)]; exact hi),hzn⟩
  ·exact ⟨s',hto hs' q,ha,z,hz,hzn⟩
 refine ⟨⟨h.tx.x,h.tx.so,h.tx.len⟩,hv,?_,fun s' hs'=>?_,fun z hz c hc=>keepL (h.pr z hz c hc),fun l hl=>?_,?_⟩
 ·have:=(n5 (f:=aa.Actor) (R:=fun a b=>rl a b=true)).2 h.ss;have e:(t.Stacks.set j ⟨s.Actor,s.Layers.set (s.Layers.length - 1) ⟨y.Txn_,y.Fields,true⟩⟩).map aa.Actor=t.Stacks.map aa.Actor:=by
   rw [xU]; exact tF (by rw [cu,hj]; rfl)
  rw [<-e] at this;exact n5.1 this
 ·rcases hin hs' with rfl|⟨q,qa⟩
  ·refine ⟨fun e=>hS.ne (by have:=congrArg List.length e; simpa using this),fun l hl=>?_,fun l hl=>?_,fun i l hi hlp=>?_,fun l hl z hz e=>?_⟩
   ·rcases hlay hl with rfl|⟨q,_⟩
    ·exact hS.id y hym
    ·exact hS.id l q
   ·rcases hlay hl with rfl|⟨q,_⟩
    ·exact hS.fi y hym
    ·exact hS.fi l q
   ·exfalso;rcases hlay (cg hi) with rfl|⟨_,q⟩
    ·cases hlp
    ·rw [hlp] at q; cases q
   ·rcases hlay hl with rfl|⟨q,_⟩
    ·obtain ⟨g1,_⟩:=hS.ex y hym z hz e;refine ⟨g1,fun _=>?_⟩;have:z=x:=h.tx.uniq hz hx (e.trans hn);rw [this]; exact hd
    ·exact hS.ex l q z hz e
  ·have hS':=h.st s' q;exact ⟨hS'.ne,hS'.id,hS'.fi,fun i l hi hlp=>by
    obtain ⟨g1,k',g2,g3,g4⟩:=hS'.up i l hi hlp;exact ⟨g1,k',h2 k' g2 (g3 ▸ qa),g3,g4⟩,hS'.ex⟩
 ·rcases h1 l hl with ⟨q,qa⟩|⟨qa,qo,qw⟩
  ·have hL:=h.lp l q;refine ⟨hL.ow,hL.wa,fun z hz e hzd=>?_,fun z hz e hzd=>(hL.op z hz e hzd).imp_left keepL,hL.wt⟩;obtain ⟨s',g1,g2,g3⟩:=hL.dn z hz e hzd;exact ⟨s',hto g1 (g2 ▸ qa),g2,g3⟩
  ·have hL:=h.lp k hk;refine ⟨hL.wa _ qo,fun w hw=>hL.wa w (qw w hw),fun z hz e hzd=>?_,fun z hz e _=>.inr (qa ▸ (hL.wt z hz (e ▸ qo)).2),fun z hz hw=>qa ▸ hL.wt z hz (qw _ hw)⟩;have:=(hL.wt z hz (e ▸ qo)).1; omega
 ·obtain ⟨r,hr⟩:=h.ac;refine ⟨r,fun s' hs'=>?_⟩;rcases hin hs' with rfl|⟨q,_⟩
  ·have:=(n5 (f:=al.Txn_) (R:=fun a b=>r a < r b)).2 (hr s hs);have e:(s.Layers.set (s.Layers.length - 1) ⟨y.Txn_,y.Fields,true⟩).map al.Txn_=s.Layers.map al.Txn_:=by
    rw [xU]; exact tF (by rw [cu,hy]; rfl)
   rw [<-e] at this;exact (n5 (f:=al.Txn_) (R:=fun a b=>r a < r b)).1 this
  ·exact hr s' q
def OJ {w:List Int} (h:w.length≠0):ve w∈w:=cg (Ej h)
def NY {n:Int}:∀ {t:List ai} {y:ai},y∈(j3 n t).1->∃ x∈t,y.Actor=x.Actor/\(∀ w∈y.Waiters,w∈x.Waiters)/\((y.Owner=x.Owner/\x.Owner≠n)∨y.Owner∈x.Waiters)
 | z::t,y,h=>by
  simp only [j3] at h;have ih:∀ {y:ai},y∈(j3 n t).1->∃ x∈z::t,y.Actor=x.Actor/\(∀ w∈y.Waiters,w∈x.Waiters)/\((y.Owner=x.Owner/\x.Owner≠n)∨y.Owner∈x.Waiters):=fun q=>by
   obtain ⟨x,g1,g2⟩:=NY q;exact ⟨x,by simp [g1],g2⟩
  split at h
  ·split at h
   ·exact ih h
   ·rename_i e;rcases cK.1 h with rfl|h
    ·exact ⟨z,by simp,rfl,fun w hw=>nI hw,.inr (OJ e)⟩
    ·exact ih h
  ·rename_i e;rcases cK.1 h with rfl|h
   ·exact ⟨y,by simp,rfl,fun w hw=>hw,.inl ⟨rfl,e⟩⟩
   ·exact ih h
def J4 {n:Int}:∀ {t:List ai} {x:ai},x∈t->x.Owner≠n->x∈(j3 n t).1
 | z::t,x,h,hn=>by
  simp only [j3];rcases cK.1 h with rfl|h
  ·rw [if_neg hn]; simp
  ·split
   ·split
    ·exact J4 h hn
    ·exact aeb _ (J4 h hn)
   ·exact aeb _ (J4 h hn)
def Ey (D:List Int) (t:List ai):List ai:=D.foldl (fun l n=>l.map (wd1 n)) t
def BF (D:List Int) (t:List ai):List ai:=D.foldl (fun l n=>(j3 n l).1) t
def Ld:∀ {D:List Int} {t:List ai},VT t->VT (Ey D t)
 | [],t,h=>h
 | n::D,t,h=>by unfold Ey; rw [xK]; exact Ld (D:=D) (X9 h n)
def Oz:∀ {D:List Int} {t:List ai},VT t->VT (BF D t)
 | [],t,h=>h
 | n::D,t,h=>by unfold BF; rw [xK]; exact Oz (D:=D) (Tt h n)
def Lz:∀ {D:List Int} {t:List ai} {y:ai},y∈Ey D t->∃ x∈t,y.Actor=x.Actor/\y.Owner=x.Owner/\∀ w∈y.Waiters,w∈x.Waiters/\w∉D
 | [],t,y,h=>⟨y,h,rfl,rfl,fun w hw=>⟨hw,by simp⟩⟩
 | n::D,t,y,h=>by
  unfold Ey at h;rw [xK] at h;obtain ⟨x,g1,g2,g3,g4⟩:=Lz (D:=D) h;obtain ⟨z,q1,rfl⟩:=cJ.1 g1;refine ⟨z,q1,g2,g3,fun w hw=>?_⟩;obtain ⟨q2,q3⟩:=g4 w hw;obtain ⟨q4,q5⟩:=nR.1 q2;exact ⟨q4,by simp only [neB,nC,decide_eq_false_iff_not] at q5; simp [q3,q5]⟩
def Qn:∀ {D:List Int} {t:List ai} {x:ai},x∈t->∃ y∈Ey D t,y.Actor=x.Actor/\y.Owner=x.Owner
 | [],t,x,h=>⟨x,h,rfl,rfl⟩
 | n::D,t,x,h=>by
  unfold Ey;rw [xK];obtain ⟨y,g1,g2,g3⟩:=Qn (D:=D) (cJ.2 ⟨x,h,rfl⟩:wd1 n x∈t.map (wd1 n));exact ⟨y,g1,g2,g3⟩
def O3 {X:List Int}:∀ {D:List Int} {t:List ai} {y:ai},(∀ x∈t,∀ w∈x.Waiters,w∉X)->(∀ n∈D,n∈X)->y∈BF D t->∃ x∈t,y.Actor=x.Actor/\(∀ w∈y.Waiters,w∈x.Waiters)/\((y.Owner=x.Owner/\x.Owner∉D)∨y.Owner∈x.Waiters)
 | [],t,y,_,_,h=>⟨y,h,rfl,fun w hw=>hw,.inl ⟨rfl,by simp⟩⟩
 | n::D,t,y,hw,hD,h=>by
  unfold BF at h;rw [xK] at h;obtain ⟨x,g1,g2,g3,g4⟩:=O3 (D:=D) (fun x hx w hw'=>by
   obtain ⟨z,q1,_,q3,_⟩:=NY hx;exact hw z q1 w (q3 w hw')) (fun m hm=>hD m (by simp [hm])) h
  obtain ⟨z,q1,q2,q3,q4⟩:=NY g1;refine ⟨z,q1,g2.trans q2,fun w hw'=>q3 w (g3 w hw'),?_⟩;rcases g4 with ⟨g4,g5⟩|g4
  ·rcases q4 with ⟨q4,q5⟩|q4
   ·exact .inl ⟨g4.trans q4,by rw [<-q4]; simp [g5]; rw [q4]; exact q5⟩
   ·exact .inr (g4 ▸ q4)
  ·exact .inr (q3 _ g4)
def O1:∀ {D:List Int} {t:List ai} {x:ai},x∈t->x.Owner∉D->x∈BF D t
 | [],t,x,h,_=>h
 | n::D,t,x,h,hn=>by
  unfold BF;rw [xK];simp only [cK,not_or] at hn;exact O1 (D:=D) (J4 h hn.1) hn.2
def abL (D:List Int) (t:List ai):List ai:=BF D (Ey D t)
def Zu {t:ae} (h:TV t) (D:List Int):Lks t D (abL D t.Locks):=by
 refine ⟨Oz (Ld h.lk),fun l' hl'=>?_,fun l hl hn=>?_⟩
 ·obtain ⟨x,g1,g2,g3,g4⟩:=O3 (X:=D) (fun x hx w hw=>by
   obtain ⟨z,_,_,_,q⟩:=Lz hx;exact (q w hw).2) (fun n hn=>hn) hl'
  obtain ⟨z,q1,q2,q3,q4⟩:=Lz g1;refine ⟨z,q1,g2.trans q2,?_,fun w hw=>(q4 w (g3 w hw)).1,?_,fun w hw=>(q4 w (g3 w hw)).2⟩
  ·rcases g4 with ⟨g4,_⟩|g4
   ·exact .inl (g4.trans q3)
   ·exact .inr (q4 _ g4).1
  ·rcases g4 with ⟨g4,g5⟩|g4
   ·rw [g4]; exact g5
   ·exact (q4 _ g4).2
 ·obtain ⟨y,g1,g2,g3⟩:=Qn (D:=D) hl;exact ⟨y,O1 g1 (g3 ▸ hn),g2,g3⟩
def lpR (a b:Ref):Prop:=rl a b=true
def leR (a b:Ref):Prop:=¬ lpR b a
instance (a b:Ref):Decidable (lpR a b):=by unfold lpR; infer_instance
def GQ {a b:Ref}:(sEq a.Type_ b.Type_ && sEq a.Key b.Key)=true↔a=b:=Ge
def RP (a:Ref):leR a a:=by unfold leR lpR; rw [jk]; simp
def Nl {y p c:Ref} (h1:leR y p) (h2:leR p c) (h3:¬ c=p):lpR y c:=by
 unfold leR lpR at *;have q:rl p c=true:=by
  rcases I5 p c with q|q|q
  ·exact q
  ·exact absurd q.symm h3
  ·exact absurd q h2
 rcases I5 y p with g|g|g
 ·exact yZ g q
 ·rw [g]; exact q
 ·exact absurd g h1
def aab (N:Nat) {l:List Ref} (hl:l.length<=100000):∃ o,Eu (fun x y=>gF N x y) l=some o/\o.Perm l/\o.Pairwise leR:=by
 have hlt:∀ x y,Go.Proofs.ltOf (fun x y=>(gF N x y).getD 0) x y=rl x y:=by
  intro x y;rw [xY];simp only [Go.Proofs.ltOf,y6,nk,decide_eq_true_eq,AY]
 obtain ⟨o,ho⟩:=Xy (c:=fun x y=>gF N x y) (l:=l) (fun x y=>⟨_,y6 N x y⟩) ⟨fun x=>by rw [hlt]; exact jk x,fun x y z h1 h2=>by rw [hlt] at h1 h2 ⊢; exact yZ h1 h2,fun x y z h1 h2=>by
  rw [hlt] at h1 h2 ⊢;cases q:rl x z with
  | false=>rfl
  | true=>
   rcases I5 y x with g|g|g
   ·have:=yZ g q; rw [h2] at this; cases this
   ·rw [g,q] at h2; cases h2
   ·rw [h1] at g; cases g⟩ (by omega)
 obtain ⟨hp,hs⟩:=KA ho;refine ⟨o,ho,hp,hs.imp (fun {a b} q=>?_)⟩;rw [y6,nk,AY] at q;exact q
structure PG (a l:List Ref) (k j:Nat):Prop where
 len:l.length=a.length
 kj:k<=j
 jl:j<=a.length
 j1:1<=j
 so:(l.take k).Pairwise lpR
 mem:∀ z,z∈l.take k↔z∈a.take j
 rest:∀ i,j<=i+1->l[i]?=a[i]?
 kj':k<=j
theorem E0 (a:List Ref) (hs:a.Pairwise leR) (ha:a.length<=100000) (v3:Nat) (h1:1<=v3) (kx:List Ref->Int->Option (List Ref)) :
  ∀ (n:Nat) (l:List Ref) (k m:Nat),a.length < v3+m+n->1<=m->PG a l k (v3+m)->k < v3+m->∃ l' k',PG a l' k' a.length/\fQ a v3 kx n (l,(k:Int),(m:Int))=kx l' ((k':Nat):Int)
 | 0,l,k,m,hn,hm,h,hk=>by have:=h.jl; omega
 | n+1,l,k,m,hn,hm,h,hk=>by
  have hl:=h.len; have hj:=h.jl;rw [fQ];by_cases hlt:v3+m < a.length
  ·rw [if_pos (by omega)];have e1:l[v3+m]?=a[v3+m]?:=h.rest _ (by omega);have e2:l[v3+(m - 1)]?=a[v3+(m - 1)]?:=h.rest _ (by omega);have g1:((l.drop v3).take (a.length - v3))[m]?=some a[v3+m]:=by
    rw [xl (by omega),cZ,e1,cn hlt]
   have g2:((l.drop v3).take (a.length - v3))[m - 1]?=some (a[v3+(m - 1)]'(by omega)):=by
    rw [xl (by omega),cZ,e2,cn (by omega)]
   rw [aO g1,w64 (by omega) (by omega),show ((m:Int) - 1)=((m - 1:Nat):Int) by omega,aO g2,w64 (n:=(m:Int)+1) (by omega) (by omega),show ((m:Int)+1)=((m+1:Nat):Int) by omega];have htk:∀ z,z∈a.take (v3+m+1)↔z∈a.take (v3+m)∨z=a[v3+m]:=by
    intro z;rw [xB,cn hlt,cF,xP,cG]
   have hprev:(a[v3+(m - 1)]'(by omega))∈a.take (v3+m):=by
    refine cg (i:=v3+(m - 1)) ?_;rw [xl (by omega),cn (by omega)]
   by_cases e:a[v3+m]=(a[v3+(m - 1)]'(by omega))
   ·rw [if_pos (GQ.2 e)];refine E0 a hs ha v3 h1 kx n l k (m+1) (by omega) (by omega) ⟨hl,by have:=h.kj; omega,by omega,by omega,h.so,fun z=>?_,fun i hi=>h.rest i (by omega),by omega⟩ (by omega);rw [h.mem,<-nf,htk];constructor
    ·exact .inl
    ·rintro (q|q)
     ·exact q
     ·rw [q,e]; exact hprev
   ·rw [if_neg (fun q=>e (GQ.1 q))];have hkl:k < l.length:=by omega
    rw [aO (cn hkl),w64 (n:=(k:Int)+1) (by omega) (by omega),show ((k:Int)+1)=((k+1:Nat):Int) by omega,cL];refine E0 a hs ha v3 h1 kx n (l.set k a[v3+m]) (k+1) (m+1) (by omega) (by omega) ⟨by simp [hl],by omega,by omega,by omega,?_,fun z=>?_,fun i hi=>?_,by omega⟩ (by omega)
    ·rw [yE hkl,xk];refine ⟨h.so,by simp,fun y hy z hz=>?_⟩;obtain rfl:=cG.1 hz;have hy':=(h.mem y).1 hy;obtain ⟨i,hi⟩:=nZ.1 hy';have hil:=(cd.1 hi).1;simp only [nD] at hil;rw [xl (by omega),cn (by omega),cb] at hi;have hp1:leR (a[v3+(m - 1)]'(by omega)) a[v3+m]:=nj.1 hs _ _ (by omega) hlt (by omega);rcases nS i (v3+(m - 1)) with q|q
     ·have h1:=nj.1 hs i (v3+(m - 1)) (by omega) (by omega) q;rw [hi] at h1;exact Nl h1 hp1 e
     ·have:i=v3+(m - 1):=by omega
      subst this;rw [hi] at hp1 e;exact Nl (RP _) hp1 e
    ·rw [yE hkl,cF,cG,h.mem,<-nf,htk]
    ·rw [xC (by omega)]; exact h.rest i (by omega)
  ·rw [if_neg (by omega)];have:v3+m=a.length:=by omega
   rw [this] at h;exact ⟨l,k,h,rfl⟩
def Ss {a l:List Ref} {k:Nat} (h:PG a l k a.length):jX l (k:Int)=some (l.take k):=by
 have h1:=h.len; have h2:=h.kj;unfold jX slx;rw [cL,if_pos ⟨by omega,by omega,by omega,by omega⟩];dsimp only;rw [if_pos ⟨by omega,by omega,by omega,by rw [N6 (by omega)]; omega⟩];try dsimp only
 rw [LS (by omega)]
def KM (N:Nat) (a:List Ref) (hs:a.Pairwise leR) (ha:a.length<=100000) (hN:100002<=N):∀ (m v:Nat),v+m=a.length->1<=v->(a.take v).Pairwise lpR->∃ r,ic a N m v ()=some r/\r.Pairwise lpR/\∀ z,z∈r↔z∈a
 | 0,v,hv,h1,hp=>⟨a,rfl,by rwa [ni (by omega)] at hp,fun z=>xW⟩
 | m+1,v,hv,h1,hp=>by
  have hvl:v < a.length:=by omega
  have g1:a[v]?=some a[v]:=cn hvl;have g2:a[v - 1]?=some (a[v - 1]'(by omega)):=cn (by omega);have hprev:(a[v - 1]'(by omega))∈a.take v:=by
   refine cg (i:=v - 1) ?_;rw [xl (by omega),g2]
  have htk:∀ z,z∈a.take (v+1)↔z∈a.take v∨z=a[v]:=by
   intro z;rw [xB,g1,cF,xP,cG]
  rw [ic,aO g1,w64 (by omega) (by omega),show ((v:Int) - 1)=((v - 1:Nat):Int) by omega,aO g2];by_cases e:a[v]=(a[v - 1]'(by omega))
  ·rw [if_pos (GQ.2 e)];unfold slx;rw [if_pos ⟨by omega,by omega,by omega,by omega⟩];dsimp only;have hc:PG a a v (v+1):=⟨rfl,by omega,by omega,by omega,hp,fun z=>by
    rw [htk];constructor
    ·exact .inl
    ·rintro (q|q)
     ·exact q
     ·rw [q,e]; exact hprev,fun i _=>rfl,by omega⟩
   obtain ⟨l',k',h',e'⟩:=E0 a hs ha v h1 jX N a v 1 (by omega) (by omega) hc (by omega);rw [show (1:Int)=((1:Nat):Int) from rfl,e',Ss h'];exact ⟨_,rfl,h'.so,fun z=>by rw [h'.mem,ni (cw _)]⟩
  ·rw [if_neg (fun q=>e (GQ.1 q))];refine KM N a hs ha hN m (v+1) (by omega) (by omega) ?_;rw [xB,g1,xP,xk];refine ⟨hp,by simp,fun y hy z hz=>?_⟩;obtain rfl:=cG.1 hz;obtain ⟨i,hi⟩:=nZ.1 hy;have hil:=(cd.1 hi).1;simp only [nD] at hil;rw [xl (by omega),cn (by omega),cb] at hi;have hp1:leR (a[v - 1]'(by omega)) a[v]:=nj.1 hs _ _ (by omega) hvl (by omega);rcases nS i (v - 1) with q|q
   ·have h1:=nj.1 hs i (v - 1) (by omega) (by omega) q;rw [hi] at h1;exact Nl h1 hp1 e
   ·have:i=v - 1:=by omega
    subst this;rw [hi] at hp1 e;exact Nl (RP _) hp1 e
def SH (N:Nat) (hN:100002<=N) (a:List Ref) (hs:a.Pairwise leR) (ha:a.length<=100000):∃ r,jM N a=some r/\r.Pairwise lpR/\∀ z,z∈r↔z∈a:=by
 unfold jM;by_cases h:((a.length:Nat):Int) < 2
 ·rw [if_pos h];refine ⟨a,rfl,?_,fun z=>xW⟩
  match a,h with
  | [],_=>exact List.Pairwise.nil
  | [x],_=>simp
  | _::_::_,h=>simp at h; omega
 ·rw [if_neg h];refine KM N a hs ha hN (a.length - 1) 1 (by omega) (by omega) ?_
  match a,h with
  | x::xs,_=>simp
def zJ (N:Nat) (hN:100002<=N) {x:Txn} (h1:1<=x.Calls.length) (h2:x.Calls.length<=4):∃ r,im N x=some r/\r.Pairwise lpR/\∀ a,a∈r↔∃ c∈x.Calls,c.Target=a:=by
 have loop:∀ (xs:List ah) (v:Nat) (acc:List Ref),acc.length+xs.length<=1000->gP (kY N) xs v acc=kY N (acc++xs.map ah.Target):=by
  intro xs
  induction xs with
  | nil=>intro v acc _; rw [gP]; simp
  | cons c xs ih=>
   intro v acc hl;simp only [cC] at hl;rw [gP,mU (by simp; omega),ih (v+1) (acc++[c.Target]) (by simp; omega)];simp
 rw [im,loop x.Calls 0 [] (by simp; omega),cO,kY];obtain ⟨o,e1,e2,e3⟩:=aab N (l:=x.Calls.map ah.Target) (by simp; omega);have hne:(x.Calls.map ah.Target).isEmpty=false:=by cases hc:x.Calls with
  | nil=>rw [hc] at h1; simp at h1
  | cons=>rfl
 have hol:=e2.length_eq;simp only [cy] at hol;rw [bX,if_neg (by rw [hne]; simp),e1,cc];obtain ⟨r,g1,g2,g3⟩:=SH N hN o e3 (by omega);rw [g1];exact ⟨r,rfl,g2,fun a=>by rw [g3,e2.mem_iff]; simp⟩
def wj (S:List Int):List al->Bool->Option Int
 | [],_=>none
 | y::l,c=>if c=true/\y.Txn_∉S then some y.Txn_ else wj S l (c || decide (y.Txn_∈S))
def CL (S:List Int):List aa->Option Int
 | []=>none
 | s::l=>match wj S s.Layers false with
  | some n=>some n
  | none=>CL S l
def Jt (t:ae) (X:List Int):Prop:=∀ s∈t.Stacks,∀ (i j:Nat) y z,i < j->s.Layers[i]?=some y->s.Layers[j]?=some z->y.Txn_∈X->z.Txn_∈X
def Ns {S:List Int}:∀ {l:List al} {c:Bool} {n:Int},wj S l c=some n->n∉S/\∃ (j:Nat) (z:al),l[j]?=some z/\z.Txn_=n/\(c=true∨∃ (i:Nat) (y:al),i < j/\l[i]?=some y/\y.Txn_∈S)
 | y::l,c,n,h=>by
  rw [wj] at h;split at h
  ·rename_i q;simp only [cb] at h;exact ⟨h ▸ q.2,0,y,rfl,h,.inl q.1⟩
  ·obtain ⟨h1,j,z,h2,h3,h4⟩:=Ns h;refine ⟨h1,j+1,z,by simpa using h2,h3,?_⟩;rcases h4 with h4|⟨i,u,q1,q2,q3⟩
   ·rw [nx,decide_eq_true_eq] at h4;rcases h4 with h4|h4
    ·exact .inl h4
    ·exact .inr ⟨0,y,by omega,rfl,h4⟩
   ·exact .inr ⟨i+1,u,by omega,by simpa using q2,q3⟩
def L8 {S:List Int}:∀ {l:List al} {c:Bool},wj S l c=none->∀ (j:Nat) (z:al),l[j]?=some z->(c=true∨∃ (i:Nat) (y:al),i < j/\l[i]?=some y/\y.Txn_∈S)->z.Txn_∈S
 | y::l,c,h,j,z,hj,hc=>by
  rw [wj] at h;split at h
  ·cases h
  ·rename_i q;cases j with
   | zero=>
    simp only [cr,cb] at hj;subst hj;rcases hc with hc|⟨i,_,hi,_⟩
    ·by_cases g:y.Txn_∈S
     ·exact g
     ·exact absurd ⟨hc,g⟩ q
    ·omega
   | succ j=>
    rw [nn] at hj;refine L8 h j z hj ?_;rcases hc with hc|⟨i,u,hi,hu,hm⟩
    ·exact .inl (by simp [hc])
    ·cases i with
     | zero=>
      simp only [cr,cb] at hu;subst hu;exact .inl (by simp [hm])
     | succ i=>
      rw [nn] at hu;exact .inr ⟨i,u,by omega,hu,hm⟩
def M0 {S:List Int}:∀ {l:List aa} {n:Int},CL S l=some n->∃ s∈l,wj S s.Layers false=some n
 | s::l,n,h=>by
  rw [CL] at h;split at h
  ·rename_i m q;exact ⟨s,by simp,q.trans h⟩
  ·obtain ⟨s',g1,g2⟩:=M0 h;exact ⟨s',by simp [g1],g2⟩
def MG {S:List Int}:∀ {l:List aa},CL S l=none->∀ s∈l,wj S s.Layers false=none
 | s::l,h,s',hs=>by
  rw [CL] at h;split at h
  ·cases h
  ·rename_i q;rcases cK.1 hs with rfl|hs
   ·exact q
   ·exact MG h s' hs
def VB (N:Nat) (rec5:Unit->Option (List Int)) (S:List Int) (hS:S.length<=1000) (rec2:List Int->Option (List Int)):∀ (l:List al) (v:Nat) (c:Bool),fK rec5 N S rec2 l v c=match wj S l c with
  | some n=>rec2 (S++[n])
  | none=>rec5 ()
 | [],v,c=>by rw [fK,wj]
 | y::l,v,c=>by
  have ih:=VB N rec5 S hS rec2 l (v+1);have e:∀ c,mT (fK rec5 N S rec2 l (v+1)) N S y c=match wj S l (c || decide (y.Txn_∈S)) with
   | some n=>rec2 (S++[n])
   | none=>rec5 ():=fun c=>by
   rw [mT,uN,cc,ih,ih];cases c<;>simp
  rw [fK,wj];cases c with
  | true=>
   rw [if_pos rfl,uN,cc,mS,mU (by simp; omega)];by_cases q:y.Txn_∈S
   ·simp only [q,not_true_eq_false,and_false,if_false,decide_true,ny,cR];rw [e]; simp [q]
   ·simp [q]
  | false=>
   rw [if_neg (by simp),mS,if_neg (by simp),if_neg (by simp)];exact e false
theorem VI (N:Nat) (k:Option (List Int)) (S:List Int) (hS:S.length<=1000) (rec2:List Int->Option (List Int)):∀ (l:List aa) (v:Nat),iZ k N S rec2 l v ()=match CL S l with
  | some n=>rec2 (S++[n])
  | none=>k
 | [],v=>by rw [iZ,CL]
 | s::l,v=>by
  rw [iZ,VB N _ S hS,VI N k S hS rec2 l (v+1),CL];cases wj S s.Layers false<;>rfl
structure Dep (t:ae) (id:Int) (D:List Int):Prop where
 nd:D.Nodup
 me:id∈D
 sub:∀ n∈D,n∈ids t
 min:∀ X:List Int,id∈X->Jt t X->∀ n∈D,n∈X
def Yh (N:Nat) {l:List Int} (h:l≠[]) (hl:l.length<=1000):∃ r,slices_Sort_int N l=some r/\r.Perm l/\r.Pairwise (·<=·):=by
 cases l with
 | nil=>exact absurd rfl h
 | cons x xs=>
  have hs:EL (x::xs)=some ((x::xs).mergeSort fun x y=>decide (x<=y)):=by unfold EL; rw [if_pos (by omega)]
  exact ⟨_,by simp only [slices_Sort_int,List.isEmpty_cons,cR,if_false]; exact hs,KT hs⟩
def HI (N:Nat) {t:ae} (h:TV t) {id:Int}:∀ (k:Nat) (S:List Int),33 < k+S.length->Dep t id S->∃ D,kA N t k S=some D/\Dep t id D/\Jt t D/\D.Pairwise (· < ·)
 | 0,S,hk,hS=>by
  have:=jg hS.nd hS.sub;have:=h.tx.len;simp [ids] at *; omega
 | k+1,S,hk,hS=>by
  have hlen:S.length<=32:=by
   have:=jg hS.nd hS.sub;have:=h.tx.len;simp [ids] at *; omega
  rw [kA,VI N _ S (by omega)];cases hg:CL S t.Stacks with
  | some n=>
   obtain ⟨s,hs,hl⟩:=M0 hg;obtain ⟨h1,j,z,h2,h3,h4⟩:=Ns hl;refine HI N h k (S++[n]) (by simp; omega) ⟨adb.2 ⟨hS.nd,by simp,fun a ha b hb=>by simp only [cG] at hb; rw [hb]; exact fun e=>h1 (e ▸ ha)⟩,by simp [hS.me],fun m hm=>?_,fun X hX hc m hm=>?_⟩
   ·rcases cF.1 hm with hm|hm
    ·exact hS.sub m hm
    ·simp only [cG] at hm; rw [hm,<-h3]; exact (h.st s hs).id z (cg h2)
   ·rcases cF.1 hm with hm|hm
    ·exact hS.min X hX hc m hm
    ·simp only [cG] at hm;rcases h4 with h4|⟨i,y,g1,g2,g3⟩
     ·cases h4
     ·rw [hm,<-h3];exact hc s hs i j y z g1 g2 h2 (hS.min X hX hc _ g3)
  | none=>
   obtain ⟨r,e1,e2,e3⟩:=Yh N (l:=S) (aeM hS.me) (by omega);simp only [wT,e1,cc];have hnd:r.Nodup:=e2.nodup_iff.2 hS.nd;refine ⟨r,rfl,⟨hnd,e2.mem_iff.2 hS.me,fun n hn=>hS.sub n (e2.mem_iff.1 hn),fun X hX hc n hn=>hS.min X hX hc n (e2.mem_iff.1 hn)⟩,fun s hs i j y z hij hi hj hy=>?_,?_⟩
   ·rw [e2.mem_iff] at hy ⊢;exact L8 (MG hg s hs) j z hj (.inr ⟨i,y,hij,hi,hy⟩)
   ·have:=(List.pairwise_and_iff.2 ⟨e3,hnd⟩:r.Pairwise fun a b=>a<=b/\a≠b);exact this.imp fun q=>by omega
def Pv (N:Nat) (hN:100<=N) {t:ae} (h:TV t) {id:Int} (hid:id∈ids t):∃ D,oN N t id=some D/\Dep t id D/\Jt t D/\D.Pairwise (· < ·):=by
 rw [oN];exact HI N h N [id] (by simp; omega) ⟨by simp,by simp,fun n hn=>by simp only [cG] at hn; rw [hn]; exact hid,fun X hX _ n hn=>by simp only [cG] at hn; rw [hn]; exact hX⟩
def abT (t:ae) (D:List Int):ae:=⟨t.Txns.filter fun x=>kT D x.ID,abL D t.Locks,Gp D t.Stacks⟩
theorem QY (N:Nat) (hN:1001<=N) (k:List ai->Option (ae × List Int × Int)):∀ (D:List Int) (v:Nat) {L:List ai},VT L->px k N D v L=k (Ey D L)
 | [],v,L,_=>by rw [px]; rfl
 | n::D,v,L,h=>by rw [px,aau N hN h,cc,QY N hN k D (v+1) (X9 h n)]; rfl
theorem Q3 (N:Nat) (hN:200<=N) (r:ae) (D0:List Int):∀ (D:List Int) (v:Nat) {L:List ai},VT L->o5 r D0 N D v L=some (⟨r.Txns,BF D L,r.Stacks⟩,D0,0)
 | [],v,L,_=>by rw [o5]; rfl
 | n::D,v,L,h=>by rw [o5,VK N hN h,cc,Q3 N hN r D0 D (v+1) (Tt h n)]; rfl
theorem GW (N:Nat) (hN:1001<=N) {t:ae} (h:TV t) {id:Int} (hid:id∈ids t):∃ D,jD N t id=some (abT t D,D,0)/\TV (abT t D)/\Dep t id D/\Jt t D/\D.Pairwise (· < ·):=by
 obtain ⟨D,h1,h2,h3,h4⟩:=Pv N (by omega) h hid;obtain ⟨i,x,e,_⟩:=tX (N:=N) hid;refine ⟨D,?_,Wh h (Zu h D),h2,h3,h4⟩;rw [jD,o9 N (by omega) h,cc,if_pos rfl,e,cc,if_neg (by omega),h1,cc,Ox N hN h,cc,QY N hN _ D 0 (by exact h.lk),Dn,Q3 N (by omega) _ D D 0 (Ld (by exact h.lk))];rfl
def Q4 (N:Nat) (hN:1001<=N) {t:ae} (h:TV t) {id:Int} (hid:id∉ids t):jD N t id=some (⟨[],[],[]⟩,[],6):=by
 rcases Br N t id with ⟨_,e⟩|⟨i,x,_,hx,rfl⟩
 ·rw [jD,o9 N (by omega) h,cc,if_pos rfl,e,cc,if_pos (by omega)]
 ·exact absurd (C8 hx) hid
def K1 {c:ah} (h:qY c=true):VA c.Target:=by
 simp only [qY,TE,cv,decide_eq_true_eq] at h;exact ⟨h.1.1.1.1.1,h.1.1.1.1.2,h.1.1.1.2⟩
def emp:ae:=⟨[],[],[]⟩
structure Nx (t:ae) (i:Nat) (x:Txn) (c:ah):Prop where
 hi:t.Txns[i]?=some x
 dn:x.Done < x.Calls.length
 hc:x.Calls[x.Done.toNat]?=some c
def MU (N:Nat) {t:ae} (h:TV t) (n:Int):(∃ i x c,Nx t i x c/\x.ID=n/\o8 N t n=some (c,true))∨((∃ c,o8 N t n=some (c,false))/\∀ x∈t.Txns,x.ID=n->x.Done=x.Calls.length):=by
 rcases Br N t n with ⟨h1,e⟩|⟨i,x,e,hi,hid⟩
 ·refine .inr ⟨⟨_,by rw [o8,e,cc,if_pos (by omega),rr,if_pos rfl]⟩,fun x hx q=>absurd (cJ.2 ⟨x,hx,q⟩) h1⟩
 ·have hx:=(h.tx.x x (cg hi)).1;obtain ⟨m,e1,e2,e3⟩:=Ls hx;by_cases q:x.Done < x.Calls.length
  ·have hm:m < x.Calls.length:=by omega
   have hc:x.Calls[m]?=some x.Calls[m]:=cn hm;refine .inl ⟨i,x,x.Calls[m],⟨hi,q,by rw [e2]; exact hc⟩,hid,?_⟩;rw [o8,e,cc,if_neg (by omega),aO hi,if_neg (by omega),rr,if_neg (by simp; omega),w7,aO hi,e1,aO hc,Jc (Q5 (hx.ca _ (nw hm)))];rfl
  ·refine .inr ⟨⟨_,by rw [o8,e,cc,if_neg (by omega),aO hi,if_neg (by omega),rr,if_pos (by simp; omega)]⟩,fun y hy q2=>?_⟩;have:=h.tx.uniq hy (cg hi) (q2.trans hid.symm);rw [this]; have:=hx.d2; omega
def Fe (N:Nat) (hN:200<=N) {t:ae} (h:TV t) {id born seq:Int} {client:ByteArray} {calls:List ah} (hx:XV ⟨id,born,client,seq,calls,0,⟨0,0,⟨#[]⟩,[],[]⟩⟩/\zK ⟨id,born,client,seq,calls,0,⟨0,0,⟨#[]⟩,[],[]⟩⟩) :
  (∃ e,e≠0/\(t.Txns.length=32∨∃ y∈t.Txns,id<=y.ID)/\jT N t id born client seq calls=some (emp,e))∨(jT N t id born client seq calls=some (⟨t.Txns++[⟨id,born,client,seq,calls,0,⟨0,0,⟨#[]⟩,[],[]⟩⟩],t.Locks,t.Stacks⟩,0)/\TV ⟨t.Txns++[⟨id,born,client,seq,calls,0,⟨0,0,⟨#[]⟩,[],[]⟩⟩],t.Locks,t.Stacks⟩):=by
 have hl:=h.tx.len;have e1:=(KR N ⟨id,born,client,seq,calls,0,⟨0,0,⟨#[]⟩,[],[]⟩⟩).is hx;have hJ3:o7 N t id born client seq calls=some (⟨t.Txns++[⟨id,born,client,seq,calls,0,⟨0,0,⟨#[]⟩,[],[]⟩⟩],t.Locks,t.Stacks⟩,0):=by
  rw [o7,zf h,cc,Fo hx.1.bd,cc,mU (by simp; omega)]
 rw [jT,o9 N hN h,cc,if_pos rfl,e1,cc,z7,if_neg (by simp)];have fin:(∀ y∈t.Txns,y.ID < id)->(∃ e,e≠0/\(t.Txns.length=32∨∃ y∈t.Txns,id<=y.ID)/\pn t (o7 N t id born client seq calls) false=some (emp,e))∨(pn t (o7 N t id born client seq calls) false=some (⟨t.Txns++[⟨id,born,client,seq,calls,0,⟨0,0,⟨#[]⟩,[],[]⟩⟩],t.Locks,t.Stacks⟩,0)/\TV ⟨t.Txns++[⟨id,born,client,seq,calls,0,⟨0,0,⟨#[]⟩,[],[]⟩⟩],t.Locks,t.Stacks⟩):=fun hlt=>by
  rw [pn,if_neg (by simp)];by_cases q:t.Txns.length=32
  ·rw [if_pos (by omega)]; exact .inl ⟨5,by simp,.inl q,rfl⟩
  ·rw [if_neg (by omega),hJ3]; exact .inr ⟨rfl,XG h hx rfl hlt (by omega)⟩
 by_cases h0:0 < t.Txns.length
 ·have hg:t.Txns[t.Txns.length - 1]?=some (t.Txns[t.Txns.length - 1]'(by omega)):=cn (by omega);rw [if_pos (by omega),w64 (by omega) (by omega),show ((t.Txns.length:Int) - 1)=((t.Txns.length - 1:Nat):Int) by omega,aO hg];by_cases q:id<=(t.Txns[t.Txns.length - 1]'(by omega)).ID
  ·rw [pn,if_pos (by simp [q])]; exact .inl ⟨8,by simp,.inr ⟨_,nw _,q⟩,rfl⟩
  ·rw [show decide (id<=(t.Txns[t.Txns.length - 1]'(by omega)).ID)=false by simp [q]];refine fin fun y hy=>?_;obtain ⟨j,hj,rfl⟩:=ad9.1 hy;rcases nS j (t.Txns.length - 1) with q2|q2
   ·have:=nj.1 h.tx.so j (t.Txns.length - 1) hj (by omega) q2; omega
   ·have:j=t.Txns.length - 1:=by omega
    subst this; omega
 ·rw [if_neg (by omega)];refine fin fun y hy=>?_;have:=aeN hy; omega
inductive Acq (t:List ai) (a:Ref) (n:Int):List ai × Int × Int->Prop where
 | own {k:ai} (hk:k∈t) (ha:k.Actor=a) (ho:k.Owner=n):Acq t a n (t,1,0)
 | die {k:ai} (hk:k∈t) (ha:k.Actor=a) (ho:k.Owner < n):Acq t a n (t,3,0)
 | old {k:ai} (hk:k∈t) (ha:k.Actor=a) (ho:n < k.Owner) (hw:n∈k.Waiters):Acq t a n (t,2,0)
 | full {k:ai} (hk:k∈t) (ha:k.Actor=a) (ho:n < k.Owner) (hw:n∉k.Waiters) (hl:k.Waiters.length=32):Acq t a n ([],0,5)
 | wait {i:Nat} {k:ai} (hi:t[i]?=some k) (ha:k.Actor=a) (ho:n < k.Owner) (hw:n∉k.Waiters):Acq t a n (t.set i ⟨k.Actor,k.Owner,E5 k.Waiters n⟩,2,0)
 | many (hn:∀ k∈t,k.Actor≠a) (hl:t.length=128):Acq t a n ([],0,5)
 | new (hn:∀ k∈t,k.Actor≠a):Acq t a n (t.take (pa t a)++[⟨a,n,[]⟩]++t.drop (pa t a),1,0)
def VM {t:List ai} (h:VT t) (a:Ref) (n:Int):Acq t a n (acq t a n):=by
 unfold acq;by_cases hh:vR t a=true
 ·obtain ⟨k,hk,ha⟩:=zh hh;have hm:=cg hk;rw [if_pos hh,hk];simp only;by_cases e1:k.Owner=n
  ·rw [if_pos e1]; exact .own hm ha e1
  ·rw [if_neg e1];by_cases e2:k.Owner < n
   ·rw [if_pos e2]; exact .die hm ha e2
   ·rw [if_neg e2];by_cases e3:n∈k.Waiters
    ·rw [if_pos e3]; exact .old hm ha (by omega) e3
    ·rw [if_neg e3];by_cases e4:k.Waiters.length=32
     ·rw [if_pos e4]; exact .full hm ha (by omega) e3 e4
     ·rw [if_neg e4]; exact .wait hk ha (by omega) e3
 ·have hn:∀ k∈t,k.Actor≠a:=fun k hk e=>hh (e ▸ (AM h hk).2);rw [if_neg hh];by_cases e:t.length=128
  ·rw [if_pos e]; exact .many hn e
  ·rw [if_neg e]; exact .new hn
def VF {t:ae} (h:TV t) {i:Nat} {x:Txn} {c:ah} (hx:Nx t i x c) {L:List ai} {o:Int} (ha:acq t.Locks c.Target x.ID=(L,o,0)):TV ⟨t.Txns,L,t.Stacks⟩/\(o=1->∃ k∈L,k.Actor=c.Target/\k.Owner=x.ID):=by
 have hxm:=cg hx.hi;have hX:=(h.tx.x x hxm).1;have hva:=K1 (hX.ca c (cg hx.hc));have hvt:VT L:=by have:=Zj h.lk hva hX.i1 hX.i2; rw [ha] at this; exact this
 have hA:=VM h.lk c.Target x.ID;rw [ha] at hA;have hxu:∀ {y:Txn},y∈t.Txns->y.ID=x.ID->y.Done < y.Calls.length/\At y c.Target:=fun hy e=>by
  rw [h.tx.uniq hy hxm e]; exact ⟨hx.dn,c,hx.hc,rfl⟩
 cases hA with
 | own hk hka ho=>exact ⟨h,fun _=>⟨_,hk,hka,ho⟩⟩
 | die hk ha ho=>exact ⟨h,fun q=>by cases q⟩
 | old hk ha ho hw=>exact ⟨h,fun q=>by cases q⟩
 | @wait j k hj hka ho hw=>
  have hkm:=cg hj;refine ⟨OO h hvt (fun l hl=>?_) fun s hs y hy hp k' hk' e1 e2=>?_,fun q=>by cases q⟩
  ·rcases Gc hj hl with rfl|⟨_,_,q⟩
   ·have hL:=h.lp k hkm;refine ⟨hL.ow,fun w hw'=>?_,hL.dn,hL.op,fun y hy hw'=>?_⟩
    ·rcases Lt.1 hw' with rfl|q
     ·exact C8 hx.hi
     ·exact hL.wa w q
    ·rcases Lt.1 hw' with q|q
     ·exact hka ▸ hxu hy q
     ·exact hL.wt y hy q
   ·exact h.lp l (cg q)
  ·obtain ⟨m,hm⟩:=cH hk';by_cases q:j=m
   ·subst q;rw [hj] at hm;simp only [cb] at hm;subst hm;exact ⟨⟨k.Actor,k.Owner,E5 k.Waiters x.ID⟩,cg (i:=j) (by rw [adB (cd.1 hj).1]),e1,e2⟩
   ·exact ⟨k',cg (i:=m) (by rw [xC q]; exact hm),e1,e2⟩
 | new hn=>
  have hmem:∀ {l:ai},l∈t.Locks.take (pa t.Locks c.Target)++[⟨c.Target,x.ID,[]⟩]++t.Locks.drop (pa t.Locks c.Target)↔l=⟨c.Target,x.ID,[]⟩∨l∈t.Locks:=fun {l}=>by
   have e:(l∈t.Locks)↔(l∈t.Locks.take (pa t.Locks c.Target)∨l∈t.Locks.drop (pa t.Locks c.Target)):=by
    rw [<-cF,xA]
   rw [e];simp only [cF,cG];constructor
   ·rintro ((q|q)|q)
    ·exact .inr (.inl q)
    ·exact .inl q
    ·exact .inr (.inr q)
   ·rintro (q|q|q)
    ·exact .inl (.inr q)
    ·exact .inl (.inl q)
    ·exact .inr q
  refine ⟨OO h hvt (fun l hl=>?_) fun s hs y hy hp k' hk' e1 e2=>⟨k',hmem.2 (.inr hk'),e1,e2⟩,fun _=>⟨_,hmem.2 (.inl rfl),rfl,rfl⟩⟩;rcases hmem.1 hl with rfl|q
  ·refine ⟨C8 hx.hi,by simp,fun y hy e q=>?_,fun y hy e _=>.inr (hxu hy e).2,by simp⟩;have:=(hxu hy e).1; omega
  ·exact h.lp l q
inductive aaG (N:Nat) (t:ae) (n:Int):Prop where
 | no (e:Int) (he:e≠0) (hq:(∀ x∈t.Txns,x.ID=n->x.Done=x.Calls.length)∨∃ i x c,Nx t i x c/\x.ID=n/\acq t.Locks c.Target n=([],0,5)) (h:iJ N t n=some (emp,0,[],e))
 | got {i:Nat} {x:Txn} {c:ah} {L:List ai} {o:Int} (hx:Nx t i x c) (hn:x.ID=n) (ho:o=1∨o=2) (ha:acq t.Locks c.Target n=(L,o,0)) (h:iJ N t n=some (⟨t.Txns,L,t.Stacks⟩,o,[],0))
 | died {i:Nat} {x:Txn} {c:ah} {k:ai} {D:List Int} (hx:Nx t i x c) (hn:x.ID=n) (hk:k∈t.Locks) (hka:k.Actor=c.Target) (ho:k.Owner < n) (h:iJ N t n=some (abT t D,3,D,0)) (hT:TV (abT t D)) (hD:Dep t n D)
theorem Ra (N:Nat) (hN:1001<=N) {t:ae} (h:TV t) (n:Int):aaG N t n:=by
 rcases MU N h n with ⟨i,x,c,hx,hn,e⟩|⟨⟨c,e⟩,hq⟩
 ·have hxm:=cg hx.hi;have hX:=(h.tx.x x hxm).1;have hva:=K1 (hX.ca c (cg hx.hc));have ha:=Zq N (by omega) h.lk hva (hn ▸ hX.i1) (hn ▸ hX.i2);have e0:iJ N t n=if (acq t.Locks c.Target n).2.2=0 then (if (acq t.Locks c.Target n).2.1=3 then (jD N t n).bind fun r8=>some (r8.1,(acq t.Locks c.Target n).2.1,r8.2.1,r8.2.2) else some (⟨t.Txns,(acq t.Locks c.Target n).1,t.Stacks⟩,(acq t.Locks c.Target n).2.1,[],0)) else some (emp,0,[],(acq t.Locks c.Target n).2.2):=by
   rw [iJ,o9 N (by omega) h,cc,if_pos rfl,e,cc,if_pos rfl,ha,cc,zf h];rfl
  have hA:=VM h.lk c.Target n;generalize hg:acq t.Locks c.Target n=r at hA e0;cases hA with
  | own hk hka ho=>exact .got hx hn (.inl rfl) hg (by rw [e0]; simp)
  | @die k hk hka ho=>
   obtain ⟨D,d1,d2,d3,_⟩:=GW N hN h (id:=n) (hn ▸ C8 hx.hi);exact .died hx hn hk hka ho (by rw [e0]; simp [d1]) d2 d3
  | old hk hka ho hw=>exact .got hx hn (.inr rfl) hg (by rw [e0]; simp)
  | full hk hka ho hw hl=>exact .no 5 (by simp) (.inr ⟨i,x,c,hx,hn,hg⟩) (by rw [e0]; simp)
  | wait hi hka ho hw=>exact .got hx hn (.inr rfl) hg (by rw [e0]; simp)
  | many hm hl=>exact .no 5 (by simp) (.inr ⟨i,x,c,hx,hn,hg⟩) (by rw [e0]; simp)
  | new hm=>exact .got hx hn (.inl rfl) hg (by rw [e0]; simp)
 ·exact .no 6 (by simp) (.inl hq) (by rw [iJ,o9 N (by omega) h,cc,if_pos rfl,e,cc,if_neg (by simp)]; rfl)
def ps (S:List aa) (a:Ref):Nat:=plc (fun s=>rl s.Actor a) S
def UL {S:List aa} (hs:S.Pairwise fun a b=>rl a.Actor b.Actor=true) (a:Ref):U1 (fun s:aa=>rl s.Actor a) S:=hs.imp fun h1 h2=>yZ h1 h2
def QO {S:List aa} (hs:S.Pairwise fun a b=>rl a.Actor b.Actor=true) (hl:S.length<=1000) (N:Nat) (a:Ref) (kx:Int->Option (Int × Bool)) :
  ∀ (n i j:Nat),j < i+n->i<=ps S a->ps S a<=j->j<=S.length->bg S N a kx n ((i:Int),(j:Int))=kx ((ps S a:Nat):Int)
 | 0,i,j,h1,h2,h3,h4=>by omega
 | n+1,i,j,h1,h2,h3,h4=>by
  rw [bg];by_cases hij:i < j
  ·rw [if_pos (by omega),QT (by omega)];have hm:(i+j) / 2 < S.length:=by omega
   have hx:S[(i+j) / 2]?=some S[(i+j) / 2]:=cn hm;have hc:=uA (UL hs a) hx;rw [aO hx,qK,y6];simp only [cc,AY];by_cases q:rl S[(i+j) / 2].Actor a=true
   ·rw [if_pos q,w64 (by omega) (by omega)];have:(i+j) / 2 < ps S a:=hc.1 q;exact QO hs hl N a kx n ((i+j) / 2+1) j (by omega) (by omega) h3 h4
   ·rw [if_neg q];have:¬ (i+j) / 2 < ps S a:=fun g=>q (hc.2 g);exact QO hs hl N a kx n i ((i+j) / 2) (by omega) h2 (by omega) (by omega)
  ·rw [if_neg (by omega)];have:i=ps S a:=by omega
   rw [this]
def SZ {S:List aa} (hs:S.Pairwise fun a b=>rl a.Actor b.Actor=true) (a:Ref):∃ A B,A.length=ps S a/\(∀ s∈A,rl s.Actor a=true)/\(∀ s∈B,rl a s.Actor=true)/\((∃ lay,S=A++⟨a,lay⟩::B)∨(S=A++B/\∀ s,S[ps S a]?=some s->s.Actor≠a)):=by
 have hle:ps S a<=S.length:=Jw S;have hA:∀ s∈S.take (ps S a),rl s.Actor a=true:=fun s h=>by
  obtain ⟨i,hi⟩:=cH h;rw [cY] at hi;split at hi
  ·exact (uA (UL hs a) hi).2 (by unfold ps at *; omega)
  ·cases hi
 have hB:∀ (i:Nat) s,ps S a<=i->S[i]?=some s->rl s.Actor a=false:=fun i s hi h=>by
  cases q:rl s.Actor a with
  | false=>rfl
  | true=>have:=(uA (UL hs a) h).1 q; unfold ps at hi; omega
 have hlt:∀ (i:Nat) s,ps S a<=i->S[i]?=some s->s.Actor≠a->rl a s.Actor=true:=fun i s hi h hne=>by
  rcases I5 s.Actor a with q|q|q
  ·rw [hB i s hi h] at q; cases q
  ·exact absurd q hne
  ·exact q
 by_cases hq:∃ s,S[ps S a]?=some s/\s.Actor=a
 ·obtain ⟨s,h1,h2⟩:=hq;have hl:=(cd.1 h1).1;have e:S=S.take (ps S a)++s::S.drop (ps S a+1):=by
   have:=xA (ps S a) S;rw [xp hl,(cd.1 h1).2] at this;exact this.symm
  refine ⟨S.take (ps S a),S.drop (ps S a+1),by simp; omega,hA,fun z hz=>?_,.inl ⟨s.Layers,by cases s; simp only at h2; subst h2; exact e⟩⟩;obtain ⟨i,hi⟩:=cH hz;rw [cZ] at hi;have:=nj.1 hs (ps S a) (ps S a+1+i) hl (cd.1 hi).1 (by omega);rw [(cd.1 h1).2,(cd.1 hi).2,h2] at this;exact this
 ·refine ⟨S.take (ps S a),S.drop (ps S a),by simp; omega,hA,fun z hz=>?_,.inr ⟨(xA _ _).symm,fun s h1 h2=>hq ⟨s,h1,h2⟩⟩⟩;obtain ⟨i,hi⟩:=cH hz;rw [cZ] at hi;cases i with
  | zero=>exact hlt _ z (by omega) hi fun q=>hq ⟨z,hi,q⟩
  | succ i=>
   have hl0:ps S a < S.length:=by have:=(cd.1 hi).1; omega
   have h0:=hlt (ps S a) _ (cw _) (cn hl0) fun q=>hq ⟨_,cn hl0,q⟩;have:=nj.1 hs (ps S a) (ps S a+(i+1)) hl0 (cd.1 hi).1 (by omega);rw [(cd.1 hi).2] at this;exact yZ h0 this
def CT (S:List aa) (a:Ref) (n:Int) (f:List Value):Prop:=∃ s∈S,s.Actor=a/\∃ y,s.Layers[s.Layers.length - 1]?=some y/\y.Txn_=n/\y.Fields=f
theorem UG (n:Int) (f:List Value) (l:List al):∃ y,(j5 n f l)[(j5 n f l).length - 1]?=some y/\y.Txn_=n/\y.Fields=f:=by
 unfold j5;split
 ·rename_i z hz;split
  ·rename_i e;refine ⟨⟨z.Txn_,f,z.Prepared⟩,?_,e,rfl⟩;rw [cX,adB (cd.1 hz).1]
  ·exact ⟨⟨n,f,false⟩,by simp,rfl,rfl⟩
 ·exact ⟨⟨n,f,false⟩,by simp,rfl,rfl⟩
def Tj (N:Nat) {t:ae} {i:Nat} {x:Txn} {a:Ref} {f:List Value} (hf:s7 f=true) {r:Value} {A B:List aa} {lay:List al} (hl:lay.length<=1000) (b:Bool) (hd0:0<=x.Done) (hd1:x.Done<=1000) :
  rq ((A.length:Nat),b) x.ID N f t ((i:Nat):Int) x r (A++⟨a,lay⟩::B)=some (yW t i x r (A++⟨a,j5 x.ID f lay⟩::B),0):=by
 have hf':=sH (N:=N) (G9 hf);have hset:∀ {l l':List al},(A++(⟨a,l⟩:aa)::B).set A.length ⟨a,l'⟩=A++⟨a,l'⟩::B:=JF;rw [rq,aO z6];have J3:∀ {l:List al} {y:al},l[l.length - 1]?=some y->l.length<=2000->0 < l.length->yn ((A.length:Nat),b) N f t ((i:Nat):Int) x r (A++⟨a,l⟩::B) ((l.length:Nat):Int)=some (yW t i x r (A++⟨a,l.set (l.length - 1) ⟨y.Txn_,f,y.Prepared⟩⟩::B),0):=fun {l y} hy hl h0=>by
  rw [yn];dsimp only;rw [aO z6,hf',cc,w64 (by omega) (by omega),show ((l.length:Int) - 1)=((l.length - 1:Nat):Int) by omega];dsimp only;rw [aO hy,w64 (n:=x.Done+1) (by omega) (by omega),cL,cL,cL,hset];rfl
 by_cases h0:lay=[]
 ·subst h0;rw [if_pos (by simp),uM,if_pos rfl];dsimp only;rw [mU (by simp),cL,hset,w64 (by simp) (by simp)];have:=J3 (l:=[⟨x.ID,[],false⟩]) (y:=⟨x.ID,[],false⟩) rfl (by simp) (by simp);simpa [j5] using this
 ·have hp:=xG.2 h0;obtain ⟨z,hz⟩:=Lf h0;dsimp only;rw [if_neg (by omega),w64 (by omega) (by omega),show ((lay.length:Int) - 1)=((lay.length - 1:Nat):Int) by omega,aO hz];unfold j5;rw [hz];by_cases q:z.Txn_=x.ID
  ·rw [uM,if_neg (by simp [q])];have:=J3 hz (by omega) hp;simp only [q,if_true] at this ⊢;exact this
  ·rw [uM,if_pos (by simp [q])];dsimp only;rw [mU (by simp; omega),cL,hset,w64 (by omega) (by omega)];have hlen:(lay++[(⟨x.ID,[],false⟩:al)]).length=lay.length+1:=by simp
   have:=J3 (l:=lay++[⟨x.ID,[],false⟩]) (y:=⟨x.ID,[],false⟩) (by simp) (by omega) (by simp);rw [hlen,show ((lay.length+1:Nat):Int)=(lay.length:Int)+1 by omega] at this;rw [this];simp only [q,if_false];simp
def W5 (N:Nat) (hN:200<=N) {t:ae} (h:TV t) {i:Nat} {x:Txn} {c:ah} {k:ai} (e:Exe t i x c k) {f:List Value} {r:Value} (hf:s7 f=true) (hr:mg r=true) :
  ∃ A B lay,(t.Stacks=A++⟨c.Target,lay⟩::B∨(t.Stacks=A++B/\lay=[]))/\j6 N t x.ID f r=some (yW t i x r (A++⟨c.Target,j5 x.ID f lay⟩::B),0)/\TV (yW t i x r (A++⟨c.Target,j5 x.ID f lay⟩::B)):=by
 have hxm:=cg e.hi;have hX:=(h.tx.x x hxm).1;have hsl:=h.stacks_len;obtain ⟨i2,x2,e1,e2,e3⟩:=tX (N:=N) (C8 e.hi);have hxe:x2=x:=h.tx.uniq (cg e2) hxm e3;subst hxe;have hii:i2=i:=by
  obtain ⟨g1,g2⟩:=cd.1 e2;obtain ⟨g3,g4⟩:=cd.1 e.hi;have:=nj.1 h.tx.so;rcases xy i2 i with q|q|q
  ·have:=this i2 i g1 g3 q; rw [g2,g4] at this; omega
  ·exact q
  ·have:=this i i2 g3 g1 q; rw [g2,g4] at this; omega
 subst hii;have hnext:o8 N t x2.ID=some (c,true):=by
  rcases MU N h x2.ID with ⟨j,y,c',hy,hyn,g⟩|⟨_,hq⟩
  ·have:y=x2:=h.tx.uniq (cg hy.hi) hxm hyn;subst this;have:=hy.hc;rw [e.hc] at this;simp only [cb] at this;rw [this]; exact g
  ·have:=hq x2 hxm rfl; have:=e.dn; omega
 have hown:=RI N hN h.lk e.hk;rw [e.ka,e.ko] at hown;obtain ⟨A,B,hAl,hA,hB,hsp⟩:=SZ h.ss c.Target;have hps:ps t.Stacks c.Target<=t.Stacks.length:=Jw _;have hbs:ba N t.Stacks c.Target=bt t.Stacks N c.Target ((ps t.Stacks c.Target:Nat):Int):=by
  have:=QO h.ss (by omega) N c.Target (bt t.Stacks N c.Target) N 0 t.Stacks.length (by omega) (by omega) hps (by omega);rw [ba,show (0:Int)=((0:Nat):Int) from rfl,this]
 have hd:=hX.d1; have hd2:=hX.d2; have hc2:=hX.c2;have main:∀ {q:Option (ae × Int)},rE N t x2.ID r f=q->j6 N t x2.ID f r=q:=fun hq=>by
  rw [j6,o9 N hN h,cc,if_pos rfl,Fv,hf,cc,if_pos rfl,qG,hr,cc,yi,if_neg (by simp),hq]
 have hJ5:∀ {q:Option (ae × Int)},(((ba N t.Stacks c.Target).bind fun r14=>if r14.2=true then rq r14 x2.ID N f t ((i2:Nat):Int) x2 r t.Stacks else (bF N t.Stacks r14.1 [⟨c.Target,[]⟩]).bind fun r16=>rq r14 x2.ID N f t ((i2:Nat):Int) x2 r r16)=q)->rE N t x2.ID r f=q:=fun hq=>by
  rw [rE,hnext,cc,if_pos rfl];dsimp only;rw [hown,cc,if_pos rfl,zf h,cc,e1,cc,aO e2,yC (Cd hr),cc];exact hq
 rcases hsp with ⟨lay,hS⟩|⟨hS,hno⟩
 ·have hsm:(⟨c.Target,lay⟩:aa)∈t.Stacks:=by rw [hS]; simp
  have hll:=h.layers_len hsm;refine ⟨A,B,lay,.inl hS,main (hJ5 ?_),Tl h e hf hr (.inl hS) hA hB⟩;have hat:t.Stacks[ps t.Stacks c.Target]?=some ⟨c.Target,lay⟩:=by rw [<-hAl,hS]; exact z6
  have hlt:=(cd.1 hat).1;rw [hbs,bt,if_pos (by omega),aO hat,qK,y6];simp only [cc,IY.2 rfl,decide_true,if_true];rw [<-hAl];have:=Tj N (t:=t) (i:=i2) (x:=x2) (a:=c.Target) hf (r:=r) (A:=A) (B:=B) (lay:=lay) (by simp only at hll; omega) true hd (by omega);rw [<-hS] at this;exact this
 ·refine ⟨A,B,[],.inr ⟨hS,rfl⟩,main (hJ5 ?_),Tl h e hf hr (lay:=[]) (.inr ⟨hS,rfl⟩) hA hB⟩;have hb:ba N t.Stacks c.Target=some (((ps t.Stacks c.Target:Nat):Int),false):=by
   rw [hbs,bt];by_cases q:ps t.Stacks c.Target < t.Stacks.length
   ·have hat:=cn q;have hne:=hno _ hat;rw [if_pos (by omega),aO hat,qK,y6];simp [IY,hne]
   ·rw [if_neg (by omega)]
  rw [hb,cc,if_neg (by simp)];unfold bF Jr;dsimp only;rw [if_pos ⟨by omega,by omega,rfl,by omega⟩,cc,cL,<-hAl];have ht:t.Stacks.take A.length=A:=by rw [hS,List.take_left']; rfl
  have hdr:t.Stacks.drop A.length=B:=by rw [hS,List.drop_left']; rfl
  rw [ht,hdr,nq];exact Tj N (t:=t) (i:=i2) (x:=x2) (a:=c.Target) hf (r:=r) (A:=A) (B:=B) (lay:=[]) (by simp) false hd (by omega)
def Tv (N:Nat) (hN:200<=N) {t:ae} (h:TV t) {i:Nat} {x:Txn} {c:ah} {k:ai} (e:Exe t i x c k) {f:List Value} {r:Value} (hf:s7 f=true) (hr:mg r=true) :
  ∃ S,j6 N t x.ID f r=some (yW t i x r S,0)/\TV (yW t i x r S)/\CT S c.Target x.ID f:=by
 obtain ⟨A,B,lay,_,h1,h2⟩:=W5 N hN h e hf hr;exact ⟨_,h1,h2,⟨c.Target,j5 x.ID f lay⟩,by simp,rfl,UG _ _ _⟩
def PS {t:List ai} (h:VT t) {k:ai} (hk:k∈t):(∀ l'∈(pM t (pa t k.Actor)).1,(l'∈t/\l'.Actor≠k.Actor)∨(l'.Actor=k.Actor/\l'.Owner∈k.Waiters/\∀ w∈l'.Waiters,w∈k.Waiters))/\∀ l∈t,l.Actor≠k.Actor->l∈(pM t (pa t k.Actor)).1:=by
 have hp:=(AM h hk).1;have hpl:=(cd.1 hp).1;have hne:∀ {i:Nat} {l:ai},i≠pa t k.Actor->t[i]?=some l->l.Actor≠k.Actor:=fun {i l} hi hl e=>by
  have:=(AM h (cg hl)).1;rw [e,hp] at this;simp only [cb] at this;subst this;obtain ⟨g1,g2⟩:=cd.1 hl;obtain ⟨g3,g4⟩:=cd.1 hp;have hs:=nj.1 h.so;rcases xy i (pa t k.Actor) with q|q|q
  ·have:=hs i _ g1 g3 q; rw [g2,g4,jk] at this; cases this
  ·exact hi q
  ·have:=hs _ i g3 g1 q; rw [g2,g4,jk] at this; cases this
 rw [pM,hp];simp only;split
 ·refine ⟨fun l' hl'=>?_,fun l hl hn=>?_⟩
  ·rcases cF.1 hl' with q|q
   ·obtain ⟨i,hi⟩:=cH q;rw [cY] at hi;split at hi
    ·exact .inl ⟨cg hi,hne (by omega) hi⟩
    ·cases hi
   ·obtain ⟨i,hi⟩:=cH q;rw [cZ] at hi;exact .inl ⟨cg hi,hne (by omega) hi⟩
  ·obtain ⟨i,hi⟩:=cH hl;have:i≠pa t k.Actor:=fun e=>by rw [e,hp] at hi; simp only [cb] at hi; exact hn (hi ▸ rfl)
   rw [cF];rcases nS i (pa t k.Actor) with q|q
   ·exact .inl (cg (i:=i) (by rw [cY,if_pos q]; exact hi))
   ·exact .inr (cg (i:=i - (pa t k.Actor+1)) (by rw [cZ,show pa t k.Actor+1+(i - (pa t k.Actor+1))=i by omega]; exact hi))
 ·rename_i e;refine ⟨fun l' hl'=>?_,fun l hl hn=>?_⟩
  ·rcases Gc hp hl' with rfl|⟨i,hi,q⟩
   ·exact .inr ⟨rfl,OJ e,fun w hw=>nI hw⟩
   ·exact .inl ⟨cg q,hne hi q⟩
  ·obtain ⟨i,hi⟩:=cH hl;have:pa t k.Actor≠i:=fun q=>by rw [<-q,hp] at hi; simp only [cb] at hi; exact hn (hi ▸ rfl)
   exact cg (i:=i) (by rw [xC this]; exact hi)
def ug (t:ae) (a:Ref) (n:Int):Prop:=∃ s∈t.Stacks,s.Actor=a/\∃ y∈s.Layers,y.Txn_=n/\y.Prepared=true
def PK (S:List aa) (j:Nat) (s:aa) (y:al):List aa:=S.set j ⟨s.Actor,s.Layers.set (s.Layers.length - 1) ⟨y.Txn_,y.Fields,true⟩⟩
inductive aaD (N:Nat) (t:ae) (n:Int) (a:Ref):Prop where
 | no (e:Int) (he:e≠0) (hq:∀ x∈t.Txns,x.ID=n->x.Done < x.Calls.length∨(¬ ∃ c∈x.Calls,c.Target=a)∨ug t a n) (h:fU N t n a=some (emp,e))
 | ok {x:Txn} {j:Nat} {s:aa} {y:al} (hx:x∈t.Txns) (hn:x.ID=n) (hd:x.Done=x.Calls.length) (ha:∃ c∈x.Calls,c.Target=a) (hj:t.Stacks[j]?=some s) (hsa:s.Actor=a) (hy:s.Layers[s.Layers.length - 1]?=some y) (hyn:y.Txn_=n) (hp:y.Prepared=false)
   (h:fU N t n a=some (⟨t.Txns,(pM t.Locks (pa t.Locks a)).1,PK t.Stacks j s y⟩,0)) (hT:TV ⟨t.Txns,(pM t.Locks (pa t.Locks a)).1,PK t.Stacks j s y⟩)
theorem Mx (N:Nat) (hN:200<=N) {t:ae} (h:TV t) (n:Int) (a:Ref):aaD N t n a:=by
 rcases Br N t n with ⟨h1,e⟩|⟨i,x,e,hi,hid⟩
 ·refine .no 6 (by simp) (fun x hx q=>absurd (cJ.2 ⟨x,hx,q⟩) h1) ?_;rw [fU,o9 N hN h,cc,if_pos rfl,e,cc,if_pos (by omega),iM,if_pos rfl];rfl
 ·have hxm:=cg hi;have hX:=(h.tx.x x hxm).1;have hu:∀ {y:Txn},y∈t.Txns->y.ID=n->y=x:=fun hy q=>h.tx.uniq hy hxm (q.trans hid.symm);have e0:∀ {q:Option (ae × Int)},iM (lH t ((i:Nat):Int) N a n) (!x.Calls.any fun c=>GV c.Target a)=q->fU N t n a=q:=fun hq=>by
   rw [fU,o9 N hN h,cc,if_pos rfl,e,cc,if_neg (by omega),aO hi,Nn,cc,hq]
  by_cases ht:∃ c∈x.Calls,c.Target=a
  ·have hany:(x.Calls.any fun c=>GV c.Target a)=true:=by
    obtain ⟨c,hc,q⟩:=ht;exact aea.2 ⟨c,hc,(Dz _ _).2 q⟩
   rw [hany] at e0;by_cases hd:x.Done < x.Calls.length
   ·refine .no 12 (by simp) (fun y hy q=>.inl (by rw [hu hy q]; exact hd)) (e0 ?_);rw [iM,if_neg (by simp),lH,aO hi,if_pos hd]; rfl
   ·have hdn:x.Done=x.Calls.length:=by have:=hX.d2; omega
    obtain ⟨c,hc,hca⟩:=ht;have htk:x.Calls.take x.Done.toNat=x.Calls:=ni (by omega);obtain ⟨s,hs,hsa,y,hy,hyn⟩:=h.pr x hxm c (by rw [htk]; exact hc);have hsa':=hsa.trans hca;have hlay:=o4 N h.ss h.ac hs hsa' hy (hyn.trans hid);cases hp:y.Prepared with
    | true=>
     refine .no 7 (by simp) (fun z hz q=>.inr (.inr ⟨s,hs,hsa',y,hy,hyn.trans hid,hp⟩)) (e0 ?_);rw [iM,if_neg (by simp),lH,aO hi,if_neg hd,hlay,cc,if_pos hp]; rfl
    | false=>
     obtain ⟨m,hm⟩:=cH hy;obtain ⟨hlast,k,hk,hka,hko⟩:=(h.st s hs).up m y hm hp;obtain ⟨j,hj1,hj2⟩:=Hm N h.ss hs;have hml:=(cd.1 hm).1;have hyl:s.Layers[s.Layers.length - 1]?=some y:=by rw [show s.Layers.length - 1=m by omega]; exact hm
     have hva:=K1 (hX.ca c hc);have hkaa:k.Actor=a:=hka.trans hsa';have hrel:mQ N t.Locks a n=some ((pM t.Locks (pa t.Locks a)).1,(pM t.Locks (pa t.Locks a)).2,0):=by
      have hv:VA a:=hca ▸ hva;rw [Zv N (by omega) h.lk hv (hid ▸ hX.i1) (hid ▸ hX.i2)];obtain ⟨g1,g2⟩:=AM h.lk hk;rw [hkaa] at g1 g2;unfold rls;rw [if_pos g2,g1];simp only;rw [if_pos (hko.trans (hyn.trans hid))]
     obtain ⟨p1,p2⟩:=PS h.lk hk;rw [hkaa] at p1 p2;have hll:=h.layers_len hs;refine .ok hxm hid hdn ⟨c,hc,hca⟩ hj2 hsa' hyl (hyn.trans hid) hp (e0 ?_) (YC h hxm hdn hj2 hyl hyn hp hk hka (W9 h.lk _) (fun l' hl'=>by
      rcases p1 l' hl' with ⟨q1,q2⟩|⟨q1,q2⟩
      ·exact .inl ⟨q1,by rw [hsa']; exact q2⟩
      ·exact .inr ⟨q1.trans hkaa.symm,q2⟩) (fun l hl q=>p2 l hl (by rw [<-hsa']; exact q)))
     rw [hsa'] at hj1;rw [iM,if_neg (by simp),lH,aO hi,if_neg hd,hlay,cc,if_neg (by simp [hp]),zf h,cc,hj1,cc,aO hj2,w64 (by omega) (by omega),show ((s.Layers.length:Int) - 1)=((s.Layers.length - 1:Nat):Int) by omega,aO hyl,hrel,cc,cL,cL];rfl
  ·refine .no 6 (by simp) (fun y hy q=>.inr (.inl (by rw [hu hy q]; exact ht))) (e0 ?_);have hany:(x.Calls.any fun c=>GV c.Target a)=false:=by
    rw [<-xm];intro q;obtain ⟨c,hc,g⟩:=aea.1 q;exact ht ⟨c,hc,(Dz _ _).1 g⟩
   rw [hany,iM,if_pos (by simp)]; rfl
structure Bu (t:ae) (x:Txn):Prop where
 dn:x.Done=x.Calls.length
 pr:∀ c∈x.Calls,ug t c.Target x.ID
 fi:BV t x.ID []=true
def Sa (N:Nat) {t:ae} (h:TV t) (x:Txn):Te (sY N t x) (∀ c∈x.Calls,ug t c.Target x.ID):=by
 classical
 have hf:∀ c∈x.Calls,lI N c t.Txns t.Locks t.Stacks x.ID x.Born x.Client x.Seq x.Calls x.Done x.Last.Kind x.Last.N x.Last.S x.Last.I x.Last.L=some (!decide (ug t c.Target x.ID)):=fun c _=>by
  rw [lI];by_cases q:DU t c.Target x.ID
  ·obtain ⟨s,hs,ha,y,hy,hn⟩:=q;rw [show (⟨t.Txns,t.Locks,t.Stacks⟩:ae)=t from rfl,o4 N h.ss h.ac hs ha hy hn,cc,if_pos rfl];have:ug t c.Target x.ID↔y.Prepared=true:=⟨fun ⟨s',g1,g2,y',g3,g4,g5⟩=>by
    have:=o4 N h.ss h.ac hs ha hy hn;rw [o4 N h.ss h.ac g1 g2 g3 g4] at this;simp only [cb,cz,and_true] at this;rw [<-this]; exact g5,fun g=>⟨s,hs,ha,y,hy,hn,g⟩⟩
   cases hp:y.Prepared<;>simp [this,hp]
  ·rw [show (⟨t.Txns,t.Locks,t.Stacks⟩:ae)=t from rfl,OA N h.ss q,cc,if_neg (by simp)];have:¬ ug t c.Target x.ID:=fun ⟨s',g1,g2,y',g3,g4,_⟩=>q ⟨s',g1,g2,y',g3,g4⟩;simp [this]
 have e:=kM (L:=bE N t.Txns t.Locks t.Stacks x.ID x.Born x.Client x.Seq x.Calls x.Done x.Last.Kind x.Last.N x.Last.S x.Last.I x.Last.L) (fun c=>lI N c t.Txns t.Locks t.Stacks x.ID x.Born x.Client x.Seq x.Calls x.Done x.Last.Kind x.Last.N x.Last.S x.Last.I x.Last.L) (fun c=>!decide (ug t c.Target x.ID)) (fun _=>rfl) (fun _ _ _=>rfl) x.Calls 0 hf;refine ⟨!(x.Calls.any fun c=>!decide (ug t c.Target x.ID)),?_,?_⟩
 ·simp only [sY,bD,b9,e,cc,tq]
 ·rw [JR]; simp
def PR (N:Nat) {t:ae} (h:TV t) (x:Txn):Te (mJ N x t.Txns t.Locks t.Stacks) (Bu t x):=by
 rw [mJ,show (⟨t.Txns,t.Locks,t.Stacks⟩:ae)=t from rfl];refine Te.ite (fun hd=>(Sa N h x).bind (fun hp=>?_) fun hp=>Te.f fun q=>hp q.pr) fun hd=>Te.f fun q=>hd q.dn;simp only [if_true,PT,cc];exact ⟨_,rfl,fun g=>⟨hd,hp,g⟩,fun g=>g.fi⟩
def V2 {t:ae} (h:TV t) {x:Txn} (hx:x∈t.Txns) (hr:Bu t x):Lks t [x.ID] t.Locks:=by
 have ho:∀ l∈t.Locks,l.Owner≠x.ID:=fun l hl e=>by
  obtain ⟨s,hs,ha,y,hy,hn,hp⟩:=(h.lp l hl).dn x hx e.symm hr.dn;obtain ⟨⟨c,hc,hca⟩,_⟩:=(h.st s hs).ex y hy x hx hn.symm;obtain ⟨s',g1,g2,y',g3,g4,g5⟩:=hr.pr c (nI hc);obtain ⟨i,hi⟩:=cH hs;have:=De h.ss hi g1 (g2.trans hca);subst this;obtain ⟨r,hrk⟩:=h.ac;obtain ⟨a,ha'⟩:=cH hy;obtain ⟨b,hb'⟩:=cH g3;have:=JI (hrk s' g1) ha' hb' (hn.trans g4.symm);subst this;rw [ha'] at hb';simp only [cb] at hb';rw [<-hb',hp] at g5; cases g5
 have hw:∀ l∈t.Locks,x.ID∉l.Waiters:=fun l hl q=>by
  have:=((h.lp l hl).wt x hx q).1;have:=hr.dn; omega
 exact ⟨h.lk,fun l hl=>⟨l,hl,rfl,.inl rfl,fun w hw=>hw,by simp [ho l hl],fun w q=>by simp only [cG]; exact fun e=>hw l hl (e ▸ q)⟩,fun l hl _=>⟨l,hl,rfl,rfl⟩⟩
def Wr (t:ae) (n:Int):List Ref->List aS->Prop
 | [],[]=>True
 | a::rs,w::ws=>w.Actor=a/\(∃ s∈t.Stacks,s.Actor=a/\∃ y∈s.Layers,y.Txn_=n/\y.Prepared=true/\w.Fields=y.Fields)/\Wr t n rs ws
 | _,_=>False
inductive Res (N:Nat):ae->ae->List aD->Prop where
 | nil {t:ae} (hno:∀ x∈t.Txns,¬ Bu t x):Res N t t []
 | cons {t t':ae} {cs:List aD} {x:Txn} {ps:List Ref} {ws:List aS} (hx:x∈t.Txns) (hr:Bu t x) (hp:im N x=some ps) (hw:Wr t x.ID ps ws) (hT:TV (zz t [x.ID])) (rest:Res N (zz t [x.ID]) t' cs):Res N t t' (⟨x.ID,x.Client,x.Seq,x.Last,ws⟩::cs)
theorem VY (N:Nat) {t:ae} (h:TV t) {x:Txn} (k:List aS->Option (ae × List aD)):∀ (rs:List Ref) (v:Nat) (acc:List aS),(∀ a∈rs,ug t a x.ID)->acc.length+rs.length<=1000->∃ ws,Wr t x.ID rs ws/\lq k N t.Txns t.Locks t.Stacks x rs v acc=k (acc++ws)
 | [],v,acc,_,_=>⟨[],trivial,by rw [lq,cT]⟩
 | a::rs,v,acc,hp,hl=>by
  obtain ⟨s,hs,ha,y,hy,hn,hpp⟩:=hp a (by simp);simp only [cC] at hl;obtain ⟨ws,g1,g2⟩:=VY N h k rs (v+1) (acc++[⟨a,y.Fields⟩]) (fun b hb=>hp b (by simp [hb])) (by simp; omega);refine ⟨⟨a,y.Fields⟩::ws,⟨rfl,⟨s,hs,ha,y,hy,hn,hpp,rfl⟩,g1⟩,?_⟩;rw [lq,show (⟨t.Txns,t.Locks,t.Stacks⟩:ae)=t from rfl,o4 N h.ss h.ac hs ha hy hn,cc,sH (G9 ((h.st s hs).fi y hy)),cc,mU (by simp; omega),g2,nq];rfl
theorem Mq (N:Nat) (hN:100002<=N):∀ (n:Nat) {t:ae} (acc:List aD),TV t->t.Txns.length < n->acc.length+t.Txns.length<=1000->∃ t' cs,lF N n (t.Txns,t.Locks,t.Stacks,acc)=some (t',acc++cs)/\TV t'/\Res N t t' cs
 | n+1,t,acc,h,hn,ha=>by
  classical
  have hloop:=kM (L:=dI N t.Txns t.Locks t.Stacks) (fun x=>mJ N x t.Txns t.Locks t.Stacks) (fun x=>decide (Bu t x)) (fun _=>rfl) (fun _ _ _=>rfl) t.Txns 0 (fun x _=>by
   by_cases q:Bu t x
   ·rw [(PR N h x).is q]; simp [q]
   ·rw [(PR N h x).isnt q]; simp [q])
  rw [lF,dY,hloop,cc];rcases uO (fun x=>decide (Bu t x)) t.Txns 0 with ⟨e,hno⟩|⟨i,x,e,hi,hr,_⟩
  ·rw [e,if_pos (by omega)];exact ⟨t,[],by rw [cT],h,.nil fun x hx=>by simpa using hno x hx⟩
  ·have hxm:=cg hi;have hX:=(h.tx.x x hxm).1;have hr:Bu t x:=by simpa using hr
   have hT:TV (zz t [x.ID]):=Wh h (V2 h hxm hr);obtain ⟨ps,p1,p2,p3⟩:=zJ N hN hX.c1 hX.c2;have hlen:(zz t [x.ID]).Txns.length < t.Txns.length:=by
    refine aeO (adz _ _) fun q=>?_;have:=aeP.1 q x hxm;rw [rH] at this;exact this (by simp)
   have hpl:ps.length<=4:=by
    have hnd:ps.Nodup:=p2.imp fun {a b} g e=>by rw [e,lpR,jk] at g; cases g
    have:=zU (l:=x.Calls.map ah.Target) hnd fun a hm=>by
     obtain ⟨c,hc,q⟩:=(p3 a).1 hm;exact cJ.2 ⟨c,hc,q⟩
    simp only [cy] at this;have:=hX.c2; omega
   obtain ⟨ws,w1,w2⟩:=VY N h (x:=x) (wy N t.Txns t.Locks t.Stacks x acc x.Last (lF N n)) ps 0 [] (fun a hm=>by
    obtain ⟨c,hc,q⟩:=(p3 a).1 hm;exact q ▸ hr.pr c hc) (by simp; omega)
   obtain ⟨t',cs,r1,r2,r3⟩:=Mq N hN n (t:=zz t [x.ID]) (acc++[⟨x.ID,x.Client,x.Seq,x.Last,ws⟩]) hT (by omega) (by simp; omega);refine ⟨t',_::cs,?_,r2,.cons hxm hr p1 w1 hT r3⟩;rw [e,cS,if_neg (by omega),aO hi,yC (Cd hX.la),cc,p1,cc,w2,cO,wy,show (⟨t.Txns,t.Locks,t.Stacks⟩:ae)=t from rfl,Ox N (by omega) h,cc,mU (by simp; omega),r1,nq];rfl
def Mv (N:Nat) (hN:100002<=N) {t:ae} (h:TV t):∃ t' cs,oq N t=some (t',cs)/\TV t'/\Res N t t' cs:=by
 have:=h.tx.len;obtain ⟨t',cs,h1,h2,h3⟩:=Mq N hN N (t:=t) [] h (by omega) (by simp; omega);exact ⟨t',cs,by rw [oq,o9 N (by omega) h,cc,if_pos rfl,zf h,cc,h1]; rfl,h2,h3⟩
def Yz {N:Nat} {t t':ae} {cs:List aD} (h:Res N t t' cs):cs.length<=t.Txns.length:=by
 induction h with
 | nil=>simp
 | @cons t t' cs x ps ws hx hr hp hw hT rest ih=>
  have hlen:(zz t [x.ID]).Txns.length < t.Txns.length:=by
   refine aeO (adz _ _) fun q=>?_;have:=aeP.1 q x hx;rw [rH] at this;exact this (by simp)
  simp only [cC]; omega
abbrev Hp:=aj
def U8C (x:Hp):Prop:=(0<=x.Kind/\x.Kind<=255)/\(0<=x.Who/\x.Who<=255)/\(0<=x.Arg/\x.Arg<=255)
def JV {a b:Int} (h:0<=a) (hb:0 < b):Int.tmod a b=a % b:=Int.tmod_eq_emod_of_nonneg h
def Tp (N:Nat) (t:ae) (hl:t.Txns.length<=1000) {w:Int} (h0:0<=w) (h1:w<=255):∃ n,ub N t w=some n/\((t.Txns=[]/\n=0)∨n∈ids t):=by
 rw [ub];by_cases h:t.Txns.length=0
 ·rw [if_pos (by omega)];exact ⟨0,rfl,.inl ⟨cQ h,rfl⟩⟩
 ·rw [if_neg (by omega),w64 (by omega) (by omega),JV h0 (by omega)];have h2:=Int.emod_nonneg w (b:=(t.Txns.length:Int)) (by omega);have h3:=aeR w (b:=(t.Txns.length:Int)) (by omega);have hk:(w % (t.Txns.length:Int)).toNat < t.Txns.length:=by omega
  simp only [dvx];rw [if_neg (by omega),show w % (t.Txns.length:Int)=(((w % (t.Txns.length:Int)).toNat:Nat):Int) by omega,aO (cn hk)];exact ⟨_,rfl,.inr (cJ.2 ⟨_,nw hk,rfl⟩)⟩
def Fi:List Ref:=[⟨⟨#[65]⟩,⟨#[97]⟩⟩,⟨⟨#[65]⟩,⟨#[98]⟩⟩,⟨⟨#[65]⟩,⟨#[99]⟩⟩,⟨⟨#[65]⟩,⟨#[100]⟩⟩]
def Wi (N:Nat) {n:Int} (h0:0<=n) (h1:n<=255):∃ r,vY N n=some r/\r∈Fi:=by
 have key:∀ k:Int,k=0∨k=1∨k=2∨k=3->∃ r,(sls (⟨#[97,98,99,100]⟩) (IntKind.i64.wrap k) (IntKind.i64.wrap ((IntKind.i64.wrap k)+1)) fun s1=>some (Ref.mk (⟨#[65]⟩) s1))=some r/\r∈Fi:=by
  rintro k (rfl|rfl|rfl|rfl)
  ·exact ⟨⟨⟨#[65]⟩,⟨#[97]⟩⟩,rfl,by simp [Fi]⟩
  ·exact ⟨⟨⟨#[65]⟩,⟨#[98]⟩⟩,rfl,by simp [Fi]⟩
  ·exact ⟨⟨⟨#[65]⟩,⟨#[99]⟩⟩,rfl,by simp [Fi]⟩
  ·exact ⟨⟨⟨#[65]⟩,⟨#[100]⟩⟩,rfl,by simp [Fi]⟩
 rw [vY,JV h0 (by omega)];exact key (n % 4) (by omega)
theorem IH {r:Ref} (h:r∈Fi):qY ⟨r,⟨#[109]⟩,[]⟩=true:=by
 simp only [Fi,cK,nN,or_false] at h;rcases h with rfl|rfl|rfl|rfl<;>rfl
def Zp {a:Int} (h0:0<=a) (h1:a<=255) (k:Int) (hk:k=0∨k=2∨k=4∨k=6):0<=j8 .u8 a k/\j8 .u8 a k<=255:=by
 rcases hk with rfl|rfl|rfl|rfl
 ·show 0<=a.fdiv 1/\a.fdiv 1<=255;rw [adf _ (by omega)]; omega
 ·show 0<=a.fdiv 4/\a.fdiv 4<=255;rw [adf _ (by omega)]; omega
 ·show 0<=a.fdiv 16/\a.fdiv 16<=255;rw [adf _ (by omega)]; omega
 ·show 0<=a.fdiv 64/\a.fdiv 64<=255;rw [adf _ (by omega)]; omega
def Qm (N:Nat) {a:Hp} (ha:U8C a):∀ (m:Nat) (v:Nat) (l:List ah),4 < v+m->v<=4->l.length=v->(∀ c∈l,qY c=true)->v<=(a.Who % 4).toNat+1->∃ r,oM a N m (l,(v:Int))=some r/\r.length=(a.Who % 4).toNat+1/\∀ c∈r,qY c=true
 | 0,v,l,h1,h2,h3,h4,h5=>by omega
 | m+1,v,l,h1,h2,h3,h4,h5=>by
  obtain ⟨_,⟨w0,w1⟩,g0,g1⟩:=ha;rw [oM,JV w0 (by omega),w64 (n:=a.Who % 4) (by omega) (by omega)];by_cases q:(v:Int)<=a.Who % 4
  ·have hv:v=0∨v=1∨v=2∨v=3:=by omega
   have hk:IntKind.u64.wrap (2 * (IntKind.u64.wrap (Int.tmod (v:Int) 4)))=0∨IntKind.u64.wrap (2 * (IntKind.u64.wrap (Int.tmod (v:Int) 4)))=2∨IntKind.u64.wrap (2 * (IntKind.u64.wrap (Int.tmod (v:Int) 4)))=4∨IntKind.u64.wrap (2 * (IntKind.u64.wrap (Int.tmod (v:Int) 4)))=6:=by
    rcases hv with rfl|rfl|rfl|rfl<;>decide
   rw [if_pos q];obtain ⟨s0,s1⟩:=Zp g0 g1 _ hk;obtain ⟨r,hr,hm⟩:=Wi N s0 s1;simp only [shx];rw [if_neg (by omega),hr,cc,mU (by simp; omega),w64 (n:=(v:Int)+1) (by omega) (by omega)];refine Qm N ⟨by assumption,⟨w0,w1⟩,g0,g1⟩ m (v+1) _ (by omega) (by omega) (by simp [h3]) (fun c hc=>?_) (by omega);rcases cF.1 hc with hc|hc
   ·exact h4 c hc
   ·simp only [cG] at hc; rw [hc]; exact IH hm
  ·rw [if_neg q];exact ⟨l,rfl,by omega,h4⟩
def Xd (N:Nat) (hN:100<=N) {a:Hp} (ha:U8C a):∃ r,yj N a=some r/\1<=r.length/\r.length<=4/\∀ c∈r,qY c=true:=by
 obtain ⟨r,h1,h2,h3⟩:=Qm N ha N 0 [] (by omega) (by omega) rfl (by simp) (by omega);have:=ha.2.1;exact ⟨r,h1,by omega,by omega,h3⟩
def GU {α β ρ:Type} {L:List α->Nat->List β->Option ρ} (B:Nat) (f:α->β) (P:α->Prop) (k:List β->Option ρ) (h0:∀ v l,L [] v l=k l)
  (h1:∀ x xs v l,P x->l.length < B->L (x::xs) v l=L xs (v+1) (l++[f x])) :
  ∀ (xs:List α) (v:Nat) (l:List β),(∀ x∈xs,P x)->l.length+xs.length<=B->L xs v l=k (l++xs.map f)
 | [],v,l,_,_=>by rw [h0]; simp
 | x::xs,v,l,hp,hb=>by
  simp only [cC] at hb;rw [h1 x xs v l (hp x (by simp)) (by omega),GU B f P k h0 h1 xs (v+1) (l++[f x]) (fun y hy=>hp y (by simp [hy])) (by simp; omega)];simp
def Ju {N:Nat} {v:Value} (h:bdV v):jc N v=some v:=by
 obtain ⟨h1,h2⟩:=h;simp only [jc];rw [vW (by omega),vW (by omega)]
def O7 {N:Nat} {l:List Value} (h:E6 l):lK N l=some l:=by
 have:=GU (L:=jn N) 1759218604441 id bdV some (fun _ _=>rfl) (fun x xs v l hp hb=>by
  simp only [jn,Ju hp,cc];rw [mU (by simp only [cC,cW]; omega)]; rfl) l 0 [] h.2 (by simpa using h.1)
 simpa [lK] using this
def Qr {N:Nat} {l:List ah} (h:TL l):mC N l=some l:=by
 have:=GU (L:=jF N) 2000000 id (fun c=>E6 c.Args) some (fun _ _=>rfl) (fun x xs v l hp hb=>by
  simp only [jF,O7 hp,cc];rw [mU (by simp only [cC,cW]; omega)]; rfl) l 0 [] h.2 (by simpa using h.1)
 simpa [mC] using this
def Ue {N:Nat} {x:Txn} (h:XV x):qm N x=some x:=by
 simp only [qm,Qr h.bd.1,Ju h.bd.2,cc]
def SN (N:Nat) {t:ae} (h:∀ x∈t.Txns,XV x) (n:Int):∃ x b,zW N t n=some (x,b)/\x.Calls.length<=4:=by
 have key:∀ (xs:List Txn) (v:Nat),(∀ x∈xs,XV x)->∃ x b,qp n N xs v ()=some (x,b)/\x.Calls.length<=4:=by
  intro xs
  induction xs with
  | nil=>intro v _; exact ⟨_,_,rfl,by simp⟩
  | cons x xs ih=>
   intro v hx;rw [qp];split
   ·rw [Ue (hx x (by simp))]; exact ⟨x,true,rfl,(hx x (by simp)).c2⟩
   ·exact ih (v+1) fun y hy=>hx y (by simp [hy])
 exact key t.Txns 0 h
def KF (N:Nat) (l:List Ref) (hl:l.length<=1000) (x:ah) (k:Int->Option (List Ref)):∀ (n:Nat) (v:Nat),v < n->v<=l.length->∃ w:Nat,w<=v/\jy l N x k n (v:Int)=k (w:Int)
 | n+1,v,h1,h2=>by
  rw [jy];by_cases h0:0 < v
  ·have hg:l[v - 1]?=some (l[v - 1]'(by omega)):=cn (by omega);rw [if_pos (by omega),w64 (n:=(v:Int) - 1) (by omega) (by omega),show ((v:Int) - 1)=((v - 1:Nat):Int) by omega,aO hg,XM,cc,pH];cases rl (l[v - 1]'(by omega)) x.Target with
   | true=>exact ⟨v,cw _,by simp⟩
   | false=>
    obtain ⟨w,g1,g2⟩:=KF N l hl x k n (v - 1) (by omega) (by omega);refine ⟨w,by omega,?_⟩;rw [if_pos (by simp),w64 (n:=(v:Int) - 1) (by omega) (by omega),show ((v:Int) - 1)=((v - 1:Nat):Int) by omega];exact g2
  ·exact ⟨v,cw _,by rw [if_neg (by omega),pH,if_neg (by simp)]⟩
def Fl (N:Nat) (hN:2000<=N):∀ (xs:List ah) (v:Nat) (l:List Ref),l.length+xs.length<=1000->∃ r,fy N xs v l=some r
 | [],v,l,_=>⟨l,rfl⟩
 | x::xs,v,l,hl=>by
  simp only [cC] at hl;rw [fy];obtain ⟨w,g1,g2⟩:=KF N l (by omega) x (tE l (fy N xs (v+1)) x) N l.length (by omega) (cw _);rw [g2,tE];have hJ3:∃ r,kZ l (w:Int) x (fy N xs (v+1))=some r:=by
   rw [kZ];unfold slx slt;rw [if_pos ⟨by omega,by omega,by omega,by omega⟩];dsimp only;rw [vW (by simp; omega),if_pos ⟨by omega,by omega⟩];try dsimp only
   rw [mU (by simp; omega),mU (by simp; omega)];exact Fl N hN xs (v+1) _ (by simp; omega)
  have hJ2:∀ b,∃ r,pg (fy N xs (v+1)) l (kZ l (w:Int) x (fy N xs (v+1))) b=some r:=fun b=>by
   rw [pg];cases b with
   | true=>exact Fl N hN xs (v+1) l (by omega)
   | false=>exact hJ3
  by_cases q:w < l.length
  ·rw [if_pos (by omega),aO (cn q)]; exact hJ2 _
  ·rw [if_neg (by omega)]; exact hJ2 _
theorem NJ (N:Nat) (hN:2000<=N) {t:ae} (h:∀ x∈t.Txns,XV x) (n:Int) {w:Int} (h0:0<=w) (h1:w<=255):∃ r,kK N t n w=some r:=by
 obtain ⟨x,b,e,hl⟩:=SN N h n;obtain ⟨ps,p⟩:=Fl N hN x.Calls 0 [] (by simp; omega);obtain ⟨r,hr,_⟩:=Wi N h0 h1;rw [kK,e,cc,mj,uE];dsimp only;rw [p,cc,cc];by_cases q:ps.length=0
 ·rw [if_pos (by omega),hr]; exact ⟨r,rfl⟩
 ·rw [if_neg (by omega),w64 (by omega) (by omega),JV h0 (by omega)];have h2:=Int.emod_nonneg w (b:=(ps.length:Int)) (by omega);have h3:=aeR w (b:=(ps.length:Int)) (by omega);have hk:(w % (ps.length:Int)).toNat < ps.length:=by omega
  simp only [dvx];rw [if_neg (by omega),show w % (ps.length:Int)=(((w % (ps.length:Int)).toNat:Nat):Int) by omega,aO (cn hk)];exact ⟨_,rfl⟩
def GN:mg ⟨0,0,⟨#[]⟩,[],[]⟩=true:=by
 simp [mg,JW,GX];decide
def Em (n:Int):mg ⟨1,n,⟨#[]⟩,[],[]⟩=true:=by
 simp [mg,JW,GX];decide
def V6 {t:ae} {i:Nat} {x:Txn} {c:ah} {L:List ai} (hx:Nx t i x c) {k:ai} (hk:k∈L) (ha:k.Actor=c.Target) (ho:k.Owner=x.ID):Exe ⟨t.Txns,L,t.Stacks⟩ i x c k:=⟨hx.hi,hx.dn,hx.hc,hk,ha,ho⟩
def Y4 (N:Nat) (hN:100002<=N) {t:ae} (h:TV t) {v:Nat} (hv:v<=1000) {a:Hp} (ha:U8C a):∃ t' cs,wg N t (v:Int) a=some (t',cs)/\TV t'/\(cs=[]∨Res N t t' cs):=by
 have hl:=h.tx.len;obtain ⟨⟨k0,k1⟩,⟨w0,w1⟩,a0,a1⟩:=id ha;obtain ⟨n,hn,_⟩:=Tp N t (by omega) w0 w1;have J1:∀ b,∃ t' cs,uq N t n a b=some (t',cs)/\TV t'/\(cs=[]∨Res N t t' cs):=fun b=>by
  rw [uq];cases b with
  | true=>
   obtain ⟨r,hr⟩:=NJ N (by omega) (fun x hx=>(h.tx.x x hx).1) n a0 a1;rw [if_pos rfl,hr,cc];cases Mx N (by omega) h n r with
   | no e he _ q=>rw [q,cc,if_neg he]; exact ⟨t,[],rfl,h,.inl rfl⟩
   | ok _ _ _ _ _ _ _ _ _ q hT=>rw [q,cc,if_pos rfl]; exact ⟨_,[],rfl,hT,.inl rfl⟩
  | false=>
   rw [if_neg (by simp)];split
   ·obtain ⟨t',cs,e,h1,h2⟩:=Mv N hN h;rw [e]; exact ⟨t',cs,rfl,h1,.inr h2⟩
   ·by_cases q:n∈ids t
    ·obtain ⟨D,e,h1,_⟩:=GW N (by omega) h q;rw [e,cc,if_pos rfl]; exact ⟨_,[],rfl,h1,.inl rfl⟩
    ·rw [Q4 N (by omega) h q,cc,if_neg (by simp)]; exact ⟨t,[],rfl,h,.inl rfl⟩
 have J2:∀ b,∃ t' cs,qq N t n a b=some (t',cs)/\TV t'/\(cs=[]∨Res N t t' cs):=fun b=>by
  rw [qq];cases b with
  | true=>
   rw [if_pos rfl];cases Ra N (by omega) h n with
   | no e he _ q=>rw [q,cc,if_neg he]; exact ⟨t,[],rfl,h,.inl rfl⟩
   | @got i x c L o hx hn' ho hac q=>
    obtain ⟨hT,hown⟩:=VF h hx (hn' ▸ hac);rw [q,cc,if_pos rfl];rcases ho with rfl|rfl
    ·obtain ⟨k,hk,hka,hko⟩:=hown rfl;obtain ⟨S,e1,e2,_⟩:=Tv N (by omega) hT (V6 hx hk hka hko) (f:=[⟨1,a.N,⟨#[]⟩,[],[]⟩]) (r:=⟨1,a.N,⟨#[]⟩,[],[]⟩) (by simp [s7,Em]) (Em _);rw [if_pos rfl];simp only [k9,cc];rw [<-hn',e1,cc,if_pos rfl];exact ⟨_,[],rfl,e2,.inl rfl⟩
    ·rw [if_neg (by simp)]; exact ⟨_,[],rfl,hT,.inl rfl⟩
   | died hx hn' hk hka ho q hT hD=>rw [q,cc,if_pos rfl,if_neg (by simp)]; exact ⟨_,[],rfl,hT,.inl rfl⟩
  | false=>
   rw [if_neg (by simp)];split
   ·exact J1 _
   ·exact J1 _
 have J3:∀ b,∃ t' cs,uH N a t (v:Int) n b=some (t',cs)/\TV t'/\(cs=[]∨Res N t t' cs):=fun b=>by
  rw [uH];cases b with
  | true=>
   obtain ⟨cl,e,c1,c2,c3⟩:=Xd N (by omega) ha;rw [if_pos rfl,e,cc,w64 (n:=(v:Int)+1) (by omega) (by omega)];have hx:XV ⟨(v:Int)+1,v,⟨#[99]⟩,(v:Int)+1,cl,0,⟨0,0,⟨#[]⟩,[],[]⟩⟩/\zK ⟨(v:Int)+1,v,⟨#[99]⟩,(v:Int)+1,cl,0,⟨0,0,⟨#[]⟩,[],[]⟩⟩:=
    ⟨⟨by simp only; omega,by simp only; omega,c1,c2,by simp,by simp,GN,c3⟩,by simp only; omega,by simp only; omega,by show 1<=(⟨#[99]⟩:ByteArray).size; decide,by show (⟨#[99]⟩:ByteArray).size<=32; decide,by simp only; omega,by simp only; omega,fun _=>rfl⟩
   rcases Fe N (by omega) h hx with ⟨e2,he,_,q⟩|⟨q,hT⟩
   ·rw [q,cc,if_neg he]; exact ⟨t,[],rfl,h,.inl rfl⟩
   ·rw [q,cc,if_pos rfl]; exact ⟨_,[],rfl,hT,.inl rfl⟩
  | false=>
   rw [if_neg (by simp)];split
   ·exact J2 _
   ·split
    ·exact J2 _
    ·exact J2 _
 rw [wg,hn,cc];split
 ·exact J3 _
 ·exact J3 _
def TV.nil:TV ⟨[],[],[]⟩:=⟨⟨by simp,by simp,by simp⟩,VT.nil,by simp,by simp,by simp,by simp,⟨fun _=>0,by simp⟩⟩
def Xt (N:Nat) (hN:1001<=N) {t:ae} (h:TV t) {i:Nat} {x:Txn} {c:ah} (hx:Nx t i x c) (hno:∀ k∈t.Locks,k.Actor≠c.Target) (hl:t.Locks.length < 128) :
  ∃ L,iJ N t x.ID=some (⟨t.Txns,L,t.Stacks⟩,1,[],0)/\TV ⟨t.Txns,L,t.Stacks⟩/\(∀ l,l∈L↔l=⟨c.Target,x.ID,[]⟩∨l∈t.Locks)/\L.length<=t.Locks.length+1:=by
 have hu:∀ {j:Nat} {y:Txn} {d:ah},Nx t j y d->y.ID=x.ID->y=x/\d=c:=fun hy e=>by
  have:=h.tx.uniq (cg hy.hi) (cg hx.hi) e;subst this;have:=hy.hc;rw [hx.hc] at this;simp only [cb] at this;exact ⟨rfl,this.symm⟩
 have hacq:acq t.Locks c.Target x.ID=(t.Locks.take (pa t.Locks c.Target)++[⟨c.Target,x.ID,[]⟩]++t.Locks.drop (pa t.Locks c.Target),1,0):=by
  have hh:¬ vR t.Locks c.Target=true:=fun q=>by
   obtain ⟨k,hk,ha⟩:=zh q;exact hno k (cg hk) ha
  rw [acq,if_neg hh,if_neg (by omega)]
 cases Ra N hN h x.ID with
 | no e he hq g=>
  exfalso;rcases hq with hq|⟨j,y,d,hy,hyi,hq⟩
  ·have:=hq x (cg hx.hi) rfl; have:=hx.dn; omega
  ·obtain ⟨_,rfl⟩:=hu hy hyi;rw [hacq] at hq;simp at hq
 | @got j y d L o hy hyi ho ha g=>
  obtain ⟨rfl,rfl⟩:=hu hy hyi;rw [hacq] at ha;simp only [cz,and_true] at ha;obtain ⟨rfl,rfl⟩:=ha;refine ⟨_,g,(VF h hx hacq).1,fun l=>?_,by simp; omega⟩;have e:(l∈t.Locks)↔(l∈t.Locks.take (pa t.Locks d.Target)∨l∈t.Locks.drop (pa t.Locks d.Target)):=by
   rw [<-cF,xA]
  rw [e];simp only [cF,cG];constructor
  ·rintro ((q|q)|q)
   ·exact .inr (.inl q)
   ·exact .inl q
   ·exact .inr (.inr q)
  ·rintro (q|q|q)
   ·exact .inl (.inr q)
   ·exact .inl (.inl q)
   ·exact .inr q
 | died hy hyi hk hka ho g hT hD=>
  exfalso;obtain ⟨_,rfl⟩:=hu hy hyi;exact hno _ hk hka
def zI {t:ae} (h:TV t) {l:ai} (hl:l∈t.Locks) {x:Txn} (hx:x∈t.Txns) (e:x.ID=l.Owner) (hd:x.Done=x.Calls.length):¬ ug t l.Actor x.ID:=by
 rintro ⟨s',g1,g2,y',g3,g4,g5⟩;obtain ⟨s,hs,ha,y,hy,hn,hp⟩:=(h.lp l hl).dn x hx e hd;have h1:=o4 0 h.ss h.ac hs ha hy hn;rw [o4 0 h.ss h.ac g1 g2 g3 g4] at h1;simp only [cb,cz,and_true] at h1;rw [h1,hp] at g5; cases g5
def YJ {t:ae} (h:TV t) {x:Txn} (hx:x∈t.Txns) (hd:x.Done=x.Calls.length) {c:ah} (hc:c∈x.Calls) (hno:∀ l∈t.Locks,l.Actor=c.Target->l.Owner≠x.ID):ug t c.Target x.ID:=by
 obtain ⟨s,hs,ha,y,hy,hn⟩:=h.pr x hx c (by rw [ni (by omega)]; exact hc);cases hp:y.Prepared with
 | true=>exact ⟨s,hs,ha,y,hy,hn,hp⟩
 | false=>
  obtain ⟨j,hj⟩:=cH hy;obtain ⟨_,k,hk,hka,hko⟩:=(h.st s hs).up j y hj hp;exact absurd (hko.trans hn) (hno k hk (hka.trans ha))
def rA:Ref:=⟨⟨#[65]⟩,⟨#[97]⟩⟩
def rB:Ref:=⟨⟨#[65]⟩,⟨#[98]⟩⟩
def cA:ah:=⟨rA,⟨#[109]⟩,[]⟩
def cB:ah:=⟨rB,⟨#[109]⟩,[]⟩
def rAB:rA≠rB:=fun e=>by have:=congrArg Ref.Key e; simp [rA,rB] at this
def Yd:qY cA=true:=IH (r:=rA) (by simp [Fi,rA])
def Z3:qY cB=true:=IH (r:=rB) (by simp [Fi,rB])
def x3 (d:Int) (v:Value):Txn:=⟨3,0,⟨#[99]⟩,1,[cA,cB],d,v⟩
def x5 (d:Int) (v:Value):Txn:=⟨5,0,⟨#[99]⟩,2,[cA],d,v⟩
def v0:Value:=⟨0,0,⟨#[]⟩,[],[]⟩
def vN (n:Int):Value:=⟨1,n,⟨#[]⟩,[],[]⟩
def I1 (N:Nat) (hN:1001<=N) {t:ae} (h:TV t) {i:Nat} {x:Txn} {c:ah} (hx:Nx t i x c) (hno:∀ k∈t.Locks,k.Actor≠c.Target) (hl:t.Locks.length < 128) (n:Int) :
  ∃ L S,iJ N t x.ID=some (⟨t.Txns,L,t.Stacks⟩,1,[],0)/\j6 N ⟨t.Txns,L,t.Stacks⟩ x.ID [vN n] (vN n)=some (yW ⟨t.Txns,L,t.Stacks⟩ i x (vN n) S,0)/\TV (yW ⟨t.Txns,L,t.Stacks⟩ i x (vN n) S)/\CT S c.Target x.ID [vN n]/\(∀ l,l∈L↔l=⟨c.Target,x.ID,[]⟩∨l∈t.Locks)/\L.length<=t.Locks.length+1:=by
 obtain ⟨L,h1,h2,h3,h4⟩:=Xt N hN h hx hno hl;obtain ⟨S,e1,e2,e3⟩:=Tv N (by omega) h2 (V6 hx ((h3 _).2 (.inl rfl)) rfl rfl) (f:=[vN n]) (r:=vN n) (by simp [s7,vN,Em]) (Em n);exact ⟨L,S,h1,e1,e2,e3,h3,h4⟩
def VR {S:List aa} {j:Nat} {s:aa} {y:al} {a:Ref} {n:Int} {f:List Value} (h:CT S a n f) (hj:S[j]?=some s) (hne:s.Actor≠a):CT (PK S j s y) a n f:=by
 obtain ⟨s',hs,ha,g⟩:=h;obtain ⟨i,hi⟩:=cH hs;have:j≠i:=fun e=>by rw [<-e,hj] at hi; simp only [cb] at hi; exact hne (hi ▸ ha)
 exact ⟨s',cg (i:=i) (by unfold PK; rw [xC this]; exact hi),ha,g⟩
def Xs {S:List aa} {D:List Int} {a:Ref} {n:Int} {f:List Value} (h:CT S a n f) (hn:n∉D):CT (Gp D S) a n f:=by
 obtain ⟨s,hs,ha,y,hy,hyn,hyf⟩:=h;have hst:kT D y.Txn_=true:=rH.2 (hyn ▸ hn);have e:=congrArg (List.filter fun z=>kT D z.Txn_) (OL hy);rw [xz,show [y].filter (fun z=>kT D z.Txn_)=[y] by simp [hst]] at e;have e2:(z8 D s).Layers=(s.Layers.take (s.Layers.length - 1)).filter (fun z=>kT D z.Txn_)++[y]:=e;exact ⟨z8 D s,Bc.2 ⟨s,hs,rfl,by rw [e2]; simp⟩,ha,y,by rw [e2]; simp,hyn,hyf⟩
def RH (N:Nat) (hN:200<=N) {t:ae} (h:TV t) {x:Txn} (hx:x∈t.Txns) (hd:x.Done=x.Calls.length) {c:ah} (hc:c∈x.Calls) (hk:(⟨c.Target,x.ID,[]⟩:ai)∈t.Locks) :
  ∃ L S,fU N t x.ID c.Target=some (⟨t.Txns,L,S⟩,0)/\TV ⟨t.Txns,L,S⟩/\(∀ l,l∈L↔l∈t.Locks/\l.Actor≠c.Target)/\L.length<=t.Locks.length/\(∀ a n f,a≠c.Target->CT t.Stacks a n f->CT S a n f):=by
 cases Mx N hN h x.ID c.Target with
 | no e he hq g=>
  exfalso;rcases hq x hx rfl with q|q|q
  ·omega
  ·exact q ⟨c,hc,rfl⟩
  ·exact zI h hk hx rfl hd q
 | ok hx' hn hd' ha hj hsa hy hyn hp g hT=>
  have hm:=PS h.lk hk;simp only at hm;refine ⟨_,_,g,hT,fun l=>⟨fun hl=>?_,fun ⟨h1,h2⟩=>hm.2 l h1 h2⟩,?_,fun a n f hne hl=>VR hl hj (by rw [hsa]; exact hne.symm)⟩
  ·rcases hm.1 l hl with q|⟨_,q,_⟩
   ·exact q
   ·cases q
  ·unfold pM;split
   ·split
    ·simp; omega
    ·simp
   ·simp
def YN (N:Nat) (hN:100002<=N):uP N=some true:=by
 have hXV3:XV (x3 0 v0)/\zK (x3 0 v0):=⟨⟨by decide,by decide,by decide,by decide,by decide,by decide,GN,fun c hc=>by
  simp only [x3,cK,nN,or_false] at hc;rcases hc with rfl|rfl
  ·exact Yd
  ·exact Z3⟩,by decide,by decide,by decide,by decide,by decide,by decide,fun _=>rfl⟩
 have hXV5:XV (x5 0 v0)/\zK (x5 0 v0):=⟨⟨by decide,by decide,by decide,by decide,by decide,by decide,GN,fun c hc=>by
  simp only [x5,cK,nN,or_false] at hc;rw [hc]; exact Yd⟩,by decide,by decide,by decide,by decide,by decide,by decide,fun _=>rfl⟩
 obtain ⟨b1,T1⟩:jT N ⟨[],[],[]⟩ 3 0 ⟨#[99]⟩ 1 [cA,cB]=some (⟨[x3 0 v0],[],[]⟩,0)/\TV ⟨[x3 0 v0],[],[]⟩:=by
  rcases Fe N (by omega) TV.nil hXV3 with ⟨e,_,q,_⟩|q
  ·rcases q with q|⟨y,hy,_⟩
   ·cases q
   ·cases hy
  ·exact q
 obtain ⟨b2,T2⟩:jT N ⟨[x3 0 v0],[],[]⟩ 5 0 ⟨#[99]⟩ 2 [cA]=some (⟨[x3 0 v0,x5 0 v0],[],[]⟩,0)/\TV ⟨[x3 0 v0,x5 0 v0],[],[]⟩:=by
  rcases Fe N (by omega) T1 hXV5 with ⟨e,_,q,_⟩|q
  ·rcases q with q|⟨y,hy,q⟩
   ·cases q
   ·simp only [cG] at hy;rw [hy] at q;exact absurd q (by decide)
  ·exact q
 obtain ⟨L1,S1,l1,e1,T3,_,m1,n1⟩:=I1 N (by omega) T2 (i:=0) (x:=x3 0 v0) (c:=cA) ⟨rfl,by decide,rfl⟩ (by simp) (by simp) 0;have T3':TV ⟨[x3 1 (vN 0),x5 0 v0],L1,S1⟩:=T3;obtain ⟨L2,S2,l2,e2,T4,_,m2,n2⟩:=I1 N (by omega) T3' (i:=0) (x:=x3 1 (vN 0)) (c:=cB) ⟨rfl,by decide,rfl⟩ (fun k hk=>by
  rcases (m1 k).1 hk with rfl|q
  ·exact rAB
  ·cases q) (by simp only [cW] at n1; simp only; omega) 1
 have T4':TV ⟨[x3 2 (vN 1),x5 0 v0],L2,S2⟩:=T4;simp only [cW] at n1 n2;obtain ⟨L3,S3,p3,T5,m3,n3,_⟩:=RH N (by omega) T4' (x:=x3 2 (vN 1)) (by simp) rfl (c:=cA) (by simp [x3]) ((m2 _).2 (.inr ((m1 _).2 (.inl rfl))));simp only at n3 m3;have c3:∀ l∈L3,l=⟨rB,3,[]⟩:=fun l hl=>by
  obtain ⟨g1,g2⟩:=(m3 l).1 hl;rcases (m2 l).1 g1 with q|q
  ·exact q
  ·rcases (m1 l).1 q with rfl|q
   ·exact absurd rfl g2
   ·cases q
 obtain ⟨L4,S4,l4,e4,T6,f6,m4,n4⟩:=I1 N (by omega) T5 (i:=1) (x:=x5 0 v0) (c:=cA) ⟨rfl,by decide,rfl⟩ (fun k hk=>by rw [c3 k hk]; exact fun q=>rAB q.symm) (by simp only; omega) 9;have T6':TV ⟨[x3 2 (vN 1),x5 1 (vN 9)],L4,S4⟩:=T6;have hA5:(⟨rA,5,[]⟩:ai)∈L4:=(m4 _).2 (.inl rfl);have hB3:(⟨rB,3,[]⟩:ai)∈L4:=(m4 _).2 (.inr ((m3 _).2 ⟨(m2 _).2 (.inl rfl),fun q=>rAB q.symm⟩));have c4:∀ l∈L4,l=⟨rA,5,[]⟩∨l=⟨rB,3,[]⟩:=fun l hl=>((m4 l).1 hl).imp id (c3 l);have hids:ids ⟨[x3 2 (vN 1),x5 1 (vN 9)],L4,S4⟩=[3,5]:=rfl;obtain ⟨u5,hu5,ha5,y5,hy5,hn5,hp5⟩:=(T6'.lp _ hA5).dn (x5 1 (vN 9)) (by simp) rfl rfl;simp only at ha5;obtain ⟨u3,hu3,ha3,y3,hy3,hn3⟩:=T6'.pr (x3 2 (vN 1)) (by simp) cA (by show cA∈[cA,cB].take 2; simp);obtain ⟨iu,hiu⟩:=cH hu5;have hu:u3=u5:=De T6'.ss hiu hu3 (ha3.trans ha5.symm);subst hu;obtain ⟨i3,hi3⟩:=cH hy3;obtain ⟨i5,hi5⟩:=cH hy5;have hlast:=((T6'.st u3 hu3).up i5 y5 hi5 hp5).1;have hi35:i3 < i5:=by
  have:=(cd.1 hi3).1;rcases nS i3 i5 with q|q
  ·exact q
  ·have:i3=i5:=by omega
   subst this;rw [hi3] at hi5;simp only [cb] at hi5;rw [hi5,hn5] at hn3;exact absurd hn3 (by decide)
 have hlay:lS N ⟨[x3 2 (vN 1),x5 1 (vN 9)],L4,S4⟩ rA=some u3.Layers:=by
  obtain ⟨j,hj1,hj2⟩:=Hm N T6'.ss hu3;rw [ha5] at hj1;rw [lS,hj1,cc,if_pos (by omega),aO hj2,Bg (T6'.bdL hu3)];rfl
 have hlen:u3.Layers.length=2:=by
  obtain ⟨r,hr⟩:=T6'.ac;have hnd:(u3.Layers.map al.Txn_).Nodup:=by
   unfold List.Nodup;rw [n5];exact (hr u3 hu3).imp fun q e=>by rw [e] at q; omega
  have g1:=jg (l:=[3,5]) hnd fun n hn=>by
   obtain ⟨y,hy,rfl⟩:=cJ.1 hn;exact (T6'.st u3 hu3).id y hy
  simp only [cy,cC,cW] at g1;omega
 obtain ⟨D,a1,_,dD,cD,_⟩:=GW N (by omega) T6' (id:=3) (by simp [hids]);have hD:D.length=2:=by
  have h5:(5:Int)∈D:=by
   have:=cD u3 hu3 i3 i5 y3 y5 hi35 hi3 hi5 (by rw [hn3]; exact dD.me)
   rwa [hn5] at this
  have g1:=jg (l:=[3,5]) dD.nd dD.sub;have g2:=jg (l:=D) (k:=[3,5]) (by decide) fun n hn=>by
   simp only [cK,nN,or_false] at hn;rcases hn with rfl|rfl
   ·exact dD.me
   ·exact h5
  simp only [cC,cW] at g1 g2;omega
 obtain ⟨L5,S5,p5,T7,m5,n5',k5⟩:=RH N (by omega) T6' (x:=x3 2 (vN 1)) (by simp) rfl (c:=cB) (by simp [x3]) hB3;have hA5':(⟨rA,5,[]⟩:ai)∈L5:=(m5 _).2 ⟨hA5,rAB⟩;have c5:∀ l∈L5,l=⟨rA,5,[]⟩:=fun l hl=>by
  obtain ⟨g1,g2⟩:=(m5 l).1 hl;rcases c4 l g1 with q|q
  ·exact q
  ·rw [q] at g2; exact absurd rfl g2
 have f7:CT S5 rA 5 [vN 9]:=k5 rA 5 _ rAB f6;have hpr3:∀ c∈(x3 2 (vN 1)).Calls,ug ⟨[x3 2 (vN 1),x5 1 (vN 9)],L5,S5⟩ c.Target 3:=fun c hc=>
  YJ T7 (x:=x3 2 (vN 1)) (by simp) rfl hc fun l hl _=>by rw [c5 l hl]; decide
 have hnr5:¬ Bu ⟨[x3 2 (vN 1),x5 1 (vN 9)],L5,S5⟩ (x5 1 (vN 9)):=fun q=>
  zI T7 hA5' (x:=x5 1 (vN 9)) (by simp) rfl rfl (q.pr cA (by simp [x5]))
 have hr3:Bu ⟨[x3 2 (vN 1),x5 1 (vN 9)],L5,S5⟩ (x3 2 (vN 1)):=by
  refine ⟨rfl,hpr3,cq.2 fun s hs=>EP (by simp) fun i y hi hyn z hz=>?_⟩;exfalso;obtain ⟨j,hj⟩:=cH hz;rw [cY] at hj;split at hj
  case isFalse=>cases hj
  rename_i hji;have hzm:=cg hj;have hz5:z.Txn_=5:=by
   have:z.Txn_∈[3,5]:=(T7.st s hs).id z hzm;simp only [cK,nN,or_false] at this;rcases this with q|q
   ·obtain ⟨r,hr⟩:=T7.ac;have:=JI (hr s hs) hj hi (q.trans hyn.symm);omega
   ·exact q
  obtain ⟨⟨c,hc,hca⟩,_⟩:=(T7.st s hs).ex z hzm (x5 1 (vN 9)) (by simp) hz5.symm;have hca':s.Actor=rA:=by
   have:=nI hc;simp only [x5,cG] at this;rw [<-hca,this]; rfl
  have hzp:z.Prepared=false:=by
   cases hp:z.Prepared with
   | false=>rfl
   | true=>exact absurd ⟨s,hs,hca',z,hzm,hz5,hp⟩ (zI T7 hA5' (x:=x5 1 (vN 9)) (by simp) rfl rfl)
  have:=((T7.st s hs).up j z hj hzp).1;have:=(cd.1 hi).1;omega
 obtain ⟨t',cs,r1,T8,hres⟩:=Mv N hN T7;have hcs:(∃ ws,cs=[⟨3,⟨#[99]⟩,1,vN 1,ws⟩]/\ws.length=2)/\t'=zz ⟨[x3 2 (vN 1),x5 1 (vN 9)],L5,S5⟩ [3]:=by
  cases hres with
  | nil hno=>exact absurd hr3 (hno _ (by simp))
  | @cons _ _ cs x ps ws hx hr hp hw hT rest=>
   have hx3:x=x3 2 (vN 1):=by
    simp only [cK,nN,or_false] at hx;rcases hx with rfl|rfl
    ·rfl
    ·exact absurd hr hnr5
   subst hx3;have hrem:(zz ⟨[x3 2 (vN 1),x5 1 (vN 9)],L5,S5⟩ [(x3 2 (vN 1)).ID]).Txns=[x5 1 (vN 9)]:=rfl;have hdone:∀ {u u':ae} {cs:List aD},Res N u u' cs->u.Txns=[x5 1 (vN 9)]->(⟨rA,5,[]⟩:ai)∈u.Locks->TV u->cs=[]/\u'=u:=fun h1 h2 h3 h4=>by
    cases h1 with
    | nil=>exact ⟨rfl,rfl⟩
    | @cons _ _ _ y _ _ hy hry=>
     exfalso;rw [h2] at hy;simp only [cG] at hy;subst hy;exact zI h4 h3 (x:=x5 1 (vN 9)) (by rw [h2]; simp) rfl rfl (hry.pr cA (by simp [x5]))
   obtain ⟨q1,q2⟩:=hdone rest hrem hA5' hT;subst q1;have hps:ps.length=2:=by
    obtain ⟨r,g1,g2,g3⟩:=zJ N hN (x:=x3 2 (vN 1)) (by decide) (by decide);rw [g1] at hp;simp only [cb] at hp;subst hp;have hnd:r.Nodup:=g2.imp fun {a b} g e=>by rw [e,lpR,jk] at g; cases g
    have u1:=zU (l:=[rA,rB]) hnd fun a hm=>by
     obtain ⟨c,hc,q⟩:=(g3 a).1 hm;simp only [x3,cK,nN,or_false] at hc;rcases hc with rfl|rfl<;>rw [<-q]<;>simp [cA,cB]
    have u2:=zU (l:=r) (k:=[rA,rB]) (by simp [rAB]) fun a hm=>by
     simp only [cK,nN,or_false] at hm;rcases hm with rfl|rfl
     ·exact (g3 _).2 ⟨cA,by simp [x3],rfl⟩
     ·exact (g3 _).2 ⟨cB,by simp [x3],rfl⟩
    simp only [cC,cW] at u1 u2;omega
   have hwl:∀ {ps:List Ref} {ws:List aS},Wr ⟨[x3 2 (vN 1),x5 1 (vN 9)],L5,S5⟩ 3 ps ws->ws.length=ps.length:=by
    intro ps
    induction ps with
    | nil=>intro ws h; cases ws with
     | nil=>rfl
     | cons=>exact h.elim
    | cons a ps ih=>intro ws h; cases ws with
     | nil=>exact h.elim
     | cons w ws=>simp [ih h.2.2]
   exact ⟨⟨ws,rfl,(hwl hw).trans hps⟩,q2⟩
 obtain ⟨⟨ws,rfl,hws⟩,rfl⟩:=hcs;have hT8:(zz ⟨[x3 2 (vN 1),x5 1 (vN 9)],L5,S5⟩ [3]).Txns=[x5 1 (vN 9)]:=rfl;have hfind:Be N (zz ⟨[x3 2 (vN 1),x5 1 (vN 9)],L5,S5⟩ [3]) 5=some (x5 1 (vN 9),true):=by
  obtain ⟨i,x,g1,g2,g3⟩:=tX (N:=N) (t:=zz ⟨[x3 2 (vN 1),x5 1 (vN 9)],L5,S5⟩ [3]) (n:=5) (by unfold ids; rw [hT8]; simp [x5]);have hxm:=cg g2;rw [hT8] at hxm;simp only [cG] at hxm;subst hxm;rw [Be,g1,cc,if_pos (by omega),aO g2,Fo (T8.tx.x _ (cg g2)).1.bd];rfl
 obtain ⟨r,g1,g2,g3⟩:=zJ N hN (x:=x5 1 (vN 9)) (by decide) (by decide);have hrl:r.length=1:=by
  have hnd:r.Nodup:=g2.imp fun {a b} g e=>by rw [e,lpR,jk] at g; cases g
  have u1:=zU (l:=[rA]) hnd fun a hm=>by
   obtain ⟨c,hc,q⟩:=(g3 a).1 hm;simp only [x5,cK,nN,or_false] at hc;rw [<-q,hc]; simp [cA]
  have u2:0 < r.length:=aeN ((g3 rA).2 ⟨cA,by simp [x5],rfl⟩);simp only [cC,cW] at u1;omega
 have hfields:∃ l,tv N (zz ⟨[x3 2 (vN 1),x5 1 (vN 9)],L5,S5⟩ [3]) rA []=some l/\l.length=1:=by
  obtain ⟨s,hs,ha,y,hy,hyn,hyf⟩:=Xs (D:=[3]) f7 (by decide);obtain ⟨j,hj1,hj2⟩:=Hm N T8.ss hs;rw [ha] at hj1;have hyl:=(cd.1 hy).1;have hbd:=T8.bdL hs;refine ⟨[vN 9],?_,rfl⟩;rw [tv,hj1,cc];simp only [yI,yF];rw [if_pos (by omega),aO hj2,if_pos (by simp; omega),aO hj2,w64 (by have:=hbd.1; omega) (by have:=hbd.1; omega),show ((s.Layers.length:Int) - 1)=((s.Layers.length - 1:Nat):Int) by omega,aO hy,sH (hbd.2 y (cg hy)),hyf];rfl
 obtain ⟨fl,hf1,hf2⟩:=hfields;have loop:∀ fuel:Nat,3<=fuel->fM N (qP N) fuel ([x3 0 v0,x5 0 v0],[],[],0)=qP N [x3 2 (vN 1),x5 0 v0] L2 S2:=by
  intro fuel hf;obtain ⟨m,rfl⟩:∃ m,fuel=m+1+1+1:=⟨fuel - 3,by omega⟩;rw [fM,if_pos (by decide)];show (iJ N ⟨[x3 0 v0,x5 0 v0],[],[]⟩ (x3 0 v0).ID).bind _=_;rw [l1,cc,if_pos rfl,s4,if_neg (by simp),sy];simp only [k9,cc];show (j6 N ⟨[x3 0 v0,x5 0 v0],L1,[]⟩ (x3 0 v0).ID [vN 0] (vN 0)).bind _=_;rw [e1,cc,if_pos rfl,show IntKind.i64.wrap (0+1)=1 from rfl];show fM N _ (m+1+1) ([x3 1 (vN 0),x5 0 v0],L1,S1,1)=_;rw [fM,if_pos (by decide)];show (iJ N ⟨[x3 1 (vN 0),x5 0 v0],L1,S1⟩ (x3 1 (vN 0)).ID).bind _=_;rw [l2,cc,if_pos rfl,s4,if_neg (by simp),sy];simp only [k9,cc];show (j6 N ⟨[x3 1 (vN 0),x5 0 v0],L2,S1⟩ (x3 1 (vN 0)).ID [vN 1] (vN 1)).bind _=_;rw [e2,cc,if_pos rfl,show IntKind.i64.wrap (1+1)=2 from rfl];show fM N _ (m+1) ([x3 2 (vN 1),x5 0 v0],L2,S2,2)=_;rw [fM,if_neg (by decide)]
 unfold uP;show (jT N ⟨[],[],[]⟩ 3 0 ⟨#[99]⟩ 1 [cA,cB]).bind _=_;rw [b1,cc,if_pos rfl];show (jT N ⟨[x3 0 v0],[],[]⟩ 5 0 ⟨#[99]⟩ 2 [cA]).bind _=_;rw [b2,cc,if_pos rfl];refine (loop N (by omega)).trans ?_;rw [qP];show (fU N ⟨[x3 2 (vN 1),x5 0 v0],L2,S2⟩ (x3 2 (vN 1)).ID cA.Target).bind _=_;rw [p3,cc,if_pos rfl];show (iJ N ⟨[x3 2 (vN 1),x5 0 v0],L3,S3⟩ (x5 0 v0).ID).bind _=_;rw [l4,cc,if_pos rfl,we,if_neg (by simp),vh];simp only [k9,cc];show (j6 N ⟨[x3 2 (vN 1),x5 0 v0],L4,S3⟩ (x5 0 v0).ID [vN 9] (vN 9)).bind _=_;rw [e4,cc,if_pos rfl];show (lS N ⟨[x3 2 (vN 1),x5 1 (vN 9)],L4,S4⟩ rA).bind _=_;rw [hlay,cc,if_pos (by rw [hlen]; rfl)];show (jb N ⟨[x3 2 (vN 1),x5 1 (vN 9)],L4,S4⟩).bind _=_;rw [o9 N (by omega) T6',cc,sj,if_neg (by simp),s9];show (jD N ⟨[x3 2 (vN 1),x5 1 (vN 9)],L4,S4⟩ 3).bind _=_;rw [a1,cc,if_pos rfl,wK,if_neg (by simp [hD]),wB];show (fU N ⟨[x3 2 (vN 1),x5 1 (vN 9)],L4,S4⟩ (x3 2 (vN 1)).ID cB.Target).bind _=_;rw [p5,cc,if_pos rfl];show (oq N ⟨[x3 2 (vN 1),x5 1 (vN 9)],L5,S5⟩).bind _=_;rw [r1,cc,if_pos (by rfl)];refine (aO (i:=0) rfl).trans ?_;rw [if_pos (by rfl),sD,if_neg (by simp [hws]),sP];dsimp only;rw [hfind,cc,if_pos rfl];dsimp only;rw [g1,cc,if_pos (by rw [hrl]; rfl)];show (tv N (zz ⟨[x3 2 (vN 1),x5 1 (vN 9)],L5,S5⟩ [3]) rA []).bind _=_;rw [hf1,cc];simp [hf2]
def Rz (N:Nat) (hN:100002<=N):∀ (xs:List Hp) (v:Nat) {t:ae} (acc:List aD),v+xs.length<=60->acc.length<=v * 32->(∀ x∈xs,U8C x)->TV t->∃ t' c,ld N xs v (t.Txns,t.Locks,t.Stacks,acc)=some (t',c)/\TV t'
 | [],v,t,acc,_,_,_,h=>⟨t,acc,by rw [ld],h⟩
 | x::xs,v,t,acc,hl,ha,hx,h=>by
  simp only [cC] at hl;obtain ⟨t',cs,e,h1,h2⟩:=Y4 N hN h (v:=v) (by omega) (hx x (by simp));have hc:cs.length<=32:=by
   rcases h2 with rfl|h2
   ·simp
   ·have:=Yz h2; have:=h.tx.len; omega
  rw [ld,show (⟨t.Txns,t.Locks,t.Stacks⟩:ae)=t from rfl,e,cc];dsimp only;rw [mU (by omega)];exact Rz N hN xs (v+1) (t:=t') (acc++cs) (by omega) (by simp; omega) (fun y hy=>hx y (by simp [hy])) h1
def WM (N:Nat) (hN:100002<=N) {l:List Hp} (hl:l.length<=60) (hw:∀ x∈l,U8C x):∃ t c,uR N l=some (t,c)/\TV t:=by
 rw [uR];exact Rz N hN l 0 (t:=⟨[],[],[]⟩) [] (by omega) (by simp) hw TV.nil
end Go.Proofs.YtmacaidmhchpgaaGreat
