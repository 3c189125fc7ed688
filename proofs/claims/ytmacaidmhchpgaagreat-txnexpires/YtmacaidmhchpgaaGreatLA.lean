/- Plain facts on the models; no program in sight. -/
import Derived.Test.YtmacaidmhchpgaaGreatM
set_option linter.defProp false
set_option linter.unusedSimpArgs false
set_option linter.unusedVariables false
namespace Go.Proofs.YtmacaidmhchpgaaGreat
open Go Go.Proofs Go.Abs
def PC {a b:ByteArray}:sEq a b=true↔a=b:=by
 unfold sEq;rw [beq_iff_eq,ByteArray.toList_eq,ByteArray.toList_eq];obtain ⟨⟨x⟩⟩:=a;obtain ⟨⟨y⟩⟩:=b;simp
theorem GX (a:ByteArray):sEq a a=true:=PC.2 rfl
theorem IZ {c:Prop} [Decidable c] {a b:Bool}:(if c then some a else some b)=some (if c then a else b):=by split<;>rfl
def Nl {c:Prop} [Decidable c] {a b:Bool}:((if c then a else b)=true)↔((c/\a=true)∨(¬ c/\b=true)):=by split<;>simp [*]
def KZ {a b:Bool}:(some a=some b)↔(a=true↔b=true):=by cases a<;>cases b<;>simp
def Gp {α β:Type} {l:List α} {i:Nat} {x:α} {k:α->Option β} (h:l[i]?=some x):gx l (i:Int) k=k x:=aN h
def Lf {α:Type} (e:α->α->Bool):List α->List α->Bool
 | [],_=>true
 | x::xs,y::ys=>e x y && Lf e xs ys
 | _::_,[]=>false
def P6 {α:Type} {e:α->α->Bool} (he:∀ x y,e x y=true↔x=y):∀ {a b:List α},a.length=b.length->(Lf e a b=true↔a=b)
 | [],[],_=>by simp [Lf]
 | [],_::_,h=>by simp at h
 | _::_,[],h=>by simp at h
 | x::a,y::b,h=>by
  simp only [Lf,acM,he,afa];rw [P6 he (by simpa using h)]
def SY {α:Type} {L:List α->Nat->Unit->Option Bool} (a1:List α) (e:α->α->Bool) (h0:∀ v,L [] v ()=some true)
  (h1:∀ x xs v,L (x::xs) v ()=gx a1 (v:Int) fun y=>if e x y=true then L xs (v+1) () else some false) :
  ∀ (xs:List α) (v:Nat),v+xs.length<=a1.length->L xs v ()=some (Lf e xs (a1.drop v))
 | [],v,_=>by rw [h0]; rfl
 | x::xs,v,h=>by
  simp only [acT] at h;have hv:v < a1.length:=by omega
  rw [h1,Gp (acH hv),adQ hv,SY a1 e h0 h1 xs (v+1) (by omega)];simp only [Lf];cases e x a1[v]<;>simp
def eqL {α:Type} (e:α->α->Bool) (a b:List α):Bool:=decide (a.length=b.length) && Lf e a b
def Yn {α:Type} {e:α->α->Bool} (he:∀ x y,e x y=true↔x=y) {a b:List α}:eqL e a b=true↔a=b:=by
 unfold eqL;by_cases h:a.length=b.length
 ·simp [h,P6 he h]
 ·have:¬ a=b:=fun e=>h (by rw [e]);simp [h,this]
def Zh {α:Type} {L:List α->Nat->Unit->Option Bool} (a0 a1:List α) (e:α->α->Bool) (h0:∀ v,L [] v ()=some true)
  (h1:∀ x xs v,L (x::xs) v ()=gx a1 (v:Int) fun y=>if e x y=true then L xs (v+1) () else some false) :
  (if ((a0.length:Nat):Int)=((a1.length:Nat):Int) then L a0 0 () else some false)=some (eqL e a0 a1):=by
 unfold eqL;by_cases h:a0.length=a1.length
 ·rw [if_pos (by omega),SY a1 e h0 h1 a0 0 (by omega),ad4];simp [h]
 ·rw [if_neg (by omega)];simp [h]
def CI {α:Type} (p:α->Bool):List α->Nat->Int
 | [],_=>-1
 | x::xs,v=>if p x=true then (v:Int) else CI p xs (v+1)
theorem kI {α:Type} {L:List α->Nat->Unit->Option Int} (f:α->Option Bool) (p:α->Bool) (h0:∀ v,L [] v ()=some (-1))
  (h1:∀ x xs v,L (x::xs) v ()=(f x).bind fun r=>if r=true then some ((v:Nat):Int) else L xs (v+1) ()) :
  ∀ (xs:List α) (v:Nat),(∀ x∈xs,f x=some (p x))->L xs v ()=some (CI p xs v)
 | [],v,_=>by rw [h0]; rfl
 | x::xs,v,h=>by
  rw [h1,h x (by simp),acC,kI f p h0 h1 xs (v+1) (fun y hy=>h y (by simp [hy]))];simp only [CI];cases p x<;>rfl
def s9 {α:Type} (p:α->Bool):∀ (xs:List α) (v:Nat),decide (0<=CI p xs v)=xs.any p
 | [],v=>rfl
 | x::xs,v=>by
  simp only [CI,agh];by_cases h:p x=true
  ·have:(0:Int)<=(v:Int):=by omega
   simp [h,this]
  ·simpa [h] using s9 p xs (v+1)
def QI {α ρ:Type} {L:List α->Nat->Unit->Option ρ} (p:α->Bool) (k no:Option ρ) (h0:∀ v,L [] v ()=k)
  (h1:∀ x xs v,L (x::xs) v ()=if p x=true then L xs (v+1) () else no) :
  ∀ (xs:List α) (v:Nat),L xs v ()=if xs.all p=true then k else no
 | [],v=>by rw [h0]; rfl
 | x::xs,v=>by
  rw [h1,QI p k no h0 h1 xs (v+1)];simp only [ae5];by_cases h:p x=true<;>simp [h]
theorem tz {α:Type} {l:List α} {i:Nat} {x:α} (h:l[i]?=some x):l.set i x=l:=by
 apply adU;intro j;rw [adj];split
 ·rename_i e;subst e;have:=(acD.1 h).1;rw [if_pos this,h]
 ·rfl
def th {α ρ:Type} {L:Nat->Nat->List α->Option ρ} (P:α->Prop)
  (h1:∀ m v l x,l[v]?=some x->P x->L (m+1) v l=L m (v+1) l) :
  ∀ (m v:Nat) (l:List α),v+m<=l.length->(∀ x∈l,P x)->L m v l=L 0 (v+m) l
 | 0,v,l,_,_=>rfl
 | m+1,v,l,h,hp=>by
  have hv:v < l.length:=by omega
  rw [h1 m v l l[v] (acH hv) (hp _ (adF hv)),th P h1 m (v+1) l (by omega) hp]
  congr 1; omega
def vK {α β:Type} {b:Nat} {l:List α} {k:Option β} (h:l.length * (b+1)<=140737488355328):apn b l k=k:=by simp only [apn]; rw [if_pos h]
def mO {α β:Type} {b:Nat} {l l':List α} {k:List α->Option β} (h:(l.length+l'.length) * (b+1)<=140737488355328):apx b l l' k=k (l++l'):=by simp only [apx]; rw [if_pos h]
end Go.Proofs.YtmacaidmhchpgaaGreat
namespace Go.Proofs.YtmacaidmhchpgaaGreat
open Go Go.Proofs Go.Abs
def w64 {n:Int} (h1:-9223372036854775808<=n) (h2:n<=9223372036854775807):IntKind.i64.wrap n=n:=lW h1 h2
def OG:∀ x:List UInt8,Op.bytesLess x x=false
 | []=>rfl
 | a::x=>by simp [Op.bytesLess,OG x]
def PU:∀ {x y z:List UInt8},Op.bytesLess x y=true->Op.bytesLess y z=true->Op.bytesLess x z=true
 | _,[],_,h1,h2=>by simp [Op.bytesLess] at h1
 | _,_::_,[],h1,h2=>by simp [Op.bytesLess] at h2
 | [],_::_,_::_,h1,h2=>rfl
 | a::x,b::y,c::z,h1,h2=>by
  simp only [Op.bytesLess,adJ,decide_eq_true_eq,acM,beq_iff_eq] at h1 h2 ⊢;rcases h1 with h1|⟨rfl,h1⟩
  ·rcases h2 with h2|⟨rfl,h2⟩
   ·exact .inl (UInt8.lt_trans h1 h2)
   ·exact .inl h1
  ·rcases h2 with h2|⟨rfl,h2⟩
   ·exact .inl h2
   ·exact .inr ⟨rfl,PU h1 h2⟩
def U4:∀ x y:List UInt8,Op.bytesLess x y=true∨x=y∨Op.bytesLess y x=true
 | [],[]=>.inr (.inl rfl)
 | [],_::_=>.inl rfl
 | _::_,[]=>.inr (.inr rfl)
 | a::x,b::y=>by
  simp only [Op.bytesLess,adJ,decide_eq_true_eq,acM,beq_iff_eq];rcases UInt8.lt_or_lt_of_ne (a:=a) (b:=b) |> fun h=>(Classical.em (a=b)).imp id h with rfl|h|h
  ·rcases U4 x y with h|rfl|h
   ·exact .inl (.inr ⟨rfl,h⟩)
   ·exact .inr (.inl rfl)
   ·exact .inr (.inr (.inr ⟨rfl,h⟩))
  ·exact .inl (.inl h)
  ·exact .inr (.inr (.inl h))
def AN {a b:ByteArray}:sEq a b=true↔a=b:=by
 unfold sEq;rw [beq_iff_eq,ByteArray.toList_eq,ByteArray.toList_eq];obtain ⟨⟨x⟩⟩:=a;obtain ⟨⟨y⟩⟩:=b;simp
def TH {a b:ByteArray} (h:a.toList=b.toList):a=b:=AN.1 (by simpa [sEq] using h)
def G3 (a:ByteArray):sLt a a=false:=OG _
def Ou {a b c:ByteArray} (h1:sLt a b=true) (h2:sLt b c=true):sLt a c=true:=PU h1 h2
def S7 (a b:ByteArray):sLt a b=true∨a=b∨sLt b a=true:=by
 rcases U4 a.toList b.toList with h|h|h
 ·exact .inl h
 ·exact .inr (.inl (TH h))
 ·exact .inr (.inr h)
def yI (a b:ByteArray):Int:=if sLt a b=true then -1 else if sEq a b=true then 0 else 1
theorem Vt (N:Nat) (a b:ByteArray):fc N a b=some (yI a b):=by
 have n1:sEq a a=true:=AN.2 rfl;have n2:sEq b b=true:=AN.2 rfl;simp only [fc,lv,n1,n2,acC,yI];cases sLt a b<;>cases sEq a b<;>rfl
def BK {a b:ByteArray}:yI a b=0↔a=b:=by
 unfold yI;constructor
 ·intro h;split at h
  ·omega
  ·split at h
   ·rename_i e; exact AN.1 e
   ·omega
 ·rintro rfl;simp [G3,AN.2 rfl]
def Qw {a b:ByteArray}:yI a b < 0↔sLt a b=true:=by
 unfold yI;split
 ·simp [*]
 ·split<;>simp [*]
end Go.Proofs.YtmacaidmhchpgaaGreat
namespace Go.Proofs.YtmacaidmhchpgaaGreat
open Go Go.Proofs Go.Abs
def rl (a b:Ref):Bool:=sLt a.Type_ b.Type_ || (sEq a.Type_ b.Type_ && sLt a.Key b.Key)
def RI {a b:Ref}:rl a b=true↔sLt a.Type_ b.Type_=true∨(a.Type_=b.Type_/\sLt a.Key b.Key=true):=by
 simp [rl,AN]
def ji (a:Ref):rl a a=false:=by
 simp [rl,G3]
def yQ {a b c:Ref} (h1:rl a b=true) (h2:rl b c=true):rl a c=true:=by
 rw [RI] at *;rcases h1 with h1|⟨e1,h1⟩
 ·rcases h2 with h2|⟨e2,h2⟩
  ·exact .inl (Ou h1 h2)
  ·exact .inl (e2 ▸ h1)
 ·rcases h2 with h2|⟨e2,h2⟩
  ·exact .inl (e1 ▸ h2)
  ·exact .inr ⟨e1.trans e2,Ou h1 h2⟩
def NF {a b:Ref} (h1:a.Type_=b.Type_) (h2:a.Key=b.Key):a=b:=by
 cases a; cases b; simp only at h1 h2; rw [h1,h2]
def IB (a b:Ref):rl a b=true∨a=b∨rl b a=true:=by
 simp only [RI];rcases S7 a.Type_ b.Type_ with h|h|h
 ·exact .inl (.inl h)
 ·rcases S7 a.Key b.Key with q|q|q
  ·exact .inl (.inr ⟨h,q⟩)
  ·exact .inr (.inl (NF h q))
  ·exact .inr (.inr (.inr ⟨h.symm,q⟩))
 ·exact .inr (.inr (.inl h))
def Fb (a b:Ref):Int:=if yI a.Type_ b.Type_=0 then yI a.Key b.Key else yI a.Type_ b.Type_
def Nr (N:Nat) (a b:Ref):mF N a b=some (Fb a b):=by
 simp only [mF,Vt,acC,tj,p8,Fb];by_cases h1:yI a.Type_ b.Type_=0
 ·by_cases h2:yI a.Key b.Key=0<;>simp [h1,h2]
 ·simp [h1]
def AV {a b:Ref}:Fb a b < 0↔rl a b=true:=by
 unfold Fb;rw [RI];by_cases h1:yI a.Type_ b.Type_=0
 ·rw [if_pos h1,Qw];have e:=BK.1 h1;simp [e,G3]
 ·rw [if_neg h1,Qw];have e:¬ a.Type_=b.Type_:=fun q=>h1 (BK.2 q);simp [e]
def Ix {a b:Ref}:Fb a b=0↔a=b:=by
 unfold Fb;by_cases h1:yI a.Type_ b.Type_=0
 ·rw [if_pos h1,BK];have e:=BK.1 h1;exact ⟨fun h=>NF e h,fun h=>by rw [h]⟩
 ·rw [if_neg h1];exact ⟨fun h=>absurd h h1,fun h=>by rw [h] at h1; exact absurd (BK.2 rfl) h1⟩
def PI (N:Nat) (a b:Ref):tK N a b=some (rl a b):=by
 simp only [tK,rl];cases sLt a.Type_ b.Type_<;>cases sEq a.Type_ b.Type_<;>simp
structure VA (a:Ref):Prop where
 t1:1<=a.Type_.size
 t2:a.Type_.size<=32
 k:a.Key.size<=32
structure VL (x:ai):Prop where
 a:VA x.Actor
 o1:1<=x.Owner
 o2:x.Owner<=1099511627776
 wl:x.Waiters.length<=32
 w:∀ n∈x.Waiters,1<=n/\n < x.Owner
 so:x.Waiters.Pairwise (· < ·)
structure VT (t:List ai):Prop where
 len:t.length<=128
 l:∀ x∈t,VL x
 so:t.Pairwise fun a b=>rl a.Actor b.Actor=true
def K8 (N:Nat) {a:Ref} (h:VA a):iO N a=some true:=by
 have:=h.t1; have:=h.t2; have:=h.k;simp only [iO];rw [if_pos (by omega),if_pos (by omega)];simp; omega
def Vv (N:Nat) {a:Ref} (h:VA a):oq N a=some true:=by
 have:=h.t1; have:=h.t2; have:=h.k;simp only [oq];rw [if_pos (by omega),if_pos (by omega)];simp; omega
def PN (N:Nat) {n:Int} (h1:1<=n) (h2:n<=1099511627776):jS N n=some true:=by
 simp [jS,h1,h2]
def Ye (N:Nat) {n:Int} (h1:1<=n) (h2:n<=1099511627776):uF N n=some true:=by
 simp [uF,h1,h2]
def CX {α:Type} {l xs:List α} {v:Nat} {x:α} (hd:l.drop v=x::xs):v < l.length/\l[v]?=some x/\l.drop (v+1)=xs:=by
 have hvl:v < l.length:=by
  rcases aeg v l.length with h|h
  ·exact h
  ·rw [adN h] at hd; simp at hd
 rw [adQ hvl] at hd;simp only [afa] at hd;exact ⟨hvl,by rw [acH hvl,hd.1],hd.2⟩
def Fp {α:Type} {R:α->α->Prop} {l:List α} (hs:l.Pairwise R) {v:Nat} {x:α} (hv:0 < v) (hx:l[v]?=some x):∃ y,l[v - 1]?=some y/\R y x:=by
 have hvl:=(acD.1 hx).1;have hxe:=(acD.1 hx).2;refine ⟨_,acH (by omega),?_⟩;have:=ac1.1 hs (v - 1) v (by omega) hvl (by omega)
 rwa [hxe] at this
def SN {x:ai} (h:VL x):∀ (xs:List Int) (v:Nat),x.Waiters.drop v=xs->fh x xs v ()=some true
 | [],v,_=>rfl
 | n::xs,v,hd=>by
  obtain ⟨hvl,hx,hd'⟩:=CX hd;have hn:=h.w n (acE hx);have hl:=h.wl;have ih:=SN h xs (v+1) hd';rw [fh,if_neg (by omega),if_neg (by omega)];by_cases h0:0 < v
  ·obtain ⟨y,hy,hlt⟩:=Fp h.so h0 hx;rw [if_pos (by omega),w64 (by omega) (by omega),show ((v:Int) - 1)=((v - 1:Nat):Int) by omega,aN hy];have:¬ n<=y:=by omega
   simp [this,iM,ih]
  ·rw [if_neg (by omega)];simp [iM,ih]
def YH (N:Nat) {x:ai} (h:VL x):mu N x=some true:=by
 have hl:=h.wl;have:¬ (32:Int) < (x.Waiters.length:Int):=by omega
 simp [mu,K8 N h.a,PN N h.o1 h.o2,this,lX,lQ,SN h x.Waiters 0 rfl]
def QM (N:Nat) {t:List ai} (h:VT t):∀ (xs:List ai) (v:Nat),t.drop v=xs->jT N t xs v ()=some true
 | [],v,_=>rfl
 | x::xs,v,hd=>by
  obtain ⟨hvl,hx,hd'⟩:=CX hd;have hl:=h.len;have ih:=QM N h xs (v+1) hd';rw [jT,YH N (h.l x (acE hx)),acC,if_pos rfl];by_cases h0:0 < v
  ·obtain ⟨y,hy,hlt⟩:=Fp h.so h0 hx;rw [if_pos (by omega),w64 (by omega) (by omega),show ((v:Int) - 1)=((v - 1:Nat):Int) by omega,aN hy,Nr,acC];have:=AV.2 hlt;have:¬ 0<=Fb y.Actor x.Actor:=by omega
   simp [this,oB,ih]
  ·rw [if_neg (by omega)];simp [oB,ih]
theorem AY (N:Nat) {t:List ai} (h:VT t):jo N t=some true:=by
 have:=h.len;rw [jo,if_neg (by omega)];exact QM N h t 0 rfl
def P5 {x:ai} (h:VL x) (k:Unit->Option Bool):∀ (xs:List Int) (v:Nat),x.Waiters.drop v=xs->eG k x xs v ()=k ()
 | [],v,_=>rfl
 | n::xs,v,hd=>by
  obtain ⟨hvl,hx,hd'⟩:=CX hd;have hn:=h.w n (acE hx);have hl:=h.wl;have ih:=P5 h k xs (v+1) hd';rw [eG,if_neg (by omega),if_neg (by omega)];by_cases h0:0 < v
  ·obtain ⟨y,hy,hlt⟩:=Fp h.so h0 hx;rw [if_pos (by omega),w64 (by omega) (by omega),show ((v:Int) - 1)=((v - 1:Nat):Int) by omega,aN hy];have:¬ n<=y:=by omega
   simp [this,gS,ih]
  ·rw [if_neg (by omega)];simp [gS,ih]
def OI (N:Nat) {t:List ai} (h:VT t):∀ (xs:List ai) (v:Nat),t.drop v=xs->dz N t xs v ()=some true
 | [],v,_=>rfl
 | x::xs,v,hd=>by
  obtain ⟨hvl,hx,hd'⟩:=CX hd;have hl:=h.len;have hv:=h.l x (acE hx);have hw:=hv.wl;have ih:=OI N h xs (v+1) hd';rw [dz,Vv N hv.a,acC,if_pos rfl,Ye N hv.o1 hv.o2,acC,if_pos rfl,if_neg (by omega)];have hj:fM (dz N t xs (v+1)) x=some true:=by
   rw [fM,P5 hv _ x.Waiters 0 rfl,ih]
  by_cases h0:0 < v
  ·obtain ⟨y,hy,hlt⟩:=Fp h.so h0 hx;rw [if_pos (by omega),w64 (by omega) (by omega),show ((v:Int) - 1)=((v - 1:Nat):Int) by omega,aN hy,PI,acC];simp [hlt,fK,hj]
  ·rw [if_neg (by omega)];simp [fK,hj]
theorem UL (N:Nat) {t:List ai} (h:VT t):lf N t=some true:=by
 have:=h.len;rw [lf,if_neg (by omega)];exact OI N h t 0 rfl
section
variable {α:Type} {p:α->Bool}
def plc (p:α->Bool) (t:List α):Nat:=(t.takeWhile p).length
def I2 (t:List α):plc p t<=t.length:=(List.takeWhile_sublist p).length_le
def TG (p:α->Bool) (t:List α):Prop:=t.Pairwise fun a b=>p b=true->p a=true
def uk:∀ {t:List α},TG p t->∀ {i:Nat} {r:α},t[i]?=some r->(p r=true↔i < plc p t)
 | [],hp,i,r,hr=>by simp at hr
 | x::xs,hp,i,r,hr=>by
  have hp':=aeJ.1 hp;by_cases h:p x=true
  ·have e:plc p (x::xs)=plc p xs+1:=by simp [plc,agk,h]
   rw [e];cases i with
   | zero=>simp only [acI,acB] at hr; subst hr; simp [h]
   | succ i=>
    rw [ac8] at hr;rw [uk (t:=xs) hp'.2 hr]; omega
  ·have e:plc p (x::xs)=0:=by simp [plc,agk,h]
   rw [e];constructor
   ·intro hlt;exfalso;cases i with
    | zero=>simp only [acI,acB] at hr; subst hr; exact h hlt
    | succ i=>
     rw [ac8] at hr;exact h (hp'.1 r (acE hr) hlt)
   ·omega
end
def Re {i j:Nat} (h:i+j<=1000000):IntKind.i64.wrap (kt .u64 (IntKind.u64.wrap (IntKind.i64.wrap ((i:Int)+(j:Int)))) 1)=(((i+j) / 2:Nat):Int):=by
 rw [w64 (n:=(i:Int)+(j:Int)) (by omega) (by omega)];have e:IntKind.u64.wrap ((i:Int)+(j:Int))=(i:Int)+(j:Int):=Td ⟨by show (0:Int)<=_; omega,by show _<=(18446744073709551615:Int); omega⟩;rw [e];have e2:kt .u64 ((i:Int)+(j:Int)) 1=(((i+j) / 2:Nat):Int):=by
  show ((i:Int)+(j:Int)).fdiv 2=_;rw [aeF _ (by omega)];omega
 rw [e2,w64 (by omega) (by omega)]
def pa (t:List ai) (a:Ref):Nat:=plc (fun x=>rl x.Actor a) t
def eqA (a b:Ref):Bool:=sEq a.Type_ b.Type_ && sEq a.Key b.Key
def FJ {a b:Ref}:eqA a b=true↔a=b:=by
 simp only [eqA,acM,AN];exact ⟨fun q=>NF q.1 q.2,fun q=>by rw [q]; exact ⟨rfl,rfl⟩⟩
def vy (t:List ai) (a:Ref):Bool:=match t[pa t a]? with
 | some x=>eqA x.Actor a
 | none=>false
def GN {t:List ai} (hs:t.Pairwise fun a b=>rl a.Actor b.Actor=true) (a:Ref):TG (fun x:ai=>rl x.Actor a) t:=hs.imp (fun h1 h2=>yQ h1 h2)
def QD {t:List ai} (h:VT t) (N:Nat) (a:Ref) (kx:Int->Option (Int × Bool)) :
  ∀ (n i j:Nat),j < i+n->i<=pa t a->pa t a<=j->j<=t.length->aY t N a kx n ((i:Int),(j:Int))=kx ((pa t a:Nat):Int)
 | 0,i,j,h1,h2,h3,h4=>by omega
 | n+1,i,j,h1,h2,h3,h4=>by
  have hl:=h.len;rw [aY];by_cases hij:i < j
  ·rw [if_pos (by omega),Re (by omega)];have hm:(i+j) / 2 < t.length:=by omega
   have hx:t[(i+j) / 2]?=some t[(i+j) / 2]:=acH hm;have hc:=uk (GN h.so a) hx;rw [aN hx,pn,Nr];simp only [acC,AV];by_cases hs:rl t[(i+j) / 2].Actor a=true
   ·rw [if_pos hs,w64 (by omega) (by omega)];have:(i+j) / 2 < pa t a:=hc.1 hs;exact QD h N a kx n ((i+j) / 2+1) j (by omega) (by omega) h3 h4
   ·rw [if_neg hs];have:¬ (i+j) / 2 < pa t a:=fun q=>hs (hc.2 q);exact QD h N a kx n i ((i+j) / 2) (by omega) h2 (by omega) (by omega)
  ·rw [if_neg (by omega)];have:i=pa t a:=by omega
   rw [this]
def NK (N:Nat) (hN:200<=N) {t:List ai} (h:VT t) (a:Ref):qn N t a=some (((pa t a:Nat):Int),vy t a):=by
 have hl:=h.len;have hp:pa t a<=t.length:=I2 t;have:=QD h N a (dN t N a) N 0 t.length (by omega) (by omega) hp (by omega);simp only [qn,dg];rw [show (0:Int)=((0:Nat):Int) from rfl,this];unfold dN vy;cases hq:t[pa t a]? with
 | none=>
  have:=aeK.1 hq;rw [if_neg (by omega)]; rfl
 | some s=>
  have:=(acD.1 hq).1;rw [if_pos (by omega),aN hq,pn,Nr];have e:decide (Fb s.Actor a=0)=eqA s.Actor a:=by rw [aeV,decide_eq_true_eq,Ix,FJ]
  simp [e]
def ze {t:List ai} {a:Ref} (h:vy t a=true):∃ x,t[pa t a]?=some x/\x.Actor=a:=by
 unfold vy at h;split at h
 ·rename_i s hs; exact ⟨s,hs,FJ.1 h⟩
 ·cases h
theorem Xn {t:List ai} (hp:t.Pairwise fun a b=>rl a.Actor b.Actor=true) {i:Nat} {x:ai} (hi:t[i]?=some x):pa t x.Actor=i/\vy t x.Actor=true:=by
 have h1:=uk (GN hp x.Actor) hi;simp only [ji] at h1;have hle:pa t x.Actor<=i:=by
  rcases aeg i (pa t x.Actor) with h|h
  ·exact absurd (h1.2 h) (by simp)
  ·exact h
 have hil:=(acD.1 hi).1;have hie:=(acD.1 hi).2;have hpl:pa t x.Actor < t.length:=by omega
 have e:pa t x.Actor=i:=by
  rcases aeg (pa t x.Actor) i with h|h
  ·exfalso;have h2:=uk (GN hp x.Actor) (acH hpl);have h3:=ac1.1 hp _ i hpl hil h;rw [hie] at h3;have:pa t x.Actor < pa t x.Actor:=h2.1 h3;omega
  ·omega
 refine ⟨e,?_⟩;unfold vy;rw [e,hi];exact FJ.2 rfl
end Go.Proofs.YtmacaidmhchpgaaGreat
namespace Go.Proofs.YtmacaidmhchpgaaGreat
open Go Go.Proofs Go.Abs
def Xd {α:Type} {l:List α} {v:Nat} {x:α} (h:l[v]?=some x):l.set v x=l:=by
 apply adU;intro i;rw [adj];by_cases e:v=i
 ·subst e;have hlt:=(acD.1 h).1;simp [hlt,<-h]
 ·simp [e]
def QH (N:Nat) {t:List ai} (h:VT t):∀ (m v:Nat),v+m=t.length->ly N m v t=some t
 | 0,v,hv=>by rw [ly,XZ (by omega)]
 | m+1,v,hv=>by
  have hx:t[v]?=some t[v]:=acH (by omega);have hw:=(h.l _ (acE hx)).wl;rw [ly,aN hx,dR,Vy (by omega),acC];rw [Xd (x:=t[v]) hx];exact QH N h m (v+1) (by omega)
def Ds (N:Nat) {t:List ai} (h:VT t):gf N t=some t:=by
 have:=h.len;rw [gf,eP,Vy (by omega),acC];exact QH N h _ 0 (by omega)
def pz (w:List Int) (n:Int):Nat:=plc (fun x=>decide (x < n)) w
def Z1 {w:List Int} (hs:w.Pairwise (· < ·)) (n:Int):TG (fun x:Int=>decide (x < n)) w:=hs.imp (fun h1 h2=>by simp only [decide_eq_true_eq] at *; omega)
def Mm {w:List Int} (hs:w.Pairwise (· < ·)) {n:Int} {i:Nat} {x:Int} (hx:w[i]?=some x):x < n↔i < pz w n:=by
 have:=uk (Z1 hs n) hx;simpa [pz] using this
def Pq (w:List Int) (n:Int):pz w n<=w.length:=I2 w
def WR (N:Nat) (a b:Int):pq N a b=some (decide (a < b)):=by
 simp [pq,qb]
def Ze {w:List Int} (hs:w.Pairwise (· < ·)) {n:Int}:n∈w↔w[pz w n]?=some n:=by
 constructor
 ·intro h;obtain ⟨i,hi⟩:=adM.1 h;have h1:=Mm hs hi (n:=n);have hle:pz w n<=i:=by omega
  have hil:=(acD.1 hi).1;have hpl:pz w n < w.length:=by omega
  rcases aeg (pz w n) i with q|q
  ·exfalso;have h2:=Mm hs (acH hpl) (n:=n);have h3:=ac1.1 hs _ i hpl hil q;have h4:w[i]=n:=(acD.1 hi).2;omega
  ·have:pz w n=i:=by omega
   rw [this]; exact hi
 ·exact acE
def Ro {w:List Int} (hl:w.length<=32) (hs:w.Pairwise (· < ·)) (N:Nat) (a:Int) (kx:Int->Option (Int × Bool)) :
  ∀ (n i j:Nat),j < i+n->i<=pz w a->pz w a<=j->j<=w.length->dU w N a kx n ((i:Int),(j:Int))=kx ((pz w a:Nat):Int)
 | 0,i,j,h1,h2,h3,h4=>by omega
 | n+1,i,j,h1,h2,h3,h4=>by
  rw [dU];by_cases hij:i < j
  ·rw [if_pos (by omega),Re (by omega)];have hm:(i+j) / 2 < w.length:=by omega
   have hx:w[(i+j) / 2]?=some w[(i+j) / 2]:=acH hm;have hc:=Mm hs hx (n:=a);rw [aN hx,WR];simp only [acC,decide_eq_true_eq];by_cases hlt:w[(i+j) / 2] < a
   ·rw [if_pos hlt,w64 (by omega) (by omega)];have:(i+j) / 2 < pz w a:=hc.1 hlt;exact Ro hl hs N a kx n ((i+j) / 2+1) j (by omega) (by omega) h3 h4
   ·rw [if_neg hlt];have:¬ (i+j) / 2 < pz w a:=fun q=>hlt (hc.2 q);exact Ro hl hs N a kx n i ((i+j) / 2) (by omega) h2 (by omega) (by omega)
  ·rw [if_neg (by omega)];have:i=pz w a:=by omega
   rw [this]
def Zo (N:Nat) (hN:200<=N) {w:List Int} (hl:w.length<=32) (hs:w.Pairwise (· < ·)) (a:Int):gu N w a=some (((pz w a:Nat):Int),decide (a∈w)):=by
 have hp:=Pq w a;have:=Ro hl hs N a (js w a N) N 0 w.length (by omega) (by omega) hp (by omega);simp only [gu];rw [show (0:Int)=((0:Nat):Int) from rfl,this];unfold js;have hm:=Ze hs (n:=a);cases hq:w[pz w a]? with
 | none=>
  have:=aeK.1 hq;rw [if_neg (by omega)];rw [hq] at hm;have:a∉w:=fun q=>by simpa using hm.1 q
  simp [this]
 | some s=>
  have:=(acD.1 hq).1;rw [if_pos (by omega),aN hq];rw [hq] at hm;by_cases e:s=a
  ·subst e;have:s∈w:=hm.2 rfl;simp [this]
  ·have:a∉w:=fun q=>e (adp (hm.1 q));simp [e,this,kX]
def Fe (w:List Int) (n:Int):List Int:=w.take (pz w n)++[n]++w.drop (pz w n)
def KM {w:List Int} {n z:Int}:z∈Fe w n↔z=n∨z∈w:=by
 unfold Fe;have:z∈w↔z∈w.take (pz w n)∨z∈w.drop (pz w n):=by rw [<-acZ,ad7]
 rw [this];simp only [acZ,acW];constructor
 ·rintro ((h|h)|h)<;>simp [h]
 ·rintro (h|h|h)<;>simp [h]
def WN {w:List Int} {n:Int}:(Fe w n).length=w.length+1:=by
 have:=Pq w n;simp [Fe]; omega
def YS {w:List Int} (hs:w.Pairwise (· < ·)) {n:Int} (hn:n∉w):(Fe w n).Pairwise (· < ·):=by
 unfold Fe;have hp:=Pq w n;have h1:∀ z∈w.take (pz w n),z < n:=by
  intro z hz;obtain ⟨i,hi⟩:=adM.1 hz;have hil:=(acD.1 hi).1;rw [adG] at hil;rw [adO (by omega)] at hi;exact (Mm hs hi).2 (by omega)
 have h2:∀ z∈w.drop (pz w n),n < z:=by
  intro z hz;obtain ⟨i,hi⟩:=adM.1 hz;rw [adb] at hi;have:=Mm hs hi (n:=n);have hne:z≠n:=fun q=>hn (q ▸ acE hi);omega
 rw [adv,ad3];refine ⟨hs.sublist (afl _ _),?_,fun a ha b hb=>?_⟩
 ·rw [aeH,aeJ];exact ⟨fun b hb=>h2 b hb,hs.sublist (afP _ _)⟩
 ·have:=h1 a ha;rcases acZ.1 hb with hb|hb
  ·rw [acW] at hb; omega
  ·have:=h2 b hb; omega
def acq (t:List ai) (a:Ref) (n:Int):List ai × Int × Int:=
 if vy t a=true then
  match t[pa t a]? with
  | some x=>if x.Owner=n then (t,1,0) else if x.Owner < n then (t,3,0) else if n∈x.Waiters then (t,2,0) else if x.Waiters.length=32 then ([],0,5) else (t.set (pa t a) ⟨x.Actor,x.Owner,Fe x.Waiters n⟩,2,0)
  | none=>([],0,0)
 else if t.length=128 then ([],0,5) else (t.take (pa t a)++[⟨a,n,[]⟩]++t.drop (pa t a),1,0)
def Xy (t:List ai) (a:Ref):pa t a<=t.length:=I2 t
def Y3 (N:Nat) (hN:200<=N) {t:List ai} (h:VT t) {a:Ref} (ha:VA a) {n:Int} (n1:1<=n) (n2:n<=1099511627776):qd N t a n=some (acq t a n):=by
 have hl:=h.len;have hp:=Xy t a;simp only [qd,AY N h,K8 N ha,PN N n1 n2,acC,if_true,ac5,pw,acO,if_false,oP,NK N hN h];unfold acq;by_cases hh:vy t a=true
 ·obtain ⟨x,hx,hxa⟩:=ze hh;have hv:=h.l x (acE hx);have hw:=hv.wl;rw [if_pos hh,if_pos hh,aN hx,Zo N hN hv.wl hv.so,hx];simp only [acC,Ds N h];by_cases e1:x.Owner=n
  ·simp [e1]
  ·by_cases e2:x.Owner < n
   ·simp [e1,e2]
   ·by_cases e3:n∈x.Waiters
    ·simp [e1,e2,e3]
    ·by_cases e4:x.Waiters.length=32
     ·simp [e1,e2,e3,e4]
     ·have e4':¬ ((x.Waiters.length:Nat):Int)=32:=by omega
      have hpz:=Pq x.Waiters n;simp only [e1,e2,e3,e4,e4',if_false,decide_false,acO,aN hx];unfold mN I0;rw [if_pos ⟨by omega,by omega,rfl,by omega⟩];simp [Fe]
 ·rw [if_neg hh,if_neg hh];by_cases e:t.length=128
  ·rw [if_pos (by omega),if_pos e]
  ·rw [if_neg (by omega),if_neg e,Ds N h,acC];unfold lO I0;rw [if_pos ⟨by omega,by omega,rfl,by omega⟩];simp
def Qc {α β:Type} {R:β->β->Prop} {f:α->β} {l:List α} (h:l.Pairwise fun a b=>R (f a) (f b)) {i:Nat} {x y:α} (hx:l[i]?=some x) (he:f y=f x):(l.set i y).Pairwise fun a b=>R (f a) (f b):=by
 rw [ac1] at *;intro j k hj hk hjk;rw [ac7] at hj hk;have hxi:l[i]'((acD.1 hx).1)=x:=(acD.1 hx).2;have key:∀ j (hj:j < l.length),f ((l.set i y)[j]'(by rw [ac7]; exact hj))=f l[j]:=by
  intro j hj;rw [List.getElem_set];split
  ·rename_i e; subst e; rw [he,hxi]
  ·rfl
 rw [key j hj,key k hk];exact h j k hj hk hjk
def VT.set {t:List ai} (h:VT t) {i:Nat} {x y:ai} (hx:t[i]?=some x) (he:y.Actor=x.Actor) (hy:VL y):VT (t.set i y):=by
 refine ⟨by rw [ac7]; exact h.len,fun z hz=>?_,Qc (f:=ai.Actor) (R:=fun a b=>rl a b=true) h.so hx he⟩;rcases afT hz with hz|rfl
 ·exact h.l z hz
 ·exact hy
def Yr {t:List ai} (hs:t.Pairwise fun a b=>rl a.Actor b.Actor=true) {a:Ref} (hh:¬ vy t a=true) (x:ai) (hx:x.Actor=a):(t.take (pa t a)++[x]++t.drop (pa t a)).Pairwise fun a b=>rl a.Actor b.Actor=true:=by
 have h1:∀ z∈t.take (pa t a),rl z.Actor a=true:=by
  intro z hz;obtain ⟨i,hi⟩:=adM.1 hz;have hil:=(acD.1 hi).1;rw [adG] at hil;rw [adO (by omega)] at hi;exact (uk (GN hs a) hi).2 (by show i < pa t a; omega)
 have h2:∀ z∈t.drop (pa t a),rl a z.Actor=true:=by
  intro z hz;obtain ⟨i,hi⟩:=adM.1 hz;rw [adb] at hi;have hc:=uk (GN hs a) hi;rcases IB z.Actor a with q|q|q
  ·have:pa t a+i < pa t a:=hc.1 q;omega
  ·exact absurd (q ▸ (Xn hs hi).2) hh
  ·exact q
 rw [adv,ad3];refine ⟨hs.sublist (afl _ _),?_,fun y hy z hz=>?_⟩
 ·rw [aeH,aeJ];exact ⟨fun b hb=>hx ▸ h2 b hb,hs.sublist (afP _ _)⟩
 ·have:=h1 y hy;rcases acZ.1 hz with hz|hz
  ·rw [acW] at hz; rw [hz,hx]; exact this
  ·exact yQ this (h2 z hz)
def Y5 {t:List ai} (h:VT t) {a:Ref} (ha:VA a) {n:Int} (n1:1<=n) (n2:n<=1099511627776):VT (acq t a n).1:=by
 have nil:VT []:=⟨by simp,by simp,List.Pairwise.nil⟩;have hl:=h.len;have hp:=Xy t a;unfold acq;split
 ·rename_i hh;obtain ⟨x,hx,hxa⟩:=ze hh;have hv:=h.l x (acE hx);have hw:=hv.wl;rw [hx];dsimp only;split
  ·exact h
  split
  ·exact h
  split
  ·exact h
  split
  ·exact nil
  rename_i e1 e2 e3 e4;exact h.set hx rfl ⟨hv.a,hv.o1,hv.o2,by rw [WN]; show x.Waiters.length+1<=32; omega,fun z hz=>by
   rcases KM.1 hz with rfl|hz
   ·exact ⟨n1,by show z < x.Owner; omega⟩
   ·exact hv.w z hz,YS hv.so e3⟩
 ·rename_i hh;split
  ·exact nil
  ·rename_i e;refine ⟨by simp; omega,fun z hz=>?_,Yr h.so hh ⟨a,n,[]⟩ rfl⟩;simp only [acZ,acW] at hz;rcases hz with (hz|rfl)|hz
   ·exact h.l z (adC hz)
   ·exact ⟨ha,n1,n2,by simp,by simp,List.Pairwise.nil⟩
   ·exact h.l z (aeb hz)
end Go.Proofs.YtmacaidmhchpgaaGreat
namespace Go.Proofs.YtmacaidmhchpgaaGreat
open Go Go.Proofs Go.Abs
def yw {α:Type} {l:List α} {k:Nat} {x:α} (h:k < l.length):(l.set k x).take (k+1)=l.take k++[x]:=by
 rw [aeo,adj];simp only [if_true,h,aeI];rw [agj (acU k)]
theorem VG (N:Nat) (x id:Int):ll N x id=some (decide (x=id)):=rfl
def Qs (N:Nat) (id:Int):∀ (xs:List Int) (v:Nat),(id∉xs/\bj N id xs v ()=some (-1))∨∃ i,xs[i]?=some id/\id∉xs.take i/\bj N id xs v ()=some ((v+i:Nat):Int)
 | [],v=>.inl ⟨by simp,rfl⟩
 | x::xs,v=>by
  rw [bj,VG,acC];by_cases e:x=id
  ·exact .inr ⟨0,by simp [e],by simp,by simp [e]⟩
  ·have e':¬ id=x:=fun q=>e q.symm;rcases Qs N id xs (v+1) with ⟨h1,h2⟩|⟨i,h1,h2,h3⟩
   ·exact .inl ⟨by simp [e',h1],by simp [e,h2]⟩
   ·refine .inr ⟨i+1,by simpa using h1,by simp [e',h2],?_⟩;simp only [e,decide_false,acO,if_false,h3]
    congr 2; omega
def neB (id:Int) (x:Int):Bool:=!decide (x=id)
structure Xv (a l:List Int) (id:Int) (i j:Nat):Prop where
 len:l.length=a.length
 ij:i < j
 jl:j<=a.length
 pre:l.take i=(a.take j).filter (neB id)
 rest:∀ q,j<=q->l[q]?=a[q]?
theorem IV (N:Nat) (a:List Int) (id:Int) (ha:a.length<=1000) (kx:List Int->Int->Option (List Int)):∀ (n:Nat) (l:List Int) (i j:Nat),a.length < j+n->Xv a l id i j->∃ l' i',Xv a l' id i' a.length/\bg N id kx n (l,(i:Int),(j:Int))=kx l' ((i':Nat):Int)
 | 0,l,i,j,hn,h=>by have:=h.jl; omega
 | n+1,l,i,j,hn,h=>by
  have hl:=h.len; have hij:=h.ij; have hj:=h.jl;rw [bg];by_cases hlt:j < a.length
  ·have g1:l[j]?=some a[j]:=by rw [h.rest j (acU _),acH hlt]
   have htk:a.take (j+1)=a.take j++[a[j]]:=by rw [aeo,acH hlt]; rfl
   rw [if_pos (by omega),aN g1,VG,acC,w64 (n:=(j:Int)+1) (by omega) (by omega),show ((j:Int)+1)=((j+1:Nat):Int) by omega];by_cases e:a[j]=id
   ·simp only [e,decide_true,if_true];refine IV N a id ha kx n l i (j+1) (by omega) ⟨hl,by omega,by omega,?_,fun q hq=>h.rest q (by omega)⟩;rw [h.pre,htk,aeh]; simp [neB,e]
   ·have hil:i < l.length:=by omega
    simp only [e,decide_false,acO,if_false];rw [aN (acH hil),w64 (n:=(i:Int)+1) (by omega) (by omega),show ((i:Int)+1)=((i+1:Nat):Int) by omega,acX];refine IV N a id ha kx n (l.set i a[j]) (i+1) (j+1) (by omega) ⟨by simp [hl],by omega,by omega,?_,fun q hq=>by rw [aef (by omega)]; exact h.rest q (by omega)⟩;rw [yw hil,h.pre,htk,aeh]; simp [neB,e]
  ·rw [if_neg (by omega)];have:j=a.length:=by omega
   subst this;exact ⟨l,i,h,rfl⟩
def UN (N:Nat) (hN:1001<=N) (a:List Int) (id:Int) (ha:a.length<=1000):bA N a id=some (a.filter (neB id)):=by
 unfold bA dJ;rcases Qs N id a 0 with ⟨h1,h2⟩|⟨i,h1,h2,h3⟩
 ·rw [h2,acC,if_pos rfl];have hf:a.filter (neB id)=a:=aeC.2 (fun x hx=>by
   simp only [neB];by_cases e:x=id
   ·exact absurd (e ▸ hx) h1
   ·simp [e])
  rw [hf]
 ·have hil:=(acD.1 h1).1;rw [h3,acC,if_neg (by omega),adm,w64 (by omega) (by omega),show ((i:Int)+1)=((i+1:Nat):Int) by omega];have hd:Xv a a id i (i+1):=⟨rfl,by omega,by omega,by
   rw [aeo,h1,aeI,aeh];have e1:(a.take i).filter (neB id)=a.take i:=aeC.2 fun x hx=>by
    simp only [neB];by_cases e:x=id
    ·exact absurd (e ▸ hx) h2
    ·simp [e]
   rw [e1]; simp [neB],fun _ _=>rfl⟩
  obtain ⟨l',i',h',e'⟩:=IV N a id ha dY N a i (i+1) (by omega) hd;rw [e'];have q1:=h'.len; have q2:=h'.ij;unfold dY slx;rw [acX,if_pos ⟨by omega,by omega,by omega,by omega⟩];dsimp only;rw [if_pos ⟨by omega,by omega,by omega,by rw [Nq (by omega)]; omega⟩];try dsimp only
  rw [Lx (by omega),h'.pre,ac3 (acU _)]
def u6 (w:List Int):Int:=(w[w.length - 1]?).getD 0
def pE (t:List ai) (p:Nat):List ai × Int:=match t[p]? with
 | some x=>if x.Waiters.length=0 then (t.take p++t.drop (p+1),0) else (t.set p ⟨x.Actor,u6 x.Waiters,x.Waiters.take (x.Waiters.length - 1)⟩,u6 x.Waiters)
 | none=>(t,0)
theorem Eb {w:List Int} (h:w.length≠0):w[w.length - 1]?=some (u6 w):=by
 have:w.length - 1 < w.length:=by omega
 rw [u6,acH this]; rfl
def Tb (N:Nat) {t:List ai} {p:Nat} {x:ai} (hx:t[p]?=some x) (hp:t.length<=1000) (hw:x.Waiters.length<=32):tv N t (p:Int)=some (pE t p):=by
 have hlt:=(acD.1 hx).1;rw [tv,aN hx,pE,hx];dsimp only;by_cases e:x.Waiters.length=0
 ·rw [if_pos (by omega),if_pos e,w64 (by omega) (by omega)];unfold mf Uh;rw [if_pos ⟨by omega,by omega,by omega⟩,acC];simp only [acX,show ((p:Int)+1).toNat=p+1 by omega]
 ·rw [if_neg (by omega),if_neg e,w64 (by omega) (by omega),show ((x.Waiters.length:Nat):Int) - 1=((x.Waiters.length - 1:Nat):Int) by omega,aN (Eb e)];unfold slt;rw [acX,if_pos ⟨by omega,by omega⟩];simp only [agl,acX]
def VL.passed {x:ai} (h:VL x) (e:x.Waiters.length≠0):VL ⟨x.Actor,u6 x.Waiters,x.Waiters.take (x.Waiters.length - 1)⟩:=by
 have hg:=Eb e;have hm:=h.w _ (acE hg);have h1:=h.o2; have h2:=h.wl;refine ⟨h.a,hm.1,by show u6 x.Waiters<=_; omega,by simp; omega,fun z hz=>⟨(h.w z (adC hz)).1,?_⟩,h.so.sublist (afl _ _)⟩;obtain ⟨i,hi⟩:=adM.1 hz;have hil:=(acD.1 hi).1;rw [adG] at hil;rw [adO (by omega)] at hi;have hlt:i < x.Waiters.length:=by omega
 have:=ac1.1 h.so i (x.Waiters.length - 1) hlt (by omega) (by omega);rw [(acD.1 hi).2,(acD.1 hg).2] at this;exact this
def Xe {t:List ai} (h:VT t) (p:Nat):VT (pE t p).1:=by
 unfold pE;split
 ·rename_i x hx;split
  ·refine ⟨?_,fun z hz=>?_,?_⟩
   ·have:=h.len;simp only [adi,adG,ae3]; omega
   ·rcases acZ.1 hz with hz|hz
    ·exact h.l z (adC hz)
    ·exact h.l z (aeb hz)
   ·refine h.so.sublist ?_
    conv=>rhs; rw [<-ad7 p t]
    refine List.Sublist.append (List.Sublist.refl _) ?_;rw [<-ae0];exact afP _ _
  ·rename_i e;exact h.set hx rfl ((h.l x (acE hx)).passed e)
 ·exact h
def rls (t:List ai) (a:Ref) (n:Int):List ai × Int × Int:=
 if vy t a=true then
  match t[pa t a]? with
  | some x=>if x.Owner=n then ((pE t (pa t a)).1,(pE t (pa t a)).2,0) else ([],0,10)
  | none=>([],0,0)
 else ([],0,10)
def Y0 (N:Nat) (hN:200<=N) {t:List ai} (h:VT t) {a:Ref} (ha:VA a) {n:Int} (n1:1<=n) (n2:n<=1099511627776):mE N t a n=some (rls t a n):=by
 have hl:=h.len;simp only [mE,AY N h,K8 N ha,PN N n1 n2,acC,if_true,ac5,pB,acO,if_false,oQ,NK N hN h];unfold rls;by_cases hh:vy t a=true
 ·obtain ⟨x,hx,hxa⟩:=ze hh;have hv:=h.l x (acE hx);rw [if_pos hh,if_pos hh,aN hx,hx];by_cases e:x.Owner=n
  ·simp [e,lq,tD,Ds N h,Tb N hx (by omega) hv.wl]
  ·simp [e,lq]
 ·rw [if_neg hh,if_neg hh];simp [lq]
def VT.nil:VT []:=⟨by simp,by simp,List.Pairwise.nil⟩
def j3 (n:Int):List ai->List ai × List az
 | []=>([],[])
 | x::xs=>if x.Owner=n then (if x.Waiters.length=0 then j3 n xs else (⟨x.Actor,u6 x.Waiters,x.Waiters.take (x.Waiters.length - 1)⟩::(j3 n xs).1,⟨x.Actor,u6 x.Waiters⟩::(j3 n xs).2)) else (x::(j3 n xs).1,(j3 n xs).2)
def zP {α:Type} {A B:List α} {x:α}:(A++x::B)[A.length]?=some x:=by simp
def JN {α:Type} {A B:List α} {x y:α}:(A++x::B).set A.length y=A++y::B:=by simp
def UE {A B:List ai} {x:ai} (e:x.Waiters.length=0):pE (A++x::B) A.length=(A++B,0):=by
 rw [pE,zP];dsimp only;rw [if_pos e];simp
def Uj {A B:List ai} {x:ai} (e:x.Waiters.length≠0):pE (A++x::B) A.length=(A++⟨x.Actor,u6 x.Waiters,x.Waiters.take (x.Waiters.length - 1)⟩::B,u6 x.Waiters):=by
 rw [pE,zP];dsimp only;rw [if_neg e,JN]
def Xb {x:ai} (h:VL x) (e:x.Waiters.length≠0):1<=u6 x.Waiters:=(h.w _ (acE (Eb e))).1
def Eg (N:Nat) (n:Int):∀ (B A:List ai) (g:List az) (k:Nat),B.length < k->A.length+B.length<=200->g.length+B.length<=1000->(∀ x∈B,VL x)->eH n N k (A++B,g,((A.length:Nat):Int))=some (A++(j3 n B).1,g++(j3 n B).2)
 | _,_,_,0,h,_,_,_=>by omega
 | [],A,g,k+1,h,h1,h2,hB=>by
  rw [eH,if_neg (by simp)];simp [j3]
 | x::B,A,g,k+1,h,h1,h2,hB=>by
  simp only [acT] at h h1 h2;have hx:=hB x (by simp);rw [eH,if_pos (by simp; omega),aN zP];by_cases e:x.Owner=n
  ·rw [if_pos e,Tb N zP (by simp; omega) hx.wl,acC];by_cases e0:x.Waiters.length=0
   ·rw [UE e0];dsimp only;rw [if_pos rfl,Eg N n B A g k (by omega) (by omega) (by omega) (fun y hy=>hB y (by simp [hy]))];simp [j3,e,e0]
   ·have hp:=Xb hx e0;rw [Uj e0];dsimp only;rw [if_neg (by omega),Zs (by simp only [acT,adh]; omega),w64 (by omega) (by omega)];have:=Eg N n B (A++[⟨x.Actor,u6 x.Waiters,x.Waiters.take (x.Waiters.length - 1)⟩]) (g++[⟨x.Actor,u6 x.Waiters⟩]) k (by omega) (by simp; omega) (by simp; omega) (fun y hy=>hB y (by simp [hy]));simp only [adi,acT,adh,adv,aeH] at this;rw [show ((A.length:Nat):Int)+1=((A.length+(0+1):Nat):Int) by omega,this];simp [j3,e,e0]
  ·rw [if_neg e,w64 (by omega) (by omega)];have:=Eg N n B (A++[x]) g k (by omega) (by simp; omega) (by omega) (fun y hy=>hB y (by simp [hy]));simp only [adi,acT,adh,adv,aeH] at this;rw [show ((A.length:Nat):Int)+1=((A.length+(0+1):Nat):Int) by omega,this];simp [j3,e]
def U9 (N:Nat) (hN:200<=N) {t:List ai} (h:VT t) (n:Int):lH N t n=some (j3 n t):=by
 have hl:=h.len;have:=Eg N n t [] [] N (by omega) (by simp; omega) (by simp; omega) h.l;simp only [lH,AY N h,acC,if_true,Ds N h];simpa using this
def DL {n:Int}:∀ {t:List ai} {y:ai},y∈(j3 n t).1->∃ x∈t,y.Actor=x.Actor/\(VL x->VL y)
 | [],y,h=>by simp [j3] at h
 | x::xs,y,h=>by
  unfold j3 at h;split at h
  ·split at h
   ·obtain ⟨z,hz,q⟩:=DL h;exact ⟨z,by simp [hz],q⟩
   ·rename_i e0;rcases ac6.1 h with rfl|h
    ·exact ⟨x,by simp,rfl,fun hv=>hv.passed e0⟩
    ·obtain ⟨z,hz,q⟩:=DL h;exact ⟨z,by simp [hz],q⟩
  ·rcases ac6.1 h with rfl|h
   ·exact ⟨y,by simp,rfl,id⟩
   ·obtain ⟨z,hz,q⟩:=DL h;exact ⟨z,by simp [hz],q⟩
def PV {n:Int}:∀ (t:List ai),(j3 n t).1.length<=t.length
 | []=>by simp [j3]
 | x::xs=>by
  have:=PV (n:=n) xs;unfold j3;split
  ·split<;>simp<;>omega
  ·simp; omega
def S6 {n:Int}:∀ {t:List ai},(t.Pairwise fun a b=>rl a.Actor b.Actor=true)->(j3 n t).1.Pairwise fun a b=>rl a.Actor b.Actor=true
 | [],_=>by simp [j3]
 | x::xs,h=>by
  rw [aeJ] at h;have ih:=S6 (n:=n) h.2;have hd:∀ y∈(j3 n xs).1,rl x.Actor y.Actor=true:=by
   intro y hy;obtain ⟨z,hz,q,_⟩:=DL hy;rw [q]; exact h.1 z hz
  unfold j3;split
  ·split
   ·exact ih
   ·rw [aeJ]; exact ⟨hd,ih⟩
  ·rw [aeJ]; exact ⟨hd,ih⟩
def SU {t:List ai} (h:VT t) (n:Int):VT (j3 n t).1:=by
 refine ⟨adW (PV t) h.len,fun y hy=>?_,S6 h.so⟩;obtain ⟨x,hx,_,q⟩:=DL hy;exact q (h.l x hx)
def wd1 (n:Int) (x:ai):ai:=⟨x.Actor,x.Owner,x.Waiters.filter (neB n)⟩
theorem XD (N:Nat) (hN:1001<=N) (n:Int):∀ (B A:List ai) (m:Nat),m=B.length->(∀ x∈B,VL x)->iX N n m A.length (A++B)=some (A++B.map (wd1 n))
 | [],A,m,hm,hB=>by subst hm; simp [iX]
 | x::B,A,m,hm,hB=>by
  subst hm;have hx:=hB x (by simp);have hw:=hx.wl;rw [acT,iX,aN zP,UN N hN _ n (by omega),acC,JN];have:=XD N hN n B (A++[wd1 n x]) B.length rfl (fun y hy=>hB y (by simp [hy]));simp only [adi,acT,adh,adv,aeH,wd1] at this;rw [this]; rfl
def ZZ (N:Nat) (hN:1001<=N) {t:List ai} (h:VT t) (n:Int):oz N t n=some (t.map (wd1 n)):=by
 have:=XD N hN n t [] t.length rfl h.l;simp only [oz,AY N h,acC,if_true,Ds N h];simpa using this
def XP {t:List ai} (h:VT t) (n:Int):VT (t.map (wd1 n)):=by
 refine ⟨by rw [acL]; exact h.len,fun y hy=>?_,?_⟩
 ·obtain ⟨x,hx,rfl⟩:=ade.1 hy;have hv:=h.l x hx;exact ⟨hv.a,hv.o1,hv.o2,adW (ae1 _ _) hv.wl,fun z hz=>hv.w z (aee.1 hz).1,hv.so.sublist List.filter_sublist⟩
 ·rw [ad2];exact h.so
end Go.Proofs.YtmacaidmhchpgaaGreat
namespace Go.Proofs.YtmacaidmhchpgaaGreat
open Go Go.Proofs Go.Abs
def JH (l:List ByteArray):Bool:=l.all fun s=>decide (s.size<=64)
def Mb:∀ (xs:List ByteArray) (v:Nat),jE xs v ()=some (JH xs)
 | [],v=>rfl
 | x::xs,v=>by
  have ih:=Mb xs (v+1);simp only [jE,ih,JH,ae5]
  grind
def mP (v:Value):Bool:=
 decide (0<=v.Kind) && decide (v.Kind<=5) &&
 decide (v.N=0∨v.Kind=1∨(v.Kind=2/\v.N=1)) &&
 (sEq v.S ⟨#[]⟩ || decide (v.Kind=3)) && (decide (v.I.length=0) || decide (v.Kind=4)) && (decide (v.L.length=0) || decide (v.Kind=5)) &&
 decide (v.S.size<=64) && decide (v.I.length<=16) && decide (v.L.length<=16) && JH v.L
def qU (N:Nat) (v:Value):gY N v=some (mP v):=by
 simp only [gY,qs,qD,qL,qI,jM,lR,mg,jK,qJ,Mb,mP];generalize JH v.L=q;generalize sEq v.S ⟨#[]⟩=z;cases z<;>cases q<;>simp only [IZ,KZ,Nl,if_true,if_false,acO,acM,adJ,adE,decide_eq_true_eq,decide_eq_false_iff_not,ads,adz,adA,ady,adK,ado,ac5,ac9,and_false,false_and,or_false,false_or,afQ,true_and,and_true,iff_false,false_iff,not_false_eq_true,not_true_eq_false,true_or,or_true ]<;>omega
def XL (a b:List Int):Bool:=eqL (fun x y=>decide (x=y)) a b
def GG (a b:Ref):Bool:=sEq a.Type_ b.Type_ && sEq a.Key b.Key
def UP {a b:List Int}:XL a b=true↔a=b:=Yn (by simp)
def Dl (a b:Ref):GG a b=true↔a=b:=by
 obtain ⟨a1,a2⟩:=a;obtain ⟨b1,b2⟩:=b;simp [GG,PC]
def KN (N:Nat) (a b:List Int):tZ N a b=some (XL a b):=
 Zh (L:=lg b) a b _ (fun _=>rfl) (fun x xs v=>by simp [lg])
def Xz (s:ByteArray):Bool:=decide (1<=s.size) && decide (s.size<=32)
def Ty (r:Ref):Bool:=decide (1<=r.Type_.size) && decide (r.Type_.size<=32) && decide (r.Key.size<=32)
def Jq {α:Type} (p:α->Bool) (l:List α):(l.any fun x=>!p x)=!(l.all p):=by
 induction l with
 | nil=>rfl
 | cons x l ih=>simp [ih]
def NA (v:Value):Bool:=mP v && !decide (v.Kind=0)
def qE (c:ah):Bool:=Ty c.Target && Xz c.Method && decide (c.Args.length<=4) && c.Args.all NA
def YN (N:Nat) (l:List Value):bw N l=some (!(l.all NA)):=by
 have h:=kI (L:=bY N) (my N) (fun v=>!NA v) (fun _=>rfl) (fun _ _ _=>rfl) l 0 (fun x _=>by
  simp only [my,qU,acC,NA];by_cases h:x.Kind=0<;>simp [h])
 simp only [bw,dy,h,acC,s9,Jq]
def Lb (N:Nat) (c:ah):qh N c=some (qE c):=by
 simp only [qh,iA,iF,YN,acC,agr,qE,Ty,Xz];generalize c.Args.all NA=z;cases z<;>simp only [IZ,KZ,Nl,if_true,if_false,acO,acM,adJ,adE,decide_eq_true_eq,decide_eq_false_iff_not,ads,adz,adA,ady,adK,ado,ac5,ac9,and_false,false_and,or_false,false_or,afQ,true_and,and_true,iff_false,false_iff,not_false_eq_true,not_true_eq_false,true_or,or_true ]<;>omega
def bdV (v:Value):Prop:=v.I.length<=17592186044416/\v.L.length<=8796093022208
def EN (l:List Value):Prop:=l.length<=1759218604441/\∀ v∈l,bdV v
def UJ (l:List ah):Prop:=l.length<=2000000/\∀ c∈l,EN c.Args
def Bw {v:Value} (h:mP v=true):bdV v:=by
 simp only [mP,acM,decide_eq_true_eq] at h;exact ⟨by omega,by omega⟩
def RB {c:ah} (h:qE c=true):EN c.Args:=by
 simp only [qE,acM,decide_eq_true_eq,acJ] at h;refine ⟨by omega,fun v hv=>Bw ?_⟩;have:=h.2 v hv;simp only [NA,acM] at this;exact this.1
def OE {N:Nat} {l:List Int} (h:l.length<=17592186044416):dR N l=some l:=vK (by omega)
def Rq {N:Nat} {l:List ByteArray} (h:l.length<=8796093022208):fL N l=some l:=vK (by omega)
def RQ {N:Nat} {l:List Value} (h:l.length<=1759218604441):gl N l=some l:=vK (by omega)
def MP {N:Nat} {l:List ah} (h:l.length<=2000000):ey N l=some l:=vK (by omega)
def Te (o:Option Bool) (P:Prop):Prop:=∃ b,o=some b/\(b=true↔P)
def Te.iff {o:Option Bool} {P Q:Prop} (h:Te o P) (e:P↔Q):Te o Q:=by
 obtain ⟨b,h1,h2⟩:=h;exact ⟨b,h1,h2.trans e⟩
def Te.dec {p:Prop} [Decidable p]:Te (some (decide p)) p:=⟨_,rfl,by simp⟩
def Te.f {P:Prop} (h:¬ P):Te (some false) P:=⟨_,rfl,by simp [h]⟩
def Te.bind {o:Option Bool} {P Q:Prop} {f:Bool->Option Bool} (h:Te o P) (h1:P->Te (f true) Q) (h2:¬ P->Te (f false) Q):Te (o.bind f) Q:=by
 obtain ⟨b,rfl,h⟩:=h;cases b with
 | true=>exact h1 (h.1 rfl)
 | false=>exact h2 fun p=>by cases h.2 p
def Te.ite {c:Prop} [Decidable c] {a b:Option Bool} {Q:Prop} (h1:c->Te a Q) (h2:¬ c->Te b Q):Te (if c then a else b) Q:=by
 split
 ·exact h1 ‹_›
 ·exact h2 ‹_›
def Te.is {o:Option Bool} {P:Prop} (h:Te o P) (p:P):o=some true:=by
 obtain ⟨b,h1,h2⟩:=h;rw [h1,h2.2 p]
def Te.isnt {o:Option Bool} {P:Prop} (h:Te o P) (p:¬ P):o=some false:=by
 obtain ⟨b,h1,h2⟩:=h;cases b with
 | true=>exact absurd (h2.1 rfl) p
 | false=>exact h1
def XI {α:Type} {l:List α} {L:List α->Nat->Unit->Option Bool} {P:Nat->α->Prop} {C:Prop} (h0:∀ v,Te (L [] v ()) C)
  (hs:∀ x xs v,l[v]?=some x->∀ R,Te (L xs (v+1) ()) R->Te (L (x::xs) v ()) (P v x/\R)):∀ xs v,l.drop v=xs->Te (L xs v ()) ((∀ i x,v<=i->l[i]?=some x->P i x)/\C)
 | [],v,hd=>(h0 v).iff ⟨fun h=>⟨fun i x hi hx=>by
   have:=List.drop_eq_nil_iff.1 hd;have:=(acD.1 hx).1;omega,h⟩,fun h=>h.2⟩
 | x::xs,v,hd=>by
  obtain ⟨hv,hx,hd'⟩:=CX hd;refine (hs x xs v hx _ (XI h0 hs xs (v+1) hd')).iff ⟨fun h=>⟨fun i y hi hy=>?_,h.2.2⟩,fun h=>⟨h.1 v x (acU _) hx,fun i y hi hy=>h.1 i y (by omega) hy,h.2⟩⟩;rcases ags hi with hlt|rfl
  ·exact h.2.1 i y hlt hy
  ·rw [hx,acB] at hy;subst hy;exact h.1
def Zr {α:Type} {l:List α} {L:List α->Nat->Unit->Option Bool} {P:Nat->α->Prop} {C:Prop} (h0:∀ v,Te (L [] v ()) C)
  (hs:∀ x xs v,l[v]?=some x->∀ R,Te (L xs (v+1) ()) R->Te (L (x::xs) v ()) (P v x/\R)):Te (L l 0 ()) ((∀ i x,l[i]?=some x->P i x)/\C):=
 (XI h0 hs l 0 rfl).iff ⟨fun h=>⟨fun i x hx=>h.1 i x (adt _) hx,h.2⟩,fun h=>⟨fun i x _ hx=>h.1 i x hx,h.2⟩⟩
def uA {α:Type} (p:α->Bool):∀ (l:List α) (v:Nat),(CI p l v=-1/\∀ x∈l,p x=false)∨∃ i x,CI p l v=((v+i:Nat):Int)/\l[i]?=some x/\p x=true/\∀ y∈l.take i,p y=false
 | [],v=>.inl ⟨rfl,by simp⟩
 | x::xs,v=>by
  simp only [CI];by_cases h:p x=true
  ·exact .inr ⟨0,x,by simp [h],rfl,h,by simp⟩
  ·rw [if_neg h];rcases uA p xs (v+1) with ⟨e,ha⟩|⟨i,y,e,hy,hp,ht⟩
   ·exact .inl ⟨e,by simpa [h] using ha⟩
   ·exact .inr ⟨i+1,y,by rw [e]; omega,by simpa using hy,hp,by simpa [h] using ht⟩
end Go.Proofs.YtmacaidmhchpgaaGreat
namespace Go.Proofs.YtmacaidmhchpgaaGreat
open Go Go.Proofs Go.Abs
structure XV (x:Txn):Prop where
 i1:1<=x.ID
 i2:x.ID<=1099511627776
 c1:1<=x.Calls.length
 c2:x.Calls.length<=4
 d1:0<=x.Done
 d2:x.Done<=x.Calls.length
 la:mP x.Last=true
 ca:∀ c∈x.Calls,qE c=true
def zx (x:Txn):Prop:=0<=x.Born/\x.Born<=1099511627776/\1<=x.Client.size/\x.Client.size<=32/\1<=x.Seq/\x.Seq<=1099511627776/\(x.Done=0->x.Last.Kind=0)
def WC (N:Nat) (l:List ah):bn N l=some (!(l.all qE)):=by
 have h:=kI (L:=bF N) (oD N) (fun v=>!qE v) (fun _=>rfl) (fun _ _ _=>rfl) l 0 (fun x _=>by
  simp only [oD,Lb,acC])
 simp only [bn,bZ,h,acC,s9,Jq]
def Ks (N:Nat) (x:Txn):Te (pg N x) (XV x/\zx x):=by
 have e:(XV x/\zx x)↔((1<=x.ID/\x.ID<=1099511627776/\1<=x.Calls.length/\x.Calls.length<=4/\0<=x.Done/\x.Done<=x.Calls.length/\mP x.Last=true/\x.Calls.all qE=true)/\zx x):=
  and_congr_left fun _=>⟨fun h=>⟨h.i1,h.i2,h.c1,h.c2,h.d1,h.d2,h.la,acJ.2 h.ca⟩,fun ⟨a,b,c,d,e,f,g,h⟩=>⟨a,b,c,d,e,f,g,acJ.1 h⟩⟩
 refine Te.iff ?_ e.symm;simp only [pg,fX,ib,ia,fV,WC,qU,acC,agr,zx];generalize x.Calls.all qE=z;generalize mP x.Last=v;refine ⟨decide ((1<=x.ID/\x.ID<=1099511627776/\1<=x.Calls.length/\x.Calls.length<=4/\0<=x.Done/\x.Done<=x.Calls.length/\v=true/\z=true)/\0<=x.Born/\x.Born<=1099511627776/\1<=x.Client.size/\x.Client.size<=32/\1<=x.Seq/\x.Seq<=1099511627776/\(x.Done=0->x.Last.Kind=0)),?_,decide_eq_true_iff⟩;cases v<;>cases z<;>simp only [IZ,KZ,Nl,if_true,if_false,acO,acM,adJ,adE,decide_eq_true_eq,decide_eq_false_iff_not,ads,adz,adA,ady,adK,ado,ac5,ac9,and_false,false_and,or_false,false_or,afQ,true_and,and_true,iff_false,false_iff,not_false_eq_true,not_true_eq_false,true_or,or_true ]<;>omega
structure TX (t:ae):Prop where
 x:∀ x∈t.Txns,XV x/\zx x
 so:t.Txns.Pairwise fun a b=>a.ID < b.ID
 len:t.Txns.length<=32
def Hw {α:Type} {f:α->Int} {l:List α}:(l.Pairwise fun a b=>f a < f b)↔∀ i x y,l[i+1]?=some x->l[i]?=some y->f y < f x:=by
 constructor
 ·intro h i x y hx hy;obtain ⟨h1,rfl⟩:=acD.1 hx;obtain ⟨h2,rfl⟩:=acD.1 hy;exact ac1.1 h i (i+1) h2 h1 (by omega)
 ·intro h;rw [ac1];intro i j hi hj hij
  induction j with
  | zero=>omega
  | succ j ih=>
   have h1:=h j _ _ (acH hj) (acH (by omega));rcases ags (Nat.le_of_lt_succ hij) with h2|rfl
   ·have:=ih (by omega) h2; omega
   ·exact h1
def PR (N:Nat) (t:ae) (hl:t.Txns.length<=1000000):Te (tY N t) (TX t):=by
 have h:=Zr (l:=t.Txns) (L:=gD t N) (P:=fun v x=>(XV x/\zx x)/\(∀ y,0 < v->t.Txns[v - 1]?=some y->y.ID < x.ID)) (C:=t.Txns.length<=32)
  (fun v=>by simp only [gD]; exact Te.dec.iff (by omega))
  (fun x xs v hx R hR=>by
   have hv:=(acD.1 hx).1;simp only [gD];refine (Ks N x).bind (fun p=>?_) fun p=>Te.f fun q=>p q.1.1;simp only [if_true];by_cases h0:0 < v
   ·rw [if_pos (by omega),w64 (by omega) (by omega),show ((v:Int) - 1)=((v - 1:Nat):Int) by omega,aN (acH (by omega))];simp only [lh,decide_eq_true_eq];refine Te.ite (fun q=>Te.f fun r=>?_) fun q=>hR.iff ⟨fun r=>⟨⟨p,fun y _ hy=>?_⟩,r⟩,fun r=>r.2⟩
    ·have:=r.1.2 _ h0 (acH (by omega)); omega
    ·rw [acH (by omega),acB] at hy; subst hy; omega
   ·rw [if_neg (by omega)];simp only [lh,acO,if_false];exact hR.iff ⟨fun r=>⟨⟨p,fun y h=>absurd h h0⟩,r⟩,fun r=>r.2⟩)
 refine h.iff ⟨fun h=>⟨fun x hx=>?_,Hw.2 fun i x y hx hy=>(h.1 _ _ hx).2 y (by omega) (by simpa using hy),h.2⟩,fun h=>⟨fun v x hx=>⟨h.x x (acE hx),fun y h0 hy=>?_⟩,h.len⟩⟩
 ·obtain ⟨i,hi⟩:=acR hx;exact (h.1 i x hi).1
 ·exact Hw.1 h.so (v - 1) x y (by rw [show v - 1+1=v by omega]; exact hx) hy
def ids (t:ae):List Int:=t.Txns.map Txn.ID
def Wo (N:Nat) (t:ae) (n:Int):fj N t n=some (CI (fun x:Txn=>decide (x.ID=n)) t.Txns 0):=by
 have h:=kI (L:=dQ N n) (fun x=>wU N x n) (fun x=>decide (x.ID=n)) (fun _=>rfl) (fun _ _ _=>rfl) t.Txns 0 (fun x _=>rfl);simp only [fj,eE,h,acC]
def Bf (N:Nat) (t:ae) (n:Int):(n∉ids t/\fj N t n=some (-1))∨∃ i x,fj N t n=some ((i:Nat):Int)/\t.Txns[i]?=some x/\x.ID=n:=by
 rw [Wo];rcases uA (fun x:Txn=>decide (x.ID=n)) t.Txns 0 with ⟨h,ha⟩|⟨i,x,h,hx,hp,_⟩
 ·refine .inl ⟨fun hm=>?_,by rw [h]⟩;obtain ⟨x,hx,rfl⟩:=ade.1 hm;simpa using ha x hx
 ·exact .inr ⟨i,x,by rw [h]; simp,hx,by simpa using hp⟩
theorem CW {t:ae} {i:Nat} {x:Txn} (h:t.Txns[i]?=some x):x.ID∈ids t:=ade.2 ⟨x,acE h,rfl⟩
def tq {N:Nat} {t:ae} {n:Int} (h:n∈ids t):∃ i x,fj N t n=some ((i:Nat):Int)/\t.Txns[i]?=some x/\x.ID=n:=by
 rcases Bf N t n with h1|h1
 ·exact absurd h h1.1
 ·exact h1
def TX.uniq {t:ae} (h:TX t) {x y:Txn} (hx:x∈t.Txns) (hy:y∈t.Txns) (e:x.ID=y.ID):x=y:=by
 obtain ⟨i,hi,rfl⟩:=afy.1 hx;obtain ⟨j,hj,rfl⟩:=afy.1 hy;have:=ac1.1 h.so;rcases aen i j with q|rfl|q
 ·have:=this i j hi hj q; omega
 ·rfl
 ·have:=this j i hj hi q; omega
end Go.Proofs.YtmacaidmhchpgaaGreat
namespace Go.Proofs.YtmacaidmhchpgaaGreat
open Go Go.Proofs Go.Abs
theorem Ed {α ρ:Type} {l:List α} {L:List α->Nat->Unit->Option ρ} {k:Option ρ} (h0:∀ v,L [] v ()=k)
  (hs:∀ x xs v,l[v]?=some x->L (x::xs) v ()=L xs (v+1) ()):L l 0 ()=k:=by
 have:∀ xs v,l.drop v=xs->L xs v ()=k:=by
  intro xs
  induction xs with
  | nil=>intro v _; exact h0 v
  | cons x xs ih=>
   intro v hd;obtain ⟨hv,hx,hd'⟩:=CX hd;rw [hs x xs v hx];exact ih (v+1) hd'
 exact this l 0 rfl
def XJ {α:Type} {L:List α->Nat->Unit->Option Int} (f:α->Option Bool) (h0:∀ v,L [] v ()=some (-1))
  (h1:∀ x xs v,L (x::xs) v ()=(f x).bind fun r=>if r=true then some ((v:Nat):Int) else L xs (v+1) ()) (xs:List α) (h:∀ x∈xs,f x=some false):L xs 0 ()=some (-1):=by
 rw [kI f (fun _=>false) h0 h1 xs 0 h];have:=s9 (fun _:α=>false) xs 0;rcases uA (fun _:α=>false) xs 0 with ⟨h,_⟩|⟨i,x,_,_,h,_⟩
 ·rw [h]
 ·cases h
def DJ (t:ae) (a:Ref) (n:Int):Prop:=∃ s∈t.Stacks,s.Actor=a/\∃ y∈s.Layers,y.Txn_=n
def uG (l:List Value):Bool:=decide (l.length<=8) && l.all mP
def At (x:Txn) (a:Ref):Prop:=∃ c,x.Calls[x.Done.toNat]?=some c/\c.Target=a
structure SV (t:ae) (s:aa):Prop where
 ne:s.Layers≠[]
 id:∀ l∈s.Layers,l.Txn_∈ids t
 fi:∀ l∈s.Layers,uG l.Fields=true
 up:∀ (i:Nat) l,s.Layers[i]?=some l->l.Prepared=false->i+1=s.Layers.length/\∃ k∈t.Locks,k.Actor=s.Actor/\k.Owner=l.Txn_
 ex:∀ l∈s.Layers,∀ x∈t.Txns,x.ID=l.Txn_->(∃ c∈x.Calls.take x.Done.toNat,c.Target=s.Actor)/\(l.Prepared=true->x.Done=x.Calls.length)
structure LP (t:ae) (l:ai):Prop where
 ow:l.Owner∈ids t
 wa:∀ w∈l.Waiters,w∈ids t
 dn:∀ x∈t.Txns,x.ID=l.Owner->x.Done=x.Calls.length->∃ s∈t.Stacks,s.Actor=l.Actor/\∃ y∈s.Layers,y.Txn_=x.ID/\y.Prepared=false
 op:∀ x∈t.Txns,x.ID=l.Owner->x.Done < x.Calls.length->DJ t l.Actor x.ID∨At x l.Actor
 wt:∀ x∈t.Txns,x.ID∈l.Waiters->x.Done < x.Calls.length/\At x l.Actor
def Rk (r:Int->Nat) (s:aa):Prop:=s.Layers.Pairwise fun a b=>r a.Txn_ < r b.Txn_
structure TV (t:ae):Prop where
 tx:TX t
 lk:VT t.Locks
 ss:t.Stacks.Pairwise fun a b=>rl a.Actor b.Actor=true
 st:∀ s∈t.Stacks,SV t s
 pr:∀ x∈t.Txns,∀ c∈x.Calls.take x.Done.toNat,DJ t c.Target x.ID
 lp:∀ l∈t.Locks,LP t l
 ac:∃ r:Int->Nat,∀ s∈t.Stacks,Rk r s
def FA (N:Nat) (l:List Value):j4 N l=some (uG l):=by
 have h:=kI (L:=bN N) (kB N) (fun v=>!mP v) (fun _=>rfl) (fun _ _ _=>rfl) l 0 (fun x _=>by
  simp only [kB,qU,acC])
 simp only [j4,bL,dp,h,acC,s9,Jq,uG,agr];by_cases q:l.length<=8
 ·rw [if_pos (by omega)]; simp [q]
 ·rw [if_neg (by omega)]; simp [q]
theorem Ph (N:Nat) {t:ae} (h:TV t):oE N t=some true:=by
 rw [oE,AY N h.lk,acC,if_pos rfl];refine Ed (fun v=>by rw [iW]) fun x xs v hx=>?_;have hp:=h.lp x (acE hx);obtain ⟨i,y,e,_⟩:=tq (N:=N) hp.ow;have hw:=XJ (L:=dc N t.Txns t.Locks t.Stacks) (fun w=>k9 N w t.Txns t.Locks t.Stacks) (fun _=>rfl) (fun _ _ _=>rfl) x.Waiters (fun w hw=>by
  obtain ⟨j,z,e,_⟩:=tq (N:=N) (hp.wa w hw);rw [k9,e,acC];simp)
 rw [iW,e,acC,if_neg (by omega),dj,dG,hw];rfl
def K3 {α:Type} {l:List α} (h:l≠[]):∃ x,l[l.length - 1]?=some x:=⟨_,acH (by have:=aeq.2 h; omega)⟩
def Mu {α β:Type} {l:List α} {n:Nat} {k:List α->Option β} (h:n<=l.length):slx l 0 (n:Int) k=k (l.take n):=by
 simp only [slx];rw [if_pos (by omega)];simp
def Jo {r:Int->Nat} {s:aa} (h:Rk r s) {i j:Nat} {x y:al} (hx:s.Layers[i]?=some x) (hy:s.Layers[j]?=some y) (e:x.Txn_=y.Txn_):i=j:=by
 obtain ⟨hi,rfl⟩:=acD.1 hx;obtain ⟨hj,rfl⟩:=acD.1 hy;have:=ac1.1 h;rcases aen i j with q|q|q
 ·have:=this i j hi hj q; rw [e] at this; omega
 ·exact q
 ·have:=this j i hj hi q; rw [e] at this; omega
theorem Np (N:Nat) {t:ae} {s:aa} (h:SV t s) {r:Int->Nat} (hr:Rk r s) (hl:s.Layers.length<=1000000):ke N t s.Layers=some true:=by
 rw [ke];have hp:=aeq.2 h.ne;refine Ed (fun v=>by rw [eA]; simp; omega) fun x xs v hx=>?_;have hv:=(acD.1 hx).1;have hm:=acE hx;obtain ⟨i,y,e,_⟩:=tq (N:=N) (h.id x hm);have hc:aZ N (s.Layers.take v) x.Txn_ x.Fields x.Prepared=some false:=by
  have:=XJ (L:=bQ N x.Txn_ x.Fields x.Prepared) (fun y=>ky N y x.Txn_ x.Fields x.Prepared) (fun _=>rfl) (fun _ _ _=>rfl) (s.Layers.take v) (fun y hy=>by
   obtain ⟨j,hj⟩:=acR hy;rw [ada] at hj;split at hj
   ·rw [ky];have:¬ y.Txn_=x.Txn_:=fun e=>by have:=Jo hr hj hx e; omega
    simp [this]
   ·cases hj)
  rw [aZ,dh,this];rfl
 rw [eA,e,acC,if_neg (by omega),FA,h.fi x hm,acC,if_pos rfl];cases hb:x.Prepared with
 | true=>rw [if_pos rfl,Mu (by omega),<-hb,hc]; rfl
 | false=>
  have:=(h.up v x hx hb).1;rw [if_neg (by simp),w64 (by omega) (by omega),if_neg (by omega),Mu (by omega),<-hb,hc];rfl
def yU (N:Nat) (a b:Ref):gI N a b=some (Fb a b):=by
 simp only [gI,Vt,acC,tj,p8,Fb];by_cases h1:yI a.Type_ b.Type_=0
 ·by_cases h2:yI a.Key b.Key=0<;>simp [h1,h2]
 ·simp [h1]
def L6 (N:Nat) (l:List ah) (a:Ref):oh N l a=some (l.any fun c=>GG c.Target a):=by
 have h:=kI (L:=bO N a.Type_ a.Key) (fun x=>ug N x a.Type_ a.Key) (fun c=>GG c.Target a) (fun _=>rfl) (fun _ _ _=>rfl) l 0 (fun x _=>rfl);simp only [oh,bM,de,h,acC,s9]
theorem TC (N:Nat) {l:List ah} {a:Ref} (h:∃ c∈l,c.Target=a):oh N l a=some true:=by
 rw [L6];obtain ⟨c,hc,rfl⟩:=h
 congr 1
 exact af1.2 ⟨c,hc,(Dl _ _).2 rfl⟩
def KL {x:Txn} (h:XV x):∃ n:Nat,x.Done=n/\x.Done.toNat=n/\n<=x.Calls.length:=⟨x.Done.toNat,by have:=h.d1; omega,rfl,by have:=h.d2; omega⟩
end Go.Proofs.YtmacaidmhchpgaaGreat
namespace Go.Proofs.YtmacaidmhchpgaaGreat
open Go Go.Proofs Go.Abs
theorem Az {t:List ai} (h:VT t) {k:ai} (hk:k∈t):t[pa t k.Actor]?=some k/\vy t k.Actor=true:=by
 obtain ⟨i,hi⟩:=acR hk;have h1:=uk (GN h.so k.Actor) hi;simp only [ji] at h1;have h2:¬ i < pa t k.Actor:=fun q=>by have:=h1.2 q; cases this
 have hil:=(acD.1 hi).1;have e:pa t k.Actor=i:=by
  rcases aeg (pa t k.Actor) i with q|q
  ·have hj:t[pa t k.Actor]?=some t[pa t k.Actor]:=acH (by omega);have h3:=(uk (GN h.so k.Actor) hj).1 (by
    have:=ac1.1 h.so _ _ (by omega) hil q
    rwa [(acD.1 hi).2] at this)
   unfold pa at h3; omega
  ·omega
 refine ⟨by rw [e]; exact hi,?_⟩;rw [vy,e,hi];exact FJ.2 rfl
def Wy (N:Nat) (hN:200<=N) {t:List ai} (h:VT t) (a:Ref):m9 N t a=some (if vy t a=true then ((t[pa t a]?).map ai.Owner).getD 0 else 0):=by
 simp only [m9,AY N h,acC,if_true,NK N hN h];by_cases hh:vy t a=true
 ·obtain ⟨x,hx,_⟩:=ze hh;rw [if_pos hh,if_pos hh,aN hx,hx]; rfl
 ·rw [if_neg hh,if_neg hh]
theorem Rb (N:Nat) (hN:200<=N) {t:List ai} (h:VT t) {k:ai} (hk:k∈t):m9 N t k.Actor=some k.Owner:=by
 obtain ⟨h1,h2⟩:=Az h hk;rw [Wy N hN h,if_pos h2,h1]; rfl
def OJ (N:Nat) {t:ae} (hx:TX t) {s:aa} (h:SV t s) (rec3:Unit->Option Bool):fg rec3 N t s s.Layers 0 ()=rec3 ():=by
 refine Ed (fun v=>by rw [fg]) fun y xs v hy=>?_;have hm:=acE hy;obtain ⟨i,x,e,hi,hid⟩:=tq (N:=N) (h.id y hm);have hxm:=acE hi;obtain ⟨n,e1,e2,e3⟩:=KL (hx.x x hxm).1;obtain ⟨h1,h2⟩:=h.ex y hm x hxm hid;rw [fg,e,acC,aN hi,e1,Mu (by omega),TC N (by rw [<-e2]; exact h1),acC,if_pos rfl];cases hp:y.Prepared with
 | true=>
  have:=h2 hp;rw [if_pos rfl,jL,if_neg (by simp; omega)]
 | false=>rw [if_neg (by simp),jL,if_neg (by simp)]
def N2 (N:Nat) (hN:200<=N) {t:ae} (h:TV t) (hl:t.Stacks.length<=1000000) (hll:∀ s∈t.Stacks,s.Layers.length<=1000000):mn N t=some true:=by
 rw [mn];refine Ed (fun v=>by rw [ew]) fun s xs v hs=>?_;have hv:=(acD.1 hs).1;have hm:=acE hs;obtain ⟨r,hr⟩:=h.ac;have hS:=h.st s hm;have h5:jH (jJ s (ew t N xs (v+1)) N t) (!true)=ew t N xs (v+1) ():=by
  have hpos:=aeq.2 hS.ne;have:=hll s hm;obtain ⟨y,hy⟩:=K3 hS.ne;rw [jH,if_neg (by simp),jJ,w64 (by omega) (by omega),show ((s.Layers.length:Int) - 1)=((s.Layers.length - 1:Nat):Int) by omega,aN hy];cases hp:y.Prepared with
  | true=>rw [if_pos rfl,lS,if_neg (by simp),lV,OJ N h.tx hS]
  | false=>
   obtain ⟨_,k,hk,h1,h2⟩:=hS.up _ y hy hp;rw [if_neg (by simp),<-h1,Rb N hN h.lk hk,acC,lS,if_neg (by simp [h2]),lV,OJ N h.tx hS]
 rw [ew,Np N hS (hr s hm) (hll s hm),acC];by_cases h0:0 < v
 ·obtain ⟨z,hz,hlt⟩:=Fp h.ss h0 hs;have:=AV.2 hlt;rw [if_pos (by omega),w64 (by omega) (by omega),show ((v:Int) - 1)=((v - 1:Nat):Int) by omega,aN hz,yU,acC,if_neg (by omega)];exact h5
 ·rw [if_neg (by omega)];exact h5
def EC (N:Nat) (t:ae) (a:Ref):(lY N t a=some (-1)/\∀ s∈t.Stacks,s.Actor≠a)∨∃ i s,lY N t a=some ((i:Nat):Int)/\t.Stacks[i]?=some s/\s.Actor=a:=by
 have h:=kI (L:=bS N a.Type_ a.Key) (fun x=>yp N x a.Type_ a.Key) (fun s=>GG s.Actor a) (fun _=>rfl) (fun _ _ _=>rfl) t.Stacks 0 (fun x _=>rfl);simp only [lY,dq,h,acC];rcases uA (fun s:aa=>GG s.Actor a) t.Stacks 0 with ⟨e,ha⟩|⟨i,s,e,hi,hp,_⟩
 ·refine .inl ⟨by rw [e],fun s hs q=>?_⟩;have:=ha s hs;rw [(Dl _ _).2 q] at this; cases this
 ·exact .inr ⟨i,s,by rw [e]; simp,hi,(Dl _ _).1 hp⟩
def CV {t:ae} (h:t.Stacks.Pairwise fun a b=>rl a.Actor b.Actor=true) {i:Nat} {s s':aa} (hi:t.Stacks[i]?=some s) (hs:s'∈t.Stacks) (e:s'.Actor=s.Actor):s'=s:=by
 obtain ⟨j,hj⟩:=acR hs;obtain ⟨h1,rfl⟩:=acD.1 hi;obtain ⟨h2,rfl⟩:=acD.1 hj;have:=ac1.1 h;rcases aen i j with q|rfl|q
 ·have:=this i j h1 h2 q; rw [e,ji] at this; cases this
 ·rfl
 ·have:=this j i h2 h1 q; rw [e,ji] at this; cases this
def Hj (N:Nat) {t:ae} (h:t.Stacks.Pairwise fun a b=>rl a.Actor b.Actor=true) {s:aa} (hs:s∈t.Stacks):∃ i:Nat,lY N t s.Actor=some (i:Int)/\t.Stacks[i]?=some s:=by
 rcases EC N t s.Actor with ⟨_,q⟩|⟨i,s',e,hi,q⟩
 ·exact absurd rfl (q s hs)
 ·exact ⟨i,e,by rw [hi,CV h hi hs q.symm]⟩
def Lk (n:Int) (l:List al):al × Bool:=match l.find? fun y=>decide (y.Txn_=n) with
 | some y=>(y,true)
 | none=>(⟨0,[],false⟩,false)
def Ru (n:Int):∀ (l:List al) (v:Nat),sg n l v ()=some (Lk n l)
 | [],v=>rfl
 | y::l,v=>by
  rw [sg,Ru n l (v+1)];by_cases q:y.Txn_=n<;>simp [Lk,List.find?_cons,q]
def Qy (N:Nat) {t:ae} (h:t.Stacks.Pairwise fun a b=>rl a.Actor b.Actor=true) {s:aa} (hs:s∈t.Stacks) (n:Int):jh N t s.Actor n=some (Lk n s.Layers):=by
 obtain ⟨i,e,hi⟩:=Hj N h hs;rw [jh,e,acC,if_pos (by omega),aN hi,Ru]
def Xl (N:Nat) {t:ae} {a:Ref} (h:∀ s∈t.Stacks,s.Actor≠a) (n:Int):jh N t a n=some (⟨0,[],false⟩,false):=by
 rcases EC N t a with ⟨e,_⟩|⟨i,s,_,hi,q⟩
 ·rw [jh,e,acC,if_neg (by omega)]
 ·exact absurd q (h s (acE hi))
def X8 {r:Int->Nat} {s:aa} (hr:Rk r s) {y:al} (hy:y∈s.Layers):Lk y.Txn_ s.Layers=(y,true):=by
 rw [Lk];cases e:s.Layers.find? fun z=>decide (z.Txn_=y.Txn_) with
 | none=>exact absurd (agt.1 e y hy) (by simp)
 | some z=>
  have h1:=List.find?_some e;have h2:=List.mem_of_find?_eq_some e;obtain ⟨i,hi⟩:=acR h2;obtain ⟨j,hj⟩:=acR hy;have:=Jo hr hi hj (by simpa using h1);subst this;rw [hi] at hj;simp only [acB] at hj;rw [hj]
def YE {n:Int} {l:List al} (h:∀ y∈l,y.Txn_≠n):Lk n l=(⟨0,[],false⟩,false):=by
 rw [Lk,agt.2 (fun y hy=>by simpa using h y hy)]
def oL (N:Nat) {t:ae} (h:t.Stacks.Pairwise fun a b=>rl a.Actor b.Actor=true) (hr:∃ r:Int->Nat,∀ s∈t.Stacks,Rk r s) {a:Ref} {n:Int} {s:aa} {y:al} (hs:s∈t.Stacks) (ha:s.Actor=a) (hy:y∈s.Layers) (hn:y.Txn_=n):jh N t a n=some (y,true):=by
 subst ha; subst hn;obtain ⟨r,hr⟩:=hr;rw [Qy N h hs,X8 (hr s hs) hy]
def Oc (N:Nat) {t:ae} (h:t.Stacks.Pairwise fun a b=>rl a.Actor b.Actor=true) {a:Ref} {n:Int} (hn:¬ DJ t a n):jh N t a n=some (⟨0,[],false⟩,false):=by
 by_cases q:∃ s∈t.Stacks,s.Actor=a
 ·obtain ⟨s,hs,rfl⟩:=q;rw [Qy N h hs,YE fun y hy e=>hn ⟨s,hs,rfl,y,hy,e⟩]
 ·exact Xl N (fun s hs e=>q ⟨s,hs,e⟩) n
end Go.Proofs.YtmacaidmhchpgaaGreat
namespace Go.Proofs.YtmacaidmhchpgaaGreat
open Go Go.Proofs Go.Abs
def XE {x:Txn} {a:Ref} (hx:XV x) (h:At x a):∃ n c,x.Done=((n:Nat):Int)/\x.Calls[n]?=some c/\c.Target=a:=by
 obtain ⟨c,h1,h2⟩:=h;exact ⟨x.Done.toNat,c,by have:=hx.d1; omega,h1,h2⟩
def RP (N:Nat) {t:ae} (h:TV t) {x:Txn} (hx:x∈t.Txns) (rec3:Unit->Option Bool):gE rec3 N t x (x.Calls.take x.Done.toNat) 0 ()=rec3 ():=by
 refine Ed (fun v=>by rw [gE]) fun c xs v hc=>?_;obtain ⟨s,hs,ha,y,hy,hn⟩:=h.pr x hx c (acE hc);rw [gE,oL N h.ss h.ac hs ha hy hn,acC,if_pos rfl]
def RR (N:Nat) {t:ae} (h:TV t) {l:ai} (hl:LP t l) (rec18:Unit->Option Bool):eY rec18 N t l l.Waiters 0 ()=rec18 ():=by
 refine Ed (fun v=>by rw [eY]) fun w xs v hw=>?_;have hm:=acE hw;obtain ⟨i,x,e,hi,hid⟩:=tq (N:=N) (hl.wa w hm);have hx:=acE hi;obtain ⟨h1,h2⟩:=hl.wt x hx (by rw [hid]; exact hm);obtain ⟨n,c,e1,e2,e3⟩:=XE (h.tx.x x hx).1 h2;rw [eY,e,acC,aN hi,if_neg (by omega),e1,aN e2,<-e3];simp [mU,GX]
def KR (N:Nat) {t:ae} (h:TV t):kD N t=some true:=by
 rw [kD];have h4:m7 N t=some true:=by
  rw [m7];refine Ed (fun v=>by rw [bH]) fun l xs v hl=>?_;have hlm:=acE hl;have hp:=h.lp l hlm;obtain ⟨i,x,e,hi,hid⟩:=tq (N:=N) hp.ow;have hx:=acE hi;have h3:eZ (fe (bH N t xs (v+1)) N t l) false=bH N t xs (v+1) ():=by
   rw [eZ,if_neg (by simp),fe,RR N h hp]
  have hd:=(h.tx.x x hx).1.d2;rw [bH,e,acC,aN hi];by_cases hL:DJ t l.Actor x.ID
  ·obtain ⟨s,hs,ha,y,hy,hn⟩:=hL;rw [oL N h.ss h.ac hs ha hy hn,acC];by_cases hd':x.Done < x.Calls.length
   ·rw [if_pos hd',if_pos rfl]; exact h3
   ·obtain ⟨s',hs',ha',y',hy',hn',hp'⟩:=hp.dn x hx hid (by omega);have:=oL N h.ss h.ac hs ha hy hn;rw [oL N h.ss h.ac hs' ha' hy' hn'] at this;simp only [acB,acY,and_true] at this;rw [if_neg hd',if_pos rfl,if_neg (by rw [<-this,hp']; simp)]; exact h3
  ·rw [Oc N h.ss hL,acC];by_cases hd':x.Done < x.Calls.length
   ·have hat:=(hp.op x hx hid hd').resolve_left hL;obtain ⟨n,c,e1,e2,e3⟩:=XE (h.tx.x x hx).1 hat;rw [if_pos hd',if_neg (by simp),e1,aN e2,show (!(sEq c.Target.Type_ l.Actor.Type_ && sEq c.Target.Key l.Actor.Key))=false by rw [e3]; simp [GX]];exact h3
   ·obtain ⟨s',hs',ha',y',hy',hn',_⟩:=hp.dn x hx hid (by omega);exact absurd ⟨s',hs',ha',y',hy',hn'⟩ hL
 rw [h4];refine Ed (fun v=>by rw [iP]) fun x xs v hx=>?_;have hm:=acE hx;obtain ⟨n,e1,e2,e3⟩:=KL (h.tx.x x hm).1;rw [iP,e1,Mu e3,<-e2,RP N h hm]
def uB (N:Nat) (l:List Int) (n:Int):dt N l n=some (decide (n∈l)):=by
 have h:=kI (L:=jm n) (fun x=>some (decide (n=x))) (fun x=>decide (n=x)) (fun _=>rfl) (fun x xs v=>by rw [jm]; by_cases q:n=x<;>simp [q]) l 0 (fun x _=>rfl)
 simp only [dt,pe,h,acC,s9]
 congr 1
 rw [aeV];simp
def zM (id:Int) (gone:List Int):List al->Bool->Bool
 | [],_=>true
 | y::l,c=>if y.Txn_=id/\c=true then false else zM id gone l (c || !decide (y.Txn_∈gone))
def BM (t:ae) (id:Int) (gone:List Int):Bool:=t.Stacks.all fun s=>zM id gone s.Layers false
def Lm (N:Nat) (id:Int) (gone:List Int) (rec3:Unit->Option Bool):∀ (l:List al) (v:Nat) (c:Bool),kr rec3 id N gone l v c=if zM id gone l c=true then rec3 () else some false
 | [],v,c=>by simp [kr,zM]
 | y::l,v,c=>by
  have e:vh c (kr rec3 id N gone l (v+1)) N gone y=if zM id gone l (c || !decide (y.Txn_∈gone))=true then rec3 () else some false:=by
   rw [vh,uB,acC,Lm N id gone rec3 l,Lm N id gone rec3 l];cases c<;>simp
  rw [kr,e,zM];simp only [z7];by_cases q:y.Txn_=id<;>cases c<;>simp [q]
def Qp (N:Nat) (t:ae) (id:Int) (gone:List Int):vv N t id gone=some (BM t id gone):=by
 rw [vv,QI (L:=po id N gone) (fun s=>zM id gone s.Layers false) (some true) (some false) (fun v=>by rw [po]) (fun s xs v=>by rw [po,Lm]) t.Stacks 0,BM];split
 ·rename_i h; rw [h]
 ·rename_i h; rw [aei] at h; rw [h]
def Fa {id:Int} {gone:List Int}:∀ {l:List al} {c:Bool},(c=true->∀ y∈l,y.Txn_≠id)->(∀ (i:Nat) y,l[i]?=some y->y.Txn_=id->∀ z∈l.take i,z.Txn_∈gone)->zM id gone l c=true
 | [],_,_,_=>rfl
 | y::l,c,h1,h2=>by
  rw [zM,if_neg (fun q=>h1 q.2 y (by simp) q.1)];refine Fa (fun hc z hz e=>?_) fun i z hz e u hu=>h2 (i+1) z (by simpa using hz) e u (by simp [hu]);rw [adJ] at hc;rcases hc with hc|hc
  ·exact h1 hc z (by simp [hz]) e
  ·obtain ⟨i,hi⟩:=acR hz;have:=h2 (i+1) z (by simpa using hi) e y (by simp);simp [this] at hc
end Go.Proofs.YtmacaidmhchpgaaGreat
namespace Go.Proofs.YtmacaidmhchpgaaGreat
open Go Go.Proofs Go.Abs
def qS {l:List Int}:∀ {k:List Int},k.Nodup->(∀ x∈k,x∈l)->k.length<=l.length:=by
 induction l with
 | nil=>
  intro k _ h;cases k with
  | nil=>simp
  | cons x k=>have:=h x (by simp); simp at this
 | cons a l ih=>
  intro k hk h;have h1:=ih (k:=k.erase a) (hk.erase a) fun x hx=>by
   obtain ⟨h2,h3⟩:=(hk.mem_erase_iff).1 hx;exact (ac6.1 (h x h3)).resolve_left h2
  by_cases q:a∈k
  ·rw [List.length_erase_of_mem q] at h1; simp; omega
  ·rw [List.erase_of_not_mem q] at h1; simp; omega
def uY (t:ae):List Txn->List Int->List Int
 | [],g=>g
 | x::xs,g=>uY t xs (if x.ID∈g then g else if BM t x.ID g=true then g++[x.ID] else g)
structure GI (t:ae) (g:List Int):Prop where
 nd:g.Nodup
 sub:∀ n∈g,n∈ids t
def GI.add {t:ae} {g:List Int} (h:GI t g) {x:Txn} (hx:x∈t.Txns):GI t (if x.ID∈g then g else if BM t x.ID g=true then g++[x.ID] else g):=by
 split
 ·exact h
 ·split
  ·rename_i h1 _;refine ⟨afk.2 ⟨h.nd,by simp,fun a ha b hb=>?_⟩,fun n hn=>?_⟩
   ·simp only [acW] at hb; rw [hb]; exact fun e=>h1 (e ▸ ha)
   ·rcases acZ.1 hn with hn|hn
    ·exact h.sub n hn
    ·simp only [acW] at hn; rw [hn]; exact ade.2 ⟨x,hx,rfl⟩
  ·exact h
def GI.len {t:ae} {g:List Int} (h:GI t g):g.length<=t.Txns.length:=by
 have:=qS h.nd h.sub;simpa [ids] using this
def Gn {t:ae}:∀ {xs:List Txn} {g:List Int},(∀ x∈xs,x∈t.Txns)->GI t g->GI t (uY t xs g)
 | [],g,_,h=>h
 | x::xs,g,hx,h=>by rw [uY]; exact Gn (fun y hy=>hx y (by simp [hy])) (h.add (hx x (by simp)))
def GO {t:ae}:∀ {xs:List Txn} {g:List Int} {n:Int},n∈g->n∈uY t xs g
 | [],g,n,h=>h
 | x::xs,g,n,h=>by rw [uY]; exact GO (t:=t) (xs:=xs) (by split; exact h; split; exact afx _ h; exact h)
def Q1 {t:ae}:∀ {xs:List Txn} {g:List Int} {u:Int},u∈xs.map Txn.ID->(∀ g',(∀ n∈g,n∈g')->BM t u g'=true)->u∈uY t xs g
 | x::xs,g,u,h,hf=>by
  simp only [adP,ac6] at h;have hsub:∀ n∈g,n∈(if x.ID∈g then g else if BM t x.ID g=true then g++[x.ID] else g):=fun n hn=>by
   split; exact hn; split; exact afx _ hn; exact hn
  rw [uY];rcases h with rfl|h
  ·refine GO ?_;split
   ·assumption
   ·rw [if_pos (hf g fun n hn=>hn)]; simp
  ·exact Q1 h fun g' hg=>hf g' fun n hn=>hg n (hsub n hn)
def Tk (N:Nat) (t:ae) (rec4:List Int->Option Bool) (hl:t.Txns.length<=1000):∀ (xs:List Txn) (v:Nat) (g:List Int),(∀ x∈xs,x∈t.Txns)->GI t g->jz rec4 N t xs v g=rec4 (uY t xs g)
 | [],v,g,_,_=>by rw [jz]; rfl
 | x::xs,v,g,hx,hg=>by
  have ih:=Tk N t rec4 hl xs (v+1) _ (fun y hy=>hx y (by simp [hy])) (hg.add (hx x (by simp)));have:=hg.len;rw [jz,uB,acC,uY];by_cases q:x.ID∈g
  ·rw [if_pos q] at ih ⊢;simp [q,sD,ih]
  ·rw [if_neg q] at ih ⊢;rw [if_neg (by simpa using q),Qp,acC,sD];by_cases f:BM t x.ID g=true
   ·rw [if_pos f] at ih ⊢;rw [if_pos f,mO (by simp; omega),ih]
   ·rw [if_neg f] at ih ⊢;rw [if_neg f,ih]
def Hh (t:ae):Nat->List Int->List Int
 | 0,g=>g
 | m+1,g=>Hh t m (uY t t.Txns g)
def Ta (N:Nat) (t:ae) (hl:t.Txns.length<=1000):∀ (m v:Nat) (g:List Int),GI t g->lB t N m v g=some (decide ((Hh t m g).length=t.Txns.length))
 | 0,v,g,_=>by
  rw [lB,Hh]
  congr 1
  rw [aeV]; simp; omega
 | m+1,v,g,hg=>by
  rw [lB,Tk N t _ hl _ _ _ (fun x hx=>hx) hg,Ta N t hl m _ _ (Gn (fun x hx=>hx) hg),Hh]
def P3 {r:Int->Nat}:∀ {l:List Int},l≠[]->∃ u∈l,∀ n∈l,r u<=r n
 | [x],_=>⟨x,by simp,by simp⟩
 | x::y::l,_=>by
  obtain ⟨u,hu,h⟩:=P3 (r:=r) (l:=y::l) (by simp);by_cases q:r x<=r u
  ·exact ⟨x,by simp,fun n hn=>by
    rcases ac6.1 hn with rfl|hn
    ·exact acU _
    ·exact adW q (h n hn)⟩
  ·exact ⟨u,afz _ hu,fun n hn=>by
    rcases ac6.1 hn with rfl|hn
    ·omega
    ·exact h n hn⟩
def TE {t:ae} (h:TV t) {g:List Int} (hg:GI t g):g.length+1<=(uY t t.Txns g).length∨∀ n∈ids t,n∈g:=by
 obtain ⟨r,hr⟩:=h.ac;by_cases q:(ids t).filter (fun n=>!decide (n∈g))=[]
 ·exact .inr fun n hn=>by
   have:=List.filter_eq_nil_iff.1 q n hn;simpa using this
 ·obtain ⟨u,hu,hm⟩:=P3 (r:=r) q;simp only [aee,adE,decide_eq_false_iff_not] at hu hm;have hin:u∈uY t t.Txns g:=by
   refine Q1 hu.1 fun g' hg'=>acJ.2 fun s hs=>Fa (by simp) fun i y hy e z hz=>hg' _ ?_;obtain ⟨j,hj⟩:=acR hz;rw [ada] at hj;split at hj
   ·rename_i hji;have hlt:r z.Txn_ < r y.Txn_:=by
     obtain ⟨h1,rfl⟩:=acD.1 hj;obtain ⟨h2,rfl⟩:=acD.1 hy;exact ac1.1 (hr s hs) j i h1 h2 hji
    by_cases hzg:z.Txn_∈g
    ·exact hzg
    ·have:=hm z.Txn_ ⟨(h.st s hs).id z (acE hj),hzg⟩;rw [e] at hlt; omega
   ·cases hj
  have hG:=Gn (fun x hx=>hx) hg;have:=qS (l:=uY t t.Txns g) (k:=u::g) (afw.2 ⟨hu.2,hg.nd⟩) fun x hx=>by
   rcases ac6.1 hx with rfl|hx
   ·exact hin
   ·exact GO hx
  exact .inl (by simpa using this)
def TX.nd {t:ae} (h:TX t):(ids t).Nodup:=by
 unfold ids List.Nodup;rw [ad2];exact h.so.imp fun q e=>by omega
def Ly {t:ae} (h:TV t):∀ (m:Nat) {g:List Int},GI t g->t.Txns.length<=m+g.length->(Hh t m g).length=t.Txns.length
 | 0,g,hg,hl=>by have:=hg.len; rw [Hh]; omega
 | m+1,g,hg,hl=>by
  have hG:=Gn (fun x hx=>hx) hg;rw [Hh];rcases TE h hg with q|q
  ·exact Ly h m hG (by omega)
  ·refine Ly h m hG ?_;have:=qS (l:=uY t t.Txns g) h.tx.nd fun n hn=>GO (q n hn);simp [ids] at this;omega
def UF (N:Nat) {t:ae} (h:TV t):uy N t=some true:=by
 have hl:=h.tx.len;rw [uy,Ta N t (by omega) _ _ _ ⟨by simp,by simp⟩,Ly h _ ⟨by simp,by simp⟩ (by simp)];simp
def zy {l:List Ref}:∀ {k:List Ref},k.Nodup->(∀ x∈k,x∈l)->k.length<=l.length:=by
 classical
 induction l with
 | nil=>
  intro k _ h;cases k with
  | nil=>simp
  | cons x k=>have:=h x (by simp); simp at this
 | cons a l ih=>
  intro k hk h;have h1:=ih (k:=k.filter fun x=>!decide (x=a)) (hk.filter _) fun x hx=>by
   simp only [aee,adE,decide_eq_false_iff_not] at hx;exact (ac6.1 (h x hx.1)).resolve_left hx.2
  have h2:k.length<=(k.filter fun x=>!decide (x=a)).length+1:=by
   clear h1 h ih
   induction k with
   | nil=>simp
   | cons b k ih=>
    rw [afw] at hk;by_cases q:b=a
    ·subst q;have:(k.filter fun x=>!decide (x=b))=k:=aeC.2 fun x hx=>by simp; exact fun e=>hk.1 (e ▸ hx)
     simp [this]
    ·have:=ih hk.2;simp [q]; omega
  simp only [acT]; omega
def TV.stacks_len {t:ae} (h:TV t):t.Stacks.length<=128:=by
 have hcl:∀ {l:List Txn},(∀ x∈l,XV x)->(l.flatMap fun x=>x.Calls.map ah.Target).length<=l.length * 4:=by
  intro l
  induction l with
  | nil=>simp
  | cons x l ih=>
   intro hx;have h1:=ih fun y hy=>hx y (by simp [hy]);have h2:=(hx x (by simp)).c2;simp only [afN,adi,acL,acT];omega
 have hnd:(t.Stacks.map aa.Actor).Nodup:=by
  unfold List.Nodup;rw [ad2];exact h.ss.imp fun q e=>by rw [e,ji] at q; cases q
 have:=zy (l:=t.Txns.flatMap fun x=>x.Calls.map ah.Target) hnd fun a ha=>by
  obtain ⟨s,hs,rfl⟩:=ade.1 ha;have hS:=h.st s hs;obtain ⟨y,hy⟩:=afc _ hS.ne;obtain ⟨x,hx,e⟩:=ade.1 (hS.id y hy);obtain ⟨c,hc,e2⟩:=(hS.ex y hy x hx e).1;exact List.mem_flatMap.2 ⟨x,hx,ade.2 ⟨c,adC hc,e2⟩⟩
 have h2:=hcl fun x hx=>(h.tx.x x hx).1;have:=h.tx.len;simp only [acL] at *;omega
def TV.layers_len {t:ae} (h:TV t) {s:aa} (hs:s∈t.Stacks):s.Layers.length<=32:=by
 obtain ⟨r,hr⟩:=h.ac;have:=qS (l:=ids t) (k:=s.Layers.map al.Txn_) (by
  unfold List.Nodup;rw [ad2];exact (hr s hs).imp fun q e=>by rw [e] at q; omega) fun n hn=>by
   obtain ⟨y,hy,rfl⟩:=ade.1 hn;exact (h.st s hs).id y hy
 have:=h.tx.len;simp [ids] at *;omega
def o4 (N:Nat) (hN:200<=N) {t:ae} (h:TV t):jk N t=some true:=by
 have hl:=h.tx.len;simp only [jk,(PR N t (by omega)).is h.tx,Ph N h,N2 N hN h (by have:=h.stacks_len; omega) (fun s hs=>by have:=h.layers_len hs; omega),KR N h,UF N h,acC,if_true]
end Go.Proofs.YtmacaidmhchpgaaGreat
namespace Go.Proofs.YtmacaidmhchpgaaGreat
open Go Go.Proofs Go.Abs
def yA {N:Nat} {v:Value} (h:bdV v):gH N v=some v:=by
 simp only [gH,OE h.1,Rq h.2,acC]
def sN {N:Nat} {l:List Value} (h:EN l):eC N l=some l:=by
 have:=th (L:=iH N) bdV (fun m v l x hx hp=>by
  simp only [iH,Gp hx,yA hp,acC,tz hx]) l.length 0 l (by simp) h.2
 simp only [eC,RQ h.1,acC,adn,this,iH]
def Ic {N:Nat} {c:ah} (h:EN c.Args):kN N c=some c:=by
 simp only [kN,sN h,acC]
def XV.bd {x:Txn} (h:XV x):UJ x.Calls/\bdV x.Last:=⟨⟨by have:=h.c2; omega,fun c hc=>RB (h.ca c hc)⟩,Bw h.la⟩
def EB {N:Nat} {x:Txn} (h:UJ x.Calls/\bdV x.Last):kv N x=some x:=by
 have:=th (L:=j7 (u7 N x) N) (fun c:ah=>EN c.Args) (fun m v l y hy hp=>by
  simp only [j7,Gp hy,Ic hp,acC,tz hy]) x.Calls.length 0 x.Calls (by simp) h.1.2
 simp only [kv,MP h.1.1,acC,adn,this,j7,u7,yA h.2]
def Hq {l:List Value} (h:uG l=true):EN l:=by
 simp only [uG,acM,decide_eq_true_eq,acJ] at h;exact ⟨by omega,fun v hv=>Bw (h.2 v hv)⟩
def Wt (l:List al):Prop:=l.length<=1000000/\∀ y∈l,EN y.Fields
def Ap {N:Nat} {l:List al} (h:Wt l):kf N l=some l:=by
 have:=th (L:=iI N) (fun y:al=>EN y.Fields) (fun m v l x hx hp=>by
  simp only [iI,Gp hx,sN hp,acC,tz hx]) l.length 0 l (by simp) h.2
 simp only [kf,gm,vK (b:=39) (l:=l) (by have:=h.1; omega),acC,adn,this,iI]
def TV.bdL {t:ae} (h:TV t) {s:aa} (hs:s∈t.Stacks):Wt s.Layers:=⟨by have:=h.layers_len hs; omega,fun y hy=>Hq ((h.st s hs).fi y hy)⟩
def y7 {N:Nat} {t:ae} (h:TV t):kJ N t=some t:=by
 have h1:=h.tx.len; have h2:=h.lk.len; have h3:=h.stacks_len;have e1:=th (L:=oK (zo N t.Stacks t.Locks) N) (fun x:Txn=>UJ x.Calls/\bdV x.Last) (fun m v l x hx hp=>by
  simp only [oK,Gp hx,EB hp,acC,tz hx]) t.Txns.length 0 t.Txns (by simp) (fun x hx=>(h.tx.x x hx).1.bd)
 have e2:=th (L:=pb (zw t.Txns N t.Stacks) N) (fun x:ai=>x.Waiters.length<=32) (fun m v l x hx hp=>by
  simp only [pb,Gp hx,OE (N:=N) (l:=x.Waiters) (by omega),acC,tz hx]) t.Locks.length 0 t.Locks (by simp) (fun x hx=>(h.lk.l x hx).wl)
 have e3:=th (L:=o9 t.Txns t.Locks N) (fun x:aa=>Wt x.Layers) (fun m v l x hx hp=>by
  simp only [o9,Gp hx,Ap hp,acC,tz hx]) t.Stacks.length 0 t.Stacks (by simp) (fun s hs=>h.bdL hs)
 simp only [kJ,iG,eP,dW];rw [vK (by omega),acC,vK (by omega),acC,vK (by omega),acC,adn,e1,adm,oK,zo,adn,e2,adm,pb,zw,adn,e3,adm,o9];simp [Nn]
structure WM {α:Type} (p:α->Bool) (a l:List α) (i j:Nat):Prop where
 len:l.length=a.length
 ij:i < j
 jl:j<=a.length
 pre:l.take i=(a.take j).filter fun x=>!p x
 rest:∀ q,j<=q->l[q]?=a[q]?
section
variable {α:Type} {f:α->Option Bool} {p:α->Bool} {L:Nat->List α × Int × Int->Option (List α)} {J:List α->Int->Option (List α)}
theorem NR (hL:∀ n l v5 v6,L (n+1) (l,v5,v6)=if v6 < ((l.length:Nat):Int) then gx l v6 fun x=>(f x).bind fun r=>if r=true then L n (l,v5,IntKind.i64.wrap (v6+1)) else gx l v5 fun _=>L n (l.set v5.toNat x,IntKind.i64.wrap (v5+1),IntKind.i64.wrap (v6+1)) else J l v5)
  (a:List α) (hf:∀ x∈a,f x=some (p x)) (ha:a.length<=1000):∀ (n:Nat) (l:List α) (i j:Nat),a.length < j+n->WM p a l i j->∃ l' i',WM p a l' i' a.length/\L n (l,(i:Int),(j:Int))=J l' (i':Int)
 | 0,l,i,j,hn,h=>by have:=h.jl; omega
 | n+1,l,i,j,hn,h=>by
  have hl:=h.len; have hij:=h.ij; have hj:=h.jl;rw [hL];by_cases hlt:j < a.length
  ·have g1:l[j]?=some a[j]:=by rw [h.rest j (acU _),acH hlt]
   have htk:a.take (j+1)=a.take j++[a[j]]:=by rw [aeo,acH hlt]; rfl
   rw [if_pos (by omega),aN g1,hf _ (adF hlt),acC,w64 (n:=(j:Int)+1) (by omega) (by omega),show ((j:Int)+1)=((j+1:Nat):Int) by omega];by_cases e:p a[j]=true
   ·rw [if_pos e];refine NR hL a hf ha n l i (j+1) (by omega) ⟨hl,by omega,by omega,?_,fun q hq=>h.rest q (by omega)⟩;rw [h.pre,htk,aeh]; simp [e]
   ·have hil:i < l.length:=by omega
    rw [if_neg e,aN (acH hil),w64 (n:=(i:Int)+1) (by omega) (by omega),show ((i:Int)+1)=((i+1:Nat):Int) by omega,acX];refine NR hL a hf ha n (l.set i a[j]) (i+1) (j+1) (by omega) ⟨by simp [hl],by omega,by omega,?_,fun q hq=>by rw [aef (by omega)]; exact h.rest q (by omega)⟩;rw [yw hil,h.pre,htk,aeh]; simp [e]
  ·rw [if_neg (by omega)];have:j=a.length:=by omega
   subst this;exact ⟨l,i,h,rfl⟩
def NY (hL:∀ n l v5 v6,L (n+1) (l,v5,v6)=if v6 < ((l.length:Nat):Int) then gx l v6 fun x=>(f x).bind fun r=>if r=true then L n (l,v5,IntKind.i64.wrap (v6+1)) else gx l v5 fun _=>L n (l.set v5.toNat x,IntKind.i64.wrap (v5+1),IntKind.i64.wrap (v6+1)) else J l v5) {z:α}
  (hJ:∀ l v,J l v=slx l v ((l.length:Nat):Int) fun _=>slx (tL z v.toNat l) 0 v fun _=>some ((tL z v.toNat l).take v.toNat)) {I:List α->Nat->Unit->Option Int} (hI0:∀ v,I [] v ()=some (-1)) (hI1:∀ x xs v,I (x::xs) v ()=(f x).bind fun r=>if r=true then some ((v:Nat):Int) else I xs (v+1) ()) (N:Nat) (hN:1001<=N)
  (a:List α) (hf:∀ x∈a,f x=some (p x)) (ha:a.length<=1000):((I a 0 ()).bind fun r1=>if r1=-1 then some a else L N (a,r1,IntKind.i64.wrap (r1+1)))=some (a.filter fun x=>!p x):=by
 rw [kI f p hI0 hI1 a 0 hf,acC];rcases uA p a 0 with ⟨h1,h2⟩|⟨i,x,h1,h2,h3,h4⟩
 ·rw [h1,if_pos rfl,aeC.2 fun x hx=>by simp [h2 x hx]]
 ·have hil:=(acD.1 h2).1;rw [h1,adm,if_neg (by omega),w64 (by omega) (by omega),show ((i:Int)+1)=((i+1:Nat):Int) by omega];have hd:WM p a a i (i+1):=⟨rfl,by omega,by omega,by
   rw [aeo,h2,aeI,aeh,aeC.2 fun y hy=>by simp [h4 y hy]];simp [h3],fun _ _=>rfl⟩
  obtain ⟨l',i',h',e'⟩:=NR hL a hf ha N a i (i+1) (by omega) hd;rw [e',hJ];have q1:=h'.len; have q2:=h'.ij;unfold slx;rw [acX,if_pos ⟨by omega,by omega,by omega,by omega⟩];dsimp only;rw [if_pos ⟨by omega,by omega,by omega,by rw [Nq (by omega)]; omega⟩];try dsimp only
  rw [Lx (by omega),h'.pre,ac3 (acU _)]
end
def rC (D:List Int) (n:Int):Bool:=!decide (n∈D)
def EP (D:List Int) (s:aa):aa:=⟨s.Actor,s.Layers.filter fun y=>rC D y.Txn_⟩
def Ha (D:List Int) (l:List aa):List aa:=(l.map (EP D)).filter fun s=>!decide (s.Layers=[])
def z6 (t:ae) (D:List Int):ae:=⟨t.Txns.filter fun x=>rC D x.ID,t.Locks,Ha D t.Stacks⟩
theorem Ov (N:Nat) (hN:1001<=N) {t:ae} (h:TV t) (D:List Int):tw N t D=some (z6 t D):=by
 have h1:=h.tx.len; have h3:=h.stacks_len;have e1:=NY (f:=fun x=>pt N x D) (p:=fun x=>decide (x.ID∈D)) (L:=bq N D eQ) (J:=eQ) (fun _ _ _ _=>by rw [bq]) (fun _ _=>rfl) (I:=dL N D) (fun _=>rfl) (fun _ _ _=>rfl) N hN t.Txns (fun x _=>by simp only [pt,uB,acC]) (by omega);have e2:∀ {l:List al},l.length<=1000->dM N l D=some (l.filter fun y=>rC D y.Txn_):=fun {l} hl=>
  NY (f:=fun x=>oZ N x D) (p:=fun x=>decide (x.Txn_∈D)) (L:=bk N D eD) (J:=eD) (fun _ _ _ _=>by rw [bk]) (fun _ _=>rfl) (I:=dA N D) (fun _=>rfl) (fun _ _ _=>rfl) N hN l (fun x _=>by simp only [oZ,uB,acC]) hl
 have e3:∀ {l:List aa},l.length<=1000->b9 N l=some (l.filter fun s=>!decide (s.Layers=[])):=fun {l} hl=>
  NY (f:=fun x=>oM N x) (p:=fun s=>decide (s.Layers=[])) (L:=aV N dK) (J:=dK) (fun _ _ _ _=>by rw [aV]) (fun _ _=>rfl) (I:=bP N) (fun _=>rfl) (fun _ _ _=>rfl) N hN l (fun x _=>by simp [oM]) hl
 have e4:∀ (m v:Nat) (A:List aa),v+m=t.Stacks.length->A.length=v->mH (yy N (t.Txns.filter fun x=>rC D x.ID) t) N D m v (A++t.Stacks.drop v)=some ⟨t.Txns.filter fun x=>rC D x.ID,t.Locks,(A++(t.Stacks.drop v).map (EP D)).filter fun s=>!decide (s.Layers=[])⟩:=by
  intro m
  induction m with
  | zero=>
   intro v A hv hA;rw [mH,adN (by omega),adg,yy,e3 (by omega)];simp
  | succ m ih=>
   intro v A hv hA;subst hA;have hvl:A.length < t.Stacks.length:=by omega
   rw [adQ hvl,mH,aN zP,e2 (by have:=h.layers_len (adF hvl); omega),acC,JN];have:=ih (A.length+1) (A++[EP D t.Stacks[A.length]]) (by omega) (by simp);rw [adv,adv] at this;rw [adP];simp only [adS,acV] at this;exact this
 simp only [tw,y7 h,acC];rw [show eb N t.Txns D=some (t.Txns.filter fun x=>rC D x.ID) from e1,acC,adn];exact e4 t.Stacks.length 0 [] (by omega) rfl
end Go.Proofs.YtmacaidmhchpgaaGreat
namespace Go.Proofs.YtmacaidmhchpgaaGreat
open Go Go.Proofs Go.Abs
def Wn {t:ae} (h:TV t) {x:Txn} (hx:XV x/\zx x) (h0:x.Done=0) (hlt:∀ y∈t.Txns,y.ID < x.ID) (hl:t.Txns.length < 32):TV ⟨t.Txns++[x],t.Locks,t.Stacks⟩:=by
 have hid:∀ {n:Int},n∈ids t->n∈ids ⟨t.Txns++[x],t.Locks,t.Stacks⟩:=fun hn=>by simp only [ids,ac2,acZ] at *; exact .inl hn
 have hnew:∀ {y:Txn},y∈t.Txns++[x]->y.ID∈ids t->y∈t.Txns:=fun {y} hy hn=>by
  rcases acZ.1 hy with hy|hy
  ·exact hy
  ·simp only [acW] at hy;obtain ⟨z,hz,e⟩:=ade.1 hn;have:=hlt z hz;rw [hy] at e; omega
 refine ⟨⟨fun y hy=>?_,?_,by simp; omega⟩,h.lk,h.ss,fun s hs=>?_,fun y hy c hc=>?_,fun l hm=>?_,h.ac⟩
 ·rcases acZ.1 hy with hy|hy
  ·exact h.tx.x y hy
  ·simp only [acW] at hy; rw [hy]; exact hx
 ·exact ad3.2 ⟨h.tx.so,by simp,fun a ha b hb=>by simp only [acW] at hb; rw [hb]; exact hlt a ha⟩
 ·have hS:=h.st s hs;exact ⟨hS.ne,fun l hl=>hid (hS.id l hl),hS.fi,hS.up,fun l hl y hy e=>hS.ex l hl y (hnew hy (e ▸ hS.id l hl)) e⟩
 ·rcases acZ.1 hy with hy|hy
  ·exact h.pr y hy c hc
  ·simp only [acW] at hy;rw [hy,h0] at hc;simp at hc
 ·have hL:=h.lp l hm;exact ⟨hid hL.ow,fun w hw=>hid (hL.wa w hw),fun y hy e=>hL.dn y (hnew hy (e ▸ hL.ow)) e,fun y hy e=>hL.op y (hnew hy (e ▸ hL.ow)) e,fun y hy hw=>hL.wt y (hnew hy (hL.wa _ hw)) hw⟩
def LP.locks {t:ae} {l:ai} (h:LP t l) (L:List ai):LP ⟨t.Txns,L,t.Stacks⟩ l:=⟨h.ow,h.wa,h.dn,h.op,h.wt⟩
def Ob {t:ae} (h:TV t) {L:List ai} (hv:VT L) (hp:∀ l∈L,LP t l) (hk:∀ s∈t.Stacks,∀ y∈s.Layers,y.Prepared=false->∀ k∈t.Locks,k.Actor=s.Actor->k.Owner=y.Txn_->∃ k'∈L,k'.Actor=s.Actor/\k'.Owner=y.Txn_):TV ⟨t.Txns,L,t.Stacks⟩:=
 ⟨⟨h.tx.x,h.tx.so,h.tx.len⟩,hv,h.ss,fun s hs=>⟨(h.st s hs).ne,(h.st s hs).id,(h.st s hs).fi,fun i y hy hpr=>by
  obtain ⟨h1,k,h2,h3,h4⟩:=(h.st s hs).up i y hy hpr;exact ⟨h1,hk s hs y (acE hy) hpr k h2 h3 h4⟩,(h.st s hs).ex⟩,h.pr,fun l hl=>(hp l hl).locks L,h.ac⟩
def LP.pass {t:ae} {l l':ai} (h:LP t l) (ha:l'.Actor=l.Actor) (ho:l'.Owner=l.Owner∨l'.Owner∈l.Waiters) (hw:∀ w∈l'.Waiters,w∈l.Waiters):LP t l':=by
 refine ⟨?_,fun w hm=>h.wa w (hw w hm),fun x hx e=>?_,fun x hx e=>?_,fun x hx hm=>ha ▸ h.wt x hx (hw _ hm)⟩
 ·rcases ho with ho|ho
  ·rw [ho]; exact h.ow
  ·exact h.wa _ ho
 ·rcases ho with ho|ho
  ·rw [ha]; exact h.dn x hx (e.trans ho)
  ·have:=(h.wt x hx (e ▸ ho)).1;intro q; omega
 ·rcases ho with ho|ho
  ·rw [ha]; exact h.op x hx (e.trans ho)
  ·exact fun _=>.inr (ha ▸ (h.wt x hx (e ▸ ho)).2)
def vC {D:List Int} {n:Int}:rC D n=true↔n∉D:=by simp [rC]
def GP {D:List Int} {l:List aa} {s:aa}:s∈Ha D l↔∃ s0∈l,s=EP D s0/\s.Layers≠[]:=by
 simp only [Ha,aee,ade,adE,decide_eq_false_iff_not];constructor
 ·rintro ⟨⟨s0,h1,h2⟩,h3⟩; exact ⟨s0,h1,h2.symm,h3⟩
 ·rintro ⟨s0,h1,h2,h3⟩; exact ⟨⟨s0,h1,h2.symm⟩,h3⟩
def Lz {t:ae} {D:List Int} {L:List ai} {s:aa} {y:al} (hs:s∈t.Stacks) (hy:y∈s.Layers) (hn:y.Txn_∉D):∃ s'∈Ha D t.Stacks,s'.Actor=s.Actor/\y∈s'.Layers:=by
 have hm:y∈(EP D s).Layers:=aee.2 ⟨hy,vC.2 hn⟩;exact ⟨EP D s,GP.2 ⟨s,hs,rfl,agu hm⟩,rfl,hm⟩
structure Lks (t:ae) (D:List Int) (L:List ai):Prop where
 vt:VT L
 fr:∀ l'∈L,∃ l∈t.Locks,l'.Actor=l.Actor/\(l'.Owner=l.Owner∨l'.Owner∈l.Waiters)/\(∀ w∈l'.Waiters,w∈l.Waiters)/\l'.Owner∉D/\∀ w∈l'.Waiters,w∉D
 to:∀ l∈t.Locks,l.Owner∉D->∃ l'∈L,l'.Actor=l.Actor/\l'.Owner=l.Owner
def V6 {t:ae} (h:TV t) {D:List Int} {L:List ai} (hL:Lks t D L):TV ⟨t.Txns.filter fun x=>rC D x.ID,L,Ha D t.Stacks⟩:=by
 have hx:∀ {x:Txn},(x∈t.Txns.filter fun x=>rC D x.ID)->x∈t.Txns/\x.ID∉D:=fun {x} hx=>by
  obtain ⟨h1,h2⟩:=aee.1 hx;exact ⟨h1,vC.1 h2⟩
 have hid:∀ {n:Int},n∈ids t->n∉D->n∈ids ⟨t.Txns.filter fun x=>rC D x.ID,L,Ha D t.Stacks⟩:=fun {n} h1 h2=>by
  obtain ⟨x,hx,rfl⟩:=ade.1 h1;exact ade.2 ⟨x,aee.2 ⟨hx,vC.2 h2⟩,rfl⟩
 refine ⟨⟨fun x q=>h.tx.x x (hx q).1,h.tx.so.filter _,adW (ae1 _ _) h.tx.len⟩,hL.vt,?_,fun s hs=>?_,fun x q c hc=>?_,fun l' hl'=>?_,?_⟩
 ·unfold Ha;exact (ad2.2 (h.ss.imp fun q=>q)).filter _
 ·obtain ⟨s0,hs0,rfl,hne⟩:=GP.1 hs;have hS:=h.st s0 hs0;have hin:∀ {y:al},y∈(EP D s0).Layers->y∈s0.Layers/\y.Txn_∉D:=fun hy=>by
   obtain ⟨h1,h2⟩:=aee.1 hy;exact ⟨h1,vC.1 h2⟩
  refine ⟨hne,fun y hy=>hid (hS.id y (hin hy).1) (hin hy).2,fun y hy=>hS.fi y (hin hy).1,fun i y hy hp=>?_,fun y hy x q e=>hS.ex y (hin hy).1 x (hx q).1 e⟩;have hm:=hin (acE hy);obtain ⟨j,hj⟩:=acR hm.1;obtain ⟨h1,k,h2,h3,h4⟩:=hS.up j y hj hp;refine ⟨?_,?_⟩
  ·
   have hjl:=(acD.1 hj).1;have e:s0.Layers=s0.Layers.take j++[y]:=by
    have:=ad7 j s0.Layers;rw [adQ hjl,(acD.1 hj).2,adN (by omega)] at this;exact this.symm
   have e2:(EP D s0).Layers=(s0.Layers.take j).filter (fun y=>rC D y.Txn_)++[y]:=by
    have q:=congrArg (List.filter fun y=>rC D y.Txn_) e;have:rC D y.Txn_=true:=vC.2 hm.2;rw [aeh,show [y].filter (fun y=>rC D y.Txn_)=[y] by simp [this]] at q;exact q
   rw [e2] at hy ⊢;rcases aeg i ((s0.Layers.take j).filter fun y=>rC D y.Txn_).length with q|q
   ·exfalso;rw [acN q] at hy;have hm2:=acE hy;obtain ⟨i2,hi2⟩:=acR (aee.1 hm2).1;rw [ada] at hi2;split at hi2
    ·obtain ⟨g1,_⟩:=hS.up i2 y hi2 hp;omega
    ·cases hi2
   ·have:=(acD.1 hy).1;simp at this ⊢; omega
  ·obtain ⟨k',g1,g2,g3⟩:=hL.to k h2 (h4 ▸ hm.2);exact ⟨k',g1,g2.trans h3,g3.trans h4⟩
 ·obtain ⟨hm,hn⟩:=hx q;obtain ⟨s,hs,ha,y,hy,e⟩:=h.pr x hm c hc;obtain ⟨s',g1,g2,g3⟩:=Lz (L:=L) hs hy (e ▸ hn);exact ⟨s',g1,g2.trans ha,y,g3,e⟩
 ·obtain ⟨l,h1,h2,h3,h4,h5,h6⟩:=hL.fr l' hl';have hP:=(h.lp l h1).pass h2 h3 h4;refine ⟨hid hP.ow h5,fun w hw=>hid (hP.wa w hw) (h6 w hw),fun x q e hd=>?_,fun x q e hd=>?_,fun x q hw=>hP.wt x (hx q).1 hw⟩
  ·obtain ⟨s,hs,ha,y,hy,g1,g2⟩:=hP.dn x (hx q).1 e hd;obtain ⟨s',q1,q2,q3⟩:=Lz (L:=L) hs hy (g1 ▸ (hx q).2);exact ⟨s',q1,q2.trans ha,y,q3,g1,g2⟩
  ·rcases hP.op x (hx q).1 e hd with ⟨s,hs,ha,y,hy,g1⟩|g
   ·obtain ⟨s',q1,q2,q3⟩:=Lz (L:=L) hs hy (g1 ▸ (hx q).2);exact .inl ⟨s',q1,q2.trans ha,y,q3,g1⟩
   ·exact .inr g
 ·obtain ⟨r,hr⟩:=h.ac;refine ⟨r,fun s hs=>?_⟩;obtain ⟨s0,hs0,rfl,_⟩:=GP.1 hs;exact (hr s0 hs0).filter _
end Go.Proofs.YtmacaidmhchpgaaGreat
namespace Go.Proofs.YtmacaidmhchpgaaGreat
open Go Go.Proofs Go.Abs
def N8 {t:List ai} (h:VT t) {k k':ai} (hk:k∈t) (hk':k'∈t) (e:k.Actor=k'.Actor):k=k':=by
 have h1:=(Az h hk).1;have h2:=(Az h hk').1;rw [e,h2] at h1;simpa using h1.symm
def kT (n:Int) (f:List Value) (l:List al):List al:=match l[l.length - 1]? with
 | some z=>if z.Txn_=n then l.set (l.length - 1) ⟨z.Txn_,f,z.Prepared⟩ else l++[⟨n,f,false⟩]
 | none=>[⟨n,f,false⟩]
def On {α:Type} {l:List α} {z:α} (h:l[l.length - 1]?=some z):l=l.take (l.length - 1)++[z]:=by
 have hl:=(acD.1 h).1;have:=ad7 (l.length - 1) l;rw [adQ hl,(acD.1 h).2,adN (by omega)] at this;exact this.symm
def WH {α:Type} {l:List α} {y z:α} (h:l[l.length - 1]?=some z):l.set (l.length - 1) y=l.take (l.length - 1)++[y]:=by
 have hl:=(acD.1 h).1;rw [List.set_eq_take_append_cons_drop,if_pos hl,adN (by omega)]
structure abX (n:Int) (f:List Value) (lay base new:List al):Prop where
 new:new=base++[⟨n,f,false⟩]
 old:∀ y∈base,y∈lay/\y.Txn_≠n/\y.Prepared=true
 all:∀ y∈lay,y∈base∨(y.Txn_=n/\y.Prepared=false)
 sub:base.Sublist lay
structure Exe (t:ae) (i:Nat) (x:Txn) (c:ah) (k:ai):Prop where
 hi:t.Txns[i]?=some x
 dn:x.Done < x.Calls.length
 hc:x.Calls[x.Done.toNat]?=some c
 hk:k∈t.Locks
 ka:k.Actor=c.Target
 ko:k.Owner=x.ID
section
variable {t:ae} {i:Nat} {x:Txn} {c:ah} {k:ai}
def Exe.np (h:TV t) (e:Exe t i x c k) {s:aa} (hs:s∈t.Stacks) {y:al} (hy:y∈s.Layers) (hn:y.Txn_=x.ID):y.Prepared=false:=by
 cases hp:y.Prepared with
 | false=>rfl
 | true=>
  have:=((h.st s hs).ex y hy x (acE e.hi) hn.symm).2 hp;have:=e.dn; omega
def X6 (h:TV t) (e:Exe t i x c k) (f:List Value) {lay:List al} (hl:lay=[]∨(⟨c.Target,lay⟩:aa)∈t.Stacks):∃ base,abX x.ID f lay base (kT x.ID f lay):=by
 rcases hl with rfl|hs
 ·exact ⟨[],⟨by simp [kT],by simp,by simp,.slnil⟩⟩
 ·have hS:=h.st _ hs;obtain ⟨z,hz⟩:=K3 hS.ne;have hlen:=aeq.2 hS.ne;simp only at hz hlen;have hzm:=acE hz;unfold kT;rw [hz];by_cases q:z.Txn_=x.ID
  ·have hzp:=e.np h hs hzm q;simp only [q,if_true,WH hz,hzp];refine ⟨_,⟨rfl,fun y hy=>?_,fun y hy=>?_,afl _ _⟩⟩
   ·obtain ⟨j,hj⟩:=acR hy;rw [ada] at hj;split at hj
    ·have hym:=acE hj;have hp:y.Prepared=true:=by
      cases hp:y.Prepared with
      | true=>rfl
      | false=>have:=(hS.up j y hj hp).1; simp only at this; omega
     exact ⟨hym,fun e2=>(by rw [e.np h hs hym e2] at hp; cases hp),hp⟩
    ·cases hj
   ·rw [On hz] at hy;rcases acZ.1 hy with hy|hy
    ·exact .inl hy
    ·simp only [acW] at hy; rw [hy]; exact .inr ⟨q,hzp⟩
  ·simp only [q,if_false];have hall:∀ y∈lay,y.Prepared=true:=fun y hy=>by
    cases hp:y.Prepared with
    | true=>rfl
    | false=>
     exfalso;obtain ⟨j,hj⟩:=acR hy;obtain ⟨g1,k',g2,g3,g4⟩:=hS.up j y hj hp;simp only at g1 g3;have:j=lay.length - 1:=by omega
     rw [this,hz] at hj;simp only [acB] at hj;have:=N8 h.lk e.hk g2 (e.ka.trans g3.symm);rw [<-this,e.ko,<-hj] at g4;exact q g4.symm
   refine ⟨lay,⟨rfl,fun y hy=>⟨hy,fun e2=>?_,hall y hy⟩,fun y hy=>.inl hy,List.Sublist.refl _⟩⟩;have:=hall y hy;rw [e.np h hs hy e2] at this; cases this
def FV {α:Type} {l:List α} {i:Nat} {x y z:α} (hx:l[i]?=some x) (h:z∈l.set i y):z=y∨∃ j,j≠i/\l[j]?=some z:=by
 obtain ⟨j,hj⟩:=acR h;rw [adj] at hj;split at hj
 ·split at hj
  ·simp only [acB] at hj; exact .inl hj.symm
  ·cases hj
 ·rename_i q; exact .inr ⟨j,fun e=>q e.symm,hj⟩
theorem Ti {l:List Txn} {i:Nat} {x y:Txn} (hx:l[i]?=some x) (e:y.ID=x.ID):(l.set i y).map Txn.ID=l.map Txn.ID:=by
 rw [afe,e];exact tz (by rw [acK,hx]; rfl)
def As (t:ae) (i:Nat) (x:Txn) (r:Value) (S:List aa):ae:=⟨t.Txns.set i ⟨x.ID,x.Born,x.Client,x.Seq,x.Calls,x.Done+1,r⟩,t.Locks,S⟩
def Tc (h:TV t) (e:Exe t i x c k) {f:List Value} {r:Value} (hf:uG f=true) (hr:mP r=true) {A B:List aa} {lay:List al} (hsp:t.Stacks=A++⟨c.Target,lay⟩::B∨(t.Stacks=A++B/\lay=[]))
  (hA:∀ s∈A,rl s.Actor c.Target=true) (hB:∀ s∈B,rl c.Target s.Actor=true):TV (As t i x r (A++⟨c.Target,kT x.ID f lay⟩::B)):=by
 have hx:=acE e.hi;obtain ⟨hX,hR⟩:=h.tx.x x hx;have hd1:=hX.d1; have hdn:=e.dn;have hAS:∀ s∈A,s∈t.Stacks:=fun s hs=>by rcases hsp with q|⟨q,_⟩<;>rw [q]<;>simp [hs]
 have hBS:∀ s∈B,s∈t.Stacks:=fun s hs=>by rcases hsp with q|⟨q,_⟩<;>rw [q]<;>simp [hs]
 have hcase:∀ s∈t.Stacks,s∈A∨s∈B∨s=⟨c.Target,lay⟩:=fun s hs=>by
  rcases hsp with q|⟨q,_⟩
  ·rw [q] at hs; simp only [acZ,ac6] at hs;rcases hs with hs|hs|hs
   ·exact .inl hs
   ·exact .inr (.inr hs)
   ·exact .inr (.inl hs)
  ·rw [q] at hs;rcases acZ.1 hs with hs|hs
   ·exact .inl hs
   ·exact .inr (.inl hs)
 have hlay:lay=[]∨(⟨c.Target,lay⟩:aa)∈t.Stacks:=by
  rcases hsp with q|⟨_,q⟩
  ·exact .inr (by rw [q]; simp)
  ·exact .inl q
 obtain ⟨base,hP⟩:=X6 h e f hlay;have hT:∀ {y:Txn},y∈t.Txns.set i ⟨x.ID,x.Born,x.Client,x.Seq,x.Calls,x.Done+1,r⟩->y=⟨x.ID,x.Born,x.Client,x.Seq,x.Calls,x.Done+1,r⟩∨(y∈t.Txns/\y.ID≠x.ID):=fun {y} hy=>by
  rcases FV e.hi hy with q|⟨j,hj,q⟩
  ·exact .inl q
  ·refine .inr ⟨acE q,fun e2=>hj ?_⟩;obtain ⟨h1,rfl⟩:=acD.1 q;obtain ⟨h2,h3⟩:=acD.1 e.hi;subst h3;have:=ac1.1 h.tx.so;rcases aen j i with q2|q2|q2
   ·have:=this j i h1 h2 q2; omega
   ·exact q2
   ·have:=this i j h2 h1 q2; omega
 have hids:ids (As t i x r (A++⟨c.Target,kT x.ID f lay⟩::B))=ids t:=Ti e.hi rfl;have hnw:(⟨x.ID,f,false⟩:al)∈kT x.ID f lay:=by rw [hP.new]; simp
 have hnS:(⟨c.Target,kT x.ID f lay⟩:aa)∈A++⟨c.Target,kT x.ID f lay⟩::B:=by simp
 have keep:∀ s∈t.Stacks,∀ y∈s.Layers,∃ s'∈A++(⟨c.Target,kT x.ID f lay⟩:aa)::B,s'.Actor=s.Actor/\∃ y'∈s'.Layers,y'.Txn_=y.Txn_/\y'.Prepared=y.Prepared:=fun s hs y hy=>by
  rcases hcase s hs with q|q|rfl
  ·exact ⟨s,by simp [q],rfl,y,hy,rfl,rfl⟩
  ·exact ⟨s,by simp [q],rfl,y,hy,rfl,rfl⟩
  ·refine ⟨_,hnS,rfl,?_⟩;rcases hP.all y hy with q|⟨q1,q2⟩
   ·exact ⟨y,by rw [hP.new]; simp [q],rfl,rfl⟩
   ·exact ⟨_,hnw,q1.symm,q2.symm⟩
 have keepL:∀ {a:Ref} {n:Int},DJ t a n->DJ (As t i x r (A++⟨c.Target,kT x.ID f lay⟩::B)) a n:=fun ⟨s,hs,ha,y,hy,hn⟩=>by
  obtain ⟨s',g1,g2,y',g3,g4,_⟩:=keep s hs y hy;exact ⟨s',g1,g2.trans ha,y',g3,g4.trans hn⟩
 have newL:DJ (As t i x r (A++⟨c.Target,kT x.ID f lay⟩::B)) c.Target x.ID:=⟨_,hnS,rfl,_,hnw,rfl⟩;have exold:∀ s∈t.Stacks,∀ l∈s.Layers,∀ y∈t.Txns.set i ⟨x.ID,x.Born,x.Client,x.Seq,x.Calls,x.Done+1,r⟩,y.ID=l.Txn_->(∃ c∈y.Calls.take y.Done.toNat,c.Target=s.Actor)/\(l.Prepared=true->y.Done=y.Calls.length):=fun s hs l hl y hy hyl=>by
  rcases hT hy with rfl|⟨q1,q2⟩
  ·have hnp:=e.np h hs hl hyl.symm;obtain ⟨⟨c',g1,g2⟩,_⟩:=(h.st s hs).ex l hl x hx hyl;refine ⟨⟨c',?_,g2⟩,fun q=>by rw [hnp] at q; cases q⟩;show c'∈x.Calls.take (x.Done+1).toNat;obtain ⟨j,hj⟩:=acR g1;rw [ada] at hj;split at hj
   ·exact acE (i:=j) (by rw [ada,if_pos (by omega)]; exact hj)
   ·cases hj
  ·exact (h.st s hs).ex l hl y q1 hyl
 have svold:∀ s∈t.Stacks,SV (As t i x r (A++⟨c.Target,kT x.ID f lay⟩::B)) s:=fun s hs=>
  ⟨(h.st s hs).ne,fun l hl=>hids ▸ (h.st s hs).id l hl,(h.st s hs).fi,(h.st s hs).up,exold s hs⟩
 refine ⟨⟨fun y hy=>?_,?_,?_⟩,h.lk,?_,fun s hs=>?_,fun y hy c' hc'=>?_,fun l hl=>?_,?_⟩
 ·rcases hT hy with rfl|⟨q,_⟩
  ·exact ⟨⟨hX.i1,hX.i2,hX.c1,hX.c2,by simp only; omega,by simp only; omega,hr,hX.ca⟩,hR.1,hR.2.1,hR.2.2.1,hR.2.2.2.1,hR.2.2.2.2.1,hR.2.2.2.2.2.1,fun q=>by simp only at q; omega⟩
  ·exact h.tx.x y q
 ·have hso:=h.tx.so;have:=(ad2 (f:=Txn.ID) (R:=fun a b:Int=>a < b)).2 hso;rw [<-Ti e.hi (y:=⟨x.ID,x.Born,x.Client,x.Seq,x.Calls,x.Done+1,r⟩) rfl] at this;exact ad2.1 this
 ·show (t.Txns.set i _).length<=32;rw [ac7]; exact h.tx.len
 ·show (A++⟨c.Target,kT x.ID f lay⟩::B).Pairwise _;have hss:=h.ss;have hAB:(A++B).Pairwise fun a b=>rl a.Actor b.Actor=true:=by
   rcases hsp with q|⟨q,_⟩
   ·rw [q] at hss; exact hss.sublist (List.Sublist.append_left (List.sublist_cons_self _ _) _)
   ·rwa [q] at hss
  obtain ⟨g1,g2,g3⟩:=ad3.1 hAB;refine ad3.2 ⟨g1,aeJ.2 ⟨fun s hs=>hB s hs,g2⟩,fun a ha b hb=>?_⟩;rcases ac6.1 hb with rfl|hb
  ·exact hA a ha
  ·exact g3 a ha b hb
 ·simp only [As,acZ,ac6] at hs;rcases hs with hs|rfl|hs
  ·exact svold s (hAS s hs)
  ·have hbase:∀ y∈base,(⟨c.Target,lay⟩:aa)∈t.Stacks/\y∈lay:=fun y hy=>by
    have:=(hP.old y hy).1;rcases hlay with q|q
    ·rw [q] at this; cases this
    ·exact ⟨q,this⟩
   have hin:∀ {y:al},y∈kT x.ID f lay->y∈base∨y=⟨x.ID,f,false⟩:=fun hy=>by
    rw [hP.new] at hy;simpa using hy
   refine ⟨by rw [hP.new]; simp,fun l hl=>?_,fun l hl=>?_,fun j l hj hp=>?_,fun l hl y hy hyl=>?_⟩
   ·rw [hids];rcases hin hl with q|rfl
    ·exact (h.st _ (hbase l q).1).id l (hbase l q).2
    ·exact CW e.hi
   ·rcases hin hl with q|rfl
    ·exact (h.st _ (hbase l q).1).fi l (hbase l q).2
    ·exact hf
   ·simp only [hP.new] at hj ⊢;rcases aeg j base.length with q|q
    ·rw [acN q] at hj;have:=(hP.old l (acE hj)).2.2;rw [hp] at this; cases this
    ·have hjl:=(acD.1 hj).1;simp at hjl;have:j=base.length:=by omega
     subst this;simp only [adi,List.length_singleton,true_and];simp at hj;exact ⟨k,e.hk,e.ka,by rw [<-hj]; exact e.ko⟩
   ·rcases hin hl with q|rfl
    ·exact exold _ (hbase l q).1 l (hbase l q).2 y hy hyl
    ·refine ⟨?_,fun q=>by cases q⟩;rcases hT hy with rfl|⟨_,q⟩
     ·refine ⟨c,?_,rfl⟩;show c∈x.Calls.take (x.Done+1).toNat;exact acE (i:=x.Done.toNat) (by rw [ada,if_pos (by omega)]; exact e.hc)
     ·exact absurd hyl q
  ·exact svold s (hBS s hs)
 ·rcases hT hy with rfl|⟨q,_⟩
  ·have hc2:c'∈x.Calls.take (x.Done+1).toNat:=hc';obtain ⟨j,hj⟩:=acR hc2;rw [ada] at hj;split at hj
   ·rename_i hlt;rcases aeg j x.Done.toNat with q|q
    ·exact keepL (h.pr x hx c' (acE (i:=j) (by rw [ada,if_pos q]; exact hj)))
    ·have:j=x.Done.toNat:=by omega
     rw [this,e.hc] at hj;simp only [acB] at hj;rw [<-hj]; exact newL
   ·cases hj
  ·exact keepL (h.pr y q c' hc')
 ·have hL:=h.lp l hl;have oldat:At x l.Actor->c.Target=l.Actor:=fun ⟨c2,g1,g2⟩=>by
   rw [e.hc] at g1;simp only [acB] at g1;rw [g1]; exact g2
  have hasx:x.ID=l.Owner->DJ t l.Actor x.ID∨c.Target=l.Actor:=fun q=>(hL.op x hx q e.dn).imp_right oldat;refine ⟨hids ▸ hL.ow,fun w hw=>hids ▸ hL.wa w hw,fun y hy hyo hd=>?_,fun y hy hyo hd=>?_,fun y hy hw=>?_⟩
  ·rcases hT hy with rfl|⟨q,_⟩
   ·rcases hasx hyo with ⟨s,hs,ha,z,hz,hn⟩|q
    ·obtain ⟨s',g1,g2,z',g3,g4,g5⟩:=keep s hs z hz;exact ⟨s',g1,g2.trans ha,z',g3,g4.trans hn,g5.trans (e.np h hs hz hn)⟩
    ·exact ⟨_,hnS,q,_,hnw,rfl,rfl⟩
   ·obtain ⟨s,hs,ha,z,hz,hn,hp⟩:=hL.dn y q hyo hd;obtain ⟨s',g1,g2,z',g3,g4,g5⟩:=keep s hs z hz;exact ⟨s',g1,g2.trans ha,z',g3,g4.trans hn,g5.trans hp⟩
  ·rcases hT hy with rfl|⟨q,_⟩
   ·rcases hasx hyo with q|q
    ·exact .inl (keepL q)
    ·exact .inl (q ▸ newL)
   ·exact (hL.op y q hyo hd).imp_left keepL
  ·rcases hT hy with rfl|⟨q,_⟩
   ·exfalso;have hat:=oldat (hL.wt x hx hw).2;have:=N8 h.lk e.hk hl (e.ka.trans hat);subst this;have:=((h.lk.l k e.hk).w x.ID hw).2;rw [e.ko] at this; omega
   ·exact hL.wt y q hw
 ·obtain ⟨rk,hrk⟩:=h.ac;obtain ⟨M,hM⟩:∃ M,∀ n∈ids t,rk n<=M:=by
   generalize ids t=l
   induction l with
   | nil=>exact ⟨0,by simp⟩
   | cons a l ih=>
    obtain ⟨M,hM⟩:=ih;refine ⟨max M (rk a),fun n hn=>?_⟩;rcases ac6.1 hn with rfl|hn
    ·exact ad6 _ _
    ·exact adW (hM n hn) (ad5 _ _)
  refine ⟨fun n=>if n=x.ID then M+1 else rk n,fun s hs=>?_⟩;have old:∀ s∈t.Stacks,Rk (fun n=>if n=x.ID then M+1 else rk n) s:=fun s hs=>by
   unfold Rk;rw [ac1];intro a b ha hb hab;have hlt:=ac1.1 (hrk s hs) a b ha hb hab;have hane:s.Layers[a].Txn_≠x.ID:=fun q=>by
    have:=((h.st s hs).up a _ (acH ha) (e.np h hs (adF ha) q)).1;omega
   simp only [hane,if_false];split
   ·have:=hM _ ((h.st s hs).id _ (adF ha)); omega
   ·exact hlt
  simp only [As,acZ,ac6] at hs;rcases hs with hs|rfl|hs
  ·exact old s (hAS s hs)
  ·unfold Rk;simp only [hP.new];refine ad3.2 ⟨?_,by simp,fun a ha b hb=>?_⟩
   ·rcases hlay with q|q
    ·have:base=[]:=by rw [q] at hP; exact List.sublist_nil.1 hP.sub
     rw [this]; exact .nil
    ·exact (old _ q).sublist hP.sub
   ·simp only [acW] at hb;subst hb;simp only [if_true,(hP.old a ha).2.1,if_false];rcases hlay with q|q
    ·rw [q] at hP; have:=(hP.old a ha).1; cases this
    ·have:=hM _ ((h.st _ q).id a (hP.old a ha).1); omega
  ·exact old s (hBS s hs)
end
end Go.Proofs.YtmacaidmhchpgaaGreat
namespace Go.Proofs.YtmacaidmhchpgaaGreat
open Go Go.Proofs Go.Abs
def YG {t:ae} (h:TV t) {x:Txn} (hx:x∈t.Txns) (hd:x.Done=x.Calls.length) {j:Nat} {s:aa} (hj:t.Stacks[j]?=some s) {y:al} (hy:s.Layers[s.Layers.length - 1]?=some y) (hn:y.Txn_=x.ID) (hp:y.Prepared=false)
  {k:ai} (hk:k∈t.Locks) (hka:k.Actor=s.Actor) {L:List ai} (hv:VT L) (h1:∀ l'∈L,(l'∈t.Locks/\l'.Actor≠s.Actor)∨(l'.Actor=k.Actor/\l'.Owner∈k.Waiters/\∀ w∈l'.Waiters,w∈k.Waiters)) (h2:∀ l∈t.Locks,l.Actor≠s.Actor->l∈L) :
  TV ⟨t.Txns,L,t.Stacks.set j ⟨s.Actor,s.Layers.set (s.Layers.length - 1) ⟨y.Txn_,y.Fields,true⟩⟩⟩:=by
 have hs:=acE hj;have hS:=h.st s hs;have hym:=acE hy;have hne:∀ {s':aa} {i:Nat},i≠j->t.Stacks[i]?=some s'->s'.Actor≠s.Actor:=fun {s' i} hi q e=>by
  have:=CV h.ss hj (acE q) e;obtain ⟨g1,rfl⟩:=acD.1 q;obtain ⟨g2,g3⟩:=acD.1 hj;have hp:=ac1.1 h.ss;rcases aen i j with q2|q2|q2
  ·have:=hp i j g1 g2 q2; rw [g3,e,ji] at this; cases this
  ·exact hi q2
  ·have:=hp j i g2 g1 q2; rw [g3,e,ji] at this; cases this
 have hin:∀ {s':aa},s'∈t.Stacks.set j ⟨s.Actor,s.Layers.set (s.Layers.length - 1) ⟨y.Txn_,y.Fields,true⟩⟩->s'=⟨s.Actor,s.Layers.set (s.Layers.length - 1) ⟨y.Txn_,y.Fields,true⟩⟩∨(s'∈t.Stacks/\s'.Actor≠s.Actor):=fun hs'=>by
  rcases FV hj hs' with q|⟨i,hi,q⟩
  ·exact .inl q
  ·exact .inr ⟨acE q,hne hi q⟩
 have hto:∀ {s':aa},s'∈t.Stacks->s'.Actor≠s.Actor->s'∈t.Stacks.set j ⟨s.Actor,s.Layers.set (s.Layers.length - 1) ⟨y.Txn_,y.Fields,true⟩⟩:=fun {s'} hs' q=>by
  obtain ⟨i,hi⟩:=acR hs';have:j≠i:=fun e=>by rw [<-e,hj] at hi; simp only [acB] at hi; exact q (hi ▸ rfl)
  exact acE (i:=i) (by rw [aef this]; exact hi)
 have hnew:(⟨s.Actor,s.Layers.set (s.Layers.length - 1) ⟨y.Txn_,y.Fields,true⟩⟩:aa)∈t.Stacks.set j ⟨s.Actor,s.Layers.set (s.Layers.length - 1) ⟨y.Txn_,y.Fields,true⟩⟩:=
  acE (i:=j) (by rw [aeW (acD.1 hj).1])
 have hlay:∀ {l:al},l∈s.Layers.set (s.Layers.length - 1) ⟨y.Txn_,y.Fields,true⟩->l=⟨y.Txn_,y.Fields,true⟩∨(l∈s.Layers/\l.Prepared=true):=fun {l} hl=>by
  rcases FV hy hl with q|⟨i,hi,q⟩
  ·exact .inl q
  ·refine .inr ⟨acE q,?_⟩;cases hpp:l.Prepared with
   | true=>rfl
   | false=>have:=(hS.up i l q hpp).1; omega
 have keepL:∀ {a:Ref} {n:Int},DJ t a n->DJ ⟨t.Txns,L,t.Stacks.set j ⟨s.Actor,s.Layers.set (s.Layers.length - 1) ⟨y.Txn_,y.Fields,true⟩⟩⟩ a n:=fun ⟨s',hs',ha,z,hz,hzn⟩=>by
  by_cases q:s'.Actor=s.Actor
  ·have:=CV h.ss hj hs' q;subst this;refine ⟨_,hnew,ha,?_⟩;obtain ⟨i,hi⟩:=acR hz;by_cases e:i=s'.Layers.length - 1
   ·subst e;rw [hi] at hy;simp only [acB] at hy;exact ⟨⟨y.Txn_,y.Fields,true⟩,acE (i:=s'.Layers.length - 1) (by rw [aeW (acD.1 hi).1]),by rw [<-hy]; exact hzn⟩
   ·exact ⟨z,acE (i:=i) (by rw [aef (fun q=>e q.symm)]; exact hi),hzn⟩
  ·exact ⟨s',hto hs' q,ha,z,hz,hzn⟩
 refine ⟨⟨h.tx.x,h.tx.so,h.tx.len⟩,hv,?_,fun s' hs'=>?_,fun z hz c hc=>keepL (h.pr z hz c hc),fun l hl=>?_,?_⟩
 ·have:=(ad2 (f:=aa.Actor) (R:=fun a b=>rl a b=true)).2 h.ss;have e:(t.Stacks.set j ⟨s.Actor,s.Layers.set (s.Layers.length - 1) ⟨y.Txn_,y.Fields,true⟩⟩).map aa.Actor=t.Stacks.map aa.Actor:=by
   rw [afe]; exact tz (by rw [acK,hj]; rfl)
  rw [<-e] at this;exact ad2.1 this
 ·rcases hin hs' with rfl|⟨q,qa⟩
  ·refine ⟨fun e=>hS.ne (by have:=congrArg List.length e; simpa using this),fun l hl=>?_,fun l hl=>?_,fun i l hi hlp=>?_,fun l hl z hz e=>?_⟩
   ·rcases hlay hl with rfl|⟨q,_⟩
    ·exact hS.id y hym
    ·exact hS.id l q
   ·rcases hlay hl with rfl|⟨q,_⟩
    ·exact hS.fi y hym
    ·exact hS.fi l q
   ·exfalso;rcases hlay (acE hi) with rfl|⟨_,q⟩
    ·cases hlp
    ·rw [hlp] at q; cases q
   ·rcases hlay hl with rfl|⟨q,_⟩
    ·obtain ⟨g1,_⟩:=hS.ex y hym z hz e;refine ⟨g1,fun _=>?_⟩;have:z=x:=h.tx.uniq hz hx (e.trans hn);rw [this]; exact hd
    ·exact hS.ex l q z hz e
  ·have hS':=h.st s' q;exact ⟨hS'.ne,hS'.id,hS'.fi,fun i l hi hlp=>by
    obtain ⟨g1,k',g2,g3,g4⟩:=hS'.up i l hi hlp;exact ⟨g1,k',h2 k' g2 (g3 ▸ qa),g3,g4⟩,hS'.ex⟩
 ·rcases h1 l hl with ⟨q,qa⟩|⟨qa,qo,qw⟩
  ·have hL:=h.lp l q;refine ⟨hL.ow,hL.wa,fun z hz e hzd=>?_,fun z hz e hzd=>(hL.op z hz e hzd).imp_left keepL,hL.wt⟩;obtain ⟨s',g1,g2,g3⟩:=hL.dn z hz e hzd;exact ⟨s',hto g1 (g2 ▸ qa),g2,g3⟩
  ·have hL:=h.lp k hk;refine ⟨hL.wa _ qo,fun w hw=>hL.wa w (qw w hw),fun z hz e hzd=>?_,fun z hz e _=>.inr (qa ▸ (hL.wt z hz (e ▸ qo)).2),fun z hz hw=>qa ▸ hL.wt z hz (qw _ hw)⟩;have:=(hL.wt z hz (e ▸ qo)).1; omega
 ·obtain ⟨r,hr⟩:=h.ac;refine ⟨r,fun s' hs'=>?_⟩;rcases hin hs' with rfl|⟨q,_⟩
  ·have:=(ad2 (f:=al.Txn_) (R:=fun a b=>r a < r b)).2 (hr s hs);have e:(s.Layers.set (s.Layers.length - 1) ⟨y.Txn_,y.Fields,true⟩).map al.Txn_=s.Layers.map al.Txn_:=by
    rw [afe]; exact tz (by rw [acK,hy]; rfl)
   rw [<-e] at this;exact (ad2 (f:=al.Txn_) (R:=fun a b=>r a < r b)).1 this
  ·exact hr s' q
def OB {w:List Int} (h:w.length≠0):u6 w∈w:=acE (Eb h)
def Nu {n:Int}:∀ {t:List ai} {y:ai},y∈(j3 n t).1->∃ x∈t,y.Actor=x.Actor/\(∀ w∈y.Waiters,w∈x.Waiters)/\((y.Owner=x.Owner/\x.Owner≠n)∨y.Owner∈x.Waiters)
 | z::t,y,h=>by
  simp only [j3] at h;have ih:∀ {y:ai},y∈(j3 n t).1->∃ x∈z::t,y.Actor=x.Actor/\(∀ w∈y.Waiters,w∈x.Waiters)/\((y.Owner=x.Owner/\x.Owner≠n)∨y.Owner∈x.Waiters):=fun q=>by
   obtain ⟨x,g1,g2⟩:=Nu q;exact ⟨x,by simp [g1],g2⟩
  split at h
  ·split at h
   ·exact ih h
   ·rename_i e;rcases ac6.1 h with rfl|h
    ·exact ⟨z,by simp,rfl,fun w hw=>adC hw,.inr (OB e)⟩
    ·exact ih h
  ·rename_i e;rcases ac6.1 h with rfl|h
   ·exact ⟨y,by simp,rfl,fun w hw=>hw,.inl ⟨rfl,e⟩⟩
   ·exact ih h
def JD {n:Int}:∀ {t:List ai} {x:ai},x∈t->x.Owner≠n->x∈(j3 n t).1
 | z::t,x,h,hn=>by
  simp only [j3];rcases ac6.1 h with rfl|h
  ·rw [if_neg hn]; simp
  ·split
   ·split
    ·exact JD h hn
    ·exact afz _ (JD h hn)
   ·exact afz _ (JD h hn)
def Es (D:List Int) (t:List ai):List ai:=D.foldl (fun l n=>l.map (wd1 n)) t
def BQ (D:List Int) (t:List ai):List ai:=D.foldl (fun l n=>(j3 n l).1) t
def Ll:∀ {D:List Int} {t:List ai},VT t->VT (Es D t)
 | [],t,h=>h
 | n::D,t,h=>by unfold Es; rw [aeQ]; exact Ll (D:=D) (XP h n)
def Oo:∀ {D:List Int} {t:List ai},VT t->VT (BQ D t)
 | [],t,h=>h
 | n::D,t,h=>by unfold BQ; rw [aeQ]; exact Oo (D:=D) (SU h n)
def Lc:∀ {D:List Int} {t:List ai} {y:ai},y∈Es D t->∃ x∈t,y.Actor=x.Actor/\y.Owner=x.Owner/\∀ w∈y.Waiters,w∈x.Waiters/\w∉D
 | [],t,y,h=>⟨y,h,rfl,rfl,fun w hw=>⟨hw,by simp⟩⟩
 | n::D,t,y,h=>by
  unfold Es at h;rw [aeQ] at h;obtain ⟨x,g1,g2,g3,g4⟩:=Lc (D:=D) h;obtain ⟨z,q1,rfl⟩:=ade.1 g1;refine ⟨z,q1,g2,g3,fun w hw=>?_⟩;obtain ⟨q2,q3⟩:=g4 w hw;obtain ⟨q4,q5⟩:=aee.1 q2;exact ⟨q4,by simp only [neB,adE,decide_eq_false_iff_not] at q5; simp [q3,q5]⟩
def PT:∀ {D:List Int} {t:List ai} {x:ai},x∈t->∃ y∈Es D t,y.Actor=x.Actor/\y.Owner=x.Owner
 | [],t,x,h=>⟨x,h,rfl,rfl⟩
 | n::D,t,x,h=>by
  unfold Es;rw [aeQ];obtain ⟨y,g1,g2,g3⟩:=PT (D:=D) (ade.2 ⟨x,h,rfl⟩:wd1 n x∈t.map (wd1 n));exact ⟨y,g1,g2,g3⟩
def Oh {X:List Int}:∀ {D:List Int} {t:List ai} {y:ai},(∀ x∈t,∀ w∈x.Waiters,w∉X)->(∀ n∈D,n∈X)->y∈BQ D t->∃ x∈t,y.Actor=x.Actor/\(∀ w∈y.Waiters,w∈x.Waiters)/\((y.Owner=x.Owner/\x.Owner∉D)∨y.Owner∈x.Waiters)
 | [],t,y,_,_,h=>⟨y,h,rfl,fun w hw=>hw,.inl ⟨rfl,by simp⟩⟩
 | n::D,t,y,hw,hD,h=>by
  unfold BQ at h;rw [aeQ] at h;obtain ⟨x,g1,g2,g3,g4⟩:=Oh (D:=D) (fun x hx w hw'=>by
   obtain ⟨z,q1,_,q3,_⟩:=Nu hx;exact hw z q1 w (q3 w hw')) (fun m hm=>hD m (by simp [hm])) h
  obtain ⟨z,q1,q2,q3,q4⟩:=Nu g1;refine ⟨z,q1,g2.trans q2,fun w hw'=>q3 w (g3 w hw'),?_⟩;rcases g4 with ⟨g4,g5⟩|g4
  ·rcases q4 with ⟨q4,q5⟩|q4
   ·exact .inl ⟨g4.trans q4,by rw [<-q4]; simp [g5]; rw [q4]; exact q5⟩
   ·exact .inr (g4 ▸ q4)
  ·exact .inr (q3 _ g4)
def N7:∀ {D:List Int} {t:List ai} {x:ai},x∈t->x.Owner∉D->x∈BQ D t
 | [],t,x,h,_=>h
 | n::D,t,x,h,hn=>by
  unfold BQ;rw [aeQ];simp only [ac6,not_or] at hn;exact N7 (D:=D) (JD h hn.1) hn.2
def abL (D:List Int) (t:List ai):List ai:=BQ D (Es D t)
def Y7 {t:ae} (h:TV t) (D:List Int):Lks t D (abL D t.Locks):=by
 refine ⟨Oo (Ll h.lk),fun l' hl'=>?_,fun l hl hn=>?_⟩
 ·obtain ⟨x,g1,g2,g3,g4⟩:=Oh (X:=D) (fun x hx w hw=>by
   obtain ⟨z,_,_,_,q⟩:=Lc hx;exact (q w hw).2) (fun n hn=>hn) hl'
  obtain ⟨z,q1,q2,q3,q4⟩:=Lc g1;refine ⟨z,q1,g2.trans q2,?_,fun w hw=>(q4 w (g3 w hw)).1,?_,fun w hw=>(q4 w (g3 w hw)).2⟩
  ·rcases g4 with ⟨g4,_⟩|g4
   ·exact .inl (g4.trans q3)
   ·exact .inr (q4 _ g4).1
  ·rcases g4 with ⟨g4,g5⟩|g4
   ·rw [g4]; exact g5
   ·exact (q4 _ g4).2
 ·obtain ⟨y,g1,g2,g3⟩:=PT (D:=D) hl;exact ⟨y,N7 g1 (g3 ▸ hn),g2,g3⟩
end Go.Proofs.YtmacaidmhchpgaaGreat
namespace Go.Proofs.YtmacaidmhchpgaaGreat
open Go Go.Proofs Go.Abs
def lpR (a b:Ref):Prop:=rl a b=true
def leR (a b:Ref):Prop:=¬ lpR b a
instance (a b:Ref):Decidable (lpR a b):=by unfold lpR; infer_instance
def GD {a b:Ref}:(sEq a.Type_ b.Type_ && sEq a.Key b.Key)=true↔a=b:=FJ
def Ql (a:Ref):leR a a:=by unfold leR lpR; rw [ji]; simp
def Ma {y p c:Ref} (h1:leR y p) (h2:leR p c) (h3:¬ c=p):lpR y c:=by
 unfold leR lpR at *;have q:rl p c=true:=by
  rcases IB p c with q|q|q
  ·exact q
  ·exact absurd q.symm h3
  ·exact absurd q h2
 rcases IB y p with g|g|g
 ·exact yQ g q
 ·rw [g]; exact q
 ·exact absurd g h1
def aak (N:Nat) {l:List Ref} (hl:l.length<=100000):∃ o,Et (fun x y=>gI N x y) l=some o/\o.Perm l/\o.Pairwise leR:=by
 have hlt:∀ x y,Go.Proofs.ltOf (fun x y=>(gI N x y).getD 0) x y=rl x y:=by
  intro x y;rw [aeV];simp only [Go.Proofs.ltOf,yU,adr,decide_eq_true_eq,AV]
 obtain ⟨o,ho⟩:=Wp (c:=fun x y=>gI N x y) (l:=l) (fun x y=>⟨_,yU N x y⟩) ⟨fun x=>by rw [hlt]; exact ji x,fun x y z h1 h2=>by rw [hlt] at h1 h2 ⊢; exact yQ h1 h2,fun x y z h1 h2=>by
  rw [hlt] at h1 h2 ⊢;cases q:rl x z with
  | false=>rfl
  | true=>
   rcases IB y x with g|g|g
   ·have:=yQ g q; rw [h2] at this; cases this
   ·rw [g,q] at h2; cases h2
   ·rw [h1] at g; cases g⟩ (by omega)
 obtain ⟨hp,hs⟩:=Kv ho;refine ⟨o,ho,hp,hs.imp (fun {a b} q=>?_)⟩;rw [yU,adr,AV] at q;exact q
structure Pu (a l:List Ref) (k j:Nat):Prop where
 len:l.length=a.length
 kj:k<=j
 jl:j<=a.length
 j1:1<=j
 so:(l.take k).Pairwise lpR
 mem:∀ z,z∈l.take k↔z∈a.take j
 rest:∀ i,j<=i+1->l[i]?=a[i]?
 kj':k<=j
theorem EA (a:List Ref) (hs:a.Pairwise leR) (ha:a.length<=100000) (v3:Nat) (h1:1<=v3) (kx:List Ref->Int->Option (List Ref)) :
  ∀ (n:Nat) (l:List Ref) (k m:Nat),a.length < v3+m+n->1<=m->Pu a l k (v3+m)->k < v3+m->∃ l' k',Pu a l' k' a.length/\fU a v3 kx n (l,(k:Int),(m:Int))=kx l' ((k':Nat):Int)
 | 0,l,k,m,hn,hm,h,hk=>by have:=h.jl; omega
 | n+1,l,k,m,hn,hm,h,hk=>by
  have hl:=h.len; have hj:=h.jl;rw [fU];by_cases hlt:v3+m < a.length
  ·rw [if_pos (by omega)];have e1:l[v3+m]?=a[v3+m]?:=h.rest _ (by omega);have e2:l[v3+(m - 1)]?=a[v3+(m - 1)]?:=h.rest _ (by omega);have g1:((l.drop v3).take (a.length - v3))[m]?=some a[v3+m]:=by
    rw [adO (by omega),adb,e1,acH hlt]
   have g2:((l.drop v3).take (a.length - v3))[m - 1]?=some (a[v3+(m - 1)]'(by omega)):=by
    rw [adO (by omega),adb,e2,acH (by omega)]
   rw [aN g1,w64 (by omega) (by omega),show ((m:Int) - 1)=((m - 1:Nat):Int) by omega,aN g2,w64 (n:=(m:Int)+1) (by omega) (by omega),show ((m:Int)+1)=((m+1:Nat):Int) by omega];have htk:∀ z,z∈a.take (v3+m+1)↔z∈a.take (v3+m)∨z=a[v3+m]:=by
    intro z;rw [aeo,acH hlt,acZ,aeI,acW]
   have hprev:(a[v3+(m - 1)]'(by omega))∈a.take (v3+m):=by
    refine acE (i:=v3+(m - 1)) ?_;rw [adO (by omega),acH (by omega)]
   by_cases e:a[v3+m]=(a[v3+(m - 1)]'(by omega))
   ·rw [if_pos (GD.2 e)];refine EA a hs ha v3 h1 kx n l k (m+1) (by omega) (by omega) ⟨hl,by have:=h.kj; omega,by omega,by omega,h.so,fun z=>?_,fun i hi=>h.rest i (by omega),by omega⟩ (by omega);rw [h.mem,<-adw,htk];constructor
    ·exact .inl
    ·rintro (q|q)
     ·exact q
     ·rw [q,e]; exact hprev
   ·rw [if_neg (fun q=>e (GD.1 q))];have hkl:k < l.length:=by omega
    rw [aN (acH hkl),w64 (n:=(k:Int)+1) (by omega) (by omega),show ((k:Int)+1)=((k+1:Nat):Int) by omega,acX];refine EA a hs ha v3 h1 kx n (l.set k a[v3+m]) (k+1) (m+1) (by omega) (by omega) ⟨by simp [hl],by omega,by omega,by omega,?_,fun z=>?_,fun i hi=>?_,by omega⟩ (by omega)
    ·rw [yw hkl,ad3];refine ⟨h.so,by simp,fun y hy z hz=>?_⟩;obtain rfl:=acW.1 hz;have hy':=(h.mem y).1 hy;obtain ⟨i,hi⟩:=adM.1 hy';have hil:=(acD.1 hi).1;simp only [adG] at hil;rw [adO (by omega),acH (by omega),acB] at hi;have hp1:leR (a[v3+(m - 1)]'(by omega)) a[v3+m]:=ac1.1 hs _ _ (by omega) hlt (by omega);rcases aeg i (v3+(m - 1)) with q|q
     ·have h1:=ac1.1 hs i (v3+(m - 1)) (by omega) (by omega) q;rw [hi] at h1;exact Ma h1 hp1 e
     ·have:i=v3+(m - 1):=by omega
      subst this;rw [hi] at hp1 e;exact Ma (Ql _) hp1 e
    ·rw [yw hkl,acZ,acW,h.mem,<-adw,htk]
    ·rw [aef (by omega)]; exact h.rest i (by omega)
  ·rw [if_neg (by omega)];have:v3+m=a.length:=by omega
   rw [this] at h;exact ⟨l,k,h,rfl⟩
def SD {a l:List Ref} {k:Nat} (h:Pu a l k a.length):jF l (k:Int)=some (l.take k):=by
 have h1:=h.len; have h2:=h.kj;unfold jF slx;rw [acX,if_pos ⟨by omega,by omega,by omega,by omega⟩];dsimp only;rw [if_pos ⟨by omega,by omega,by omega,by rw [Nq (by omega)]; omega⟩];try dsimp only
 rw [Lx (by omega)]
def Kw (N:Nat) (a:List Ref) (hs:a.Pairwise leR) (ha:a.length<=100000) (hN:100002<=N):∀ (m v:Nat),v+m=a.length->1<=v->(a.take v).Pairwise lpR->∃ r,iv a N m v ()=some r/\r.Pairwise lpR/\∀ z,z∈r↔z∈a
 | 0,v,hv,h1,hp=>⟨a,rfl,by rwa [ac3 (by omega)] at hp,fun z=>af7⟩
 | m+1,v,hv,h1,hp=>by
  have hvl:v < a.length:=by omega
  have g1:a[v]?=some a[v]:=acH hvl;have g2:a[v - 1]?=some (a[v - 1]'(by omega)):=acH (by omega);have hprev:(a[v - 1]'(by omega))∈a.take v:=by
   refine acE (i:=v - 1) ?_;rw [adO (by omega),g2]
  have htk:∀ z,z∈a.take (v+1)↔z∈a.take v∨z=a[v]:=by
   intro z;rw [aeo,g1,acZ,aeI,acW]
  rw [iv,aN g1,w64 (by omega) (by omega),show ((v:Int) - 1)=((v - 1:Nat):Int) by omega,aN g2];by_cases e:a[v]=(a[v - 1]'(by omega))
  ·rw [if_pos (GD.2 e)];unfold slx;rw [if_pos ⟨by omega,by omega,by omega,by omega⟩];dsimp only;have hc:Pu a a v (v+1):=⟨rfl,by omega,by omega,by omega,hp,fun z=>by
    rw [htk];constructor
    ·exact .inl
    ·rintro (q|q)
     ·exact q
     ·rw [q,e]; exact hprev,fun i _=>rfl,by omega⟩
   obtain ⟨l',k',h',e'⟩:=EA a hs ha v h1 jF N a v 1 (by omega) (by omega) hc (by omega);rw [show (1:Int)=((1:Nat):Int) from rfl,e',SD h'];exact ⟨_,rfl,h'.so,fun z=>by rw [h'.mem,ac3 (acU _)]⟩
  ·rw [if_neg (fun q=>e (GD.1 q))];refine Kw N a hs ha hN m (v+1) (by omega) (by omega) ?_;rw [aeo,g1,aeI,ad3];refine ⟨hp,by simp,fun y hy z hz=>?_⟩;obtain rfl:=acW.1 hz;obtain ⟨i,hi⟩:=adM.1 hy;have hil:=(acD.1 hi).1;simp only [adG] at hil;rw [adO (by omega),acH (by omega),acB] at hi;have hp1:leR (a[v - 1]'(by omega)) a[v]:=ac1.1 hs _ _ (by omega) hvl (by omega);rcases aeg i (v - 1) with q|q
   ·have h1:=ac1.1 hs i (v - 1) (by omega) (by omega) q;rw [hi] at h1;exact Ma h1 hp1 e
   ·have:i=v - 1:=by omega
    subst this;rw [hi] at hp1 e;exact Ma (Ql _) hp1 e
def R3 (N:Nat) (hN:100002<=N) (a:List Ref) (hs:a.Pairwise leR) (ha:a.length<=100000):∃ r,jI N a=some r/\r.Pairwise lpR/\∀ z,z∈r↔z∈a:=by
 unfold jI;by_cases h:((a.length:Nat):Int) < 2
 ·rw [if_pos h];refine ⟨a,rfl,?_,fun z=>af7⟩
  match a,h with
  | [],_=>exact List.Pairwise.nil
  | [x],_=>simp
  | _::_::_,h=>simp at h; omega
 ·rw [if_neg h];refine Kw N a hs ha hN (a.length - 1) 1 (by omega) (by omega) ?_
  match a,h with
  | x::xs,_=>simp
def u4 (N:Nat) (hN:100002<=N) {x:Txn} (h1:1<=x.Calls.length) (h2:x.Calls.length<=4):∃ r,gy N x=some r/\r.Pairwise lpR/\∀ a,a∈r↔∃ c∈x.Calls,c.Target=a:=by
 have loop:∀ (xs:List ah) (v:Nat) (acc:List Ref),acc.length+xs.length<=1000->gU (kV N) xs v acc=kV N (acc++xs.map ah.Target):=by
  intro xs
  induction xs with
  | nil=>intro v acc _; rw [gU]; simp
  | cons c xs ih=>
   intro v acc hl;simp only [acT] at hl;rw [gU,mO (by simp; omega),ih (v+1) (acc++[c.Target]) (by simp; omega)];simp
 rw [gy,loop x.Calls 0 [] (by simp; omega),acV,kV];obtain ⟨o,e1,e2,e3⟩:=aak N (l:=x.Calls.map ah.Target) (by simp; omega);have hne:(x.Calls.map ah.Target).isEmpty=false:=by cases hc:x.Calls with
  | nil=>rw [hc] at h1; simp at h1
  | cons=>rfl
 have hol:=e2.length_eq;simp only [acL] at hol;rw [bX,if_neg (by rw [hne]; simp),e1,acC];obtain ⟨r,g1,g2,g3⟩:=R3 N hN o e3 (by omega);rw [g1];exact ⟨r,rfl,g2,fun a=>by rw [g3,e2.mem_iff]; simp⟩
end Go.Proofs.YtmacaidmhchpgaaGreat
namespace Go.Proofs.YtmacaidmhchpgaaGreat
open Go Go.Proofs Go.Abs
def wq (S:List Int):List al->Bool->Option Int
 | [],_=>none
 | y::l,c=>if c=true/\y.Txn_∉S then some y.Txn_ else wq S l (c || decide (y.Txn_∈S))
def CL (S:List Int):List aa->Option Int
 | []=>none
 | s::l=>match wq S s.Layers false with
  | some n=>some n
  | none=>CL S l
def Mj (t:ae) (X:List Int):Prop:=∀ s∈t.Stacks,∀ (i j:Nat) y z,i < j->s.Layers[i]?=some y->s.Layers[j]?=some z->y.Txn_∈X->z.Txn_∈X
def M5 {S:List Int}:∀ {l:List al} {c:Bool} {n:Int},wq S l c=some n->n∉S/\∃ (j:Nat) (z:al),l[j]?=some z/\z.Txn_=n/\(c=true∨∃ (i:Nat) (y:al),i < j/\l[i]?=some y/\y.Txn_∈S)
 | y::l,c,n,h=>by
  rw [wq] at h;split at h
  ·rename_i q;simp only [acB] at h;exact ⟨h ▸ q.2,0,y,rfl,h,.inl q.1⟩
  ·obtain ⟨h1,j,z,h2,h3,h4⟩:=M5 h;refine ⟨h1,j+1,z,by simpa using h2,h3,?_⟩;rcases h4 with h4|⟨i,u,q1,q2,q3⟩
   ·rw [adJ,decide_eq_true_eq] at h4;rcases h4 with h4|h4
    ·exact .inl h4
    ·exact .inr ⟨0,y,by omega,rfl,h4⟩
   ·exact .inr ⟨i+1,u,by omega,by simpa using q2,q3⟩
def M9 {S:List Int}:∀ {l:List al} {c:Bool},wq S l c=none->∀ (j:Nat) (z:al),l[j]?=some z->(c=true∨∃ (i:Nat) (y:al),i < j/\l[i]?=some y/\y.Txn_∈S)->z.Txn_∈S
 | y::l,c,h,j,z,hj,hc=>by
  rw [wq] at h;split at h
  ·cases h
  ·rename_i q;cases j with
   | zero=>
    simp only [acI,acB] at hj;subst hj;rcases hc with hc|⟨i,_,hi,_⟩
    ·by_cases g:y.Txn_∈S
     ·exact g
     ·exact absurd ⟨hc,g⟩ q
    ·omega
   | succ j=>
    rw [ac8] at hj;refine M9 h j z hj ?_;rcases hc with hc|⟨i,u,hi,hu,hm⟩
    ·exact .inl (by simp [hc])
    ·cases i with
     | zero=>
      simp only [acI,acB] at hu;subst hu;exact .inl (by simp [hm])
     | succ i=>
      rw [ac8] at hu;exact .inr ⟨i,u,by omega,hu,hm⟩
def LM {S:List Int}:∀ {l:List aa} {n:Int},CL S l=some n->∃ s∈l,wq S s.Layers false=some n
 | s::l,n,h=>by
  rw [CL] at h;split at h
  ·rename_i m q;exact ⟨s,by simp,q.trans h⟩
  ·obtain ⟨s',g1,g2⟩:=LM h;exact ⟨s',by simp [g1],g2⟩
def M7 {S:List Int}:∀ {l:List aa},CL S l=none->∀ s∈l,wq S s.Layers false=none
 | s::l,h,s',hs=>by
  rw [CL] at h;split at h
  ·cases h
  ·rename_i q;rcases ac6.1 hs with rfl|hs
   ·exact q
   ·exact M7 h s' hs
def Vl (N:Nat) (rec5:Unit->Option (List Int)) (S:List Int) (hS:S.length<=1000) (rec2:List Int->Option (List Int)):∀ (l:List al) (v:Nat) (c:Bool),fN rec5 N S rec2 l v c=match wq S l c with
  | some n=>rec2 (S++[n])
  | none=>rec5 ()
 | [],v,c=>by rw [fN,wq]
 | y::l,v,c=>by
  have ih:=Vl N rec5 S hS rec2 l (v+1);have e:∀ c,mQ (fN rec5 N S rec2 l (v+1)) N S y c=match wq S l (c || decide (y.Txn_∈S)) with
   | some n=>rec2 (S++[n])
   | none=>rec5 ():=fun c=>by
   rw [mQ,uB,acC,ih,ih];cases c<;>simp
  rw [fN,wq];cases c with
  | true=>
   rw [if_pos rfl,uB,acC,mL,mO (by simp; omega)];by_cases q:y.Txn_∈S
   ·simp only [q,not_true_eq_false,and_false,if_false,decide_true,ac5,acO];rw [e]; simp [q]
   ·simp [q]
  | false=>
   rw [if_neg (by simp),mL,if_neg (by simp),if_neg (by simp)];exact e false
theorem Vg (N:Nat) (k:Option (List Int)) (S:List Int) (hS:S.length<=1000) (rec2:List Int->Option (List Int)):∀ (l:List aa) (v:Nat),iY k N S rec2 l v ()=match CL S l with
  | some n=>rec2 (S++[n])
  | none=>k
 | [],v=>by rw [iY,CL]
 | s::l,v=>by
  rw [iY,Vl N _ S hS,Vg N k S hS rec2 l (v+1),CL];cases wq S s.Layers false<;>rfl
structure Dep (t:ae) (id:Int) (D:List Int):Prop where
 nd:D.Nodup
 me:id∈D
 sub:∀ n∈D,n∈ids t
 min:∀ X:List Int,id∈X->Mj t X->∀ n∈D,n∈X
def Yl (N:Nat) {l:List Int} (h:l≠[]) (hl:l.length<=1000):∃ r,slices_Sort_int N l=some r/\r.Perm l/\r.Pairwise (·<=·):=by
 cases l with
 | nil=>exact absurd rfl h
 | cons x xs=>
  have hs:Ek (x::xs)=some ((x::xs).mergeSort fun x y=>decide (x<=y)):=by unfold Ek; rw [if_pos (by omega)]
  exact ⟨_,by simp only [slices_Sort_int,List.isEmpty_cons,acO,if_false]; exact hs,Kl hs⟩
def HA (N:Nat) {t:ae} (h:TV t) {id:Int}:∀ (k:Nat) (S:List Int),33 < k+S.length->Dep t id S->∃ D,kA N t k S=some D/\Dep t id D/\Mj t D/\D.Pairwise (· < ·)
 | 0,S,hk,hS=>by
  have:=qS hS.nd hS.sub;have:=h.tx.len;simp [ids] at *; omega
 | k+1,S,hk,hS=>by
  have hlen:S.length<=32:=by
   have:=qS hS.nd hS.sub;have:=h.tx.len;simp [ids] at *; omega
  rw [kA,Vg N _ S (by omega)];cases hg:CL S t.Stacks with
  | some n=>
   obtain ⟨s,hs,hl⟩:=LM hg;obtain ⟨h1,j,z,h2,h3,h4⟩:=M5 hl;refine HA N h k (S++[n]) (by simp; omega) ⟨afk.2 ⟨hS.nd,by simp,fun a ha b hb=>by simp only [acW] at hb; rw [hb]; exact fun e=>h1 (e ▸ ha)⟩,by simp [hS.me],fun m hm=>?_,fun X hX hc m hm=>?_⟩
   ·rcases acZ.1 hm with hm|hm
    ·exact hS.sub m hm
    ·simp only [acW] at hm; rw [hm,<-h3]; exact (h.st s hs).id z (acE h2)
   ·rcases acZ.1 hm with hm|hm
    ·exact hS.min X hX hc m hm
    ·simp only [acW] at hm;rcases h4 with h4|⟨i,y,g1,g2,g3⟩
     ·cases h4
     ·rw [hm,<-h3];exact hc s hs i j y z g1 g2 h2 (hS.min X hX hc _ g3)
  | none=>
   obtain ⟨r,e1,e2,e3⟩:=Yl N (l:=S) (agu hS.me) (by omega);simp only [wN,e1,acC];have hnd:r.Nodup:=e2.nodup_iff.2 hS.nd;refine ⟨r,rfl,⟨hnd,e2.mem_iff.2 hS.me,fun n hn=>hS.sub n (e2.mem_iff.1 hn),fun X hX hc n hn=>hS.min X hX hc n (e2.mem_iff.1 hn)⟩,fun s hs i j y z hij hi hj hy=>?_,?_⟩
   ·rw [e2.mem_iff] at hy ⊢;exact M9 (M7 hg s hs) j z hj (.inr ⟨i,y,hij,hi,hy⟩)
   ·have:=(List.pairwise_and_iff.2 ⟨e3,hnd⟩:r.Pairwise fun a b=>a<=b/\a≠b);exact this.imp fun q=>by omega
def OW (N:Nat) (hN:100<=N) {t:ae} (h:TV t) {id:Int} (hid:id∈ids t):∃ D,oI N t id=some D/\Dep t id D/\Mj t D/\D.Pairwise (· < ·):=by
 rw [oI];exact HA N h N [id] (by simp; omega) ⟨by simp,by simp,fun n hn=>by simp only [acW] at hn; rw [hn]; exact hid,fun X hX _ n hn=>by simp only [acW] at hn; rw [hn]; exact hX⟩
def abT (t:ae) (D:List Int):ae:=⟨t.Txns.filter fun x=>rC D x.ID,abL D t.Locks,Ha D t.Stacks⟩
theorem Rh (N:Nat) (hN:1001<=N) (k:List ai->Option (ae × List Int × Int)):∀ (D:List Int) (v:Nat) {L:List ai},VT L->oN k N D v L=k (Es D L)
 | [],v,L,_=>by rw [oN]; rfl
 | n::D,v,L,h=>by rw [oN,ZZ N hN h,acC,Rh N hN k D (v+1) (XP h n)]; rfl
theorem Qd (N:Nat) (hN:200<=N) (r:ae) (D0:List Int):∀ (D:List Int) (v:Nat) {L:List ai},VT L->oS r D0 N D v L=some (⟨r.Txns,BQ D L,r.Stacks⟩,D0,0)
 | [],v,L,_=>by rw [oS]; rfl
 | n::D,v,L,h=>by rw [oS,U9 N hN h,acC,Qd N hN r D0 D (v+1) (SU h n)]; rfl
theorem LB (N:Nat) (hN:1001<=N) {t:ae} (h:TV t) {id:Int} (hid:id∈ids t):∃ D,kL N t id=some (abT t D,D,0)/\TV (abT t D)/\Dep t id D/\Mj t D/\D.Pairwise (· < ·):=by
 obtain ⟨D,h1,h2,h3,h4⟩:=OW N (by omega) h hid;obtain ⟨i,x,e,_⟩:=tq (N:=N) hid;refine ⟨D,?_,V6 h (Y7 h D),h2,h3,h4⟩;rw [kL,o4 N (by omega) h,acC,if_pos rfl,e,acC,if_neg (by omega),h1,acC,Ov N hN h,acC,Rh N hN _ D 0 (by exact h.lk),Dk,Qd N (by omega) _ D D 0 (Ll (by exact h.lk))];rfl
def WU (N:Nat) (hN:1001<=N) {t:ae} (h:TV t) {id:Int} (hid:id∉ids t):kL N t id=some (⟨[],[],[]⟩,[],6):=by
 rcases Bf N t id with ⟨_,e⟩|⟨i,x,_,hx,rfl⟩
 ·rw [kL,o4 N (by omega) h,acC,if_pos rfl,e,acC,if_pos (by omega)]
 ·exact absurd (CW hx) hid
end Go.Proofs.YtmacaidmhchpgaaGreat
namespace Go.Proofs.YtmacaidmhchpgaaGreat
open Go Go.Proofs Go.Abs
def KO {c:ah} (h:qE c=true):VA c.Target:=by
 simp only [qE,Ty,acM,decide_eq_true_eq] at h;exact ⟨h.1.1.1.1.1,h.1.1.1.1.2,h.1.1.1.2⟩
def emp:ae:=⟨[],[],[]⟩
structure Nx (t:ae) (i:Nat) (x:Txn) (c:ah):Prop where
 hi:t.Txns[i]?=some x
 dn:x.Done < x.Calls.length
 hc:x.Calls[x.Done.toNat]?=some c
def Mi (N:Nat) {t:ae} (h:TV t) (n:Int):(∃ i x c,Nx t i x c/\x.ID=n/\py N t n=some (c,true))∨((∃ c,py N t n=some (c,false))/\∀ x∈t.Txns,x.ID=n->x.Done=x.Calls.length):=by
 rcases Bf N t n with ⟨h1,e⟩|⟨i,x,e,hi,hid⟩
 ·refine .inr ⟨⟨_,by rw [py,e,acC,if_pos (by omega),rq,if_pos rfl]⟩,fun x hx q=>absurd (ade.2 ⟨x,hx,q⟩) h1⟩
 ·have hx:=(h.tx.x x (acE hi)).1;obtain ⟨m,e1,e2,e3⟩:=KL hx;by_cases q:x.Done < x.Calls.length
  ·have hm:m < x.Calls.length:=by omega
   have hc:x.Calls[m]?=some x.Calls[m]:=acH hm;refine .inl ⟨i,x,x.Calls[m],⟨hi,q,by rw [e2]; exact hc⟩,hid,?_⟩;rw [py,e,acC,if_neg (by omega),aN hi,if_neg (by omega),rq,if_neg (by simp; omega),wZ,aN hi,e1,aN hc,Ic (RB (hx.ca _ (adF hm)))];rfl
  ·refine .inr ⟨⟨_,by rw [py,e,acC,if_neg (by omega),aN hi,if_neg (by omega),rq,if_pos (by simp; omega)]⟩,fun y hy q2=>?_⟩;have:=h.tx.uniq hy (acE hi) (q2.trans hid.symm);rw [this]; have:=hx.d2; omega
def EZ (N:Nat) (hN:200<=N) {t:ae} (h:TV t) {id born seq:Int} {client:ByteArray} {calls:List ah} (hx:XV ⟨id,born,client,seq,calls,0,⟨0,0,⟨#[]⟩,[],[]⟩⟩/\zx ⟨id,born,client,seq,calls,0,⟨0,0,⟨#[]⟩,[],[]⟩⟩) :
  (∃ e,e≠0/\(t.Txns.length=32∨∃ y∈t.Txns,id<=y.ID)/\jV N t id born client seq calls=some (emp,e))∨(jV N t id born client seq calls=some (⟨t.Txns++[⟨id,born,client,seq,calls,0,⟨0,0,⟨#[]⟩,[],[]⟩⟩],t.Locks,t.Stacks⟩,0)/\TV ⟨t.Txns++[⟨id,born,client,seq,calls,0,⟨0,0,⟨#[]⟩,[],[]⟩⟩],t.Locks,t.Stacks⟩):=by
 have hl:=h.tx.len;have e1:=(Ks N ⟨id,born,client,seq,calls,0,⟨0,0,⟨#[]⟩,[],[]⟩⟩).is hx;have hJ3:oT N t id born client seq calls=some (⟨t.Txns++[⟨id,born,client,seq,calls,0,⟨0,0,⟨#[]⟩,[],[]⟩⟩],t.Locks,t.Stacks⟩,0):=by
  rw [oT,y7 h,acC,EB hx.1.bd,acC,mO (by simp; omega)]
 rw [jV,o4 N hN h,acC,if_pos rfl,e1,acC,zN,if_neg (by simp)];have fin:(∀ y∈t.Txns,y.ID < id)->(∃ e,e≠0/\(t.Txns.length=32∨∃ y∈t.Txns,id<=y.ID)/\pj t (oT N t id born client seq calls) false=some (emp,e))∨(pj t (oT N t id born client seq calls) false=some (⟨t.Txns++[⟨id,born,client,seq,calls,0,⟨0,0,⟨#[]⟩,[],[]⟩⟩],t.Locks,t.Stacks⟩,0)/\TV ⟨t.Txns++[⟨id,born,client,seq,calls,0,⟨0,0,⟨#[]⟩,[],[]⟩⟩],t.Locks,t.Stacks⟩):=fun hlt=>by
  rw [pj,if_neg (by simp)];by_cases q:t.Txns.length=32
  ·rw [if_pos (by omega)]; exact .inl ⟨5,by simp,.inl q,rfl⟩
  ·rw [if_neg (by omega),hJ3]; exact .inr ⟨rfl,Wn h hx rfl hlt (by omega)⟩
 by_cases h0:0 < t.Txns.length
 ·have hg:t.Txns[t.Txns.length - 1]?=some (t.Txns[t.Txns.length - 1]'(by omega)):=acH (by omega);rw [if_pos (by omega),w64 (by omega) (by omega),show ((t.Txns.length:Int) - 1)=((t.Txns.length - 1:Nat):Int) by omega,aN hg];by_cases q:id<=(t.Txns[t.Txns.length - 1]'(by omega)).ID
  ·rw [pj,if_pos (by simp [q])]; exact .inl ⟨8,by simp,.inr ⟨_,adF _,q⟩,rfl⟩
  ·rw [show decide (id<=(t.Txns[t.Txns.length - 1]'(by omega)).ID)=false by simp [q]];refine fin fun y hy=>?_;obtain ⟨j,hj,rfl⟩:=afy.1 hy;rcases aeg j (t.Txns.length - 1) with q2|q2
   ·have:=ac1.1 h.tx.so j (t.Txns.length - 1) hj (by omega) q2; omega
   ·have:j=t.Txns.length - 1:=by omega
    subst this; omega
 ·rw [if_neg (by omega)];refine fin fun y hy=>?_;have:=af6 hy; omega
inductive Acq (t:List ai) (a:Ref) (n:Int):List ai × Int × Int->Prop where
 | own {k:ai} (hk:k∈t) (ha:k.Actor=a) (ho:k.Owner=n):Acq t a n (t,1,0)
 | die {k:ai} (hk:k∈t) (ha:k.Actor=a) (ho:k.Owner < n):Acq t a n (t,3,0)
 | old {k:ai} (hk:k∈t) (ha:k.Actor=a) (ho:n < k.Owner) (hw:n∈k.Waiters):Acq t a n (t,2,0)
 | full {k:ai} (hk:k∈t) (ha:k.Actor=a) (ho:n < k.Owner) (hw:n∉k.Waiters) (hl:k.Waiters.length=32):Acq t a n ([],0,5)
 | wait {i:Nat} {k:ai} (hi:t[i]?=some k) (ha:k.Actor=a) (ho:n < k.Owner) (hw:n∉k.Waiters):Acq t a n (t.set i ⟨k.Actor,k.Owner,Fe k.Waiters n⟩,2,0)
 | many (hn:∀ k∈t,k.Actor≠a) (hl:t.length=128):Acq t a n ([],0,5)
 | new (hn:∀ k∈t,k.Actor≠a):Acq t a n (t.take (pa t a)++[⟨a,n,[]⟩]++t.drop (pa t a),1,0)
def VP {t:List ai} (h:VT t) (a:Ref) (n:Int):Acq t a n (acq t a n):=by
 unfold acq;by_cases hh:vy t a=true
 ·obtain ⟨k,hk,ha⟩:=ze hh;have hm:=acE hk;rw [if_pos hh,hk];simp only;by_cases e1:k.Owner=n
  ·rw [if_pos e1]; exact .own hm ha e1
  ·rw [if_neg e1];by_cases e2:k.Owner < n
   ·rw [if_pos e2]; exact .die hm ha e2
   ·rw [if_neg e2];by_cases e3:n∈k.Waiters
    ·rw [if_pos e3]; exact .old hm ha (by omega) e3
    ·rw [if_neg e3];by_cases e4:k.Waiters.length=32
     ·rw [if_pos e4]; exact .full hm ha (by omega) e3 e4
     ·rw [if_neg e4]; exact .wait hk ha (by omega) e3
 ·have hn:∀ k∈t,k.Actor≠a:=fun k hk e=>hh (e ▸ (Az h hk).2);rw [if_neg hh];by_cases e:t.length=128
  ·rw [if_pos e]; exact .many hn e
  ·rw [if_neg e]; exact .new hn
def VW {t:ae} (h:TV t) {i:Nat} {x:Txn} {c:ah} (hx:Nx t i x c) {L:List ai} {o:Int} (ha:acq t.Locks c.Target x.ID=(L,o,0)):TV ⟨t.Txns,L,t.Stacks⟩/\(o=1->∃ k∈L,k.Actor=c.Target/\k.Owner=x.ID):=by
 have hxm:=acE hx.hi;have hX:=(h.tx.x x hxm).1;have hva:=KO (hX.ca c (acE hx.hc));have hvt:VT L:=by have:=Y5 h.lk hva hX.i1 hX.i2; rw [ha] at this; exact this
 have hA:=VP h.lk c.Target x.ID;rw [ha] at hA;have hxu:∀ {y:Txn},y∈t.Txns->y.ID=x.ID->y.Done < y.Calls.length/\At y c.Target:=fun hy e=>by
  rw [h.tx.uniq hy hxm e]; exact ⟨hx.dn,c,hx.hc,rfl⟩
 cases hA with
 | own hk hka ho=>exact ⟨h,fun _=>⟨_,hk,hka,ho⟩⟩
 | die hk ha ho=>exact ⟨h,fun q=>by cases q⟩
 | old hk ha ho hw=>exact ⟨h,fun q=>by cases q⟩
 | @wait j k hj hka ho hw=>
  have hkm:=acE hj;refine ⟨Ob h hvt (fun l hl=>?_) fun s hs y hy hp k' hk' e1 e2=>?_,fun q=>by cases q⟩
  ·rcases FV hj hl with rfl|⟨_,_,q⟩
   ·have hL:=h.lp k hkm;refine ⟨hL.ow,fun w hw'=>?_,hL.dn,hL.op,fun y hy hw'=>?_⟩
    ·rcases KM.1 hw' with rfl|q
     ·exact CW hx.hi
     ·exact hL.wa w q
    ·rcases KM.1 hw' with q|q
     ·exact hka ▸ hxu hy q
     ·exact hL.wt y hy q
   ·exact h.lp l (acE q)
  ·obtain ⟨m,hm⟩:=acR hk';by_cases q:j=m
   ·subst q;rw [hj] at hm;simp only [acB] at hm;subst hm;exact ⟨⟨k.Actor,k.Owner,Fe k.Waiters x.ID⟩,acE (i:=j) (by rw [aeW (acD.1 hj).1]),e1,e2⟩
   ·exact ⟨k',acE (i:=m) (by rw [aef q]; exact hm),e1,e2⟩
 | new hn=>
  have hmem:∀ {l:ai},l∈t.Locks.take (pa t.Locks c.Target)++[⟨c.Target,x.ID,[]⟩]++t.Locks.drop (pa t.Locks c.Target)↔l=⟨c.Target,x.ID,[]⟩∨l∈t.Locks:=fun {l}=>by
   have e:(l∈t.Locks)↔(l∈t.Locks.take (pa t.Locks c.Target)∨l∈t.Locks.drop (pa t.Locks c.Target)):=by
    rw [<-acZ,ad7]
   rw [e];simp only [acZ,acW];constructor
   ·rintro ((q|q)|q)
    ·exact .inr (.inl q)
    ·exact .inl q
    ·exact .inr (.inr q)
   ·rintro (q|q|q)
    ·exact .inl (.inr q)
    ·exact .inl (.inl q)
    ·exact .inr q
  refine ⟨Ob h hvt (fun l hl=>?_) fun s hs y hy hp k' hk' e1 e2=>⟨k',hmem.2 (.inr hk'),e1,e2⟩,fun _=>⟨_,hmem.2 (.inl rfl),rfl,rfl⟩⟩;rcases hmem.1 hl with rfl|q
  ·refine ⟨CW hx.hi,by simp,fun y hy e q=>?_,fun y hy e _=>.inr (hxu hy e).2,by simp⟩;have:=(hxu hy e).1; omega
  ·exact h.lp l q
inductive aad (N:Nat) (t:ae) (n:Int):Prop where
 | no (e:Int) (he:e≠0) (hq:(∀ x∈t.Txns,x.ID=n->x.Done=x.Calls.length)∨∃ i x c,Nx t i x c/\x.ID=n/\acq t.Locks c.Target n=([],0,5)) (h:iy N t n=some (emp,0,[],e))
 | got {i:Nat} {x:Txn} {c:ah} {L:List ai} {o:Int} (hx:Nx t i x c) (hn:x.ID=n) (ho:o=1∨o=2) (ha:acq t.Locks c.Target n=(L,o,0)) (h:iy N t n=some (⟨t.Txns,L,t.Stacks⟩,o,[],0))
 | died {i:Nat} {x:Txn} {c:ah} {k:ai} {D:List Int} (hx:Nx t i x c) (hn:x.ID=n) (hk:k∈t.Locks) (hka:k.Actor=c.Target) (ho:k.Owner < n) (h:iy N t n=some (abT t D,3,D,0)) (hT:TV (abT t D)) (hD:Dep t n D)
theorem PM (N:Nat) (hN:1001<=N) {t:ae} (h:TV t) (n:Int):aad N t n:=by
 rcases Mi N h n with ⟨i,x,c,hx,hn,e⟩|⟨⟨c,e⟩,hq⟩
 ·have hxm:=acE hx.hi;have hX:=(h.tx.x x hxm).1;have hva:=KO (hX.ca c (acE hx.hc));have ha:=Y3 N (by omega) h.lk hva (hn ▸ hX.i1) (hn ▸ hX.i2);have e0:iy N t n=if (acq t.Locks c.Target n).2.2=0 then (if (acq t.Locks c.Target n).2.1=3 then (kL N t n).bind fun r8=>some (r8.1,(acq t.Locks c.Target n).2.1,r8.2.1,r8.2.2) else some (⟨t.Txns,(acq t.Locks c.Target n).1,t.Stacks⟩,(acq t.Locks c.Target n).2.1,[],0)) else some (emp,0,[],(acq t.Locks c.Target n).2.2):=by
   rw [iy,o4 N (by omega) h,acC,if_pos rfl,e,acC,if_pos rfl,ha,acC,y7 h];rfl
  have hA:=VP h.lk c.Target n;generalize hg:acq t.Locks c.Target n=r at hA e0;cases hA with
  | own hk hka ho=>exact .got hx hn (.inl rfl) hg (by rw [e0]; simp)
  | @die k hk hka ho=>
   obtain ⟨D,d1,d2,d3,_⟩:=LB N hN h (id:=n) (hn ▸ CW hx.hi);exact .died hx hn hk hka ho (by rw [e0]; simp [d1]) d2 d3
  | old hk hka ho hw=>exact .got hx hn (.inr rfl) hg (by rw [e0]; simp)
  | full hk hka ho hw hl=>exact .no 5 (by simp) (.inr ⟨i,x,c,hx,hn,hg⟩) (by rw [e0]; simp)
  | wait hi hka ho hw=>exact .got hx hn (.inr rfl) hg (by rw [e0]; simp)
  | many hm hl=>exact .no 5 (by simp) (.inr ⟨i,x,c,hx,hn,hg⟩) (by rw [e0]; simp)
  | new hm=>exact .got hx hn (.inl rfl) hg (by rw [e0]; simp)
 ·exact .no 6 (by simp) (.inl hq) (by rw [iy,o4 N (by omega) h,acC,if_pos rfl,e,acC,if_neg (by simp)]; rfl)
end Go.Proofs.YtmacaidmhchpgaaGreat
namespace Go.Proofs.YtmacaidmhchpgaaGreat
open Go Go.Proofs Go.Abs
def ps (S:List aa) (a:Ref):Nat:=plc (fun s=>rl s.Actor a) S
def TU {S:List aa} (hs:S.Pairwise fun a b=>rl a.Actor b.Actor=true) (a:Ref):TG (fun s:aa=>rl s.Actor a) S:=hs.imp fun h1 h2=>yQ h1 h2
def Rv {S:List aa} (hs:S.Pairwise fun a b=>rl a.Actor b.Actor=true) (hl:S.length<=1000) (N:Nat) (a:Ref) (kx:Int->Option (Int × Bool)) :
  ∀ (n i j:Nat),j < i+n->i<=ps S a->ps S a<=j->j<=S.length->bf S N a kx n ((i:Int),(j:Int))=kx ((ps S a:Nat):Int)
 | 0,i,j,h1,h2,h3,h4=>by omega
 | n+1,i,j,h1,h2,h3,h4=>by
  rw [bf];by_cases hij:i < j
  ·rw [if_pos (by omega),Re (by omega)];have hm:(i+j) / 2 < S.length:=by omega
   have hx:S[(i+j) / 2]?=some S[(i+j) / 2]:=acH hm;have hc:=uk (TU hs a) hx;rw [aN hx,qN,yU];simp only [acC,AV];by_cases q:rl S[(i+j) / 2].Actor a=true
   ·rw [if_pos q,w64 (by omega) (by omega)];have:(i+j) / 2 < ps S a:=hc.1 q;exact Rv hs hl N a kx n ((i+j) / 2+1) j (by omega) (by omega) h3 h4
   ·rw [if_neg q];have:¬ (i+j) / 2 < ps S a:=fun g=>q (hc.2 g);exact Rv hs hl N a kx n i ((i+j) / 2) (by omega) h2 (by omega) (by omega)
  ·rw [if_neg (by omega)];have:i=ps S a:=by omega
   rw [this]
def RT {S:List aa} (hs:S.Pairwise fun a b=>rl a.Actor b.Actor=true) (a:Ref):∃ A B,A.length=ps S a/\(∀ s∈A,rl s.Actor a=true)/\(∀ s∈B,rl a s.Actor=true)/\((∃ lay,S=A++⟨a,lay⟩::B)∨(S=A++B/\∀ s,S[ps S a]?=some s->s.Actor≠a)):=by
 have hle:ps S a<=S.length:=I2 S;have hA:∀ s∈S.take (ps S a),rl s.Actor a=true:=fun s h=>by
  obtain ⟨i,hi⟩:=acR h;rw [ada] at hi;split at hi
  ·exact (uk (TU hs a) hi).2 (by unfold ps at *; omega)
  ·cases hi
 have hB:∀ (i:Nat) s,ps S a<=i->S[i]?=some s->rl s.Actor a=false:=fun i s hi h=>by
  cases q:rl s.Actor a with
  | false=>rfl
  | true=>have:=(uk (TU hs a) h).1 q; unfold ps at hi; omega
 have hlt:∀ (i:Nat) s,ps S a<=i->S[i]?=some s->s.Actor≠a->rl a s.Actor=true:=fun i s hi h hne=>by
  rcases IB s.Actor a with q|q|q
  ·rw [hB i s hi h] at q; cases q
  ·exact absurd q hne
  ·exact q
 by_cases hq:∃ s,S[ps S a]?=some s/\s.Actor=a
 ·obtain ⟨s,h1,h2⟩:=hq;have hl:=(acD.1 h1).1;have e:S=S.take (ps S a)++s::S.drop (ps S a+1):=by
   have:=ad7 (ps S a) S;rw [adQ hl,(acD.1 h1).2] at this;exact this.symm
  refine ⟨S.take (ps S a),S.drop (ps S a+1),by simp; omega,hA,fun z hz=>?_,.inl ⟨s.Layers,by cases s; simp only at h2; subst h2; exact e⟩⟩;obtain ⟨i,hi⟩:=acR hz;rw [adb] at hi;have:=ac1.1 hs (ps S a) (ps S a+1+i) hl (acD.1 hi).1 (by omega);rw [(acD.1 h1).2,(acD.1 hi).2,h2] at this;exact this
 ·refine ⟨S.take (ps S a),S.drop (ps S a),by simp; omega,hA,fun z hz=>?_,.inr ⟨(ad7 _ _).symm,fun s h1 h2=>hq ⟨s,h1,h2⟩⟩⟩;obtain ⟨i,hi⟩:=acR hz;rw [adb] at hi;cases i with
  | zero=>exact hlt _ z (by omega) hi fun q=>hq ⟨z,hi,q⟩
  | succ i=>
   have hl0:ps S a < S.length:=by have:=(acD.1 hi).1; omega
   have h0:=hlt (ps S a) _ (acU _) (acH hl0) fun q=>hq ⟨_,acH hl0,q⟩;have:=ac1.1 hs (ps S a) (ps S a+(i+1)) hl0 (acD.1 hi).1 (by omega);rw [(acD.1 hi).2] at this;exact yQ h0 this
def Be (S:List aa) (a:Ref) (n:Int) (f:List Value):Prop:=∃ s∈S,s.Actor=a/\∃ y,s.Layers[s.Layers.length - 1]?=some y/\y.Txn_=n/\y.Fields=f
theorem Us (n:Int) (f:List Value) (l:List al):∃ y,(kT n f l)[(kT n f l).length - 1]?=some y/\y.Txn_=n/\y.Fields=f:=by
 unfold kT;split
 ·rename_i z hz;split
  ·rename_i e;refine ⟨⟨z.Txn_,f,z.Prepared⟩,?_,e,rfl⟩;rw [ac7,aeW (acD.1 hz).1]
  ·exact ⟨⟨n,f,false⟩,by simp,rfl,rfl⟩
 ·exact ⟨⟨n,f,false⟩,by simp,rfl,rfl⟩
def S9 (N:Nat) {t:ae} {i:Nat} {x:Txn} {a:Ref} {f:List Value} (hf:uG f=true) {r:Value} {A B:List aa} {lay:List al} (hl:lay.length<=1000) (b:Bool) (hd0:0<=x.Done) (hd1:x.Done<=1000) :
  rm ((A.length:Nat),b) x.ID N f t ((i:Nat):Int) x r (A++⟨a,lay⟩::B)=some (As t i x r (A++⟨a,kT x.ID f lay⟩::B),0):=by
 have hf':=sN (N:=N) (Hq hf);have hset:∀ {l l':List al},(A++(⟨a,l⟩:aa)::B).set A.length ⟨a,l'⟩=A++⟨a,l'⟩::B:=JN;rw [rm,aN zP];have J3:∀ {l:List al} {y:al},l[l.length - 1]?=some y->l.length<=2000->0 < l.length->ym ((A.length:Nat),b) N f t ((i:Nat):Int) x r (A++⟨a,l⟩::B) ((l.length:Nat):Int)=some (As t i x r (A++⟨a,l.set (l.length - 1) ⟨y.Txn_,f,y.Prepared⟩⟩::B),0):=fun {l y} hy hl h0=>by
  rw [ym];dsimp only;rw [aN zP,hf',acC,w64 (by omega) (by omega),show ((l.length:Int) - 1)=((l.length - 1:Nat):Int) by omega];dsimp only;rw [aN hy,w64 (n:=x.Done+1) (by omega) (by omega),acX,acX,acX,hset];rfl
 by_cases h0:lay=[]
 ·subst h0;rw [if_pos (by simp),uD,if_pos rfl];dsimp only;rw [mO (by simp),acX,hset,w64 (by simp) (by simp)];have:=J3 (l:=[⟨x.ID,[],false⟩]) (y:=⟨x.ID,[],false⟩) rfl (by simp) (by simp);simpa [kT] using this
 ·have hp:=aeq.2 h0;obtain ⟨z,hz⟩:=K3 h0;dsimp only;rw [if_neg (by omega),w64 (by omega) (by omega),show ((lay.length:Int) - 1)=((lay.length - 1:Nat):Int) by omega,aN hz];unfold kT;rw [hz];by_cases q:z.Txn_=x.ID
  ·rw [uD,if_neg (by simp [q])];have:=J3 hz (by omega) hp;simp only [q,if_true] at this ⊢;exact this
  ·rw [uD,if_pos (by simp [q])];dsimp only;rw [mO (by simp; omega),acX,hset,w64 (by omega) (by omega)];have hlen:(lay++[(⟨x.ID,[],false⟩:al)]).length=lay.length+1:=by simp
   have:=J3 (l:=lay++[⟨x.ID,[],false⟩]) (y:=⟨x.ID,[],false⟩) (by simp) (by omega) (by simp);rw [hlen,show ((lay.length+1:Nat):Int)=(lay.length:Int)+1 by omega] at this;rw [this];simp only [q,if_false];simp
def Tj (N:Nat) (hN:200<=N) {t:ae} (h:TV t) {i:Nat} {x:Txn} {c:ah} {k:ai} (e:Exe t i x c k) {f:List Value} {r:Value} (hf:uG f=true) (hr:mP r=true) :
  ∃ S,lu N t x.ID f r=some (As t i x r S,0)/\TV (As t i x r S)/\Be S c.Target x.ID f:=by
 have lastf:∀ (A B:List aa) (lay:List al),Be (A++⟨c.Target,kT x.ID f lay⟩::B) c.Target x.ID f:=fun A B lay=>⟨⟨c.Target,kT x.ID f lay⟩,by simp,rfl,Us _ _ _⟩;have hxm:=acE e.hi;have hX:=(h.tx.x x hxm).1;have hsl:=h.stacks_len;obtain ⟨i2,x2,e1,e2,e3⟩:=tq (N:=N) (CW e.hi);have hxe:x2=x:=h.tx.uniq (acE e2) hxm e3;subst hxe;have hii:i2=i:=by
  obtain ⟨g1,g2⟩:=acD.1 e2;obtain ⟨g3,g4⟩:=acD.1 e.hi;have:=ac1.1 h.tx.so;rcases aen i2 i with q|q|q
  ·have:=this i2 i g1 g3 q; rw [g2,g4] at this; omega
  ·exact q
  ·have:=this i i2 g3 g1 q; rw [g2,g4] at this; omega
 subst hii;have hnext:py N t x2.ID=some (c,true):=by
  rcases Mi N h x2.ID with ⟨j,y,c',hy,hyn,g⟩|⟨_,hq⟩
  ·have:y=x2:=h.tx.uniq (acE hy.hi) hxm hyn;subst this;have:=hy.hc;rw [e.hc] at this;simp only [acB] at this;rw [this]; exact g
  ·have:=hq x2 hxm rfl; have:=e.dn; omega
 have hown:=Rb N hN h.lk e.hk;rw [e.ka,e.ko] at hown;obtain ⟨A,B,hAl,hA,hB,hsp⟩:=RT h.ss c.Target;have hps:ps t.Stacks c.Target<=t.Stacks.length:=I2 _;have hbs:ba N t.Stacks c.Target=bu t.Stacks N c.Target ((ps t.Stacks c.Target:Nat):Int):=by
  have:=Rv h.ss (by omega) N c.Target (bu t.Stacks N c.Target) N 0 t.Stacks.length (by omega) (by omega) hps (by omega);rw [ba,show (0:Int)=((0:Nat):Int) from rfl,this]
 have hd:=hX.d1; have hd2:=hX.d2; have hc2:=hX.c2;have main:∀ {q:Option (ae × Int)},rD N t x2.ID r f=q->lu N t x2.ID f r=q:=fun hq=>by
  rw [lu,o4 N hN h,acC,if_pos rfl,FA,hf,acC,if_pos rfl,qU,hr,acC,yf,if_neg (by simp),hq]
 have hJ5:∀ {q:Option (ae × Int)},(((ba N t.Stacks c.Target).bind fun r14=>if r14.2=true then rm r14 x2.ID N f t ((i2:Nat):Int) x2 r t.Stacks else (bC N t.Stacks r14.1 [⟨c.Target,[]⟩]).bind fun r16=>rm r14 x2.ID N f t ((i2:Nat):Int) x2 r r16)=q)->rD N t x2.ID r f=q:=fun hq=>by
  rw [rD,hnext,acC,if_pos rfl];dsimp only;rw [hown,acC,if_pos rfl,y7 h,acC,e1,acC,aN e2,yA (Bw hr),acC];exact hq
 rcases hsp with ⟨lay,hS⟩|⟨hS,hno⟩
 ·have hsm:(⟨c.Target,lay⟩:aa)∈t.Stacks:=by rw [hS]; simp
  have hll:=h.layers_len hsm;refine ⟨_,main (hJ5 ?_),Tc h e hf hr (.inl hS) hA hB,lastf _ _ _⟩;have hat:t.Stacks[ps t.Stacks c.Target]?=some ⟨c.Target,lay⟩:=by rw [<-hAl,hS]; exact zP
  have hlt:=(acD.1 hat).1;rw [hbs,bu,if_pos (by omega),aN hat,qN,yU];simp only [acC,Ix.2 rfl,decide_true,if_true];rw [<-hAl];have:=S9 N (t:=t) (i:=i2) (x:=x2) (a:=c.Target) hf (r:=r) (A:=A) (B:=B) (lay:=lay) (by simp only at hll; omega) true hd (by omega);rw [<-hS] at this;exact this
 ·refine ⟨_,main (hJ5 ?_),Tc h e hf hr (lay:=[]) (.inr ⟨hS,rfl⟩) hA hB,lastf _ _ _⟩;have hb:ba N t.Stacks c.Target=some (((ps t.Stacks c.Target:Nat):Int),false):=by
   rw [hbs,bu];by_cases q:ps t.Stacks c.Target < t.Stacks.length
   ·have hat:=acH q;have hne:=hno _ hat;rw [if_pos (by omega),aN hat,qN,yU];simp [Ix,hne]
   ·rw [if_neg (by omega)]
  rw [hb,acC,if_neg (by simp)];unfold bC I0;dsimp only;rw [if_pos ⟨by omega,by omega,rfl,by omega⟩,acC,acX,<-hAl];have ht:t.Stacks.take A.length=A:=by rw [hS,List.take_left']; rfl
  have hdr:t.Stacks.drop A.length=B:=by rw [hS,List.drop_left']; rfl
  rw [ht,hdr,adv];exact S9 N (t:=t) (i:=i2) (x:=x2) (a:=c.Target) hf (r:=r) (A:=A) (B:=B) (lay:=[]) (by simp) false hd (by omega)
end Go.Proofs.YtmacaidmhchpgaaGreat
namespace Go.Proofs.YtmacaidmhchpgaaGreat
open Go Go.Proofs Go.Abs
def P0 {t:List ai} (h:VT t) {k:ai} (hk:k∈t):(∀ l'∈(pE t (pa t k.Actor)).1,(l'∈t/\l'.Actor≠k.Actor)∨(l'.Actor=k.Actor/\l'.Owner∈k.Waiters/\∀ w∈l'.Waiters,w∈k.Waiters))/\∀ l∈t,l.Actor≠k.Actor->l∈(pE t (pa t k.Actor)).1:=by
 have hp:=(Az h hk).1;have hpl:=(acD.1 hp).1;have hne:∀ {i:Nat} {l:ai},i≠pa t k.Actor->t[i]?=some l->l.Actor≠k.Actor:=fun {i l} hi hl e=>by
  have:=(Az h (acE hl)).1;rw [e,hp] at this;simp only [acB] at this;subst this;obtain ⟨g1,g2⟩:=acD.1 hl;obtain ⟨g3,g4⟩:=acD.1 hp;have hs:=ac1.1 h.so;rcases aen i (pa t k.Actor) with q|q|q
  ·have:=hs i _ g1 g3 q; rw [g2,g4,ji] at this; cases this
  ·exact hi q
  ·have:=hs _ i g3 g1 q; rw [g2,g4,ji] at this; cases this
 rw [pE,hp];simp only;split
 ·refine ⟨fun l' hl'=>?_,fun l hl hn=>?_⟩
  ·rcases acZ.1 hl' with q|q
   ·obtain ⟨i,hi⟩:=acR q;rw [ada] at hi;split at hi
    ·exact .inl ⟨acE hi,hne (by omega) hi⟩
    ·cases hi
   ·obtain ⟨i,hi⟩:=acR q;rw [adb] at hi;exact .inl ⟨acE hi,hne (by omega) hi⟩
  ·obtain ⟨i,hi⟩:=acR hl;have:i≠pa t k.Actor:=fun e=>by rw [e,hp] at hi; simp only [acB] at hi; exact hn (hi ▸ rfl)
   rw [acZ];rcases aeg i (pa t k.Actor) with q|q
   ·exact .inl (acE (i:=i) (by rw [ada,if_pos q]; exact hi))
   ·exact .inr (acE (i:=i - (pa t k.Actor+1)) (by rw [adb,show pa t k.Actor+1+(i - (pa t k.Actor+1))=i by omega]; exact hi))
 ·rename_i e;refine ⟨fun l' hl'=>?_,fun l hl hn=>?_⟩
  ·rcases FV hp hl' with rfl|⟨i,hi,q⟩
   ·exact .inr ⟨rfl,OB e,fun w hw=>adC hw⟩
   ·exact .inl ⟨acE q,hne hi q⟩
  ·obtain ⟨i,hi⟩:=acR hl;have:pa t k.Actor≠i:=fun q=>by rw [<-q,hp] at hi; simp only [acB] at hi; exact hn (hi ▸ rfl)
   exact acE (i:=i) (by rw [aef this]; exact hi)
def iz (t:ae) (a:Ref) (n:Int):Prop:=∃ s∈t.Stacks,s.Actor=a/\∃ y∈s.Layers,y.Txn_=n/\y.Prepared=true
def Px (S:List aa) (j:Nat) (s:aa) (y:al):List aa:=S.set j ⟨s.Actor,s.Layers.set (s.Layers.length - 1) ⟨y.Txn_,y.Fields,true⟩⟩
inductive aae (N:Nat) (t:ae) (n:Int) (a:Ref):Prop where
 | no (e:Int) (he:e≠0) (hq:∀ x∈t.Txns,x.ID=n->x.Done < x.Calls.length∨(¬ ∃ c∈x.Calls,c.Target=a)∨iz t a n) (h:fW N t n a=some (emp,e))
 | ok {x:Txn} {j:Nat} {s:aa} {y:al} (hx:x∈t.Txns) (hn:x.ID=n) (hd:x.Done=x.Calls.length) (ha:∃ c∈x.Calls,c.Target=a) (hj:t.Stacks[j]?=some s) (hsa:s.Actor=a) (hy:s.Layers[s.Layers.length - 1]?=some y) (hyn:y.Txn_=n) (hp:y.Prepared=false)
   (h:fW N t n a=some (⟨t.Txns,(pE t.Locks (pa t.Locks a)).1,Px t.Stacks j s y⟩,0)) (hT:TV ⟨t.Txns,(pE t.Locks (pa t.Locks a)).1,Px t.Stacks j s y⟩)
theorem My (N:Nat) (hN:200<=N) {t:ae} (h:TV t) (n:Int) (a:Ref):aae N t n a:=by
 rcases Bf N t n with ⟨h1,e⟩|⟨i,x,e,hi,hid⟩
 ·refine .no 6 (by simp) (fun x hx q=>absurd (ade.2 ⟨x,hx,q⟩) h1) ?_;rw [fW,o4 N hN h,acC,if_pos rfl,e,acC,if_pos (by omega),iS,if_pos rfl];rfl
 ·have hxm:=acE hi;have hX:=(h.tx.x x hxm).1;have hu:∀ {y:Txn},y∈t.Txns->y.ID=n->y=x:=fun hy q=>h.tx.uniq hy hxm (q.trans hid.symm);have e0:∀ {q:Option (ae × Int)},iS (kZ t ((i:Nat):Int) N a n) (!x.Calls.any fun c=>GG c.Target a)=q->fW N t n a=q:=fun hq=>by
   rw [fW,o4 N hN h,acC,if_pos rfl,e,acC,if_neg (by omega),aN hi,L6,acC,hq]
  by_cases ht:∃ c∈x.Calls,c.Target=a
  ·have hany:(x.Calls.any fun c=>GG c.Target a)=true:=by
    obtain ⟨c,hc,q⟩:=ht;exact af1.2 ⟨c,hc,(Dl _ _).2 q⟩
   rw [hany] at e0;by_cases hd:x.Done < x.Calls.length
   ·refine .no 12 (by simp) (fun y hy q=>.inl (by rw [hu hy q]; exact hd)) (e0 ?_);rw [iS,if_neg (by simp),kZ,aN hi,if_pos hd]; rfl
   ·have hdn:x.Done=x.Calls.length:=by have:=hX.d2; omega
    obtain ⟨c,hc,hca⟩:=ht;have htk:x.Calls.take x.Done.toNat=x.Calls:=ac3 (by omega);obtain ⟨s,hs,hsa,y,hy,hyn⟩:=h.pr x hxm c (by rw [htk]; exact hc);have hsa':=hsa.trans hca;have hlay:=oL N h.ss h.ac hs hsa' hy (hyn.trans hid);cases hp:y.Prepared with
    | true=>
     refine .no 7 (by simp) (fun z hz q=>.inr (.inr ⟨s,hs,hsa',y,hy,hyn.trans hid,hp⟩)) (e0 ?_);rw [iS,if_neg (by simp),kZ,aN hi,if_neg hd,hlay,acC,if_pos hp]; rfl
    | false=>
     obtain ⟨m,hm⟩:=acR hy;obtain ⟨hlast,k,hk,hka,hko⟩:=(h.st s hs).up m y hm hp;obtain ⟨j,hj1,hj2⟩:=Hj N h.ss hs;have hml:=(acD.1 hm).1;have hyl:s.Layers[s.Layers.length - 1]?=some y:=by rw [show s.Layers.length - 1=m by omega]; exact hm
     have hva:=KO (hX.ca c hc);have hkaa:k.Actor=a:=hka.trans hsa';have hrel:mE N t.Locks a n=some ((pE t.Locks (pa t.Locks a)).1,(pE t.Locks (pa t.Locks a)).2,0):=by
      have hv:VA a:=hca ▸ hva;rw [Y0 N (by omega) h.lk hv (hid ▸ hX.i1) (hid ▸ hX.i2)];obtain ⟨g1,g2⟩:=Az h.lk hk;rw [hkaa] at g1 g2;unfold rls;rw [if_pos g2,g1];simp only;rw [if_pos (hko.trans (hyn.trans hid))]
     obtain ⟨p1,p2⟩:=P0 h.lk hk;rw [hkaa] at p1 p2;have hll:=h.layers_len hs;refine .ok hxm hid hdn ⟨c,hc,hca⟩ hj2 hsa' hyl (hyn.trans hid) hp (e0 ?_) (YG h hxm hdn hj2 hyl hyn hp hk hka (Xe h.lk _) (fun l' hl'=>by
      rcases p1 l' hl' with ⟨q1,q2⟩|⟨q1,q2⟩
      ·exact .inl ⟨q1,by rw [hsa']; exact q2⟩
      ·exact .inr ⟨q1.trans hkaa.symm,q2⟩) (fun l hl q=>p2 l hl (by rw [<-hsa']; exact q)))
     rw [hsa'] at hj1;rw [iS,if_neg (by simp),kZ,aN hi,if_neg hd,hlay,acC,if_neg (by simp [hp]),y7 h,acC,hj1,acC,aN hj2,w64 (by omega) (by omega),show ((s.Layers.length:Int) - 1)=((s.Layers.length - 1:Nat):Int) by omega,aN hyl,hrel,acC,acX,acX];rfl
  ·refine .no 6 (by simp) (fun y hy q=>.inr (.inl (by rw [hu hy q]; exact ht))) (e0 ?_);have hany:(x.Calls.any fun c=>GG c.Target a)=false:=by
    rw [<-aei];intro q;obtain ⟨c,hc,g⟩:=af1.1 q;exact ht ⟨c,hc,(Dl _ _).1 g⟩
   rw [hany,iS,if_pos (by simp)]; rfl
structure Bi (t:ae) (x:Txn):Prop where
 dn:x.Done=x.Calls.length
 pr:∀ c∈x.Calls,iz t c.Target x.ID
 fi:BM t x.ID []=true
def E2 (N:Nat) {t:ae} (h:TV t) (x:Txn):Te (oX N t x) (∀ c∈x.Calls,iz t c.Target x.ID):=by
 classical
 have hf:∀ c∈x.Calls,kY N c t.Txns t.Locks t.Stacks x.ID x.Born x.Client x.Seq x.Calls x.Done x.Last.Kind x.Last.N x.Last.S x.Last.I x.Last.L=some (!decide (iz t c.Target x.ID)):=fun c _=>by
  rw [kY];by_cases q:DJ t c.Target x.ID
  ·obtain ⟨s,hs,ha,y,hy,hn⟩:=q;rw [show (⟨t.Txns,t.Locks,t.Stacks⟩:ae)=t from rfl,oL N h.ss h.ac hs ha hy hn,acC,if_pos rfl];have:iz t c.Target x.ID↔y.Prepared=true:=⟨fun ⟨s',g1,g2,y',g3,g4,g5⟩=>by
    have:=oL N h.ss h.ac hs ha hy hn;rw [oL N h.ss h.ac g1 g2 g3 g4] at this;simp only [acB,acY,and_true] at this;rw [<-this]; exact g5,fun g=>⟨s,hs,ha,y,hy,hn,g⟩⟩
   cases hp:y.Prepared<;>simp [this,hp]
  ·rw [show (⟨t.Txns,t.Locks,t.Stacks⟩:ae)=t from rfl,Oc N h.ss q,acC,if_neg (by simp)];have:¬ iz t c.Target x.ID:=fun ⟨s',g1,g2,y',g3,g4,_⟩=>q ⟨s',g1,g2,y',g3,g4⟩;simp [this]
 have e:=kI (L:=bE N t.Txns t.Locks t.Stacks x.ID x.Born x.Client x.Seq x.Calls x.Done x.Last.Kind x.Last.N x.Last.S x.Last.I x.Last.L) (fun c=>kY N c t.Txns t.Locks t.Stacks x.ID x.Born x.Client x.Seq x.Calls x.Done x.Last.Kind x.Last.N x.Last.S x.Last.I x.Last.L) (fun c=>!decide (iz t c.Target x.ID)) (fun _=>rfl) (fun _ _ _=>rfl) x.Calls 0 hf;refine ⟨!(x.Calls.any fun c=>!decide (iz t c.Target x.ID)),?_,?_⟩
 ·simp only [oX,bD,b8,e,acC,s9]
 ·rw [Jq]; simp
def PZ (N:Nat) {t:ae} (h:TV t) (x:Txn):Te (mD N x t.Txns t.Locks t.Stacks) (Bi t x):=by
 rw [mD,show (⟨t.Txns,t.Locks,t.Stacks⟩:ae)=t from rfl];refine Te.ite (fun hd=>(E2 N h x).bind (fun hp=>?_) fun hp=>Te.f fun q=>hp q.pr) fun hd=>Te.f fun q=>hd q.dn;simp only [if_true,Qp,acC];exact ⟨_,rfl,fun g=>⟨hd,hp,g⟩,fun g=>g.fi⟩
def U1 {t:ae} (h:TV t) {x:Txn} (hx:x∈t.Txns) (hr:Bi t x):Lks t [x.ID] t.Locks:=by
 have ho:∀ l∈t.Locks,l.Owner≠x.ID:=fun l hl e=>by
  obtain ⟨s,hs,ha,y,hy,hn,hp⟩:=(h.lp l hl).dn x hx e.symm hr.dn;obtain ⟨⟨c,hc,hca⟩,_⟩:=(h.st s hs).ex y hy x hx hn.symm;obtain ⟨s',g1,g2,y',g3,g4,g5⟩:=hr.pr c (adC hc);obtain ⟨i,hi⟩:=acR hs;have:=CV h.ss hi g1 (g2.trans hca);subst this;obtain ⟨r,hrk⟩:=h.ac;obtain ⟨a,ha'⟩:=acR hy;obtain ⟨b,hb'⟩:=acR g3;have:=Jo (hrk s' g1) ha' hb' (hn.trans g4.symm);subst this;rw [ha'] at hb';simp only [acB] at hb';rw [<-hb',hp] at g5; cases g5
 have hw:∀ l∈t.Locks,x.ID∉l.Waiters:=fun l hl q=>by
  have:=((h.lp l hl).wt x hx q).1;have:=hr.dn; omega
 exact ⟨h.lk,fun l hl=>⟨l,hl,rfl,.inl rfl,fun w hw=>hw,by simp [ho l hl],fun w q=>by simp only [acW]; exact fun e=>hw l hl (e ▸ q)⟩,fun l hl _=>⟨l,hl,rfl,rfl⟩⟩
def Wr (t:ae) (n:Int):List Ref->List aR->Prop
 | [],[]=>True
 | a::rs,w::ws=>w.Actor=a/\(∃ s∈t.Stacks,s.Actor=a/\∃ y∈s.Layers,y.Txn_=n/\y.Prepared=true/\w.Fields=y.Fields)/\Wr t n rs ws
 | _,_=>False
inductive Res (N:Nat):ae->ae->List aD->Prop where
 | nil {t:ae} (hno:∀ x∈t.Txns,¬ Bi t x):Res N t t []
 | cons {t t':ae} {cs:List aD} {x:Txn} {ps:List Ref} {ws:List aR} (hx:x∈t.Txns) (hr:Bi t x) (hp:gy N x=some ps) (hw:Wr t x.ID ps ws) (hT:TV (z6 t [x.ID])) (rest:Res N (z6 t [x.ID]) t' cs):Res N t t' (⟨x.ID,x.Client,x.Seq,x.Last,ws⟩::cs)
theorem VO (N:Nat) {t:ae} (h:TV t) {x:Txn} (k:List aR->Option (ae × List aD)):∀ (rs:List Ref) (v:Nat) (acc:List aR),(∀ a∈rs,iz t a x.ID)->acc.length+rs.length<=1000->∃ ws,Wr t x.ID rs ws/\lz k N t.Txns t.Locks t.Stacks x rs v acc=k (acc++ws)
 | [],v,acc,_,_=>⟨[],trivial,by rw [lz,adg]⟩
 | a::rs,v,acc,hp,hl=>by
  obtain ⟨s,hs,ha,y,hy,hn,hpp⟩:=hp a (by simp);simp only [acT] at hl;obtain ⟨ws,g1,g2⟩:=VO N h k rs (v+1) (acc++[⟨a,y.Fields⟩]) (fun b hb=>hp b (by simp [hb])) (by simp; omega);refine ⟨⟨a,y.Fields⟩::ws,⟨rfl,⟨s,hs,ha,y,hy,hn,hpp,rfl⟩,g1⟩,?_⟩;rw [lz,show (⟨t.Txns,t.Locks,t.Stacks⟩:ae)=t from rfl,oL N h.ss h.ac hs ha hy hn,acC,sN (Hq ((h.st s hs).fi y hy)),acC,mO (by simp; omega),g2,adv];rfl
theorem LU (N:Nat) (hN:100002<=N):∀ (n:Nat) {t:ae} (acc:List aD),TV t->t.Txns.length < n->acc.length+t.Txns.length<=1000->∃ t' cs,lx N n (t.Txns,t.Locks,t.Stacks,acc)=some (t',acc++cs)/\TV t'/\Res N t t' cs
 | n+1,t,acc,h,hn,ha=>by
  classical
  have hloop:=kI (L:=dH N t.Txns t.Locks t.Stacks) (fun x=>mD N x t.Txns t.Locks t.Stacks) (fun x=>decide (Bi t x)) (fun _=>rfl) (fun _ _ _=>rfl) t.Txns 0 (fun x _=>by
   by_cases q:Bi t x
   ·rw [(PZ N h x).is q]; simp [q]
   ·rw [(PZ N h x).isnt q]; simp [q])
  rw [lx,ed,hloop,acC];rcases uA (fun x=>decide (Bi t x)) t.Txns 0 with ⟨e,hno⟩|⟨i,x,e,hi,hr,_⟩
  ·rw [e,if_pos (by omega)];exact ⟨t,[],by rw [adg],h,.nil fun x hx=>by simpa using hno x hx⟩
  ·have hxm:=acE hi;have hX:=(h.tx.x x hxm).1;have hr:Bi t x:=by simpa using hr
   have hT:TV (z6 t [x.ID]):=V6 h (U1 h hxm hr);obtain ⟨ps,p1,p2,p3⟩:=u4 N hN hX.c1 hX.c2;have hlen:(z6 t [x.ID]).Txns.length < t.Txns.length:=by
    refine agv (ae1 _ _) fun q=>?_;have:=afq.1 q x hxm;rw [vC] at this;exact this (by simp)
   have hpl:ps.length<=4:=by
    have hnd:ps.Nodup:=p2.imp fun {a b} g e=>by rw [e,lpR,ji] at g; cases g
    have:=zy (l:=x.Calls.map ah.Target) hnd fun a hm=>by
     obtain ⟨c,hc,q⟩:=(p3 a).1 hm;exact ade.2 ⟨c,hc,q⟩
    simp only [acL] at this;have:=hX.c2; omega
   obtain ⟨ws,w1,w2⟩:=VO N h (x:=x) (wu N t.Txns t.Locks t.Stacks x acc x.Last (lx N n)) ps 0 [] (fun a hm=>by
    obtain ⟨c,hc,q⟩:=(p3 a).1 hm;exact q ▸ hr.pr c hc) (by simp; omega)
   obtain ⟨t',cs,r1,r2,r3⟩:=LU N hN n (t:=z6 t [x.ID]) (acc++[⟨x.ID,x.Client,x.Seq,x.Last,ws⟩]) hT (by omega) (by simp; omega);refine ⟨t',_::cs,?_,r2,.cons hxm hr p1 w1 hT r3⟩;rw [e,adm,if_neg (by omega),aN hi,yA (Bw hX.la),acC,p1,acC,w2,acV,wu,show (⟨t.Txns,t.Locks,t.Stacks⟩:ae)=t from rfl,Ov N (by omega) h,acC,mO (by simp; omega),r1,adv];rfl
def LH (N:Nat) (hN:100002<=N) {t:ae} (h:TV t):∃ t' cs,og N t=some (t',cs)/\TV t'/\Res N t t' cs:=by
 have:=h.tx.len;obtain ⟨t',cs,h1,h2,h3⟩:=LU N hN N (t:=t) [] h (by omega) (by simp; omega);exact ⟨t',cs,by rw [og,o4 N (by omega) h,acC,if_pos rfl,y7 h,acC,h1]; rfl,h2,h3⟩
def Yk {N:Nat} {t t':ae} {cs:List aD} (h:Res N t t' cs):cs.length<=t.Txns.length:=by
 induction h with
 | nil=>simp
 | @cons t t' cs x ps ws hx hr hp hw hT rest ih=>
  have hlen:(z6 t [x.ID]).Txns.length < t.Txns.length:=by
   refine agv (ae1 _ _) fun q=>?_;have:=afq.1 q x hx;rw [vC] at this;exact this (by simp)
  simp only [acT]; omega
end Go.Proofs.YtmacaidmhchpgaaGreat
namespace Go.Proofs.YtmacaidmhchpgaaGreat
open Go Go.Proofs Go.Abs
abbrev Gw:=aj
def U8C (x:Gw):Prop:=(0<=x.Kind/\x.Kind<=255)/\(0<=x.Who/\x.Who<=255)/\(0<=x.Arg/\x.Arg<=255)
def JJ {a b:Int} (h:0<=a) (hb:0 < b):Int.tmod a b=a % b:=Int.tmod_eq_emod_of_nonneg h
def XQ (N:Nat) (t:ae) (hl:t.Txns.length<=1000) {w:Int} (h0:0<=w) (h1:w<=255):∃ n,wc N t w=some n/\((t.Txns=[]/\n=0)∨n∈ids t):=by
 rw [wc];by_cases h:t.Txns.length=0
 ·rw [if_pos (by omega)];exact ⟨0,rfl,.inl ⟨acQ h,rfl⟩⟩
 ·rw [if_neg (by omega),w64 (by omega) (by omega),JJ h0 (by omega)];have h2:=Int.emod_nonneg w (b:=(t.Txns.length:Int)) (by omega);have h3:=agw w (b:=(t.Txns.length:Int)) (by omega);have hk:(w % (t.Txns.length:Int)).toNat < t.Txns.length:=by omega
  simp only [dvx];rw [if_neg (by omega),show w % (t.Txns.length:Int)=(((w % (t.Txns.length:Int)).toNat:Nat):Int) by omega,aN (acH hk)];exact ⟨_,rfl,.inr (ade.2 ⟨_,adF hk,rfl⟩)⟩
def EO:List Ref:=[⟨⟨#[65]⟩,⟨#[97]⟩⟩,⟨⟨#[65]⟩,⟨#[98]⟩⟩,⟨⟨#[65]⟩,⟨#[99]⟩⟩,⟨⟨#[65]⟩,⟨#[100]⟩⟩]
def VB (N:Nat) {n:Int} (h0:0<=n) (h1:n<=255):∃ r,vp N n=some r/\r∈EO:=by
 have key:∀ k:Int,k=0∨k=1∨k=2∨k=3->∃ r,(sls (⟨#[97,98,99,100]⟩) (IntKind.i64.wrap k) (IntKind.i64.wrap ((IntKind.i64.wrap k)+1)) fun s1=>some (Ref.mk (⟨#[65]⟩) s1))=some r/\r∈EO:=by
  rintro k (rfl|rfl|rfl|rfl)
  ·exact ⟨⟨⟨#[65]⟩,⟨#[97]⟩⟩,rfl,by simp [EO]⟩
  ·exact ⟨⟨⟨#[65]⟩,⟨#[98]⟩⟩,rfl,by simp [EO]⟩
  ·exact ⟨⟨⟨#[65]⟩,⟨#[99]⟩⟩,rfl,by simp [EO]⟩
  ·exact ⟨⟨⟨#[65]⟩,⟨#[100]⟩⟩,rfl,by simp [EO]⟩
 rw [vp,JJ h0 (by omega)];exact key (n % 4) (by omega)
theorem It {r:Ref} (h:r∈EO):qE ⟨r,⟨#[109]⟩,[]⟩=true:=by
 simp only [EO,ac6,adY,or_false] at h;rcases h with rfl|rfl|rfl|rfl<;>rfl
def Zu {a:Int} (h0:0<=a) (h1:a<=255) (k:Int) (hk:k=0∨k=2∨k=4∨k=6):0<=kt .u8 a k/\kt .u8 a k<=255:=by
 rcases hk with rfl|rfl|rfl|rfl
 ·show 0<=a.fdiv 1/\a.fdiv 1<=255;rw [aeF _ (by omega)]; omega
 ·show 0<=a.fdiv 4/\a.fdiv 4<=255;rw [aeF _ (by omega)]; omega
 ·show 0<=a.fdiv 16/\a.fdiv 16<=255;rw [aeF _ (by omega)]; omega
 ·show 0<=a.fdiv 64/\a.fdiv 64<=255;rw [aeF _ (by omega)]; omega
def QK (N:Nat) {a:Gw} (ha:U8C a):∀ (m:Nat) (v:Nat) (l:List ah),4 < v+m->v<=4->l.length=v->(∀ c∈l,qE c=true)->v<=(a.Who % 4).toNat+1->∃ r,oJ a N m (l,(v:Int))=some r/\r.length=(a.Who % 4).toNat+1/\∀ c∈r,qE c=true
 | 0,v,l,h1,h2,h3,h4,h5=>by omega
 | m+1,v,l,h1,h2,h3,h4,h5=>by
  obtain ⟨_,⟨w0,w1⟩,g0,g1⟩:=ha;rw [oJ,JJ w0 (by omega),w64 (n:=a.Who % 4) (by omega) (by omega)];by_cases q:(v:Int)<=a.Who % 4
  ·have hv:v=0∨v=1∨v=2∨v=3:=by omega
   have hk:IntKind.u64.wrap (2 * (IntKind.u64.wrap (Int.tmod (v:Int) 4)))=0∨IntKind.u64.wrap (2 * (IntKind.u64.wrap (Int.tmod (v:Int) 4)))=2∨IntKind.u64.wrap (2 * (IntKind.u64.wrap (Int.tmod (v:Int) 4)))=4∨IntKind.u64.wrap (2 * (IntKind.u64.wrap (Int.tmod (v:Int) 4)))=6:=by
    rcases hv with rfl|rfl|rfl|rfl<;>decide
   rw [if_pos q];obtain ⟨s0,s1⟩:=Zu g0 g1 _ hk;obtain ⟨r,hr,hm⟩:=VB N s0 s1;simp only [shx];rw [if_neg (by omega),hr,acC,mO (by simp; omega),w64 (n:=(v:Int)+1) (by omega) (by omega)];refine QK N ⟨by assumption,⟨w0,w1⟩,g0,g1⟩ m (v+1) _ (by omega) (by omega) (by simp [h3]) (fun c hc=>?_) (by omega);rcases acZ.1 hc with hc|hc
   ·exact h4 c hc
   ·simp only [acW] at hc; rw [hc]; exact It hm
  ·rw [if_neg q];exact ⟨l,rfl,by omega,h4⟩
def WB (N:Nat) (hN:100<=N) {a:Gw} (ha:U8C a):∃ r,yc N a=some r/\1<=r.length/\r.length<=4/\∀ c∈r,qE c=true:=by
 obtain ⟨r,h1,h2,h3⟩:=QK N ha N 0 [] (by omega) (by omega) rfl (by simp) (by omega);have:=ha.2.1;exact ⟨r,h1,by omega,by omega,h3⟩
def GH {α β ρ:Type} {L:List α->Nat->List β->Option ρ} (B:Nat) (f:α->β) (P:α->Prop) (k:List β->Option ρ) (h0:∀ v l,L [] v l=k l)
  (h1:∀ x xs v l,P x->l.length < B->L (x::xs) v l=L xs (v+1) (l++[f x])) :
  ∀ (xs:List α) (v:Nat) (l:List β),(∀ x∈xs,P x)->l.length+xs.length<=B->L xs v l=k (l++xs.map f)
 | [],v,l,_,_=>by rw [h0]; simp
 | x::xs,v,l,hp,hb=>by
  simp only [acT] at hb;rw [h1 x xs v l (hp x (by simp)) (by omega),GH B f P k h0 h1 xs (v+1) (l++[f x]) (fun y hy=>hp y (by simp [hy])) (by simp; omega)];simp
def Jd {N:Nat} {v:Value} (h:bdV v):jd N v=some v:=by
 obtain ⟨h1,h2⟩:=h;simp only [jd];rw [vK (by omega),vK (by omega)]
def O7 {N:Nat} {l:List Value} (h:EN l):lI N l=some l:=by
 have:=GH (L:=jn N) 1759218604441 id bdV some (fun _ _=>rfl) (fun x xs v l hp hb=>by
  simp only [jn,Jd hp,acC];rw [mO (by simp only [acT,adh]; omega)]; rfl) l 0 [] h.2 (by simpa using h.1)
 simpa [lI] using this
def Q4 {N:Nat} {l:List ah} (h:UJ l):ml N l=some l:=by
 have:=GH (L:=jD N) 2000000 id (fun c=>EN c.Args) some (fun _ _=>rfl) (fun x xs v l hp hb=>by
  simp only [jD,O7 hp,acC];rw [mO (by simp only [acT,adh]; omega)]; rfl) l 0 [] h.2 (by simpa using h.1)
 simpa [ml] using this
def Tt {N:Nat} {x:Txn} (h:XV x):qg N x=some x:=by
 simp only [qg,Q4 h.bd.1,Jd h.bd.2,acC]
def RV (N:Nat) {t:ae} (h:∀ x∈t.Txns,XV x) (n:Int):∃ x b,zv N t n=some (x,b)/\x.Calls.length<=4:=by
 have key:∀ (xs:List Txn) (v:Nat),(∀ x∈xs,XV x)->∃ x b,p9 n N xs v ()=some (x,b)/\x.Calls.length<=4:=by
  intro xs
  induction xs with
  | nil=>intro v _; exact ⟨_,_,rfl,by simp⟩
  | cons x xs ih=>
   intro v hx;rw [p9];split
   ·rw [Tt (hx x (by simp))]; exact ⟨x,true,rfl,(hx x (by simp)).c2⟩
   ·exact ih (v+1) fun y hy=>hx y (by simp [hy])
 exact key t.Txns 0 h
def Kj (N:Nat) (l:List Ref) (hl:l.length<=1000) (x:ah) (k:Int->Option (List Ref)):∀ (n:Nat) (v:Nat),v < n->v<=l.length->∃ w:Nat,w<=v/\ju l N x k n (v:Int)=k (w:Int)
 | n+1,v,h1,h2=>by
  rw [ju];by_cases h0:0 < v
  ·have hg:l[v - 1]?=some (l[v - 1]'(by omega)):=acH (by omega);rw [if_pos (by omega),w64 (n:=(v:Int) - 1) (by omega) (by omega),show ((v:Int) - 1)=((v - 1:Nat):Int) by omega,aN hg,PI,acC,o6];cases rl (l[v - 1]'(by omega)) x.Target with
   | true=>exact ⟨v,acU _,by simp⟩
   | false=>
    obtain ⟨w,g1,g2⟩:=Kj N l hl x k n (v - 1) (by omega) (by omega);refine ⟨w,by omega,?_⟩;rw [if_pos (by simp),w64 (n:=(v:Int) - 1) (by omega) (by omega),show ((v:Int) - 1)=((v - 1:Nat):Int) by omega];exact g2
  ·exact ⟨v,acU _,by rw [if_neg (by omega),o6,if_neg (by simp)]⟩
def EG (N:Nat) (hN:2000<=N):∀ (xs:List ah) (v:Nat) (l:List Ref),l.length+xs.length<=1000->∃ r,fA N xs v l=some r
 | [],v,l,_=>⟨l,rfl⟩
 | x::xs,v,l,hl=>by
  simp only [acT] at hl;rw [fA];obtain ⟨w,g1,g2⟩:=Kj N l (by omega) x (tH l (fA N xs (v+1)) x) N l.length (by omega) (acU _);rw [g2,tH];have hJ3:∃ r,lD l (w:Int) x (fA N xs (v+1))=some r:=by
   rw [lD];unfold slx slt;rw [if_pos ⟨by omega,by omega,by omega,by omega⟩];dsimp only;rw [vK (by simp; omega),if_pos ⟨by omega,by omega⟩];try dsimp only
   rw [mO (by simp; omega),mO (by simp; omega)];exact EG N hN xs (v+1) _ (by simp; omega)
  have hJ2:∀ b,∃ r,px (fA N xs (v+1)) l (lD l (w:Int) x (fA N xs (v+1))) b=some r:=fun b=>by
   rw [px];cases b with
   | true=>exact EG N hN xs (v+1) l (by omega)
   | false=>exact hJ3
  by_cases q:w < l.length
  ·rw [if_pos (by omega),aN (acH q)]; exact hJ2 _
  ·rw [if_neg (by omega)]; exact hJ2 _
theorem Nk (N:Nat) (hN:2000<=N) {t:ae} (h:∀ x∈t.Txns,XV x) (n:Int) {w:Int} (h0:0<=w) (h1:w<=255):∃ r,kE N t n w=some r:=by
 obtain ⟨x,b,e,hl⟩:=RV N h n;obtain ⟨ps,p⟩:=EG N hN x.Calls 0 [] (by simp; omega);obtain ⟨r,hr,_⟩:=VB N h0 h1;rw [kE,e,acC,lP,uj];dsimp only;rw [p,acC,acC];by_cases q:ps.length=0
 ·rw [if_pos (by omega),hr]; exact ⟨r,rfl⟩
 ·rw [if_neg (by omega),w64 (by omega) (by omega),JJ h0 (by omega)];have h2:=Int.emod_nonneg w (b:=(ps.length:Int)) (by omega);have h3:=agw w (b:=(ps.length:Int)) (by omega);have hk:(w % (ps.length:Int)).toNat < ps.length:=by omega
  simp only [dvx];rw [if_neg (by omega),show w % (ps.length:Int)=(((w % (ps.length:Int)).toNat:Nat):Int) by omega,aN (acH hk)];exact ⟨_,rfl⟩
def Gr:mP ⟨0,0,⟨#[]⟩,[],[]⟩=true:=by
 simp [mP,JH,GX];decide
def Ee (n:Int):mP ⟨1,n,⟨#[]⟩,[],[]⟩=true:=by
 simp [mP,JH,GX];decide
def VJ {t:ae} {i:Nat} {x:Txn} {c:ah} {L:List ai} (hx:Nx t i x c) {k:ai} (hk:k∈L) (ha:k.Actor=c.Target) (ho:k.Owner=x.ID):Exe ⟨t.Txns,L,t.Stacks⟩ i x c k:=⟨hx.hi,hx.dn,hx.hc,hk,ha,ho⟩
def X9 (N:Nat) (hN:100002<=N) {t:ae} (h:TV t) {v:Nat} (hv:v<=1000) {a:Gw} (ha:U8C a):∃ t' cs,vX N t (v:Int) a=some (t',cs)/\TV t'/\(cs=[]∨Res N t t' cs):=by
 have hl:=h.tx.len;obtain ⟨⟨k0,k1⟩,⟨w0,w1⟩,a0,a1⟩:=id ha;obtain ⟨n,hn,_⟩:=XQ N t (by omega) w0 w1;have J1:∀ b,∃ t' cs,tT N t n a b=some (t',cs)/\TV t'/\(cs=[]∨Res N t t' cs):=fun b=>by
  rw [tT];cases b with
  | true=>
   obtain ⟨r,hr⟩:=Nk N (by omega) (fun x hx=>(h.tx.x x hx).1) n a0 a1;rw [if_pos rfl,hr,acC];cases My N (by omega) h n r with
   | no e he _ q=>rw [q,acC,if_neg he]; exact ⟨t,[],rfl,h,.inl rfl⟩
   | ok _ _ _ _ _ _ _ _ _ q hT=>rw [q,acC,if_pos rfl]; exact ⟨_,[],rfl,hT,.inl rfl⟩
  | false=>
   rw [if_neg (by simp)];split
   ·obtain ⟨t',cs,e,h1,h2⟩:=LH N hN h;rw [e]; exact ⟨t',cs,rfl,h1,.inr h2⟩
   ·by_cases q:n∈ids t
    ·obtain ⟨D,e,h1,_⟩:=LB N (by omega) h q;rw [e,acC,if_pos rfl]; exact ⟨_,[],rfl,h1,.inl rfl⟩
    ·rw [WU N (by omega) h q,acC,if_neg (by simp)]; exact ⟨t,[],rfl,h,.inl rfl⟩
 have J2:∀ b,∃ t' cs,qe N t n a b=some (t',cs)/\TV t'/\(cs=[]∨Res N t t' cs):=fun b=>by
  rw [qe];cases b with
  | true=>
   rw [if_pos rfl];cases PM N (by omega) h n with
   | no e he _ q=>rw [q,acC,if_neg he]; exact ⟨t,[],rfl,h,.inl rfl⟩
   | @got i x c L o hx hn' ho hac q=>
    obtain ⟨hT,hown⟩:=VW h hx (hn' ▸ hac);rw [q,acC,if_pos rfl];rcases ho with rfl|rfl
    ·obtain ⟨k,hk,hka,hko⟩:=hown rfl;obtain ⟨S,e1,e2,_⟩:=Tj N (by omega) hT (VJ hx hk hka hko) (f:=[⟨1,a.N,⟨#[]⟩,[],[]⟩]) (r:=⟨1,a.N,⟨#[]⟩,[],[]⟩) (by simp [uG,Ee]) (Ee _);rw [if_pos rfl];simp only [lr,acC];rw [<-hn',e1,acC,if_pos rfl];exact ⟨_,[],rfl,e2,.inl rfl⟩
    ·rw [if_neg (by simp)]; exact ⟨_,[],rfl,hT,.inl rfl⟩
   | died hx hn' hk hka ho q hT hD=>rw [q,acC,if_pos rfl,if_neg (by simp)]; exact ⟨_,[],rfl,hT,.inl rfl⟩
  | false=>
   rw [if_neg (by simp)];split
   ·exact J1 _
   ·exact J1 _
 have J3:∀ b,∃ t' cs,ua N a t (v:Int) n b=some (t',cs)/\TV t'/\(cs=[]∨Res N t t' cs):=fun b=>by
  rw [ua];cases b with
  | true=>
   obtain ⟨cl,e,c1,c2,c3⟩:=WB N (by omega) ha;rw [if_pos rfl,e,acC,w64 (n:=(v:Int)+1) (by omega) (by omega)];have hx:XV ⟨(v:Int)+1,v,⟨#[99]⟩,(v:Int)+1,cl,0,⟨0,0,⟨#[]⟩,[],[]⟩⟩/\zx ⟨(v:Int)+1,v,⟨#[99]⟩,(v:Int)+1,cl,0,⟨0,0,⟨#[]⟩,[],[]⟩⟩:=
    ⟨⟨by simp only; omega,by simp only; omega,c1,c2,by simp,by simp,Gr,c3⟩,by simp only; omega,by simp only; omega,by show 1<=(⟨#[99]⟩:ByteArray).size; decide,by show (⟨#[99]⟩:ByteArray).size<=32; decide,by simp only; omega,by simp only; omega,fun _=>rfl⟩
   rcases EZ N (by omega) h hx with ⟨e2,he,_,q⟩|⟨q,hT⟩
   ·rw [q,acC,if_neg he]; exact ⟨t,[],rfl,h,.inl rfl⟩
   ·rw [q,acC,if_pos rfl]; exact ⟨_,[],rfl,hT,.inl rfl⟩
  | false=>
   rw [if_neg (by simp)];split
   ·exact J2 _
   ·split
    ·exact J2 _
    ·exact J2 _
 rw [vX,hn,acC];split
 ·exact J3 _
 ·exact J3 _
def TV.nil:TV ⟨[],[],[]⟩:=⟨⟨by simp,by simp,by simp⟩,VT.nil,by simp,by simp,by simp,by simp,⟨fun _=>0,by simp⟩⟩
end Go.Proofs.YtmacaidmhchpgaaGreat
namespace Go.Proofs.YtmacaidmhchpgaaGreat
open Go Go.Proofs Go.Abs
def Xx (N:Nat) (hN:1001<=N) {t:ae} (h:TV t) {i:Nat} {x:Txn} {c:ah} (hx:Nx t i x c) (hno:∀ k∈t.Locks,k.Actor≠c.Target) (hl:t.Locks.length < 128) :
  ∃ L,iy N t x.ID=some (⟨t.Txns,L,t.Stacks⟩,1,[],0)/\TV ⟨t.Txns,L,t.Stacks⟩/\(∀ l,l∈L↔l=⟨c.Target,x.ID,[]⟩∨l∈t.Locks)/\L.length<=t.Locks.length+1:=by
 have hu:∀ {j:Nat} {y:Txn} {d:ah},Nx t j y d->y.ID=x.ID->y=x/\d=c:=fun hy e=>by
  have:=h.tx.uniq (acE hy.hi) (acE hx.hi) e;subst this;have:=hy.hc;rw [hx.hc] at this;simp only [acB] at this;exact ⟨rfl,this.symm⟩
 have hacq:acq t.Locks c.Target x.ID=(t.Locks.take (pa t.Locks c.Target)++[⟨c.Target,x.ID,[]⟩]++t.Locks.drop (pa t.Locks c.Target),1,0):=by
  have hh:¬ vy t.Locks c.Target=true:=fun q=>by
   obtain ⟨k,hk,ha⟩:=ze q;exact hno k (acE hk) ha
  rw [acq,if_neg hh,if_neg (by omega)]
 cases PM N hN h x.ID with
 | no e he hq g=>
  exfalso;rcases hq with hq|⟨j,y,d,hy,hyi,hq⟩
  ·have:=hq x (acE hx.hi) rfl; have:=hx.dn; omega
  ·obtain ⟨_,rfl⟩:=hu hy hyi;rw [hacq] at hq;simp at hq
 | @got j y d L o hy hyi ho ha g=>
  obtain ⟨rfl,rfl⟩:=hu hy hyi;rw [hacq] at ha;simp only [acY,and_true] at ha;obtain ⟨rfl,rfl⟩:=ha;refine ⟨_,g,(VW h hx hacq).1,fun l=>?_,by simp; omega⟩;have e:(l∈t.Locks)↔(l∈t.Locks.take (pa t.Locks d.Target)∨l∈t.Locks.drop (pa t.Locks d.Target)):=by
   rw [<-acZ,ad7]
  rw [e];simp only [acZ,acW];constructor
  ·rintro ((q|q)|q)
   ·exact .inr (.inl q)
   ·exact .inl q
   ·exact .inr (.inr q)
  ·rintro (q|q|q)
   ·exact .inl (.inr q)
   ·exact .inl (.inl q)
   ·exact .inr q
 | died hy hyi hk hka ho g hT hD=>
  exfalso;obtain ⟨_,rfl⟩:=hu hy hyi;exact hno _ hk hka
def zj {t:ae} (h:TV t) {l:ai} (hl:l∈t.Locks) {x:Txn} (hx:x∈t.Txns) (e:x.ID=l.Owner) (hd:x.Done=x.Calls.length):¬ iz t l.Actor x.ID:=by
 rintro ⟨s',g1,g2,y',g3,g4,g5⟩;obtain ⟨s,hs,ha,y,hy,hn,hp⟩:=(h.lp l hl).dn x hx e hd;have h1:=oL 0 h.ss h.ac hs ha hy hn;rw [oL 0 h.ss h.ac g1 g2 g3 g4] at h1;simp only [acB,acY,and_true] at h1;rw [h1,hp] at g5; cases g5
def X0 {t:ae} (h:TV t) {x:Txn} (hx:x∈t.Txns) (hd:x.Done=x.Calls.length) {c:ah} (hc:c∈x.Calls) (hno:∀ l∈t.Locks,l.Actor=c.Target->l.Owner≠x.ID):iz t c.Target x.ID:=by
 obtain ⟨s,hs,ha,y,hy,hn⟩:=h.pr x hx c (by rw [ac3 (by omega)]; exact hc);cases hp:y.Prepared with
 | true=>exact ⟨s,hs,ha,y,hy,hn,hp⟩
 | false=>
  obtain ⟨j,hj⟩:=acR hy;obtain ⟨_,k,hk,hka,hko⟩:=(h.st s hs).up j y hj hp;exact absurd (hko.trans hn) (hno k hk (hka.trans ha))
def rA:Ref:=⟨⟨#[65]⟩,⟨#[97]⟩⟩
def rB:Ref:=⟨⟨#[65]⟩,⟨#[98]⟩⟩
def cA:ah:=⟨rA,⟨#[109]⟩,[]⟩
def cB:ah:=⟨rB,⟨#[109]⟩,[]⟩
def rAB:rA≠rB:=fun e=>by have:=congrArg Ref.Key e; simp [rA,rB] at this
def XB:qE cA=true:=It (r:=rA) (by simp [EO,rA])
def ZN:qE cB=true:=It (r:=rB) (by simp [EO,rB])
def x3 (d:Int) (v:Value):Txn:=⟨3,0,⟨#[99]⟩,1,[cA,cB],d,v⟩
def x5 (d:Int) (v:Value):Txn:=⟨5,0,⟨#[99]⟩,2,[cA],d,v⟩
def v0:Value:=⟨0,0,⟨#[]⟩,[],[]⟩
def vN (n:Int):Value:=⟨1,n,⟨#[]⟩,[],[]⟩
def I8 (N:Nat) (hN:1001<=N) {t:ae} (h:TV t) {i:Nat} {x:Txn} {c:ah} (hx:Nx t i x c) (hno:∀ k∈t.Locks,k.Actor≠c.Target) (hl:t.Locks.length < 128) (n:Int) :
  ∃ L S,iy N t x.ID=some (⟨t.Txns,L,t.Stacks⟩,1,[],0)/\lu N ⟨t.Txns,L,t.Stacks⟩ x.ID [vN n] (vN n)=some (As ⟨t.Txns,L,t.Stacks⟩ i x (vN n) S,0)/\TV (As ⟨t.Txns,L,t.Stacks⟩ i x (vN n) S)/\Be S c.Target x.ID [vN n]/\(∀ l,l∈L↔l=⟨c.Target,x.ID,[]⟩∨l∈t.Locks)/\L.length<=t.Locks.length+1:=by
 obtain ⟨L,h1,h2,h3,h4⟩:=Xx N hN h hx hno hl;obtain ⟨S,e1,e2,e3⟩:=Tj N (by omega) h2 (VJ hx ((h3 _).2 (.inl rfl)) rfl rfl) (f:=[vN n]) (r:=vN n) (by simp [uG,vN,Ee]) (Ee n);exact ⟨L,S,h1,e1,e2,e3,h3,h4⟩
def V4 {S:List aa} {j:Nat} {s:aa} {y:al} {a:Ref} {n:Int} {f:List Value} (h:Be S a n f) (hj:S[j]?=some s) (hne:s.Actor≠a):Be (Px S j s y) a n f:=by
 obtain ⟨s',hs,ha,g⟩:=h;obtain ⟨i,hi⟩:=acR hs;have:j≠i:=fun e=>by rw [<-e,hj] at hi; simp only [acB] at hi; exact hne (hi ▸ ha)
 exact ⟨s',acE (i:=i) (by unfold Px; rw [aef this]; exact hi),ha,g⟩
def W4 {S:List aa} {D:List Int} {a:Ref} {n:Int} {f:List Value} (h:Be S a n f) (hn:n∉D):Be (Ha D S) a n f:=by
 obtain ⟨s,hs,ha,y,hy,hyn,hyf⟩:=h;have hst:rC D y.Txn_=true:=vC.2 (hyn ▸ hn);have e:=congrArg (List.filter fun z=>rC D z.Txn_) (On hy);rw [aeh,show [y].filter (fun z=>rC D z.Txn_)=[y] by simp [hst]] at e;have e2:(EP D s).Layers=(s.Layers.take (s.Layers.length - 1)).filter (fun z=>rC D z.Txn_)++[y]:=e;exact ⟨EP D s,GP.2 ⟨s,hs,rfl,by rw [e2]; simp⟩,ha,y,by rw [e2]; simp,hyn,hyf⟩
def QQ (N:Nat) (hN:200<=N) {t:ae} (h:TV t) {x:Txn} (hx:x∈t.Txns) (hd:x.Done=x.Calls.length) {c:ah} (hc:c∈x.Calls) (hk:(⟨c.Target,x.ID,[]⟩:ai)∈t.Locks) :
  ∃ L S,fW N t x.ID c.Target=some (⟨t.Txns,L,S⟩,0)/\TV ⟨t.Txns,L,S⟩/\(∀ l,l∈L↔l∈t.Locks/\l.Actor≠c.Target)/\L.length<=t.Locks.length/\(∀ a n f,a≠c.Target->Be t.Stacks a n f->Be S a n f):=by
 cases My N hN h x.ID c.Target with
 | no e he hq g=>
  exfalso;rcases hq x hx rfl with q|q|q
  ·omega
  ·exact q ⟨c,hc,rfl⟩
  ·exact zj h hk hx rfl hd q
 | ok hx' hn hd' ha hj hsa hy hyn hp g hT=>
  have hm:=P0 h.lk hk;simp only at hm;refine ⟨_,_,g,hT,fun l=>⟨fun hl=>?_,fun ⟨h1,h2⟩=>hm.2 l h1 h2⟩,?_,fun a n f hne hl=>V4 hl hj (by rw [hsa]; exact hne.symm)⟩
  ·rcases hm.1 l hl with q|⟨_,q,_⟩
   ·exact q
   ·cases q
  ·unfold pE;split
   ·split
    ·simp; omega
    ·simp
   ·simp
def Ys (N:Nat) (hN:100002<=N):uz N=some true:=by
 have hXV3:XV (x3 0 v0)/\zx (x3 0 v0):=⟨⟨by decide,by decide,by decide,by decide,by decide,by decide,Gr,fun c hc=>by
  simp only [x3,ac6,adY,or_false] at hc;rcases hc with rfl|rfl
  ·exact XB
  ·exact ZN⟩,by decide,by decide,by decide,by decide,by decide,by decide,fun _=>rfl⟩
 have hXV5:XV (x5 0 v0)/\zx (x5 0 v0):=⟨⟨by decide,by decide,by decide,by decide,by decide,by decide,Gr,fun c hc=>by
  simp only [x5,ac6,adY,or_false] at hc;rw [hc]; exact XB⟩,by decide,by decide,by decide,by decide,by decide,by decide,fun _=>rfl⟩
 obtain ⟨b1,T1⟩:jV N ⟨[],[],[]⟩ 3 0 ⟨#[99]⟩ 1 [cA,cB]=some (⟨[x3 0 v0],[],[]⟩,0)/\TV ⟨[x3 0 v0],[],[]⟩:=by
  rcases EZ N (by omega) TV.nil hXV3 with ⟨e,_,q,_⟩|q
  ·rcases q with q|⟨y,hy,_⟩
   ·cases q
   ·cases hy
  ·exact q
 obtain ⟨b2,T2⟩:jV N ⟨[x3 0 v0],[],[]⟩ 5 0 ⟨#[99]⟩ 2 [cA]=some (⟨[x3 0 v0,x5 0 v0],[],[]⟩,0)/\TV ⟨[x3 0 v0,x5 0 v0],[],[]⟩:=by
  rcases EZ N (by omega) T1 hXV5 with ⟨e,_,q,_⟩|q
  ·rcases q with q|⟨y,hy,q⟩
   ·cases q
   ·simp only [acW] at hy;rw [hy] at q;exact absurd q (by decide)
  ·exact q
 obtain ⟨L1,S1,l1,e1,T3,_,m1,n1⟩:=I8 N (by omega) T2 (i:=0) (x:=x3 0 v0) (c:=cA) ⟨rfl,by decide,rfl⟩ (by simp) (by simp) 0;have T3':TV ⟨[x3 1 (vN 0),x5 0 v0],L1,S1⟩:=T3;obtain ⟨L2,S2,l2,e2,T4,_,m2,n2⟩:=I8 N (by omega) T3' (i:=0) (x:=x3 1 (vN 0)) (c:=cB) ⟨rfl,by decide,rfl⟩ (fun k hk=>by
  rcases (m1 k).1 hk with rfl|q
  ·exact rAB
  ·cases q) (by simp only [adh] at n1; simp only; omega) 1
 have T4':TV ⟨[x3 2 (vN 1),x5 0 v0],L2,S2⟩:=T4;simp only [adh] at n1 n2;obtain ⟨L3,S3,p3,T5,m3,n3,_⟩:=QQ N (by omega) T4' (x:=x3 2 (vN 1)) (by simp) rfl (c:=cA) (by simp [x3]) ((m2 _).2 (.inr ((m1 _).2 (.inl rfl))));simp only at n3 m3;have c3:∀ l∈L3,l=⟨rB,3,[]⟩:=fun l hl=>by
  obtain ⟨g1,g2⟩:=(m3 l).1 hl;rcases (m2 l).1 g1 with q|q
  ·exact q
  ·rcases (m1 l).1 q with rfl|q
   ·exact absurd rfl g2
   ·cases q
 obtain ⟨L4,S4,l4,e4,T6,f6,m4,n4⟩:=I8 N (by omega) T5 (i:=1) (x:=x5 0 v0) (c:=cA) ⟨rfl,by decide,rfl⟩ (fun k hk=>by rw [c3 k hk]; exact fun q=>rAB q.symm) (by simp only; omega) 9;have T6':TV ⟨[x3 2 (vN 1),x5 1 (vN 9)],L4,S4⟩:=T6;have hA5:(⟨rA,5,[]⟩:ai)∈L4:=(m4 _).2 (.inl rfl);have hB3:(⟨rB,3,[]⟩:ai)∈L4:=(m4 _).2 (.inr ((m3 _).2 ⟨(m2 _).2 (.inl rfl),fun q=>rAB q.symm⟩));have c4:∀ l∈L4,l=⟨rA,5,[]⟩∨l=⟨rB,3,[]⟩:=fun l hl=>((m4 l).1 hl).imp id (c3 l);have hids:ids ⟨[x3 2 (vN 1),x5 1 (vN 9)],L4,S4⟩=[3,5]:=rfl;obtain ⟨u5,hu5,ha5,y5,hy5,hn5,hp5⟩:=(T6'.lp _ hA5).dn (x5 1 (vN 9)) (by simp) rfl rfl;simp only at ha5;obtain ⟨u3,hu3,ha3,y3,hy3,hn3⟩:=T6'.pr (x3 2 (vN 1)) (by simp) cA (by show cA∈[cA,cB].take 2; simp);obtain ⟨iu,hiu⟩:=acR hu5;have hu:u3=u5:=CV T6'.ss hiu hu3 (ha3.trans ha5.symm);subst hu;obtain ⟨i3,hi3⟩:=acR hy3;obtain ⟨i5,hi5⟩:=acR hy5;have hlast:=((T6'.st u3 hu3).up i5 y5 hi5 hp5).1;have hi35:i3 < i5:=by
  have:=(acD.1 hi3).1;rcases aeg i3 i5 with q|q
  ·exact q
  ·have:i3=i5:=by omega
   subst this;rw [hi3] at hi5;simp only [acB] at hi5;rw [hi5,hn5] at hn3;exact absurd hn3 (by decide)
 have hlay:lL N ⟨[x3 2 (vN 1),x5 1 (vN 9)],L4,S4⟩ rA=some u3.Layers:=by
  obtain ⟨j,hj1,hj2⟩:=Hj N T6'.ss hu3;rw [ha5] at hj1;rw [lL,hj1,acC,if_pos (by omega),aN hj2,Ap (T6'.bdL hu3)];rfl
 have hlen:u3.Layers.length=2:=by
  obtain ⟨r,hr⟩:=T6'.ac;have hnd:(u3.Layers.map al.Txn_).Nodup:=by
   unfold List.Nodup;rw [ad2];exact (hr u3 hu3).imp fun q e=>by rw [e] at q; omega
  have g1:=qS (l:=[3,5]) hnd fun n hn=>by
   obtain ⟨y,hy,rfl⟩:=ade.1 hn;exact (T6'.st u3 hu3).id y hy
  simp only [acL,acT,adh] at g1;omega
 obtain ⟨D,a1,_,dD,cD,_⟩:=LB N (by omega) T6' (id:=3) (by simp [hids]);have hD:D.length=2:=by
  have h5:(5:Int)∈D:=by
   have:=cD u3 hu3 i3 i5 y3 y5 hi35 hi3 hi5 (by rw [hn3]; exact dD.me)
   rwa [hn5] at this
  have g1:=qS (l:=[3,5]) dD.nd dD.sub;have g2:=qS (l:=D) (k:=[3,5]) (by decide) fun n hn=>by
   simp only [ac6,adY,or_false] at hn;rcases hn with rfl|rfl
   ·exact dD.me
   ·exact h5
  simp only [acT,adh] at g1 g2;omega
 obtain ⟨L5,S5,p5,T7,m5,n5',k5⟩:=QQ N (by omega) T6' (x:=x3 2 (vN 1)) (by simp) rfl (c:=cB) (by simp [x3]) hB3;have hA5':(⟨rA,5,[]⟩:ai)∈L5:=(m5 _).2 ⟨hA5,rAB⟩;have c5:∀ l∈L5,l=⟨rA,5,[]⟩:=fun l hl=>by
  obtain ⟨g1,g2⟩:=(m5 l).1 hl;rcases c4 l g1 with q|q
  ·exact q
  ·rw [q] at g2; exact absurd rfl g2
 have f7:Be S5 rA 5 [vN 9]:=k5 rA 5 _ rAB f6;have hpr3:∀ c∈(x3 2 (vN 1)).Calls,iz ⟨[x3 2 (vN 1),x5 1 (vN 9)],L5,S5⟩ c.Target 3:=fun c hc=>
  X0 T7 (x:=x3 2 (vN 1)) (by simp) rfl hc fun l hl _=>by rw [c5 l hl]; decide
 have hnr5:¬ Bi ⟨[x3 2 (vN 1),x5 1 (vN 9)],L5,S5⟩ (x5 1 (vN 9)):=fun q=>
  zj T7 hA5' (x:=x5 1 (vN 9)) (by simp) rfl rfl (q.pr cA (by simp [x5]))
 have hr3:Bi ⟨[x3 2 (vN 1),x5 1 (vN 9)],L5,S5⟩ (x3 2 (vN 1)):=by
  refine ⟨rfl,hpr3,acJ.2 fun s hs=>Fa (by simp) fun i y hi hyn z hz=>?_⟩;exfalso;obtain ⟨j,hj⟩:=acR hz;rw [ada] at hj;split at hj
  case isFalse=>cases hj
  rename_i hji;have hzm:=acE hj;have hz5:z.Txn_=5:=by
   have:z.Txn_∈[3,5]:=(T7.st s hs).id z hzm;simp only [ac6,adY,or_false] at this;rcases this with q|q
   ·obtain ⟨r,hr⟩:=T7.ac;have:=Jo (hr s hs) hj hi (q.trans hyn.symm);omega
   ·exact q
  obtain ⟨⟨c,hc,hca⟩,_⟩:=(T7.st s hs).ex z hzm (x5 1 (vN 9)) (by simp) hz5.symm;have hca':s.Actor=rA:=by
   have:=adC hc;simp only [x5,acW] at this;rw [<-hca,this]; rfl
  have hzp:z.Prepared=false:=by
   cases hp:z.Prepared with
   | false=>rfl
   | true=>exact absurd ⟨s,hs,hca',z,hzm,hz5,hp⟩ (zj T7 hA5' (x:=x5 1 (vN 9)) (by simp) rfl rfl)
  have:=((T7.st s hs).up j z hj hzp).1;have:=(acD.1 hi).1;omega
 obtain ⟨t',cs,r1,T8,hres⟩:=LH N hN T7;have hcs:(∃ ws,cs=[⟨3,⟨#[99]⟩,1,vN 1,ws⟩]/\ws.length=2)/\t'=z6 ⟨[x3 2 (vN 1),x5 1 (vN 9)],L5,S5⟩ [3]:=by
  cases hres with
  | nil hno=>exact absurd hr3 (hno _ (by simp))
  | @cons _ _ cs x ps ws hx hr hp hw hT rest=>
   have hx3:x=x3 2 (vN 1):=by
    simp only [ac6,adY,or_false] at hx;rcases hx with rfl|rfl
    ·rfl
    ·exact absurd hr hnr5
   subst hx3;have hrem:(z6 ⟨[x3 2 (vN 1),x5 1 (vN 9)],L5,S5⟩ [(x3 2 (vN 1)).ID]).Txns=[x5 1 (vN 9)]:=rfl;have hdone:∀ {u u':ae} {cs:List aD},Res N u u' cs->u.Txns=[x5 1 (vN 9)]->(⟨rA,5,[]⟩:ai)∈u.Locks->TV u->cs=[]/\u'=u:=fun h1 h2 h3 h4=>by
    cases h1 with
    | nil=>exact ⟨rfl,rfl⟩
    | @cons _ _ _ y _ _ hy hry=>
     exfalso;rw [h2] at hy;simp only [acW] at hy;subst hy;exact zj h4 h3 (x:=x5 1 (vN 9)) (by rw [h2]; simp) rfl rfl (hry.pr cA (by simp [x5]))
   obtain ⟨q1,q2⟩:=hdone rest hrem hA5' hT;subst q1;have hps:ps.length=2:=by
    obtain ⟨r,g1,g2,g3⟩:=u4 N hN (x:=x3 2 (vN 1)) (by decide) (by decide);rw [g1] at hp;simp only [acB] at hp;subst hp;have hnd:r.Nodup:=g2.imp fun {a b} g e=>by rw [e,lpR,ji] at g; cases g
    have u1:=zy (l:=[rA,rB]) hnd fun a hm=>by
     obtain ⟨c,hc,q⟩:=(g3 a).1 hm;simp only [x3,ac6,adY,or_false] at hc;rcases hc with rfl|rfl<;>rw [<-q]<;>simp [cA,cB]
    have u2:=zy (l:=r) (k:=[rA,rB]) (by simp [rAB]) fun a hm=>by
     simp only [ac6,adY,or_false] at hm;rcases hm with rfl|rfl
     ·exact (g3 _).2 ⟨cA,by simp [x3],rfl⟩
     ·exact (g3 _).2 ⟨cB,by simp [x3],rfl⟩
    simp only [acT,adh] at u1 u2;omega
   have hwl:∀ {ps:List Ref} {ws:List aR},Wr ⟨[x3 2 (vN 1),x5 1 (vN 9)],L5,S5⟩ 3 ps ws->ws.length=ps.length:=by
    intro ps
    induction ps with
    | nil=>intro ws h; cases ws with
     | nil=>rfl
     | cons=>exact h.elim
    | cons a ps ih=>intro ws h; cases ws with
     | nil=>exact h.elim
     | cons w ws=>simp [ih h.2.2]
   exact ⟨⟨ws,rfl,(hwl hw).trans hps⟩,q2⟩
 obtain ⟨⟨ws,rfl,hws⟩,rfl⟩:=hcs;have hT8:(z6 ⟨[x3 2 (vN 1),x5 1 (vN 9)],L5,S5⟩ [3]).Txns=[x5 1 (vN 9)]:=rfl;have hfind:AG N (z6 ⟨[x3 2 (vN 1),x5 1 (vN 9)],L5,S5⟩ [3]) 5=some (x5 1 (vN 9),true):=by
  obtain ⟨i,x,g1,g2,g3⟩:=tq (N:=N) (t:=z6 ⟨[x3 2 (vN 1),x5 1 (vN 9)],L5,S5⟩ [3]) (n:=5) (by unfold ids; rw [hT8]; simp [x5]);have hxm:=acE g2;rw [hT8] at hxm;simp only [acW] at hxm;subst hxm;rw [AG,g1,acC,if_pos (by omega),aN g2,EB (T8.tx.x _ (acE g2)).1.bd];rfl
 obtain ⟨r,g1,g2,g3⟩:=u4 N hN (x:=x5 1 (vN 9)) (by decide) (by decide);have hrl:r.length=1:=by
  have hnd:r.Nodup:=g2.imp fun {a b} g e=>by rw [e,lpR,ji] at g; cases g
  have u1:=zy (l:=[rA]) hnd fun a hm=>by
   obtain ⟨c,hc,q⟩:=(g3 a).1 hm;simp only [x5,ac6,adY,or_false] at hc;rw [<-q,hc]; simp [cA]
  have u2:0 < r.length:=af6 ((g3 rA).2 ⟨cA,by simp [x5],rfl⟩);simp only [acT,adh] at u1;omega
 have hfields:∃ l,tM N (z6 ⟨[x3 2 (vN 1),x5 1 (vN 9)],L5,S5⟩ [3]) rA []=some l/\l.length=1:=by
  obtain ⟨s,hs,ha,y,hy,hyn,hyf⟩:=W4 (D:=[3]) f7 (by decide);obtain ⟨j,hj1,hj2⟩:=Hj N T8.ss hs;rw [ha] at hj1;have hyl:=(acD.1 hy).1;have hbd:=T8.bdL hs;refine ⟨[vN 9],?_,rfl⟩;rw [tM,hj1,acC];simp only [yx,yz];rw [if_pos (by omega),aN hj2,if_pos (by simp; omega),aN hj2,w64 (by have:=hbd.1; omega) (by have:=hbd.1; omega),show ((s.Layers.length:Int) - 1)=((s.Layers.length - 1:Nat):Int) by omega,aN hy,sN (hbd.2 y (acE hy)),hyf];rfl
 obtain ⟨fl,hf1,hf2⟩:=hfields;have loop:∀ fuel:Nat,3<=fuel->fS N (qm N) fuel ([x3 0 v0,x5 0 v0],[],[],0)=qm N [x3 2 (vN 1),x5 0 v0] L2 S2:=by
  intro fuel hf;obtain ⟨m,rfl⟩:∃ m,fuel=m+1+1+1:=⟨fuel - 3,by omega⟩;rw [fS,if_pos (by decide)];show (iy N ⟨[x3 0 v0,x5 0 v0],[],[]⟩ (x3 0 v0).ID).bind _=_;rw [l1,acC,if_pos rfl,sX,if_neg (by simp),sJ];simp only [lr,acC];show (lu N ⟨[x3 0 v0,x5 0 v0],L1,[]⟩ (x3 0 v0).ID [vN 0] (vN 0)).bind _=_;rw [e1,acC,if_pos rfl,show IntKind.i64.wrap (0+1)=1 from rfl];show fS N _ (m+1+1) ([x3 1 (vN 0),x5 0 v0],L1,S1,1)=_;rw [fS,if_pos (by decide)];show (iy N ⟨[x3 1 (vN 0),x5 0 v0],L1,S1⟩ (x3 1 (vN 0)).ID).bind _=_;rw [l2,acC,if_pos rfl,sX,if_neg (by simp),sJ];simp only [lr,acC];show (lu N ⟨[x3 1 (vN 0),x5 0 v0],L2,S1⟩ (x3 1 (vN 0)).ID [vN 1] (vN 1)).bind _=_;rw [e2,acC,if_pos rfl,show IntKind.i64.wrap (1+1)=2 from rfl];show fS N _ (m+1) ([x3 2 (vN 1),x5 0 v0],L2,S2,2)=_;rw [fS,if_neg (by decide)]
 unfold uz;show (jV N ⟨[],[],[]⟩ 3 0 ⟨#[99]⟩ 1 [cA,cB]).bind _=_;rw [b1,acC,if_pos rfl];show (jV N ⟨[x3 0 v0],[],[]⟩ 5 0 ⟨#[99]⟩ 2 [cA]).bind _=_;rw [b2,acC,if_pos rfl];refine (loop N (by omega)).trans ?_;rw [qm];show (fW N ⟨[x3 2 (vN 1),x5 0 v0],L2,S2⟩ (x3 2 (vN 1)).ID cA.Target).bind _=_;rw [p3,acC,if_pos rfl];show (iy N ⟨[x3 2 (vN 1),x5 0 v0],L3,S3⟩ (x5 0 v0).ID).bind _=_;rw [l4,acC,if_pos rfl,wk,if_neg (by simp),uZ];simp only [lr,acC];show (lu N ⟨[x3 2 (vN 1),x5 0 v0],L4,S3⟩ (x5 0 v0).ID [vN 9] (vN 9)).bind _=_;rw [e4,acC,if_pos rfl];show (lL N ⟨[x3 2 (vN 1),x5 1 (vN 9)],L4,S4⟩ rA).bind _=_;rw [hlay,acC,if_pos (by rw [hlen]; rfl)];show (jk N ⟨[x3 2 (vN 1),x5 1 (vN 9)],L4,S4⟩).bind _=_;rw [o4 N (by omega) T6',acC,sE,if_neg (by simp),sP];show (kL N ⟨[x3 2 (vN 1),x5 1 (vN 9)],L4,S4⟩ 3).bind _=_;rw [a1,acC,if_pos rfl,wC,if_neg (by simp [hD]),vU];show (fW N ⟨[x3 2 (vN 1),x5 1 (vN 9)],L4,S4⟩ (x3 2 (vN 1)).ID cB.Target).bind _=_;rw [p5,acC,if_pos rfl];show (og N ⟨[x3 2 (vN 1),x5 1 (vN 9)],L5,S5⟩).bind _=_;rw [r1,acC,if_pos (by rfl)];refine (aN (i:=0) rfl).trans ?_;rw [if_pos (by rfl),rX,if_neg (by simp [hws]),sB];dsimp only;rw [hfind,acC,if_pos rfl];dsimp only;rw [g1,acC,if_pos (by rw [hrl]; rfl)];show (tM N (z6 ⟨[x3 2 (vN 1),x5 1 (vN 9)],L5,S5⟩ [3]) rA []).bind _=_;rw [hf1,acC];simp [hf2]
end Go.Proofs.YtmacaidmhchpgaaGreat
namespace Go.Proofs.YtmacaidmhchpgaaGreat
open Go Go.Proofs Go.Abs
def QN (N:Nat) (hN:100002<=N):∀ (xs:List Gw) (v:Nat) {t:ae} (acc:List aD),v+xs.length<=60->acc.length<=v * 32->(∀ x∈xs,U8C x)->TV t->∃ t' c,lA N xs v (t.Txns,t.Locks,t.Stacks,acc)=some (t',c)/\TV t'
 | [],v,t,acc,_,_,_,h=>⟨t,acc,by rw [lA],h⟩
 | x::xs,v,t,acc,hl,ha,hx,h=>by
  simp only [acT] at hl;obtain ⟨t',cs,e,h1,h2⟩:=X9 N hN h (v:=v) (by omega) (hx x (by simp));have hc:cs.length<=32:=by
   rcases h2 with rfl|h2
   ·simp
   ·have:=Yk h2; have:=h.tx.len; omega
  rw [lA,show (⟨t.Txns,t.Locks,t.Stacks⟩:ae)=t from rfl,e,acC];dsimp only;rw [mO (by omega)];exact QN N hN xs (v+1) (t:=t') (acc++cs) (by omega) (by simp; omega) (fun y hy=>hx y (by simp [hy])) h1
def Wh (N:Nat) (hN:100002<=N) {l:List Gw} (hl:l.length<=60) (hw:∀ x∈l,U8C x):∃ t c,uC N l=some (t,c)/\TV t:=by
 rw [uC];exact QN N hN l 0 (t:=⟨[],[],[]⟩) [] (by omega) (by simp) hw TV.nil
def Vm (N:Nat) {t:ae} (h:TV t) (a:Ref):∃ l,lL N t a=some l/\∀ n,(∃ y∈l,y.Txn_=n/\y.Prepared=true)↔iz t a n:=by
 rw [lL];rcases EC N t a with ⟨e,hno⟩|⟨i,s,e,hi,ha⟩
 ·rw [e,acC,if_neg (by omega)];exact ⟨[],rfl,fun n=>⟨fun ⟨y,hy,_⟩=>(by cases hy),fun ⟨s,hs,ha,_⟩=>absurd ha (hno s hs)⟩⟩
 ·have hs:=acE hi;rw [e,acC,if_pos (by omega),aN hi,Ap (h.bdL hs)];refine ⟨s.Layers,rfl,fun n=>⟨fun ⟨y,hy,g⟩=>⟨s,hs,ha,y,hy,g⟩,fun ⟨s',hs',ha',y,hy,g⟩=>?_⟩⟩;have:=CV h.ss hi hs' (ha'.trans ha.symm);subst this;exact ⟨y,hy,g⟩
open Classical in
def TZ (N:Nat) (hN:200<=N) {t:ae} (h:TV t) {now:Int} (h0:0<=now) (h1:now<=255):uH N t now=some ((t.Txns.filter fun x=>decide ((¬ ∀ c∈x.Calls,iz t c.Target x.ID)/\x.Born+40<=now)).map Txn.ID):=by
 have key:∀ (xs:List Txn) (v:Nat) (acc:List Int),(∀ x∈xs,x∈t.Txns)->acc.length+xs.length<=1000->jC N t now xs v acc=some (acc++(xs.filter fun x=>decide ((¬ ∀ c∈x.Calls,iz t c.Target x.ID)/\x.Born+40<=now)).map Txn.ID):=by
  intro xs
  induction xs with
  | nil=>intro v acc _ _; rw [jC]; simp
  | cons x xs ih=>
   intro v acc hx hl;simp only [acT] at hl;have hR:=(h.tx.x x (hx x (by simp))).2;have hb0:=hR.1; have hb1:=hR.2.1;have i1:=ih (v+1) acc (fun y hy=>hx y (by simp [hy])) (by omega);have i2:=ih (v+1) (acc++[x.ID]) (fun y hy=>hx y (by simp [hy])) (by simp; omega);rw [jC];by_cases q:∀ c∈x.Calls,iz t c.Target x.ID
   ·rw [(E2 N h x).is q,acC,if_pos rfl,sH,if_neg (by simp),i1,aeO,if_neg (by simp only [decide_eq_true_eq]; exact fun g=>g.1 q)]
   ·rw [(E2 N h x).isnt q,acC,if_neg (by simp),w64 (by omega) (by omega),sH];by_cases g:x.Born+40<=now
    ·rw [if_pos (by simp [g]),mO (by simp; omega),i2,aeO,if_pos (by simp only [decide_eq_true_eq]; exact ⟨q,g⟩)];simp
    ·rw [if_neg (by simp [g]),i1,aeO,if_neg (by simp only [decide_eq_true_eq]; exact fun z=>g z.2)]
 have:=h.tx.len;rw [uH,o4 N hN h,acC,if_pos rfl,key t.Txns 0 [] (fun x hx=>hx) (by simp; omega)];simp
def Mx (k:Bool->Option Bool) (x:Txn):∀ (l:List al) (v:Nat) (c:Bool),eI k x l v c=k (c || l.any fun y=>decide (y.Txn_=x.ID) && y.Prepared)
 | [],v,c=>by rw [eI]; simp
 | y::l,v,c=>by
  rw [eI,Mx k x l,Mx k x l,Mx k x l];cases c with
  | true=>simp
  | false=>by_cases q:y.Txn_=x.ID<;>simp [q]
open Classical in
def QR (N:Nat) (k:Bool->Option Bool) {r4:ae × List aD} (h:TV r4.1) (x:Txn):∀ (ps:List Ref) (v:Nat) (c:Bool),gO k N r4 x ps v c=k (c || decide (∃ a∈ps,¬ iz r4.1 a x.ID))
 | [],v,c=>by rw [gO]; simp
 | a::ps,v,c=>by
  obtain ⟨l,e,hl⟩:=Vm N h a;have hany:(l.any fun y=>decide (y.Txn_=x.ID) && y.Prepared)=decide (iz r4.1 a x.ID):=by
   rw [aeV,decide_eq_true_eq,<-hl x.ID];simp
  rw [gO,e,acC,Mx,hany,ado,uP,QR N k h x ps,QR N k h x ps];cases c with
  | true=>simp
  | false=>by_cases q:iz r4.1 a x.ID<;>simp [q]
open Classical in
theorem KH (l:List Gw) (now:Int) (hw:∀ x∈l,U8C x) (h0:0<=now) (h1:now<=255):lJ 200000 l now=some true:=by
 rw [lJ,Ys 200000 (by omega),acC,if_pos rfl];split
 ·rfl
 ·rename_i hlen;obtain ⟨t,c,e,h⟩:=Wh 200000 (by omega) (l:=l) (by omega) hw;have hl:=h.tx.len;have key:∀ (xs:List Txn) (v:Nat) (acc:List Int) (k:List Int->Option Bool),(∀ x∈xs,x∈t.Txns)->acc.length+xs.length<=1000->gW k 200000 now (t,c) xs v acc=k (acc++(xs.filter fun x=>decide ((¬ ∀ c∈x.Calls,iz t c.Target x.ID)/\x.Born+40<=now)).map Txn.ID):=by
   intro xs
   induction xs with
   | nil=>intro v acc k _ _; rw [gW]; simp
   | cons x xs ih=>
    intro v acc k hx hl;simp only [acT] at hl;obtain ⟨hX,hR⟩:=h.tx.x x (hx x (by simp));have hb0:=hR.1; have hb1:=hR.2.1;have i1:=ih (v+1) acc k (fun y hy=>hx y (by simp [hy])) (by omega);have i2:=ih (v+1) (acc++[x.ID]) k (fun y hy=>hx y (by simp [hy])) (by simp; omega);obtain ⟨ps,p1,p2,p3⟩:=u4 200000 (by omega) hX.c1 hX.c2;have hiff:(∃ a∈ps,¬ iz t a x.ID)↔¬ ∀ c∈x.Calls,iz t c.Target x.ID:=by
     constructor
     ·rintro ⟨a,ha,hn⟩ hall;obtain ⟨c,hc,rfl⟩:=(p3 a).1 ha;exact hn (hall c hc)
     ·intro hn;obtain ⟨c,hc⟩:=Classical.not_forall.1 hn;obtain ⟨hc,hp⟩:=Classical.not_imp.1 hc;exact ⟨c.Target,(p3 _).2 ⟨c,hc,rfl⟩,hp⟩
    rw [gW,p1,acC,QR 200000 _ h x ps,ado,uS];simp only [pI];rw [w64 (n:=x.Born+40) (by omega) (by omega),w64 (n:=now) (by omega) (by omega)];by_cases q:∀ c∈x.Calls,iz t c.Target x.ID
    ·rw [if_neg (by rw [decide_eq_true_eq,hiff]; exact fun g=>g q),if_neg (by simp),i1,aeO,if_neg (by simp only [decide_eq_true_eq]; exact fun g=>g.1 q)]
    ·rw [if_pos (by rw [decide_eq_true_eq,hiff]; exact q)];by_cases g:x.Born+40<=now
     ·rw [if_pos (by simp [g]),mO (by simp; omega),i2,aeO,if_pos (by simp only [decide_eq_true_eq]; exact ⟨q,g⟩)];simp
     ·rw [if_neg (by simp [g]),i1,aeO,if_neg (by simp only [decide_eq_true_eq]; exact fun z=>g z.2)]
  rw [e,acC];dsimp only;rw [w64 (n:=now) (by omega) (by omega),TZ 200000 (by omega) h h0 h1,acC,key t.Txns 0 [] _ (fun x hx=>hx) (by simp; omega),uI,acV,KN,UP.2 rfl,acC,if_pos rfl];dsimp only;rw [UL 200000 h.lk];rfl
end Go.Proofs.YtmacaidmhchpgaaGreat
