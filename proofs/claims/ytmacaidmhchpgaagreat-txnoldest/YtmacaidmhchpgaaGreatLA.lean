/- Plain facts on the models; no program in sight. -/
import Derived.Test.YtmacaidmhchpgaaGreatM
set_option linter.unusedSimpArgs false
set_option linter.unusedVariables false
namespace Go.Proofs.YtmacaidmhchpgaaGreat
open Go Go.Proofs Go.Abs
theorem O6 {a b:ByteArray}:sEq a b=true↔a=b:=by
 unfold sEq;rw [beq_iff_eq,ByteArray.toList_eq,ByteArray.toList_eq];obtain ⟨⟨x⟩⟩:=a;obtain ⟨⟨y⟩⟩:=b;simp
theorem FY (a:ByteArray):sEq a a=true:=O6.2 rfl
theorem HT {c:Prop} [Decidable c] {a b:Bool}:(if c then some a else some b)=some (if c then a else b):=by split<;>rfl
theorem Nr {c:Prop} [Decidable c] {a b:Bool}:((if c then a else b)=true)↔((c/\a=true)∨(¬ c/\b=true)):=by split<;>simp [*]
theorem Kv {a b:Bool}:(some a=some b)↔(a=true↔b=true):=by cases a<;>cases b<;>simp
theorem Ja {α β:Type} {l:List α} {i:Nat} {x:α} {k:α->Option β} (h:l[i]?=some x):gx l (i:Int) k=k x:=aR h
def Cx {α:Type} (p:α->Bool):List α->Nat->Int
 | [],_=>-1
 | x::xs,v=>if p x=true then (v:Int) else Cx p xs (v+1)
theorem lf {α:Type} {L:List α->Nat->Unit->Option Int} (f:α->Option Bool) (p:α->Bool) (h0:∀ v,L [] v ()=some (-1))
  (h1:∀ x xs v,L (x::xs) v ()=(f x).bind fun r=>if r=true then some ((v:Nat):Int) else L xs (v+1) ()) :
  ∀ (xs:List α) (v:Nat),(∀ x∈xs,f x=some (p x))->L xs v ()=some (Cx p xs v)
 | [],v,_=>by rw [h0]; rfl
 | x::xs,v,h=>by
  rw [h1,h x (by simp),aby,lf f p h0 h1 xs (v+1) (fun y hy=>h y (by simp [hy]))];simp only [Cx];cases p x<;>rfl
theorem tp {α:Type} (p:α->Bool):∀ (xs:List α) (v:Nat),decide (0<=Cx p xs v)=xs.any p
 | [],v=>rfl
 | x::xs,v=>by
  simp only [Cx,afg];by_cases h:p x=true
  ·have:(0:Int)<=(v:Int):=by omega
   simp [h,this]
  ·simpa [h] using tp p xs (v+1)
theorem PB {α ρ:Type} {L:List α->Nat->Unit->Option ρ} (p:α->Bool) (k no:Option ρ) (h0:∀ v,L [] v ()=k)
  (h1:∀ x xs v,L (x::xs) v ()=if p x=true then L xs (v+1) () else no) :
  ∀ (xs:List α) (v:Nat),L xs v ()=if xs.all p=true then k else no
 | [],v=>by rw [h0]; rfl
 | x::xs,v=>by
  rw [h1,PB p k no h0 h1 xs (v+1)];simp only [ad6];by_cases h:p x=true<;>simp [h]
theorem tV {α:Type} {l:List α} {i:Nat} {x:α} (h:l[i]?=some x):l.set i x=l:=by
 apply acX;intro j;rw [acj];split
 ·rename_i e;subst e;have:=(abz.1 h).1;rw [if_pos this,h]
 ·rfl
theorem tw {α ρ:Type} {L:Nat->Nat->List α->Option ρ} (P:α->Prop)
  (h1:∀ m v l x,l[v]?=some x->P x->L (m+1) v l=L m (v+1) l) :
  ∀ (m v:Nat) (l:List α),v+m<=l.length->(∀ x∈l,P x)->L m v l=L 0 (v+m) l
 | 0,v,l,_,_=>rfl
 | m+1,v,l,h,hp=>by
  have hv:v < l.length:=by omega
  rw [h1 m v l l[v] (abD hv) (hp _ (acI hv)),tw P h1 m (v+1) l (by omega) hp]
  congr 1; omega
theorem vu {α β:Type} {b:Nat} {l:List α} {k:Option β} (h:l.length * (b+1)<=140737488355328):apn b l k=k:=by simp only [apn]; rw [if_pos h]
theorem s9 {α β:Type} {b:Nat} {l l':List α} {k:List α->Option β} (h:(l.length+l'.length) * (b+1)<=140737488355328):apx b l l' k=k (l++l'):=by simp only [apx]; rw [if_pos h]
end Go.Proofs.YtmacaidmhchpgaaGreat

namespace Go.Proofs.YtmacaidmhchpgaaGreat
open Go Go.Proofs Go.Abs
theorem w64 {n:Int} (h1:-9223372036854775808<=n) (h2:n<=9223372036854775807):IntKind.i64.wrap n=n:=my h1 h2
theorem NJ:∀ x:List UInt8,Op.bytesLess x x=false
 | []=>rfl
 | a::x=>by simp [Op.bytesLess,NJ x]
theorem Qo:∀ {x y z:List UInt8},Op.bytesLess x y=true->Op.bytesLess y z=true->Op.bytesLess x z=true
 | _,[],_,h1,h2=>by simp [Op.bytesLess] at h1
 | _,_::_,[],h1,h2=>by simp [Op.bytesLess] at h2
 | [],_::_,_::_,h1,h2=>rfl
 | a::x,b::y,c::z,h1,h2=>by
  simp only [Op.bytesLess,acM,decide_eq_true_eq,abK,beq_iff_eq] at h1 h2 ⊢;rcases h1 with h1|⟨rfl,h1⟩
  ·rcases h2 with h2|⟨rfl,h2⟩
   ·exact .inl (UInt8.lt_trans h1 h2)
   ·exact .inl h1
  ·rcases h2 with h2|⟨rfl,h2⟩
   ·exact .inl h2
   ·exact .inr ⟨rfl,Qo h1 h2⟩
theorem Us:∀ x y:List UInt8,Op.bytesLess x y=true∨x=y∨Op.bytesLess y x=true
 | [],[]=>.inr (.inl rfl)
 | [],_::_=>.inl rfl
 | _::_,[]=>.inr (.inr rfl)
 | a::x,b::y=>by
  simp only [Op.bytesLess,acM,decide_eq_true_eq,abK,beq_iff_eq];rcases UInt8.lt_or_lt_of_ne (a:=a) (b:=b) |> fun h=>(Classical.em (a=b)).imp id h with rfl|h|h
  ·rcases Us x y with h|rfl|h
   ·exact .inl (.inr ⟨rfl,h⟩)
   ·exact .inr (.inl rfl)
   ·exact .inr (.inr (.inr ⟨rfl,h⟩))
  ·exact .inl (.inl h)
  ·exact .inr (.inr (.inl h))
theorem Au {a b:ByteArray}:sEq a b=true↔a=b:=by
 unfold sEq;rw [beq_iff_eq,ByteArray.toList_eq,ByteArray.toList_eq];obtain ⟨⟨x⟩⟩:=a;obtain ⟨⟨y⟩⟩:=b;simp
theorem SY {a b:ByteArray} (h:a.toList=b.toList):a=b:=Au.1 (by simpa [sEq] using h)
theorem Gw (a:ByteArray):sLt a a=false:=NJ _
theorem ND {a b c:ByteArray} (h1:sLt a b=true) (h2:sLt b c=true):sLt a c=true:=Qo h1 h2
theorem R4 (a b:ByteArray):sLt a b=true∨a=b∨sLt b a=true:=by
 rcases Us a.toList b.toList with h|h|h
 ·exact .inl h
 ·exact .inr (.inl (SY h))
 ·exact .inr (.inr h)
def yK (a b:ByteArray):Int:=if sLt a b=true then -1 else if sEq a b=true then 0 else 1
theorem UY (N:Nat) (a b:ByteArray):fE N a b=some (yK a b):=by
 have n1:sEq a a=true:=Au.2 rfl;have n2:sEq b b=true:=Au.2 rfl;simp only [fE,lQ,n1,n2,aby,yK];cases sLt a b<;>cases sEq a b<;>rfl
theorem BD {a b:ByteArray}:yK a b=0↔a=b:=by
 unfold yK;constructor
 ·intro h;split at h
  ·omega
  ·split at h
   ·rename_i e; exact Au.1 e
   ·omega
 ·rintro rfl;simp [Gw,Au.2 rfl]
theorem Qw {a b:ByteArray}:yK a b < 0↔sLt a b=true:=by
 unfold yK;split
 ·simp [*]
 ·split<;>simp [*]
end Go.Proofs.YtmacaidmhchpgaaGreat

namespace Go.Proofs.YtmacaidmhchpgaaGreat
open Go Go.Proofs Go.Abs
def rl (a b:Ref):Bool:=sLt a.Type_ b.Type_ || (sEq a.Type_ b.Type_ && sLt a.Key b.Key)
theorem OV {a b:Ref}:rl a b=true↔sLt a.Type_ b.Type_=true∨(a.Type_=b.Type_/\sLt a.Key b.Key=true):=by
 simp [rl,Au]
theorem jE (a:Ref):rl a a=false:=by
 simp [rl,Gw]
theorem yY {a b c:Ref} (h1:rl a b=true) (h2:rl b c=true):rl a c=true:=by
 rw [OV] at *;rcases h1 with h1|⟨e1,h1⟩
 ·rcases h2 with h2|⟨e2,h2⟩
  ·exact .inl (ND h1 h2)
  ·exact .inl (e2 ▸ h1)
 ·rcases h2 with h2|⟨e2,h2⟩
  ·exact .inl (e1 ▸ h2)
  ·exact .inr ⟨e1.trans e2,ND h1 h2⟩
theorem M5 {a b:Ref} (h1:a.Type_=b.Type_) (h2:a.Key=b.Key):a=b:=by
 cases a; cases b; simp only at h1 h2; rw [h1,h2]
theorem Ib (a b:Ref):rl a b=true∨a=b∨rl b a=true:=by
 simp only [OV];rcases R4 a.Type_ b.Type_ with h|h|h
 ·exact .inl (.inl h)
 ·rcases R4 a.Key b.Key with q|q|q
  ·exact .inl (.inr ⟨h,q⟩)
  ·exact .inr (.inl (M5 h q))
  ·exact .inr (.inr (.inr ⟨h.symm,q⟩))
 ·exact .inr (.inr (.inl h))
def Eo (a b:Ref):Int:=if yK a.Type_ b.Type_=0 then yK a.Key b.Key else yK a.Type_ b.Type_
theorem MG (N:Nat) (a b:Ref):mY N a b=some (Eo a b):=by
 simp only [mY,UY,aby,tX,qt,Eo];by_cases h1:yK a.Type_ b.Type_=0
 ·by_cases h2:yK a.Key b.Key=0<;>simp [h1,h2]
 ·simp [h1]
theorem AM {a b:Ref}:Eo a b < 0↔rl a b=true:=by
 unfold Eo;rw [OV];by_cases h1:yK a.Type_ b.Type_=0
 ·rw [if_pos h1,Qw];have e:=BD.1 h1;simp [e,Gw]
 ·rw [if_neg h1,Qw];have e:¬ a.Type_=b.Type_:=fun q=>h1 (BD.2 q);simp [e]
theorem It {a b:Ref}:Eo a b=0↔a=b:=by
 unfold Eo;by_cases h1:yK a.Type_ b.Type_=0
 ·rw [if_pos h1,BD];have e:=BD.1 h1;exact ⟨fun h=>M5 e h,fun h=>by rw [h]⟩
 ·rw [if_neg h1];exact ⟨fun h=>absurd h h1,fun h=>by rw [h] at h1; exact absurd (BD.2 rfl) h1⟩
theorem VX (N:Nat) (a b:Ref):vV N a b=some (rl a b):=by
 simp only [vV,rl];cases sLt a.Type_ b.Type_<;>cases sEq a.Type_ b.Type_<;>simp
structure VA (a:Ref):Prop where
 t1:1<=a.Type_.size
 t2:a.Type_.size<=32
 k:a.Key.size<=32
structure VL (x:ai):Prop where
 a:VA x.Actor
 o1:1<=x.Owner
 o2:x.Owner<=1099511627776
 wl:x.Waiters.length<=32
 w:∀ n∈x.Waiters,1<=n/\n < x.Owner
 so:x.Waiters.Pairwise (· < ·)
structure VT (t:List ai):Prop where
 len:t.length<=128
 l:∀ x∈t,VL x
 so:t.Pairwise fun a b=>rl a.Actor b.Actor=true
theorem J8 (N:Nat) {a:Ref} (h:VA a):jh N a=some true:=by
 have:=h.t1; have:=h.t2; have:=h.k;simp only [jh];rw [if_pos (by omega),if_pos (by omega)];simp; omega
theorem PA (N:Nat) {n:Int} (h1:1<=n) (h2:n<=1099511627776):jV N n=some true:=by
 simp [jV,h1,h2]
theorem I3 {α:Type} {l xs:List α} {v:Nat} {x:α} (hd:l.drop v=x::xs):v < l.length/\l[v]?=some x/\l.drop (v+1)=xs:=by
 have hvl:v < l.length:=by
  rcases adk v l.length with h|h
  ·exact h
  ·rw [acR h] at hd; simp at hd
 rw [ac0 hvl] at hd;simp only [aet] at hd;exact ⟨hvl,by rw [abD hvl,hd.1],hd.2⟩
theorem My {α:Type} {R:α->α->Prop} {l:List α} (hs:l.Pairwise R) {v:Nat} {x:α} (hv:0 < v) (hx:l[v]?=some x):∃ y,l[v - 1]?=some y/\R y x:=by
 have hvl:=(abz.1 hx).1;have hxe:=(abz.1 hx).2;refine ⟨_,abD (by omega),?_⟩;have:=ab1.1 hs (v - 1) v (by omega) hvl (by omega)
 rwa [hxe] at this
theorem RP {x:ai} (h:VL x):∀ (xs:List Int) (v:Nat),x.Waiters.drop v=xs->fJ x xs v ()=some true
 | [],v,_=>rfl
 | n::xs,v,hd=>by
  obtain ⟨hvl,hx,hd'⟩:=I3 hd;have hn:=h.w n (abA hx);have hl:=h.wl;have ih:=RP h xs (v+1) hd';rw [fJ,if_neg (by omega),if_neg (by omega)];by_cases h0:0 < v
  ·obtain ⟨y,hy,hlt⟩:=My h.so h0 hx;rw [if_pos (by omega),w64 (by omega) (by omega),show ((v:Int) - 1)=((v - 1:Nat):Int) by omega,aR hy];have:¬ n<=y:=by omega
   simp [this,jb,ih]
  ·rw [if_neg (by omega)];simp [jb,ih]
theorem XS (N:Nat) {x:ai} (h:VL x):mK N x=some true:=by
 have hl:=h.wl;have:¬ (32:Int) < (x.Waiters.length:Int):=by omega
 simp [mK,J8 N h.a,PA N h.o1 h.o2,this,mC,mB,RP h x.Waiters 0 rfl]
theorem Pv (N:Nat) {t:List ai} (h:VT t):∀ (xs:List ai) (v:Nat),t.drop v=xs->jY N t xs v ()=some true
 | [],v,_=>rfl
 | x::xs,v,hd=>by
  obtain ⟨hvl,hx,hd'⟩:=I3 hd;have hl:=h.len;have ih:=Pv N h xs (v+1) hd';rw [jY,XS N (h.l x (abA hx)),aby,if_pos rfl];by_cases h0:0 < v
  ·obtain ⟨y,hy,hlt⟩:=My h.so h0 hx;rw [if_pos (by omega),w64 (by omega) (by omega),show ((v:Int) - 1)=((v - 1:Nat):Int) by omega,aR hy,MG,aby];have:=AM.2 hlt;have:¬ 0<=Eo y.Actor x.Actor:=by omega
   simp [this,oL,ih]
  ·rw [if_neg (by omega)];simp [oL,ih]
theorem Aw (N:Nat) {t:List ai} (h:VT t):jJ N t=some true:=by
 have:=h.len;rw [jJ,if_neg (by omega)];exact Pv N h t 0 rfl
section
variable {α:Type} {p:α->Bool}
def plc (p:α->Bool) (t:List α):Nat:=(t.takeWhile p).length
theorem Hw (t:List α):plc p t<=t.length:=(List.takeWhile_sublist p).length_le
def Sy (p:α->Bool) (t:List α):Prop:=t.Pairwise fun a b=>p b=true->p a=true
theorem uy:∀ {t:List α},Sy p t->∀ {i:Nat} {r:α},t[i]?=some r->(p r=true↔i < plc p t)
 | [],hp,i,r,hr=>by simp at hr
 | x::xs,hp,i,r,hr=>by
  have hp':=adN.1 hp;by_cases h:p x=true
  ·have e:plc p (x::xs)=plc p xs+1:=by simp [plc,afj,h]
   rw [e];cases i with
   | zero=>simp only [abE,abx] at hr; subst hr; simp [h]
   | succ i=>
    rw [ab8] at hr;rw [uy (t:=xs) hp'.2 hr]; omega
  ·have e:plc p (x::xs)=0:=by simp [plc,afj,h]
   rw [e];constructor
   ·intro hlt;exfalso;cases i with
    | zero=>simp only [abE,abx] at hr; subst hr; exact h hlt
    | succ i=>
     rw [ab8] at hr;exact h (hp'.1 r (abA hr) hlt)
   ·omega
end
theorem Pj {i j:Nat} (h:i+j<=1000000):IntKind.i64.wrap (kJ .u64 (IntKind.u64.wrap (IntKind.i64.wrap ((i:Int)+(j:Int)))) 1)=(((i+j) / 2:Nat):Int):=by
 rw [w64 (n:=(i:Int)+(j:Int)) (by omega) (by omega)];have e:IntKind.u64.wrap ((i:Int)+(j:Int))=(i:Int)+(j:Int):=Sa ⟨by show (0:Int)<=_; omega,by show _<=(18446744073709551615:Int); omega⟩;rw [e];have e2:kJ .u64 ((i:Int)+(j:Int)) 1=(((i+j) / 2:Nat):Int):=by
  show ((i:Int)+(j:Int)).fdiv 2=_;rw [adJ _ (by omega)];omega
 rw [e2,w64 (by omega) (by omega)]
def pa (t:List ai) (a:Ref):Nat:=plc (fun x=>rl x.Actor a) t
def eqA (a b:Ref):Bool:=sEq a.Type_ b.Type_ && sEq a.Key b.Key
theorem E3 {a b:Ref}:eqA a b=true↔a=b:=by
 simp only [eqA,abK,Au];exact ⟨fun q=>M5 q.1 q.2,fun q=>by rw [q]; exact ⟨rfl,rfl⟩⟩
def vv (t:List ai) (a:Ref):Bool:=match t[pa t a]? with
 | some x=>eqA x.Actor a
 | none=>false
theorem F7 {t:List ai} (hs:t.Pairwise fun a b=>rl a.Actor b.Actor=true) (a:Ref):Sy (fun x:ai=>rl x.Actor a) t:=hs.imp (fun h1 h2=>yY h1 h2)
theorem QB {t:List ai} (h:VT t) (N:Nat) (a:Ref) (kx:Int->Option (Int × Bool)) :
  ∀ (n i j:Nat),j < i+n->i<=pa t a->pa t a<=j->j<=t.length->be t N a kx n ((i:Int),(j:Int))=kx ((pa t a:Nat):Int)
 | 0,i,j,h1,h2,h3,h4=>by omega
 | n+1,i,j,h1,h2,h3,h4=>by
  have hl:=h.len;rw [be];by_cases hij:i < j
  ·rw [if_pos (by omega),Pj (by omega)];have hm:(i+j) / 2 < t.length:=by omega
   have hx:t[(i+j) / 2]?=some t[(i+j) / 2]:=abD hm;have hc:=uy (F7 h.so a) hx;rw [aR hx,pB,MG];simp only [aby,AM];by_cases hs:rl t[(i+j) / 2].Actor a=true
   ·rw [if_pos hs,w64 (by omega) (by omega)];have:(i+j) / 2 < pa t a:=hc.1 hs;exact QB h N a kx n ((i+j) / 2+1) j (by omega) (by omega) h3 h4
   ·rw [if_neg hs];have:¬ (i+j) / 2 < pa t a:=fun q=>hs (hc.2 q);exact QB h N a kx n i ((i+j) / 2) (by omega) h2 (by omega) (by omega)
  ·rw [if_neg (by omega)];have:i=pa t a:=by omega
   rw [this]
theorem MY (N:Nat) (hN:200<=N) {t:List ai} (h:VT t) (a:Ref):qM N t a=some (((pa t a:Nat):Int),vv t a):=by
 have hl:=h.len;have hp:pa t a<=t.length:=Hw t;have:=QB h N a (ei t N a) N 0 t.length (by omega) (by omega) hp (by omega);simp only [qM,dF];rw [show ((0:Int))=((0:Nat):Int) from rfl,this];unfold ei vv;cases hq:t[pa t a]? with
 | none=>
  have:=adO.1 hq;rw [if_neg (by omega)]; rfl
 | some s=>
  have:=(abz.1 hq).1;rw [if_pos (by omega),aR hq,pB,MG];have e:decide (Eo s.Actor a=0)=eqA s.Actor a:=by rw [aec,decide_eq_true_eq,It,E3]
  simp [e]
theorem zc {t:List ai} {a:Ref} (h:vv t a=true):∃ x,t[pa t a]?=some x/\x.Actor=a:=by
 unfold vv at h;split at h
 ·rename_i s hs; exact ⟨s,hs,E3.1 h⟩
 ·cases h
theorem VW {t:List ai} (hp:t.Pairwise fun a b=>rl a.Actor b.Actor=true) {i:Nat} {x:ai} (hi:t[i]?=some x):pa t x.Actor=i/\vv t x.Actor=true:=by
 have h1:=uy (F7 hp x.Actor) hi;simp only [jE] at h1;have hle:pa t x.Actor<=i:=by
  rcases adk i (pa t x.Actor) with h|h
  ·exact absurd (h1.2 h) (by simp)
  ·exact h
 have hil:=(abz.1 hi).1;have hie:=(abz.1 hi).2;have hpl:pa t x.Actor < t.length:=by omega
 have e:pa t x.Actor=i:=by
  rcases adk (pa t x.Actor) i with h|h
  ·exfalso;have h2:=uy (F7 hp x.Actor) (abD hpl);have h3:=ab1.1 hp _ i hpl hil h;rw [hie] at h3;have:pa t x.Actor < pa t x.Actor:=h2.1 h3;omega
  ·omega
 refine ⟨e,?_⟩;unfold vv;rw [e,hi];exact E3.2 rfl
end Go.Proofs.YtmacaidmhchpgaaGreat

namespace Go.Proofs.YtmacaidmhchpgaaGreat
open Go Go.Proofs Go.Abs
theorem Wf {α:Type} {l:List α} {v:Nat} {x:α} (h:l[v]?=some x):l.set v x=l:=by
 apply acX;intro i;rw [acj];by_cases e:v=i
 ·subst e;have hlt:=(abz.1 h).1;simp [hlt,<-h]
 ·simp [e]
theorem Qb (N:Nat) {t:List ai} (h:VT t):∀ (m v:Nat),v+m=t.length->lM N m v t=some t
 | 0,v,hv=>by rw [lM,Xz (by omega)]
 | m+1,v,hv=>by
  have hx:t[v]?=some t[v]:=abD (by omega);have hw:=(h.l _ (abA hx)).wl;rw [lM,aR hx,eB,TY (by omega),aby];rw [Wf (x:=t[v]) hx];exact Qb N h m (v+1) (by omega)
theorem C8 (N:Nat) {t:List ai} (h:VT t):gB N t=some t:=by
 have:=h.len;rw [gB,fq,TY (by omega),aby];exact Qb N h _ 0 (by omega)
def pz (w:List Int) (n:Int):Nat:=plc (fun x=>decide (x < n)) w
theorem Zn {w:List Int} (hs:w.Pairwise (· < ·)) (n:Int):Sy (fun x:Int=>decide (x < n)) w:=hs.imp (fun h1 h2=>by simp only [decide_eq_true_eq] at *; omega)
theorem Ma {w:List Int} (hs:w.Pairwise (· < ·)) {n:Int} {i:Nat} {x:Int} (hx:w[i]?=some x):x < n↔i < pz w n:=by
 have:=uy (Zn hs n) hx;simpa [pz] using this
theorem OP (w:List Int) (n:Int):pz w n<=w.length:=Hw w
theorem Vu (N:Nat) (a b:Int):pN N a b=some (decide (a < b)):=by
 simp [pN,qv]
theorem Yk {w:List Int} (hs:w.Pairwise (· < ·)) {n:Int}:n∈w↔w[pz w n]?=some n:=by
 constructor
 ·intro h;obtain ⟨i,hi⟩:=acQ.1 h;have h1:=Ma hs hi (n:=n);have hle:pz w n<=i:=by omega
  have hil:=(abz.1 hi).1;have hpl:pz w n < w.length:=by omega
  rcases adk (pz w n) i with q|q
  ·exfalso;have h2:=Ma hs (abD hpl) (n:=n);have h3:=ab1.1 hs _ i hpl hil q;have h4:w[i]=n:=(abz.1 hi).2;omega
  ·have:pz w n=i:=by omega
   rw [this]; exact hi
 ·exact abA
theorem PI {w:List Int} (hl:w.length<=32) (hs:w.Pairwise (· < ·)) (N:Nat) (a:Int) (kx:Int->Option (Int × Bool)) :
  ∀ (n i j:Nat),j < i+n->i<=pz w a->pz w a<=j->j<=w.length->eC w N a kx n ((i:Int),(j:Int))=kx ((pz w a:Nat):Int)
 | 0,i,j,h1,h2,h3,h4=>by omega
 | n+1,i,j,h1,h2,h3,h4=>by
  rw [eC];by_cases hij:i < j
  ·rw [if_pos (by omega),Pj (by omega)];have hm:(i+j) / 2 < w.length:=by omega
   have hx:w[(i+j) / 2]?=some w[(i+j) / 2]:=abD hm;have hc:=Ma hs hx (n:=a);rw [aR hx,Vu];simp only [aby,decide_eq_true_eq];by_cases hlt:w[(i+j) / 2] < a
   ·rw [if_pos hlt,w64 (by omega) (by omega)];have:(i+j) / 2 < pz w a:=hc.1 hlt;exact PI hl hs N a kx n ((i+j) / 2+1) j (by omega) (by omega) h3 h4
   ·rw [if_neg hlt];have:¬ (i+j) / 2 < pz w a:=fun q=>hlt (hc.2 q);exact PI hl hs N a kx n i ((i+j) / 2) (by omega) h2 (by omega) (by omega)
  ·rw [if_neg (by omega)];have:i=pz w a:=by omega
   rw [this]
theorem YE (N:Nat) (hN:200<=N) {w:List Int} (hl:w.length<=32) (hs:w.Pairwise (· < ·)) (a:Int):gT N w a=some (((pz w a:Nat):Int),decide (a∈w)):=by
 have hp:=OP w a;have:=PI hl hs N a (jN w a N) N 0 w.length (by omega) (by omega) hp (by omega);simp only [gT];rw [show ((0:Int))=((0:Nat):Int) from rfl,this];unfold jN;have hm:=Yk hs (n:=a);cases hq:w[pz w a]? with
 | none=>
  have:=adO.1 hq;rw [if_neg (by omega)];rw [hq] at hm;have:a∉w:=fun q=>by simpa using hm.1 q
  simp [this]
 | some s=>
  have:=(abz.1 hq).1;rw [if_pos (by omega),aR hq];rw [hq] at hm;by_cases e:s=a
  ·subst e;have:s∈w:=hm.2 rfl;simp [this]
  ·have:a∉w:=fun q=>e (aco (hm.1 q));simp [e,this,lX]
def EC (w:List Int) (n:Int):List Int:=w.take (pz w n)++[n]++w.drop (pz w n)
theorem Ke {w:List Int} {n z:Int}:z∈EC w n↔z=n∨z∈w:=by
 unfold EC;have:z∈w↔z∈w.take (pz w n)∨z∈w.drop (pz w n):=by rw [<-abZ,ac8]
 rw [this];simp only [abZ,abV];constructor
 ·rintro ((h|h)|h)<;>simp [h]
 ·rintro (h|h|h)<;>simp [h]
theorem VE {w:List Int} {n:Int}:(EC w n).length=w.length+1:=by
 have:=OP w n;simp [EC]; omega
theorem XM {w:List Int} (hs:w.Pairwise (· < ·)) {n:Int} (hn:n∉w):(EC w n).Pairwise (· < ·):=by
 unfold EC;have hp:=OP w n;have h1:∀ z∈w.take (pz w n),z < n:=by
  intro z hz;obtain ⟨i,hi⟩:=acQ.1 hz;have hil:=(abz.1 hi).1;rw [acJ] at hil;rw [acS (by omega)] at hi;exact (Ma hs hi).2 (by omega)
 have h2:∀ z∈w.drop (pz w n),n < z:=by
  intro z hz;obtain ⟨i,hi⟩:=acQ.1 hz;rw [acd] at hi;have:=Ma hs hi (n:=n);have hne:z≠n:=fun q=>hn (q ▸ abA hi);omega
 rw [acx,ac5];refine ⟨hs.sublist (aem _ _),?_,fun a ha b hb=>?_⟩
 ·rw [adL,adN];exact ⟨fun b hb=>h2 b hb,hs.sublist (aeQ _ _)⟩
 ·have:=h1 a ha;rcases abZ.1 hb with hb|hb
  ·rw [abV] at hb; omega
  ·have:=h2 b hb; omega
def acq (t:List ai) (a:Ref) (n:Int):List ai × Int × Int:=
 if vv t a=true then
  match t[pa t a]? with
  | some x=>if x.Owner=n then (t,1,0) else if x.Owner < n then (t,3,0) else if n∈x.Waiters then (t,2,0) else if x.Waiters.length=32 then ([],0,5) else (t.set (pa t a) ⟨x.Actor,x.Owner,EC x.Waiters n⟩,2,0)
  | none=>([],0,0)
 else if t.length=128 then ([],0,5) else (t.take (pa t a)++[⟨a,n,[]⟩]++t.drop (pa t a),1,0)
theorem WE (t:List ai) (a:Ref):pa t a<=t.length:=Hw t
theorem Yv (N:Nat) (hN:200<=N) {t:List ai} (h:VT t) {a:Ref} (ha:VA a) {n:Int} (n1:1<=n) (n2:n<=1099511627776):qm N t a n=some (acq t a n):=by
 have hl:=h.len;have hp:=WE t a;simp only [qm,Aw N h,J8 N ha,PA N n1 n2,aby,if_true,ab6,pA,abN,if_false,pd,MY N hN h];unfold acq;by_cases hh:vv t a=true
 ·obtain ⟨x,hx,hxa⟩:=zc hh;have hv:=h.l x (abA hx);have hw:=hv.wl;rw [if_pos hh,if_pos hh,aR hx,YE N hN hv.wl hv.so,hx];simp only [aby,C8 N h];by_cases e1:x.Owner=n
  ·simp [e1]
  ·by_cases e2:x.Owner < n
   ·simp [e1,e2]
   ·by_cases e3:n∈x.Waiters
    ·simp [e1,e2,e3]
    ·by_cases e4:x.Waiters.length=32
     ·simp [e1,e2,e3,e4]
     ·have e4':¬ ((x.Waiters.length:Nat):Int)=32:=by omega
      have hpz:=OP x.Waiters n;simp only [e1,e2,e3,e4,e4',if_false,decide_false,abN,aR hx];unfold m9 HV;rw [if_pos ⟨by omega,by omega,rfl,by omega⟩];simp [EC]
 ·rw [if_neg hh,if_neg hh];by_cases e:t.length=128
  ·rw [if_pos (by omega),if_pos e]
  ·rw [if_neg (by omega),if_neg e,C8 N h,aby];unfold mD HV;rw [if_pos ⟨by omega,by omega,rfl,by omega⟩];simp
theorem P4 {α β:Type} {R:β->β->Prop} {f:α->β} {l:List α} (h:l.Pairwise fun a b=>R (f a) (f b)) {i:Nat} {x y:α} (hx:l[i]?=some x) (he:f y=f x):(l.set i y).Pairwise fun a b=>R (f a) (f b):=by
 rw [ab1] at *;intro j k hj hk hjk;rw [acf] at hj hk;have hxi:l[i]'((abz.1 hx).1)=x:=(abz.1 hx).2;have key:∀ j (hj:j < l.length),f ((l.set i y)[j]'(by rw [acf]; exact hj))=f l[j]:=by
  intro j hj;rw [List.getElem_set];split
  ·rename_i e; subst e; rw [he,hxi]
  ·rfl
 rw [key j hj,key k hk];exact h j k hj hk hjk
theorem VT.set {t:List ai} (h:VT t) {i:Nat} {x y:ai} (hx:t[i]?=some x) (he:y.Actor=x.Actor) (hy:VL y):VT (t.set i y):=by
 refine ⟨by rw [acf]; exact h.len,fun z hz=>?_,P4 (f:=ai.Actor) (R:=fun a b=>rl a b=true) h.so hx he⟩;rcases aeU hz with hz|rfl
 ·exact h.l z hz
 ·exact hy
theorem W3 {t:List ai} (hs:t.Pairwise fun a b=>rl a.Actor b.Actor=true) {a:Ref} (hh:¬ vv t a=true) (x:ai) (hx:x.Actor=a):(t.take (pa t a)++[x]++t.drop (pa t a)).Pairwise fun a b=>rl a.Actor b.Actor=true:=by
 have h1:∀ z∈t.take (pa t a),rl z.Actor a=true:=by
  intro z hz;obtain ⟨i,hi⟩:=acQ.1 hz;have hil:=(abz.1 hi).1;rw [acJ] at hil;rw [acS (by omega)] at hi;exact (uy (F7 hs a) hi).2 (by show i < pa t a; omega)
 have h2:∀ z∈t.drop (pa t a),rl a z.Actor=true:=by
  intro z hz;obtain ⟨i,hi⟩:=acQ.1 hz;rw [acd] at hi;have hc:=uy (F7 hs a) hi;rcases Ib z.Actor a with q|q|q
  ·have:pa t a+i < pa t a:=hc.1 q;omega
  ·exact absurd (q ▸ (VW hs hi).2) hh
  ·exact q
 rw [acx,ac5];refine ⟨hs.sublist (aem _ _),?_,fun y hy z hz=>?_⟩
 ·rw [adL,adN];exact ⟨fun b hb=>hx ▸ h2 b hb,hs.sublist (aeQ _ _)⟩
 ·have:=h1 y hy;rcases abZ.1 hz with hz|hz
  ·rw [abV] at hz; rw [hz,hx]; exact this
  ·exact yY this (h2 z hz)
theorem Yb {t:List ai} (h:VT t) {a:Ref} (ha:VA a) {n:Int} (n1:1<=n) (n2:n<=1099511627776):VT (acq t a n).1:=by
 have nil:VT []:=⟨by simp,by simp,List.Pairwise.nil⟩;have hl:=h.len;have hp:=WE t a;unfold acq;split
 ·rename_i hh;obtain ⟨x,hx,hxa⟩:=zc hh;have hv:=h.l x (abA hx);have hw:=hv.wl;rw [hx];dsimp only;split
  ·exact h
  split
  ·exact h
  split
  ·exact h
  split
  ·exact nil
  rename_i e1 e2 e3 e4;exact h.set hx rfl ⟨hv.a,hv.o1,hv.o2,by rw [VE]; show x.Waiters.length+1<=32; omega,fun z hz=>by
   rcases Ke.1 hz with rfl|hz
   ·exact ⟨n1,by show z < x.Owner; omega⟩
   ·exact hv.w z hz,XM hv.so e3⟩
 ·rename_i hh;split
  ·exact nil
  ·rename_i e;refine ⟨by simp; omega,fun z hz=>?_,W3 h.so hh ⟨a,n,[]⟩ rfl⟩;simp only [abZ,abV] at hz;rcases hz with (hz|rfl)|hz
   ·exact h.l z (acG hz)
   ·exact ⟨ha,n1,n2,by simp,by simp,List.Pairwise.nil⟩
   ·exact h.l z (adf hz)
end Go.Proofs.YtmacaidmhchpgaaGreat

namespace Go.Proofs.YtmacaidmhchpgaaGreat
open Go Go.Proofs Go.Abs
theorem yw {α:Type} {l:List α} {k:Nat} {x:α} (h:k < l.length):(l.set k x).take (k+1)=l.take k++[x]:=by
 rw [ads,acj];simp only [if_true,h,adM];rw [afi (abI k)]
theorem U2 (N:Nat) (x id:Int):lY N x id=some (decide (x=id)):=rfl
theorem O8 (N:Nat) (id:Int):∀ (xs:List Int) (v:Nat),(id∉xs/\br N id xs v ()=some (-1))∨∃ i,xs[i]?=some id/\id∉xs.take i/\br N id xs v ()=some ((v+i:Nat):Int)
 | [],v=>.inl ⟨by simp,rfl⟩
 | x::xs,v=>by
  rw [br,U2,aby];by_cases e:x=id
  ·exact .inr ⟨0,by simp [e],by simp,by simp [e]⟩
  ·have e':¬ id=x:=fun q=>e q.symm;rcases O8 N id xs (v+1) with ⟨h1,h2⟩|⟨i,h1,h2,h3⟩
   ·exact .inl ⟨by simp [e',h1],by simp [e,h2]⟩
   ·refine .inr ⟨i+1,by simpa using h1,by simp [e',h2],?_⟩;simp only [e,decide_false,abN,if_false,h3]
    congr 2; omega
def neB (id:Int) (x:Int):Bool:=!decide (x=id)
structure VH (a l:List Int) (id:Int) (i j:Nat):Prop where
 len:l.length=a.length
 ij:i < j
 jl:j<=a.length
 pre:l.take i=(a.take j).filter (neB id)
 rest:∀ q,j<=q->l[q]?=a[q]?
theorem HK (N:Nat) (a:List Int) (id:Int) (ha:a.length<=1000) (kx:List Int->Int->Option (List Int)):∀ (n:Nat) (l:List Int) (i j:Nat),a.length < j+n->VH a l id i j->∃ l' i',VH a l' id i' a.length/\bq N id kx n (l,(i:Int),(j:Int))=kx l' ((i':Nat):Int)
 | 0,l,i,j,hn,h=>by have:=h.jl; omega
 | n+1,l,i,j,hn,h=>by
  have hl:=h.len; have hij:=h.ij; have hj:=h.jl;rw [bq];by_cases hlt:j < a.length
  ·have g1:l[j]?=some a[j]:=by rw [h.rest j (abI _),abD hlt]
   have htk:a.take (j+1)=a.take j++[a[j]]:=by rw [ads,abD hlt]; rfl
   rw [if_pos (by omega),aR g1,U2,aby,w64 (n:=(j:Int)+1) (by omega) (by omega),show ((j:Int)+1)=((j+1:Nat):Int) by omega];by_cases e:a[j]=id
   ·simp only [e,decide_true,if_true];refine HK N a id ha kx n l i (j+1) (by omega) ⟨hl,by omega,by omega,?_,fun q hq=>h.rest q (by omega)⟩;rw [h.pre,htk,adl]; simp [neB,e]
   ·have hil:i < l.length:=by omega
    simp only [e,decide_false,abN,if_false];rw [aR (abD hil),w64 (n:=(i:Int)+1) (by omega) (by omega),show ((i:Int)+1)=((i+1:Nat):Int) by omega,abX];refine HK N a id ha kx n (l.set i a[j]) (i+1) (j+1) (by omega) ⟨by simp [hl],by omega,by omega,?_,fun q hq=>by rw [adj (by omega)]; exact h.rest q (by omega)⟩;rw [yw hil,h.pre,htk,adl]; simp [neB,e]
  ·rw [if_neg (by omega)];have:j=a.length:=by omega
   subst this;exact ⟨l,i,h,rfl⟩
theorem UH (N:Nat) (hN:1001<=N) (a:List Int) (id:Int) (ha:a.length<=1000):bP N a id=some (a.filter (neB id)):=by
 unfold bP dS;rcases O8 N id a 0 with ⟨h1,h2⟩|⟨i,h1,h2,h3⟩
 ·rw [h2,aby,if_pos rfl];have hf:a.filter (neB id)=a:=adG.2 (fun x hx=>by
   simp only [neB];by_cases e:x=id
   ·exact absurd (e ▸ hx) h1
   ·simp [e])
  rw [hf]
 ·have hil:=(abz.1 h1).1;rw [h3,aby,if_neg (by omega),acv,w64 (by omega) (by omega),show ((i:Int)+1)=((i+1:Nat):Int) by omega];have hd:VH a a id i (i+1):=⟨rfl,by omega,by omega,by
   rw [ads,h1,adM,adl];have e1:(a.take i).filter (neB id)=a.take i:=adG.2 fun x hx=>by
    simp only [neB];by_cases e:x=id
    ·exact absurd (e ▸ hx) h2
    ·simp [e]
   rw [e1]; simp [neB],fun _ _=>rfl⟩
  obtain ⟨l',i',h',e'⟩:=HK N a id ha eF N a i (i+1) (by omega) hd;rw [e'];have q1:=h'.len; have q2:=h'.ij;unfold eF slx;rw [abX,if_pos ⟨by omega,by omega,by omega,by omega⟩];dsimp only;rw [if_pos ⟨by omega,by omega,by omega,by rw [MD (by omega)]; omega⟩];try dsimp only
  rw [KA (by omega),h'.pre,ab3 (abI _)]
def uY (w:List Int):Int:=(w[w.length - 1]?).getD 0
def pT (t:List ai) (p:Nat):List ai × Int:=match t[p]? with
 | some x=>if x.Waiters.length=0 then (t.take p++t.drop (p+1),0) else (t.set p ⟨x.Actor,uY x.Waiters,x.Waiters.take (x.Waiters.length - 1)⟩,uY x.Waiters)
 | none=>(t,0)
theorem DM {w:List Int} (h:w.length≠0):w[w.length - 1]?=some (uY w):=by
 have:w.length - 1 < w.length:=by omega
 rw [uY,abD this]; rfl
theorem RO (N:Nat) {t:List ai} {p:Nat} {x:ai} (hx:t[p]?=some x) (hp:t.length<=1000) (hw:x.Waiters.length<=32):tF N t (p:Int)=some (pT t p):=by
 have hlt:=(abz.1 hx).1;rw [tF,aR hx,pT,hx];dsimp only;by_cases e:x.Waiters.length=0
 ·rw [if_pos (by omega),if_pos e,w64 (by omega) (by omega)];unfold mn Tl;rw [if_pos ⟨by omega,by omega,by omega⟩,aby];simp only [abX,show ((p:Int)+1).toNat=p+1 by omega]
 ·rw [if_neg (by omega),if_neg e,w64 (by omega) (by omega),show ((x.Waiters.length:Nat):Int) - 1=((x.Waiters.length - 1:Nat):Int) by omega,aR (DM e)];unfold slt;rw [abX,if_pos ⟨by omega,by omega⟩];simp only [afl,abX]
theorem VL.passed {x:ai} (h:VL x) (e:x.Waiters.length≠0):VL ⟨x.Actor,uY x.Waiters,x.Waiters.take (x.Waiters.length - 1)⟩:=by
 have hg:=DM e;have hm:=h.w _ (abA hg);have h1:=h.o2; have h2:=h.wl;refine ⟨h.a,hm.1,by show uY x.Waiters<=_; omega,by simp; omega,fun z hz=>⟨(h.w z (acG hz)).1,?_⟩,h.so.sublist (aem _ _)⟩;obtain ⟨i,hi⟩:=acQ.1 hz;have hil:=(abz.1 hi).1;rw [acJ] at hil;rw [acS (by omega)] at hi;have hlt:i < x.Waiters.length:=by omega
 have:=ab1.1 h.so i (x.Waiters.length - 1) hlt (by omega) (by omega);rw [(abz.1 hi).2,(abz.1 hg).2] at this;exact this
theorem Ww {t:List ai} (h:VT t) (p:Nat):VT (pT t p).1:=by
 unfold pT;split
 ·rename_i x hx;split
  ·refine ⟨?_,fun z hz=>?_,?_⟩
   ·have:=h.len;simp only [ack,acJ,ad4]; omega
   ·rcases abZ.1 hz with hz|hz
    ·exact h.l z (acG hz)
    ·exact h.l z (adf hz)
   ·refine h.so.sublist ?_
    conv=>rhs; rw [<-ac8 p t]
    refine List.Sublist.append (List.Sublist.refl _) ?_;rw [<-ad2];exact aeQ _ _
  ·rename_i e;exact h.set hx rfl ((h.l x (abA hx)).passed e)
 ·exact h
def rls (t:List ai) (a:Ref) (n:Int):List ai × Int × Int:=
 if vv t a=true then
  match t[pa t a]? with
  | some x=>if x.Owner=n then ((pT t (pa t a)).1,(pT t (pa t a)).2,0) else ([],0,10)
  | none=>([],0,0)
 else ([],0,10)
theorem Yh (N:Nat) (hN:200<=N) {t:List ai} (h:VT t) {a:Ref} (ha:VA a) {n:Int} (n1:1<=n) (n2:n<=1099511627776):mW N t a n=some (rls t a n):=by
 have hl:=h.len;simp only [mW,Aw N h,J8 N ha,PA N n1 n2,aby,if_true,ab6,pc,abN,if_false,pH,MY N hN h];unfold rls;by_cases hh:vv t a=true
 ·obtain ⟨x,hx,hxa⟩:=zc hh;have hv:=h.l x (abA hx);rw [if_pos hh,if_pos hh,aR hx,hx];by_cases e:x.Owner=n
  ·simp [e,lL,tC,C8 N h,RO N hx (by omega) hv.wl]
  ·simp [e,lL]
 ·rw [if_neg hh,if_neg hh];simp [lL]
theorem VT.nil:VT []:=⟨by simp,by simp,List.Pairwise.nil⟩
def kQ (n:Int):List ai->List ai × List az
 | []=>([],[])
 | x::xs=>if x.Owner=n then (if x.Waiters.length=0 then kQ n xs else (⟨x.Actor,uY x.Waiters,x.Waiters.take (x.Waiters.length - 1)⟩::(kQ n xs).1,⟨x.Actor,uY x.Waiters⟩::(kQ n xs).2)) else (x::(kQ n xs).1,(kQ n xs).2)
theorem Ab {α:Type} {A B:List α} {x:α}:(A++x::B)[A.length]?=some x:=by simp
theorem IW {α:Type} {A B:List α} {x y:α}:(A++x::B).set A.length y=A++y::B:=by simp
theorem SR {A B:List ai} {x:ai} (e:x.Waiters.length=0):pT (A++x::B) A.length=(A++B,0):=by
 rw [pT,Ab];dsimp only;rw [if_pos e];simp
theorem TD {A B:List ai} {x:ai} (e:x.Waiters.length≠0):pT (A++x::B) A.length=(A++⟨x.Actor,uY x.Waiters,x.Waiters.take (x.Waiters.length - 1)⟩::B,uY x.Waiters):=by
 rw [pT,Ab];dsimp only;rw [if_neg e,IW]
theorem Wb {x:ai} (h:VL x) (e:x.Waiters.length≠0):1<=uY x.Waiters:=(h.w _ (abA (DM e))).1
theorem Ea (N:Nat) (n:Int):∀ (B A:List ai) (g:List az) (k:Nat),B.length < k->A.length+B.length<=200->g.length+B.length<=1000->(∀ x∈B,VL x)->fj n N k (A++B,g,((A.length:Nat):Int))=some (A++(kQ n B).1,g++(kQ n B).2)
 | _,_,_,0,h,_,_,_=>by omega
 | [],A,g,k+1,h,h1,h2,hB=>by
  rw [fj,if_neg (by simp)];simp [kQ]
 | x::B,A,g,k+1,h,h1,h2,hB=>by
  simp only [abW] at h h1 h2;have hx:=hB x (by simp);rw [fj,if_pos (by simp; omega),aR Ab];by_cases e:x.Owner=n
  ·rw [if_pos e,RO N Ab (by simp; omega) hx.wl,aby];by_cases e0:x.Waiters.length=0
   ·rw [SR e0];dsimp only;rw [if_pos rfl,Ea N n B A g k (by omega) (by omega) (by omega) (fun y hy=>hB y (by simp [hy]))];simp [kQ,e,e0]
   ·have hp:=Wb hx e0;rw [TD e0];dsimp only;rw [if_neg (by omega),Yz (by simp only [abW,acm]; omega),w64 (by omega) (by omega)];have:=Ea N n B (A++[⟨x.Actor,uY x.Waiters,x.Waiters.take (x.Waiters.length - 1)⟩]) (g++[⟨x.Actor,uY x.Waiters⟩]) k (by omega) (by simp; omega) (by simp; omega) (fun y hy=>hB y (by simp [hy]));simp only [ack,abW,acm,acx,adL] at this;rw [show ((A.length:Nat):Int)+1=((A.length+(0+1):Nat):Int) by omega,this];simp [kQ,e,e0]
  ·rw [if_neg e,w64 (by omega) (by omega)];have:=Ea N n B (A++[x]) g k (by omega) (by simp; omega) (by omega) (fun y hy=>hB y (by simp [hy]));simp only [ack,abW,acm,acx,adL] at this;rw [show ((A.length:Nat):Int)+1=((A.length+(0+1):Nat):Int) by omega,this];simp [kQ,e]
theorem UE (N:Nat) (hN:200<=N) {t:List ai} (h:VT t) (n:Int):lV N t n=some (kQ n t):=by
 have hl:=h.len;have:=Ea N n t [] [] N (by omega) (by simp; omega) (by simp; omega) h.l;simp only [lV,Aw N h,aby,if_true,C8 N h];simpa using this
theorem CX {n:Int}:∀ {t:List ai} {y:ai},y∈(kQ n t).1->∃ x∈t,y.Actor=x.Actor/\(VL x->VL y)
 | [],y,h=>by simp [kQ] at h
 | x::xs,y,h=>by
  unfold kQ at h;split at h
  ·split at h
   ·obtain ⟨z,hz,q⟩:=CX h;exact ⟨z,by simp [hz],q⟩
   ·rename_i e0;rcases ab7.1 h with rfl|h
    ·exact ⟨x,by simp,rfl,fun hv=>hv.passed e0⟩
    ·obtain ⟨z,hz,q⟩:=CX h;exact ⟨z,by simp [hz],q⟩
  ·rcases ab7.1 h with rfl|h
   ·exact ⟨y,by simp,rfl,id⟩
   ·obtain ⟨z,hz,q⟩:=CX h;exact ⟨z,by simp [hz],q⟩
theorem PG {n:Int}:∀ (t:List ai),(kQ n t).1.length<=t.length
 | []=>by simp [kQ]
 | x::xs=>by
  have:=PG (n:=n) xs;unfold kQ;split
  ·split<;>simp<;>omega
  ·simp; omega
theorem R3 {n:Int}:∀ {t:List ai},(t.Pairwise fun a b=>rl a.Actor b.Actor=true)->(kQ n t).1.Pairwise fun a b=>rl a.Actor b.Actor=true
 | [],_=>by simp [kQ]
 | x::xs,h=>by
  rw [adN] at h;have ih:=R3 (n:=n) h.2;have hd:∀ y∈(kQ n xs).1,rl x.Actor y.Actor=true:=by
   intro y hy;obtain ⟨z,hz,q,_⟩:=CX hy;rw [q]; exact h.1 z hz
  unfold kQ;split
  ·split
   ·exact ih
   ·rw [adN]; exact ⟨hd,ih⟩
  ·rw [adN]; exact ⟨hd,ih⟩
theorem RR {t:List ai} (h:VT t) (n:Int):VT (kQ n t).1:=by
 refine ⟨acZ (PG t) h.len,fun y hy=>?_,R3 h.so⟩;obtain ⟨x,hx,_,q⟩:=CX hy;exact q (h.l x hx)
def wd1 (n:Int) (x:ai):ai:=⟨x.Actor,x.Owner,x.Waiters.filter (neB n)⟩
theorem WC (N:Nat) (hN:1001<=N) (n:Int):∀ (B A:List ai) (m:Nat),m=B.length->(∀ x∈B,VL x)->jt N n m A.length (A++B)=some (A++B.map (wd1 n))
 | [],A,m,hm,hB=>by subst hm; simp [jt]
 | x::B,A,m,hm,hB=>by
  subst hm;have hx:=hB x (by simp);have hw:=hx.wl;rw [abW,jt,aR Ab,UH N hN _ n (by omega),aby,IW];have:=WC N hN n B (A++[wd1 n x]) B.length rfl (fun y hy=>hB y (by simp [hy]));simp only [ack,abW,acm,acx,adL,wd1] at this;rw [this]; rfl
theorem Zj (N:Nat) (hN:1001<=N) {t:List ai} (h:VT t) (n:Int):o5 N t n=some (t.map (wd1 n)):=by
 have:=WC N hN n t [] t.length rfl h.l;simp only [o5,Aw N h,aby,if_true,C8 N h];simpa using this
theorem WO {t:List ai} (h:VT t) (n:Int):VT (t.map (wd1 n)):=by
 refine ⟨by rw [abJ]; exact h.len,fun y hy=>?_,?_⟩
 ·obtain ⟨x,hx,rfl⟩:=ab9.1 hy;have hv:=h.l x hx;exact ⟨hv.a,hv.o1,hv.o2,acZ (aes _ _) hv.wl,fun z hz=>hv.w z (adi.1 hz).1,hv.so.sublist List.filter_sublist⟩
 ·rw [ac4];exact h.so
end Go.Proofs.YtmacaidmhchpgaaGreat

namespace Go.Proofs.YtmacaidmhchpgaaGreat
open Go Go.Proofs Go.Abs
def Je (l:List ByteArray):Bool:=l.all fun s=>decide (s.size<=64)
theorem LS:∀ (xs:List ByteArray) (v:Nat),j7 xs v ()=some (Je xs)
 | [],v=>rfl
 | x::xs,v=>by
  have ih:=LS xs (v+1);simp only [j7,ih,Je,ad6]
  grind
def m8 (v:Value):Bool:=
 decide (0<=v.Kind) && decide (v.Kind<=5) &&
 decide (v.N=0∨v.Kind=1∨(v.Kind=2/\v.N=1)) &&
 (sEq v.S ⟨#[]⟩ || decide (v.Kind=3)) && (decide (v.I.length=0) || decide (v.Kind=4)) && (decide (v.L.length=0) || decide (v.Kind=5)) &&
 decide (v.S.size<=64) && decide (v.I.length<=16) && decide (v.L.length<=16) && Je v.L
theorem rb (N:Nat) (v:Value):iK N v=some (m8 v):=by
 simp only [iK,rm,qG,qF,qA,jX,mE,mw,j5,qO,LS,m8];generalize Je v.L=q;generalize sEq v.S ⟨#[]⟩=z;cases z<;>cases q<;>simp only [HT,Kv,Nr,if_true,if_false,abN,abK,acM,acH,decide_eq_true_eq,decide_eq_false_iff_not,acs,acD,acE,acA,acO,acu,ab6,aca,and_false,false_and,or_false,false_or,aeR,true_and,and_true,iff_false,false_iff,not_false_eq_true,not_true_eq_false,true_or,or_true ]<;>omega
def GB (a b:Ref):Bool:=sEq a.Type_ b.Type_ && sEq a.Key b.Key
theorem CW (a b:Ref):GB a b=true↔a=b:=by
 obtain ⟨a1,a2⟩:=a;obtain ⟨b1,b2⟩:=b;simp [GB,O6]
def WK (s:ByteArray):Bool:=decide (1<=s.size) && decide (s.size<=32)
def TE (r:Ref):Bool:=decide (1<=r.Type_.size) && decide (r.Type_.size<=32) && decide (r.Key.size<=32)
theorem Jc {α:Type} (p:α->Bool) (l:List α):(l.any fun x=>!p x)=!(l.all p):=by
 induction l with
 | nil=>rfl
 | cons x l ih=>simp [ih]
def Nc (v:Value):Bool:=m8 v && !decide (v.Kind=0)
def qU (c:ah):Bool:=TE c.Target && WK c.Method && decide (c.Args.length<=4) && c.Args.all Nc
theorem WV (N:Nat) (l:List Value):bG N l=some (!(l.all Nc)):=by
 have h:=lf (L:=dw N) (mG N) (fun v=>!Nc v) (fun _=>rfl) (fun _ _ _=>rfl) l 0 (fun x _=>by
  simp only [mG,rb,aby,Nc];by_cases h:x.Kind=0<;>simp [h])
 simp only [bG,dN,h,aby,tp,Jc]
theorem KB (N:Nat) (c:ah):qn N c=some (qU c):=by
 simp only [qn,iW,jk,WV,aby,afr,qU,TE,WK];generalize c.Args.all Nc=z;cases z<;>simp only [HT,Kv,Nr,if_true,if_false,abN,abK,acM,acH,decide_eq_true_eq,decide_eq_false_iff_not,acs,acD,acE,acA,acO,acu,ab6,aca,and_false,false_and,or_false,false_or,aeR,true_and,and_true,iff_false,false_iff,not_false_eq_true,not_true_eq_false,true_or,or_true ]<;>omega
def bdV (v:Value):Prop:=v.I.length<=17592186044416/\v.L.length<=8796093022208
def Ez (l:List Value):Prop:=l.length<=1759218604441/\∀ v∈l,bdV v
def SL (l:List ah):Prop:=l.length<=2000000/\∀ c∈l,Ez c.Args
theorem BH {v:Value} (h:m8 v=true):bdV v:=by
 simp only [m8,abK,decide_eq_true_eq] at h;exact ⟨by omega,by omega⟩
theorem PJ {c:ah} (h:qU c=true):Ez c.Args:=by
 simp only [qU,abK,decide_eq_true_eq,abG] at h;refine ⟨by omega,fun v hv=>BH ?_⟩;have:=h.2 v hv;simp only [Nc,abK] at this;exact this.1
theorem NY {N:Nat} {l:List Int} (h:l.length<=17592186044416):eB N l=some l:=vu (by omega)
theorem QR {N:Nat} {l:List ByteArray} (h:l.length<=8796093022208):gl N l=some l:=vu (by omega)
theorem Q7 {N:Nat} {l:List Value} (h:l.length<=1759218604441):gP N l=some l:=vu (by omega)
theorem LD {N:Nat} {l:List ah} (h:l.length<=2000000):eX N l=some l:=vu (by omega)
def Te (o:Option Bool) (P:Prop):Prop:=∃ b,o=some b/\(b=true↔P)
theorem Te.iff {o:Option Bool} {P Q:Prop} (h:Te o P) (e:P↔Q):Te o Q:=by
 obtain ⟨b,h1,h2⟩:=h;exact ⟨b,h1,h2.trans e⟩
theorem Te.dec {p:Prop} [Decidable p]:Te (some (decide p)) p:=⟨_,rfl,by simp⟩
theorem Te.f {P:Prop} (h:¬ P):Te (some false) P:=⟨_,rfl,by simp [h]⟩
theorem Te.bind {o:Option Bool} {P Q:Prop} {f:Bool->Option Bool} (h:Te o P) (h1:P->Te (f true) Q) (h2:¬ P->Te (f false) Q):Te (o.bind f) Q:=by
 obtain ⟨b,rfl,h⟩:=h;cases b with
 | true=>exact h1 (h.1 rfl)
 | false=>exact h2 fun p=>by cases h.2 p
theorem Te.ite {c:Prop} [Decidable c] {a b:Option Bool} {Q:Prop} (h1:c->Te a Q) (h2:¬ c->Te b Q):Te (if c then a else b) Q:=by
 split
 ·exact h1 ‹_›
 ·exact h2 ‹_›
theorem Te.is {o:Option Bool} {P:Prop} (h:Te o P) (p:P):o=some true:=by
 obtain ⟨b,h1,h2⟩:=h;rw [h1,h2.2 p]
theorem Te.isnt {o:Option Bool} {P:Prop} (h:Te o P) (p:¬ P):o=some false:=by
 obtain ⟨b,h1,h2⟩:=h;cases b with
 | true=>exact absurd (h2.1 rfl) p
 | false=>exact h1
theorem WG {α:Type} {l:List α} {L:List α->Nat->Unit->Option Bool} {P:Nat->α->Prop} {C:Prop} (h0:∀ v,Te (L [] v ()) C)
  (hs:∀ x xs v,l[v]?=some x->∀ R,Te (L xs (v+1) ()) R->Te (L (x::xs) v ()) (P v x/\R)):∀ xs v,l.drop v=xs->Te (L xs v ()) ((∀ i x,v<=i->l[i]?=some x->P i x)/\C)
 | [],v,hd=>(h0 v).iff ⟨fun h=>⟨fun i x hi hx=>by
   have:=List.drop_eq_nil_iff.1 hd;have:=(abz.1 hx).1;omega,h⟩,fun h=>h.2⟩
 | x::xs,v,hd=>by
  obtain ⟨hv,hx,hd'⟩:=I3 hd;refine (hs x xs v hx _ (WG h0 hs xs (v+1) hd')).iff ⟨fun h=>⟨fun i y hi hy=>?_,h.2.2⟩,fun h=>⟨h.1 v x (abI _) hx,fun i y hi hy=>h.1 i y (by omega) hy,h.2⟩⟩;rcases afs hi with hlt|rfl
  ·exact h.2.1 i y hlt hy
  ·rw [hx,abx] at hy;subst hy;exact h.1
theorem Ya {α:Type} {l:List α} {L:List α->Nat->Unit->Option Bool} {P:Nat->α->Prop} {C:Prop} (h0:∀ v,Te (L [] v ()) C)
  (hs:∀ x xs v,l[v]?=some x->∀ R,Te (L xs (v+1) ()) R->Te (L (x::xs) v ()) (P v x/\R)):Te (L l 0 ()) ((∀ i x,l[i]?=some x->P i x)/\C):=
 (WG h0 hs l 0 rfl).iff ⟨fun h=>⟨fun i x hx=>h.1 i x (ab2 _) hx,h.2⟩,fun h=>⟨fun i x _ hx=>h.1 i x hx,h.2⟩⟩
theorem uI {α:Type} (p:α->Bool):∀ (l:List α) (v:Nat),(Cx p l v=-1/\∀ x∈l,p x=false)∨∃ i x,Cx p l v=((v+i:Nat):Int)/\l[i]?=some x/\p x=true/\∀ y∈l.take i,p y=false
 | [],v=>.inl ⟨rfl,by simp⟩
 | x::xs,v=>by
  simp only [Cx];by_cases h:p x=true
  ·exact .inr ⟨0,x,by simp [h],rfl,h,by simp⟩
  ·rw [if_neg h];rcases uI p xs (v+1) with ⟨e,ha⟩|⟨i,y,e,hy,hp,ht⟩
   ·exact .inl ⟨e,by simpa [h] using ha⟩
   ·exact .inr ⟨i+1,y,by rw [e]; omega,by simpa using hy,hp,by simpa [h] using ht⟩
end Go.Proofs.YtmacaidmhchpgaaGreat

namespace Go.Proofs.YtmacaidmhchpgaaGreat
open Go Go.Proofs Go.Abs
structure XV (x:Txn):Prop where
 i1:1<=x.ID
 i2:x.ID<=1099511627776
 c1:1<=x.Calls.length
 c2:x.Calls.length<=4
 d1:0<=x.Done
 d2:x.Done<=x.Calls.length
 la:m8 x.Last=true
 ca:∀ c∈x.Calls,qU c=true
def zB (x:Txn):Prop:=0<=x.Born/\x.Born<=1099511627776/\1<=x.Client.size/\x.Client.size<=32/\1<=x.Seq/\x.Seq<=1099511627776/\(x.Done=0->x.Last.Kind=0)
theorem VU (N:Nat) (l:List ah):bx N l=some (!(l.all qU)):=by
 have h:=lf (L:=bU N) (oQ N) (fun v=>!qU v) (fun _=>rfl) (fun _ _ _=>rfl) l 0 (fun x _=>by
  simp only [oQ,KB,aby])
 simp only [bx,dA,h,aby,tp,Jc]
theorem JI (N:Nat) (x:Txn):Te (py N x) (XV x/\zB x):=by
 have e:(XV x/\zB x)↔((1<=x.ID/\x.ID<=1099511627776/\1<=x.Calls.length/\x.Calls.length<=4/\0<=x.Done/\x.Done<=x.Calls.length/\m8 x.Last=true/\x.Calls.all qU=true)/\zB x):=
  and_congr_left fun _=>⟨fun h=>⟨h.i1,h.i2,h.c1,h.c2,h.d1,h.d2,h.la,abG.2 h.ca⟩,fun ⟨a,b,c,d,e,f,g,h⟩=>⟨a,b,c,d,e,f,g,abG.1 h⟩⟩
 refine Te.iff ?_ e.symm;simp only [py,gG,iJ,iM,gD,VU,rb,aby,afr,zB];generalize x.Calls.all qU=z;generalize m8 x.Last=v;refine ⟨decide ((1<=x.ID/\x.ID<=1099511627776/\1<=x.Calls.length/\x.Calls.length<=4/\0<=x.Done/\x.Done<=x.Calls.length/\v=true/\z=true)/\0<=x.Born/\x.Born<=1099511627776/\1<=x.Client.size/\x.Client.size<=32/\1<=x.Seq/\x.Seq<=1099511627776/\(x.Done=0->x.Last.Kind=0)),?_,decide_eq_true_iff⟩;cases v<;>cases z<;>simp only [HT,Kv,Nr,if_true,if_false,abN,abK,acM,acH,decide_eq_true_eq,decide_eq_false_iff_not,acs,acD,acE,acA,acO,acu,ab6,aca,and_false,false_and,or_false,false_or,aeR,true_and,and_true,iff_false,false_iff,not_false_eq_true,not_true_eq_false,true_or,or_true ]<;>omega
structure TX (t:ae):Prop where
 x:∀ x∈t.Txns,XV x/\zB x
 so:t.Txns.Pairwise fun a b=>a.ID < b.ID
 len:t.Txns.length<=32
theorem G0 {α:Type} {f:α->Int} {l:List α}:(l.Pairwise fun a b=>f a < f b)↔∀ i x y,l[i+1]?=some x->l[i]?=some y->f y < f x:=by
 constructor
 ·intro h i x y hx hy;obtain ⟨h1,rfl⟩:=abz.1 hx;obtain ⟨h2,rfl⟩:=abz.1 hy;exact ab1.1 h i (i+1) h2 h1 (by omega)
 ·intro h;rw [ab1];intro i j hi hj hij
  induction j with
  | zero=>omega
  | succ j ih=>
   have h1:=h j _ _ (abD hj) (abD (by omega));rcases afs (Nat.le_of_lt_succ hij) with h2|rfl
   ·have:=ih (by omega) h2; omega
   ·exact h1
theorem QE (N:Nat) (t:ae) (hl:t.Txns.length<=1000000):Te (ub N t) (TX t):=by
 have h:=Ya (l:=t.Txns) (L:=gW t N) (P:=fun v x=>(XV x/\zB x)/\(∀ y,0 < v->t.Txns[v - 1]?=some y->y.ID < x.ID)) (C:=t.Txns.length<=32)
  (fun v=>by simp only [gW]; exact Te.dec.iff (by omega))
  (fun x xs v hx R hR=>by
   have hv:=(abz.1 hx).1;simp only [gW];refine (JI N x).bind (fun p=>?_) fun p=>Te.f fun q=>p q.1.1;simp only [if_true];by_cases h0:0 < v
   ·rw [if_pos (by omega),w64 (by omega) (by omega),show ((v:Int) - 1)=((v - 1:Nat):Int) by omega,aR (abD (by omega))];simp only [lE,decide_eq_true_eq];refine Te.ite (fun q=>Te.f fun r=>?_) fun q=>hR.iff ⟨fun r=>⟨⟨p,fun y _ hy=>?_⟩,r⟩,fun r=>r.2⟩
    ·have:=r.1.2 _ h0 (abD (by omega)); omega
    ·rw [abD (by omega),abx] at hy; subst hy; omega
   ·rw [if_neg (by omega)];simp only [lE,abN,if_false];exact hR.iff ⟨fun r=>⟨⟨p,fun y h=>absurd h h0⟩,r⟩,fun r=>r.2⟩)
 refine h.iff ⟨fun h=>⟨fun x hx=>?_,G0.2 fun i x y hx hy=>(h.1 _ _ hx).2 y (by omega) (by simpa using hy),h.2⟩,fun h=>⟨fun v x hx=>⟨h.x x (abA hx),fun y h0 hy=>?_⟩,h.len⟩⟩
 ·obtain ⟨i,hi⟩:=abQ hx;exact (h.1 i x hi).1
 ·exact G0.1 h.so (v - 1) x y (by rw [show v - 1+1=v by omega]; exact hx) hy
def ids (t:ae):List Int:=t.Txns.map Txn.ID
theorem Wz (N:Nat) (t:ae) (n:Int):fM N t n=some (Cx (fun x:Txn=>decide (x.ID=n)) t.Txns 0):=by
 have h:=lf (L:=ew N n) (fun x=>wZ N x n) (fun x=>decide (x.ID=n)) (fun _=>rfl) (fun _ _ _=>rfl) t.Txns 0 (fun x _=>rfl);simp only [fM,ff,h,aby]
theorem A9 (N:Nat) (t:ae) (n:Int):(n∉ids t/\fM N t n=some (-1))∨∃ i x,fM N t n=some ((i:Nat):Int)/\t.Txns[i]?=some x/\x.ID=n:=by
 rw [Wz];rcases uI (fun x:Txn=>decide (x.ID=n)) t.Txns 0 with ⟨h,ha⟩|⟨i,x,h,hx,hp,_⟩
 ·refine .inl ⟨fun hm=>?_,by rw [h]⟩;obtain ⟨x,hx,rfl⟩:=ab9.1 hm;simpa using ha x hx
 ·exact .inr ⟨i,x,by rw [h]; simp,hx,by simpa using hp⟩
theorem CK {t:ae} {i:Nat} {x:Txn} (h:t.Txns[i]?=some x):x.ID∈ids t:=ab9.2 ⟨x,abA h,rfl⟩
theorem tK {N:Nat} {t:ae} {n:Int} (h:n∈ids t):∃ i x,fM N t n=some ((i:Nat):Int)/\t.Txns[i]?=some x/\x.ID=n:=by
 rcases A9 N t n with h1|h1
 ·exact absurd h h1.1
 ·exact h1
theorem TX.uniq {t:ae} (h:TX t) {x y:Txn} (hx:x∈t.Txns) (hy:y∈t.Txns) (e:x.ID=y.ID):x=y:=by
 obtain ⟨i,hi,rfl⟩:=ad5.1 hx;obtain ⟨j,hj,rfl⟩:=ad5.1 hy;have:=ab1.1 h.so;rcases adr i j with q|rfl|q
 ·have:=this i j hi hj q; omega
 ·rfl
 ·have:=this j i hj hi q; omega
end Go.Proofs.YtmacaidmhchpgaaGreat

namespace Go.Proofs.YtmacaidmhchpgaaGreat
open Go Go.Proofs Go.Abs
theorem D5 {α ρ:Type} {l:List α} {L:List α->Nat->Unit->Option ρ} {k:Option ρ} (h0:∀ v,L [] v ()=k)
  (hs:∀ x xs v,l[v]?=some x->L (x::xs) v ()=L xs (v+1) ()):L l 0 ()=k:=by
 have:∀ xs v,l.drop v=xs->L xs v ()=k:=by
  intro xs
  induction xs with
  | nil=>intro v _; exact h0 v
  | cons x xs ih=>
   intro v hd;obtain ⟨hv,hx,hd'⟩:=I3 hd;rw [hs x xs v hx];exact ih (v+1) hd'
 exact this l 0 rfl
theorem WM {α:Type} {L:List α->Nat->Unit->Option Int} (f:α->Option Bool) (h0:∀ v,L [] v ()=some (-1))
  (h1:∀ x xs v,L (x::xs) v ()=(f x).bind fun r=>if r=true then some ((v:Nat):Int) else L xs (v+1) ()) (xs:List α) (h:∀ x∈xs,f x=some false):L xs 0 ()=some (-1):=by
 rw [lf f (fun _=>false) h0 h1 xs 0 h];have:=tp (fun _:α=>false) xs 0;rcases uI (fun _:α=>false) xs 0 with ⟨h,_⟩|⟨i,x,_,_,h,_⟩
 ·rw [h]
 ·cases h
def Dq (t:ae) (a:Ref) (n:Int):Prop:=∃ s∈t.Stacks,s.Actor=a/\∃ y∈s.Layers,y.Txn_=n
def uJ (l:List Value):Bool:=decide (l.length<=8) && l.all m8
def At (x:Txn) (a:Ref):Prop:=∃ c,x.Calls[x.Done.toNat]?=some c/\c.Target=a
structure SV (t:ae) (s:aa):Prop where
 ne:s.Layers≠[]
 id:∀ l∈s.Layers,l.Txn_∈ids t
 fi:∀ l∈s.Layers,uJ l.Fields=true
 up:∀ (i:Nat) l,s.Layers[i]?=some l->l.Prepared=false->i+1=s.Layers.length/\∃ k∈t.Locks,k.Actor=s.Actor/\k.Owner=l.Txn_
 ex:∀ l∈s.Layers,∀ x∈t.Txns,x.ID=l.Txn_->(∃ c∈x.Calls.take x.Done.toNat,c.Target=s.Actor)/\(l.Prepared=true->x.Done=x.Calls.length)
structure LP (t:ae) (l:ai):Prop where
 ow:l.Owner∈ids t
 wa:∀ w∈l.Waiters,w∈ids t
 dn:∀ x∈t.Txns,x.ID=l.Owner->x.Done=x.Calls.length->∃ s∈t.Stacks,s.Actor=l.Actor/\∃ y∈s.Layers,y.Txn_=x.ID/\y.Prepared=false
 op:∀ x∈t.Txns,x.ID=l.Owner->x.Done < x.Calls.length->Dq t l.Actor x.ID∨At x l.Actor
 wt:∀ x∈t.Txns,x.ID∈l.Waiters->x.Done < x.Calls.length/\At x l.Actor
def Rk (r:Int->Nat) (s:aa):Prop:=s.Layers.Pairwise fun a b=>r a.Txn_ < r b.Txn_
structure TV (t:ae):Prop where
 tx:TX t
 lk:VT t.Locks
 ss:t.Stacks.Pairwise fun a b=>rl a.Actor b.Actor=true
 st:∀ s∈t.Stacks,SV t s
 pr:∀ x∈t.Txns,∀ c∈x.Calls.take x.Done.toNat,Dq t c.Target x.ID
 lp:∀ l∈t.Locks,LP t l
 ac:∃ r:Int->Nat,∀ s∈t.Stacks,Rk r s
theorem EV (N:Nat) (l:List Value):kP N l=some (uJ l):=by
 have h:=lf (L:=bZ N) (k7 N) (fun v=>!m8 v) (fun _=>rfl) (fun _ _ _=>rfl) l 0 (fun x _=>by
  simp only [k7,rb,aby])
 simp only [kP,da,dH,h,aby,tp,Jc,uJ,afr];by_cases q:l.length<=8
 ·rw [if_pos (by omega)]; simp [q]
 ·rw [if_neg (by omega)]; simp [q]
theorem Oc (N:Nat) {t:ae} (h:TV t):oU N t=some true:=by
 rw [oU,Aw N h.lk,aby,if_pos rfl];refine D5 (fun v=>by rw [js]) fun x xs v hx=>?_;have hp:=h.lp x (abA hx);obtain ⟨i,y,e,_⟩:=tK (N:=N) hp.ow;have hw:=WM (L:=dE N t.Txns t.Locks t.Stacks) (fun w=>lI N w t.Txns t.Locks t.Stacks) (fun _=>rfl) (fun _ _ _=>rfl) x.Waiters (fun w hw=>by
  obtain ⟨j,z,e,_⟩:=tK (N:=N) (hp.wa w hw);rw [lI,e,aby];simp)
 rw [js,e,aby,if_neg (by omega),dJ,dU,hw];rfl
theorem Ky {α:Type} {l:List α} (h:l≠[]):∃ x,l[l.length - 1]?=some x:=⟨_,abD (by have:=adu.2 h; omega)⟩
theorem Mp {α β:Type} {l:List α} {n:Nat} {k:List α->Option β} (h:n<=l.length):slx l 0 (n:Int) k=k (l.take n):=by
 simp only [slx];rw [if_pos (by omega)];simp
theorem IP {r:Int->Nat} {s:aa} (h:Rk r s) {i j:Nat} {x y:al} (hx:s.Layers[i]?=some x) (hy:s.Layers[j]?=some y) (e:x.Txn_=y.Txn_):i=j:=by
 obtain ⟨hi,rfl⟩:=abz.1 hx;obtain ⟨hj,rfl⟩:=abz.1 hy;have:=ab1.1 h;rcases adr i j with q|q|q
 ·have:=this i j hi hj q; rw [e] at this; omega
 ·exact q
 ·have:=this j i hj hi q; rw [e] at this; omega
theorem Ni (N:Nat) {t:ae} {s:aa} (h:SV t s) {r:Int->Nat} (hr:Rk r s) (hl:s.Layers.length<=1000000):kI N t s.Layers=some true:=by
 rw [kI];have hp:=adu.2 h.ne;refine D5 (fun v=>by rw [eW]; simp; omega) fun x xs v hx=>?_;have hv:=(abz.1 hx).1;have hm:=abA hx;obtain ⟨i,y,e,_⟩:=tK (N:=N) (h.id x hm);have hc:bc N (s.Layers.take v) x.Txn_ x.Fields x.Prepared=some false:=by
  have:=WM (L:=b8 N x.Txn_ x.Fields x.Prepared) (fun y=>kZ N y x.Txn_ x.Fields x.Prepared) (fun _=>rfl) (fun _ _ _=>rfl) (s.Layers.take v) (fun y hy=>by
   obtain ⟨j,hj⟩:=abQ hy;rw [acb] at hj;split at hj
   ·rw [kZ];have:¬ y.Txn_=x.Txn_:=fun e=>by have:=IP hr hj hx e; omega
    simp [this]
   ·cases hj)
  rw [bc,dG,this];rfl
 rw [eW,e,aby,if_neg (by omega),EV,h.fi x hm,aby,if_pos rfl];cases hb:x.Prepared with
 | true=>rw [if_pos rfl,Mp (by omega),<-hb,hc]; rfl
 | false=>
  have:=(h.up v x hx hb).1;rw [if_neg (by simp),w64 (by omega) (by omega),if_neg (by omega),Mp (by omega),<-hb,hc];rfl
theorem yP (N:Nat) (a b:Ref):il N a b=some (Eo a b):=by
 simp only [il,UY,aby,tX,qt,Eo];by_cases h1:yK a.Type_ b.Type_=0
 ·by_cases h2:yK a.Key b.Key=0<;>simp [h1,h2]
 ·simp [h1]
theorem L9 (N:Nat) (l:List ah) (a:Ref):oG N l a=some (l.any fun c=>GB c.Target a):=by
 have h:=lf (L:=b9 N a.Type_ a.Key) (fun x=>uj N x a.Type_ a.Key) (fun c=>GB c.Target a) (fun _=>rfl) (fun _ _ _=>rfl) l 0 (fun x _=>rfl);simp only [oG,db,dI,h,aby,tp]
theorem SU (N:Nat) {l:List ah} {a:Ref} (h:∃ c∈l,c.Target=a):oG N l a=some true:=by
 rw [L9];obtain ⟨c,hc,rfl⟩:=h
 congr 1
 exact ae1.2 ⟨c,hc,(CW _ _).2 rfl⟩
theorem KI {x:Txn} (h:XV x):∃ n:Nat,x.Done=n/\x.Done.toNat=n/\n<=x.Calls.length:=⟨x.Done.toNat,by have:=h.d1; omega,rfl,by have:=h.d2; omega⟩
end Go.Proofs.YtmacaidmhchpgaaGreat

namespace Go.Proofs.YtmacaidmhchpgaaGreat
open Go Go.Proofs Go.Abs
theorem AR {t:List ai} (h:VT t) {k:ai} (hk:k∈t):t[pa t k.Actor]?=some k/\vv t k.Actor=true:=by
 obtain ⟨i,hi⟩:=abQ hk;have h1:=uy (F7 h.so k.Actor) hi;simp only [jE] at h1;have h2:¬ i < pa t k.Actor:=fun q=>by have:=h1.2 q; cases this
 have hil:=(abz.1 hi).1;have e:pa t k.Actor=i:=by
  rcases adk (pa t k.Actor) i with q|q
  ·have hj:t[pa t k.Actor]?=some t[pa t k.Actor]:=abD (by omega);have h3:=(uy (F7 h.so k.Actor) hj).1 (by
    have:=ab1.1 h.so _ _ (by omega) hil q
    rwa [(abz.1 hi).2] at this)
   unfold pa at h3; omega
  ·omega
 refine ⟨by rw [e]; exact hi,?_⟩;rw [vv,e,hi];exact E3.2 rfl
theorem Wl (N:Nat) (hN:200<=N) {t:List ai} (h:VT t) (a:Ref):oE N t a=some (if vv t a=true then ((t[pa t a]?).map ai.Owner).getD 0 else 0):=by
 simp only [oE,Aw N h,aby,if_true,MY N hN h];by_cases hh:vv t a=true
 ·obtain ⟨x,hx,_⟩:=zc hh;rw [if_pos hh,if_pos hh,aR hx,hx]; rfl
 ·rw [if_neg hh,if_neg hh]
theorem PM (N:Nat) (hN:200<=N) {t:List ai} (h:VT t) {k:ai} (hk:k∈t):oE N t k.Actor=some k.Owner:=by
 obtain ⟨h1,h2⟩:=AR h hk;rw [Wl N hN h,if_pos h2,h1]; rfl
theorem NS (N:Nat) {t:ae} (hx:TX t) {s:aa} (h:SV t s) (rec3:Unit->Option Bool):fL rec3 N t s s.Layers 0 ()=rec3 ():=by
 refine D5 (fun v=>by rw [fL]) fun y xs v hy=>?_;have hm:=abA hy;obtain ⟨i,x,e,hi,hid⟩:=tK (N:=N) (h.id y hm);have hxm:=abA hi;obtain ⟨n,e1,e2,e3⟩:=KI (hx.x x hxm).1;obtain ⟨h1,h2⟩:=h.ex y hm x hxm hid;rw [fL,e,aby,aR hi,e1,Mp (by omega),SU N (by rw [<-e2]; exact h1),aby,if_pos rfl];cases hp:y.Prepared with
 | true=>
  have:=h2 hp;rw [if_pos rfl,kg,if_neg (by simp; omega)]
 | false=>rw [if_neg (by simp),kg,if_neg (by simp)]
theorem MW (N:Nat) (hN:200<=N) {t:ae} (h:TV t) (hl:t.Stacks.length<=1000000) (hll:∀ s∈t.Stacks,s.Layers.length<=1000000):mH N t=some true:=by
 rw [mH];refine D5 (fun v=>by rw [eZ]) fun s xs v hs=>?_;have hv:=(abz.1 hs).1;have hm:=abA hs;obtain ⟨r,hr⟩:=h.ac;have hS:=h.st s hm;have h5:j8 (kt s (eZ t N xs (v+1)) N t) (!true)=eZ t N xs (v+1) ():=by
  have hpos:=adu.2 hS.ne;have:=hll s hm;obtain ⟨y,hy⟩:=Ky hS.ne;rw [j8,if_neg (by simp),kt,w64 (by omega) (by omega),show ((s.Layers.length:Int) - 1)=((s.Layers.length - 1:Nat):Int) by omega,aR hy];cases hp:y.Prepared with
  | true=>rw [if_pos rfl,mA,if_neg (by simp),mj,NS N h.tx hS]
  | false=>
   obtain ⟨_,k,hk,h1,h2⟩:=hS.up _ y hy hp;rw [if_neg (by simp),<-h1,PM N hN h.lk hk,aby,mA,if_neg (by simp [h2]),mj,NS N h.tx hS]
 rw [eZ,Ni N hS (hr s hm) (hll s hm),aby];by_cases h0:0 < v
 ·obtain ⟨z,hz,hlt⟩:=My h.ss h0 hs;have:=AM.2 hlt;rw [if_pos (by omega),w64 (by omega) (by omega),show ((v:Int) - 1)=((v - 1:Nat):Int) by omega,aR hz,yP,aby,if_neg (by omega)];exact h5
 ·rw [if_neg (by omega)];exact h5
theorem JV (N:Nat) (t:ae) (a:Ref):(mv N t a=some (-1)/\∀ s∈t.Stacks,s.Actor≠a)∨∃ i s,mv N t a=some ((i:Nat):Int)/\t.Stacks[i]?=some s/\s.Actor=a:=by
 have h:=lf (L:=de N a.Type_ a.Key) (fun x=>yi N x a.Type_ a.Key) (fun s=>GB s.Actor a) (fun _=>rfl) (fun _ _ _=>rfl) t.Stacks 0 (fun x _=>rfl);simp only [mv,dK,h,aby];rcases uI (fun s:aa=>GB s.Actor a) t.Stacks 0 with ⟨e,ha⟩|⟨i,s,e,hi,hp,_⟩
 ·refine .inl ⟨by rw [e],fun s hs q=>?_⟩;have:=ha s hs;rw [(CW _ _).2 q] at this; cases this
 ·exact .inr ⟨i,s,by rw [e]; simp,hi,(CW _ _).1 hp⟩
theorem E6 {t:ae} (h:t.Stacks.Pairwise fun a b=>rl a.Actor b.Actor=true) {i:Nat} {s s':aa} (hi:t.Stacks[i]?=some s) (hs:s'∈t.Stacks) (e:s'.Actor=s.Actor):s'=s:=by
 obtain ⟨j,hj⟩:=abQ hs;obtain ⟨h1,rfl⟩:=abz.1 hi;obtain ⟨h2,rfl⟩:=abz.1 hj;have:=ab1.1 h;rcases adr i j with q|rfl|q
 ·have:=this i j h1 h2 q; rw [e,jE] at this; cases this
 ·rfl
 ·have:=this j i h2 h1 q; rw [e,jE] at this; cases this
theorem GO (N:Nat) {t:ae} (h:t.Stacks.Pairwise fun a b=>rl a.Actor b.Actor=true) {s:aa} (hs:s∈t.Stacks):∃ i:Nat,mv N t s.Actor=some (i:Int)/\t.Stacks[i]?=some s:=by
 rcases JV N t s.Actor with ⟨_,q⟩|⟨i,s',e,hi,q⟩
 ·exact absurd rfl (q s hs)
 ·exact ⟨i,e,by rw [hi,E6 h hi hs q.symm]⟩
def K1 (n:Int) (l:List al):al × Bool:=match l.find? fun y=>decide (y.Txn_=n) with
 | some y=>(y,true)
 | none=>(⟨0,[],false⟩,false)
theorem P0 (n:Int):∀ (l:List al) (v:Nat),sY n l v ()=some (K1 n l)
 | [],v=>rfl
 | y::l,v=>by
  rw [sY,P0 n l (v+1)];by_cases q:y.Txn_=n<;>simp [K1,List.find?_cons,q]
theorem PW (N:Nat) {t:ae} (h:t.Stacks.Pairwise fun a b=>rl a.Actor b.Actor=true) {s:aa} (hs:s∈t.Stacks) (n:Int):jD N t s.Actor n=some (K1 n s.Layers):=by
 obtain ⟨i,e,hi⟩:=GO N h hs;rw [jD,e,aby,if_pos (by omega),aR hi,P0]
theorem VC (N:Nat) {t:ae} {a:Ref} (h:∀ s∈t.Stacks,s.Actor≠a) (n:Int):jD N t a n=some (⟨0,[],false⟩,false):=by
 rcases JV N t a with ⟨e,_⟩|⟨i,s,_,hi,q⟩
 ·rw [jD,e,aby,if_neg (by omega)]
 ·exact absurd q (h s (abA hi))
theorem Xm {r:Int->Nat} {s:aa} (hr:Rk r s) {y:al} (hy:y∈s.Layers):K1 y.Txn_ s.Layers=(y,true):=by
 rw [K1];cases e:s.Layers.find? fun z=>decide (z.Txn_=y.Txn_) with
 | none=>exact absurd (aft.1 e y hy) (by simp)
 | some z=>
  have h1:=List.find?_some e;have h2:=List.mem_of_find?_eq_some e;obtain ⟨i,hi⟩:=abQ h2;obtain ⟨j,hj⟩:=abQ hy;have:=IP hr hi hj (by simpa using h1);subst this;rw [hi] at hj;simp only [abx] at hj;rw [hj]
theorem Xh {n:Int} {l:List al} (h:∀ y∈l,y.Txn_≠n):K1 n l=(⟨0,[],false⟩,false):=by
 rw [K1,aft.2 (fun y hy=>by simpa using h y hy)]
theorem pL (N:Nat) {t:ae} (h:t.Stacks.Pairwise fun a b=>rl a.Actor b.Actor=true) (hr:∃ r:Int->Nat,∀ s∈t.Stacks,Rk r s) {a:Ref} {n:Int} {s:aa} {y:al} (hs:s∈t.Stacks) (ha:s.Actor=a) (hy:y∈s.Layers) (hn:y.Txn_=n):jD N t a n=some (y,true):=by
 subst ha; subst hn;obtain ⟨r,hr⟩:=hr;rw [PW N h hs,Xm (hr s hs) hy]
theorem Nz (N:Nat) {t:ae} (h:t.Stacks.Pairwise fun a b=>rl a.Actor b.Actor=true) {a:Ref} {n:Int} (hn:¬ Dq t a n):jD N t a n=some (⟨0,[],false⟩,false):=by
 by_cases q:∃ s∈t.Stacks,s.Actor=a
 ·obtain ⟨s,hs,rfl⟩:=q;rw [PW N h hs,Xh fun y hy e=>hn ⟨s,hs,rfl,y,hy,e⟩]
 ·exact VC N (fun s hs e=>q ⟨s,hs,e⟩) n
end Go.Proofs.YtmacaidmhchpgaaGreat

namespace Go.Proofs.YtmacaidmhchpgaaGreat
open Go Go.Proofs Go.Abs
theorem WH {x:Txn} {a:Ref} (hx:XV x) (h:At x a):∃ n c,x.Done=((n:Nat):Int)/\x.Calls[n]?=some c/\c.Target=a:=by
 obtain ⟨c,h1,h2⟩:=h;exact ⟨x.Done.toNat,c,by have:=hx.d1; omega,h1,h2⟩
theorem Rz (N:Nat) {t:ae} (h:TV t) {x:Txn} (hx:x∈t.Txns) (rec3:Unit->Option Bool):gY rec3 N t x (x.Calls.take x.Done.toNat) 0 ()=rec3 ():=by
 refine D5 (fun v=>by rw [gY]) fun c xs v hc=>?_;obtain ⟨s,hs,ha,y,hy,hn⟩:=h.pr x hx c (abA hc);rw [gY,pL N h.ss h.ac hs ha hy hn,aby,if_pos rfl]
theorem RM (N:Nat) {t:ae} (h:TV t) {l:ai} (hl:LP t l) (rec18:Unit->Option Bool):fI rec18 N t l l.Waiters 0 ()=rec18 ():=by
 refine D5 (fun v=>by rw [fI]) fun w xs v hw=>?_;have hm:=abA hw;obtain ⟨i,x,e,hi,hid⟩:=tK (N:=N) (hl.wa w hm);have hx:=abA hi;obtain ⟨h1,h2⟩:=hl.wt x hx (by rw [hid]; exact hm);obtain ⟨n,c,e1,e2,e3⟩:=WH (h.tx.x x hx).1 h2;rw [fI,e,aby,aR hi,if_neg (by omega),e1,aR e2,<-e3];simp [oo,FY]
theorem J0 (N:Nat) {t:ae} (h:TV t):kW N t=some true:=by
 rw [kW];have h4:ou N t=some true:=by
  rw [ou];refine D5 (fun v=>by rw [bW]) fun l xs v hl=>?_;have hlm:=abA hl;have hp:=h.lp l hlm;obtain ⟨i,x,e,hi,hid⟩:=tK (N:=N) hp.ow;have hx:=abA hi;have h3:fK (fF (bW N t xs (v+1)) N t l) false=bW N t xs (v+1) ():=by
   rw [fK,if_neg (by simp),fF,RM N h hp]
  have hd:=(h.tx.x x hx).1.d2;rw [bW,e,aby,aR hi];by_cases hL:Dq t l.Actor x.ID
  ·obtain ⟨s,hs,ha,y,hy,hn⟩:=hL;rw [pL N h.ss h.ac hs ha hy hn,aby];by_cases hd':x.Done < x.Calls.length
   ·rw [if_pos hd',if_pos rfl]; exact h3
   ·obtain ⟨s',hs',ha',y',hy',hn',hp'⟩:=hp.dn x hx hid (by omega);have:=pL N h.ss h.ac hs ha hy hn;rw [pL N h.ss h.ac hs' ha' hy' hn'] at this;simp only [abx,abY,and_true] at this;rw [if_neg hd',if_pos rfl,if_neg (by rw [<-this,hp']; simp)]; exact h3
  ·rw [Nz N h.ss hL,aby];by_cases hd':x.Done < x.Calls.length
   ·have hat:=(hp.op x hx hid hd').resolve_left hL;obtain ⟨n,c,e1,e2,e3⟩:=WH (h.tx.x x hx).1 hat;rw [if_pos hd',if_neg (by simp),e1,aR e2,show (!(sEq c.Target.Type_ l.Actor.Type_ && sEq c.Target.Key l.Actor.Key))=false by rw [e3]; simp [FY]];exact h3
   ·obtain ⟨s',hs',ha',y',hy',hn',_⟩:=hp.dn x hx hid (by omega);exact absurd ⟨s',hs',ha',y',hy',hn'⟩ hL
 rw [h4];refine D5 (fun v=>by rw [jm]) fun x xs v hx=>?_;have hm:=abA hx;obtain ⟨n,e1,e2,e3⟩:=KI (h.tx.x x hm).1;rw [jm,e1,Mp e3,<-e2,Rz N h hm]
theorem uH (N:Nat) (l:List Int) (n:Int):dL N l n=some (decide (n∈l)):=by
 have h:=lf (L:=jH n) (fun x=>some (decide (n=x))) (fun x=>decide (n=x)) (fun _=>rfl) (fun x xs v=>by rw [jH]; by_cases q:n=x<;>simp [q]) l 0 (fun x _=>rfl)
 simp only [dL,pf,h,aby,tp]
 congr 1
 rw [aec];simp
def zy (id:Int) (gone:List Int):List al->Bool->Bool
 | [],_=>true
 | y::l,c=>if y.Txn_=id/\c=true then false else zy id gone l (c || !decide (y.Txn_∈gone))
def Bq (t:ae) (id:Int) (gone:List Int):Bool:=t.Stacks.all fun s=>zy id gone s.Layers false
theorem J5 (N:Nat) (id:Int) (gone:List Int) (rec3:Unit->Option Bool):∀ (l:List al) (v:Nat) (c:Bool),kO rec3 id N gone l v c=if zy id gone l c=true then rec3 () else some false
 | [],v,c=>by simp [kO,zy]
 | y::l,v,c=>by
  have e:vQ c (kO rec3 id N gone l (v+1)) N gone y=if zy id gone l (c || !decide (y.Txn_∈gone))=true then rec3 () else some false:=by
   rw [vQ,uH,aby,J5 N id gone rec3 l,J5 N id gone rec3 l];cases c<;>simp
  rw [kO,e,zy];simp only [zG];by_cases q:y.Txn_=id<;>cases c<;>simp [q]
theorem PS (N:Nat) (t:ae) (id:Int) (gone:List Int):vH N t id gone=some (Bq t id gone):=by
 rw [vH,PB (L:=pq id N gone) (fun s=>zy id gone s.Layers false) (some true) (some false) (fun v=>by rw [pq]) (fun s xs v=>by rw [pq,J5]) t.Stacks 0,Bq];split
 ·rename_i h; rw [h]
 ·rename_i h; rw [adm] at h; rw [h]
theorem EA {id:Int} {gone:List Int}:∀ {l:List al} {c:Bool},(c=true->∀ y∈l,y.Txn_≠id)->(∀ (i:Nat) y,l[i]?=some y->y.Txn_=id->∀ z∈l.take i,z.Txn_∈gone)->zy id gone l c=true
 | [],_,_,_=>rfl
 | y::l,c,h1,h2=>by
  rw [zy,if_neg (fun q=>h1 q.2 y (by simp) q.1)];refine EA (fun hc z hz e=>?_) fun i z hz e u hu=>h2 (i+1) z (by simpa using hz) e u (by simp [hu]);rw [acM] at hc;rcases hc with hc|hc
  ·exact h1 hc z (by simp [hz]) e
  ·obtain ⟨i,hi⟩:=abQ hz;have:=h2 (i+1) z (by simpa using hi) e y (by simp);simp [this] at hc
end Go.Proofs.YtmacaidmhchpgaaGreat

namespace Go.Proofs.YtmacaidmhchpgaaGreat
open Go Go.Proofs Go.Abs
theorem rq {l:List Int}:∀ {k:List Int},k.Nodup->(∀ x∈k,x∈l)->k.length<=l.length:=by
 induction l with
 | nil=>
  intro k _ h;cases k with
  | nil=>simp
  | cons x k=>have:=h x (by simp); simp at this
 | cons a l ih=>
  intro k hk h;have h1:=ih (k:=k.erase a) (hk.erase a) fun x hx=>by
   obtain ⟨h2,h3⟩:=(hk.mem_erase_iff).1 hx;exact (ab7.1 (h x h3)).resolve_left h2
  by_cases q:a∈k
  ·rw [List.length_erase_of_mem q] at h1; simp; omega
  ·rw [List.erase_of_not_mem q] at h1; simp; omega
def va (t:ae):List Txn->List Int->List Int
 | [],g=>g
 | x::xs,g=>va t xs (if x.ID∈g then g else if Bq t x.ID g=true then g++[x.ID] else g)
structure GI (t:ae) (g:List Int):Prop where
 nd:g.Nodup
 sub:∀ n∈g,n∈ids t
theorem GI.add {t:ae} {g:List Int} (h:GI t g) {x:Txn} (hx:x∈t.Txns):GI t (if x.ID∈g then g else if Bq t x.ID g=true then g++[x.ID] else g):=by
 split
 ·exact h
 ·split
  ·rename_i h1 _;refine ⟨ael.2 ⟨h.nd,by simp,fun a ha b hb=>?_⟩,fun n hn=>?_⟩
   ·simp only [abV] at hb; rw [hb]; exact fun e=>h1 (e ▸ ha)
   ·rcases abZ.1 hn with hn|hn
    ·exact h.sub n hn
    ·simp only [abV] at hn; rw [hn]; exact ab9.2 ⟨x,hx,rfl⟩
  ·exact h
theorem GI.len {t:ae} {g:List Int} (h:GI t g):g.length<=t.Txns.length:=by
 have:=rq h.nd h.sub;simpa [ids] using this
theorem Gx {t:ae}:∀ {xs:List Txn} {g:List Int},(∀ x∈xs,x∈t.Txns)->GI t g->GI t (va t xs g)
 | [],g,_,h=>h
 | x::xs,g,hx,h=>by rw [va]; exact Gx (fun y hy=>hx y (by simp [hy])) (h.add (hx x (by simp)))
theorem Gu {t:ae}:∀ {xs:List Txn} {g:List Int} {n:Int},n∈g->n∈va t xs g
 | [],g,n,h=>h
 | x::xs,g,n,h=>by rw [va]; exact Gu (t:=t) (xs:=xs) (by split; exact h; split; exact aez _ h; exact h)
theorem P5 {t:ae}:∀ {xs:List Txn} {g:List Int} {u:Int},u∈xs.map Txn.ID->(∀ g',(∀ n∈g,n∈g')->Bq t u g'=true)->u∈va t xs g
 | x::xs,g,u,h,hf=>by
  simp only [acT,ab7] at h;have hsub:∀ n∈g,n∈(if x.ID∈g then g else if Bq t x.ID g=true then g++[x.ID] else g):=fun n hn=>by
   split; exact hn; split; exact aez _ hn; exact hn
  rw [va];rcases h with rfl|h
  ·refine Gu ?_;split
   ·assumption
   ·rw [if_pos (hf g fun n hn=>hn)]; simp
  ·exact P5 h fun g' hg=>hf g' fun n hn=>hg n (hsub n hn)
theorem RV (N:Nat) (t:ae) (rec4:List Int->Option Bool) (hl:t.Txns.length<=1000):∀ (xs:List Txn) (v:Nat) (g:List Int),(∀ x∈xs,x∈t.Txns)->GI t g->jU rec4 N t xs v g=rec4 (va t xs g)
 | [],v,g,_,_=>by rw [jU]; rfl
 | x::xs,v,g,hx,hg=>by
  have ih:=RV N t rec4 hl xs (v+1) _ (fun y hy=>hx y (by simp [hy])) (hg.add (hx x (by simp)));have:=hg.len;rw [jU,uH,aby,va];by_cases q:x.ID∈g
  ·rw [if_pos q] at ih ⊢;simp [q,sW,ih]
  ·rw [if_neg q] at ih ⊢;rw [if_neg (by simpa using q),PS,aby,sW];by_cases f:Bq t x.ID g=true
   ·rw [if_pos f] at ih ⊢;rw [if_pos f,s9 (by simp; omega),ih]
   ·rw [if_neg f] at ih ⊢;rw [if_neg f,ih]
def Gq (t:ae):Nat->List Int->List Int
 | 0,g=>g
 | m+1,g=>Gq t m (va t t.Txns g)
theorem RU (N:Nat) (t:ae) (hl:t.Txns.length<=1000):∀ (m v:Nat) (g:List Int),GI t g->lW t N m v g=some (decide ((Gq t m g).length=t.Txns.length))
 | 0,v,g,_=>by
  rw [lW,Gq]
  congr 1
  rw [aec]; simp; omega
 | m+1,v,g,hg=>by
  rw [lW,RV N t _ hl _ _ _ (fun x hx=>hx) hg,RU N t hl m _ _ (Gx (fun x hx=>hx) hg),Gq]
theorem O3 {r:Int->Nat}:∀ {l:List Int},l≠[]->∃ u∈l,∀ n∈l,r u<=r n
 | [x],_=>⟨x,by simp,by simp⟩
 | x::y::l,_=>by
  obtain ⟨u,hu,h⟩:=O3 (r:=r) (l:=y::l) (by simp);by_cases q:r x<=r u
  ·exact ⟨x,by simp,fun n hn=>by
    rcases ab7.1 hn with rfl|hn
    ·exact abI _
    ·exact acZ q (h n hn)⟩
  ·exact ⟨u,aeA _ hu,fun n hn=>by
    rcases ab7.1 hn with rfl|hn
    ·omega
    ·exact h n hn⟩
theorem Ss {t:ae} (h:TV t) {g:List Int} (hg:GI t g):g.length+1<=(va t t.Txns g).length∨∀ n∈ids t,n∈g:=by
 obtain ⟨r,hr⟩:=h.ac;by_cases q:(ids t).filter (fun n=>!decide (n∈g))=[]
 ·exact .inr fun n hn=>by
   have:=List.filter_eq_nil_iff.1 q n hn;simpa using this
 ·obtain ⟨u,hu,hm⟩:=O3 (r:=r) q;simp only [adi,acH,decide_eq_false_iff_not] at hu hm;have hin:u∈va t t.Txns g:=by
   refine P5 hu.1 fun g' hg'=>abG.2 fun s hs=>EA (by simp) fun i y hy e z hz=>hg' _ ?_;obtain ⟨j,hj⟩:=abQ hz;rw [acb] at hj;split at hj
   ·rename_i hji;have hlt:r z.Txn_ < r y.Txn_:=by
     obtain ⟨h1,rfl⟩:=abz.1 hj;obtain ⟨h2,rfl⟩:=abz.1 hy;exact ab1.1 (hr s hs) j i h1 h2 hji
    by_cases hzg:z.Txn_∈g
    ·exact hzg
    ·have:=hm z.Txn_ ⟨(h.st s hs).id z (abA hj),hzg⟩;rw [e] at hlt; omega
   ·cases hj
  have hG:=Gx (fun x hx=>hx) hg;have:=rq (l:=va t t.Txns g) (k:=u::g) (aey.2 ⟨hu.2,hg.nd⟩) fun x hx=>by
   rcases ab7.1 hx with rfl|hx
   ·exact hin
   ·exact Gu hx
  exact .inl (by simpa using this)
theorem TX.nd {t:ae} (h:TX t):(ids t).Nodup:=by
 unfold ids List.Nodup;rw [ac4];exact h.so.imp fun q e=>by omega
theorem KC {t:ae} (h:TV t):∀ (m:Nat) {g:List Int},GI t g->t.Txns.length<=m+g.length->(Gq t m g).length=t.Txns.length
 | 0,g,hg,hl=>by have:=hg.len; rw [Gq]; omega
 | m+1,g,hg,hl=>by
  have hG:=Gx (fun x hx=>hx) hg;rw [Gq];rcases Ss h hg with q|q
  ·exact KC h m hG (by omega)
  ·refine KC h m hG ?_;have:=rq (l:=va t t.Txns g) h.tx.nd fun n hn=>Gu (q n hn);simp [ids] at this;omega
theorem TG (N:Nat) {t:ae} (h:TV t):uN N t=some true:=by
 have hl:=h.tx.len;rw [uN,RU N t (by omega) _ _ _ ⟨by simp,by simp⟩,KC h _ ⟨by simp,by simp⟩ (by simp)];simp
theorem zx {l:List Ref}:∀ {k:List Ref},k.Nodup->(∀ x∈k,x∈l)->k.length<=l.length:=by
 classical
 induction l with
 | nil=>
  intro k _ h;cases k with
  | nil=>simp
  | cons x k=>have:=h x (by simp); simp at this
 | cons a l ih=>
  intro k hk h;have h1:=ih (k:=k.filter fun x=>!decide (x=a)) (hk.filter _) fun x hx=>by
   simp only [adi,acH,decide_eq_false_iff_not] at hx;exact (ab7.1 (h x hx.1)).resolve_left hx.2
  have h2:k.length<=(k.filter fun x=>!decide (x=a)).length+1:=by
   clear h1 h ih
   induction k with
   | nil=>simp
   | cons b k ih=>
    rw [aey] at hk;by_cases q:b=a
    ·subst q;have:(k.filter fun x=>!decide (x=b))=k:=adG.2 fun x hx=>by simp; exact fun e=>hk.1 (e ▸ hx)
     simp [this]
    ·have:=ih hk.2;simp [q]; omega
  simp only [abW]; omega
theorem TV.stacks_len {t:ae} (h:TV t):t.Stacks.length<=128:=by
 have hcl:∀ {l:List Txn},(∀ x∈l,XV x)->(l.flatMap fun x=>x.Calls.map ah.Target).length<=l.length * 4:=by
  intro l
  induction l with
  | nil=>simp
  | cons x l ih=>
   intro hx;have h1:=ih fun y hy=>hx y (by simp [hy]);have h2:=(hx x (by simp)).c2;simp only [aeO,ack,abJ,abW];omega
 have hnd:(t.Stacks.map aa.Actor).Nodup:=by
  unfold List.Nodup;rw [ac4];exact h.ss.imp fun q e=>by rw [e,jE] at q; cases q
 have:=zx (l:=t.Txns.flatMap fun x=>x.Calls.map ah.Target) hnd fun a ha=>by
  obtain ⟨s,hs,rfl⟩:=ab9.1 ha;have hS:=h.st s hs;obtain ⟨y,hy⟩:=aed _ hS.ne;obtain ⟨x,hx,e⟩:=ab9.1 (hS.id y hy);obtain ⟨c,hc,e2⟩:=(hS.ex y hy x hx e).1;exact List.mem_flatMap.2 ⟨x,hx,ab9.2 ⟨c,acG hc,e2⟩⟩
 have h2:=hcl fun x hx=>(h.tx.x x hx).1;have:=h.tx.len;simp only [abJ] at *;omega
theorem TV.layers_len {t:ae} (h:TV t) {s:aa} (hs:s∈t.Stacks):s.Layers.length<=32:=by
 obtain ⟨r,hr⟩:=h.ac;have:=rq (l:=ids t) (k:=s.Layers.map al.Txn_) (by
  unfold List.Nodup;rw [ac4];exact (hr s hs).imp fun q e=>by rw [e] at q; omega) fun n hn=>by
   obtain ⟨y,hy,rfl⟩:=ab9.1 hn;exact (h.st s hs).id y hy
 have:=h.tx.len;simp [ids] at *;omega
theorem rJ (N:Nat) (hN:200<=N) {t:ae} (h:TV t):kh N t=some true:=by
 have hl:=h.tx.len;simp only [kh,(QE N t (by omega)).is h.tx,Oc N h,MW N hN h (by have:=h.stacks_len; omega) (fun s hs=>by have:=h.layers_len hs; omega),J0 N h,TG N h,aby,if_true]
end Go.Proofs.YtmacaidmhchpgaaGreat

namespace Go.Proofs.YtmacaidmhchpgaaGreat
open Go Go.Proofs Go.Abs
theorem yD {N:Nat} {v:Value} (h:bdV v):ig N v=some v:=by
 simp only [ig,NY h.1,QR h.2,aby]
theorem sP {N:Nat} {l:List Value} (h:Ez l):fe N l=some l:=by
 have:=tw (L:=ja N) bdV (fun m v l x hx hp=>by
  simp only [ja,Ja hx,yD hp,aby,tV hx]) l.length 0 l (by simp) h.2
 simp only [fe,Q7 h.1,aby,abU,this,ja]
theorem HZ {N:Nat} {c:ah} (h:Ez c.Args):lj N c=some c:=by
 simp only [lj,sP h,aby]
theorem XV.bd {x:Txn} (h:XV x):SL x.Calls/\bdV x.Last:=⟨⟨by have:=h.c2; omega,fun c hc=>PJ (h.ca c hc)⟩,BH h.la⟩
theorem Ep {N:Nat} {x:Txn} (h:SL x.Calls/\bdV x.Last):kK N x=some x:=by
 have:=tw (L:=kE (u9 N x) N) (fun c:ah=>Ez c.Args) (fun m v l y hy hp=>by
  simp only [kE,Ja hy,HZ hp,aby,tV hy]) x.Calls.length 0 x.Calls (by simp) h.1.2
 simp only [kK,LD h.1.1,aby,abU,this,kE,u9,yD h.2]
theorem Gp {l:List Value} (h:uJ l=true):Ez l:=by
 simp only [uJ,abK,decide_eq_true_eq,abG] at h;exact ⟨by omega,fun v hv=>BH (h.2 v hv)⟩
def V6 (l:List al):Prop:=l.length<=1000000/\∀ y∈l,Ez y.Fields
theorem Fc {N:Nat} {l:List al} (h:V6 l):kD N l=some l:=by
 have:=tw (L:=iZ N) (fun y:al=>Ez y.Fields) (fun m v l x hx hp=>by
  simp only [iZ,Ja hx,sP hp,aby,tV hx]) l.length 0 l (by simp) h.2
 simp only [kD,gQ,vu (b:=39) (l:=l) (by have:=h.1; omega),aby,abU,this,iZ]
theorem TV.bdL {t:ae} (h:TV t) {s:aa} (hs:s∈t.Stacks):V6 s.Layers:=⟨by have:=h.layers_len hs; omega,fun y hy=>Gp ((h.st s hs).fi y hy)⟩
theorem zb {N:Nat} {t:ae} (h:TV t):lh N t=some t:=by
 have h1:=h.tx.len; have h2:=h.lk.len; have h3:=h.stacks_len;have e1:=tw (L:=pw (Aa N t.Stacks t.Locks) N) (fun x:Txn=>SL x.Calls/\bdV x.Last) (fun m v l x hx hp=>by
  simp only [pw,Ja hx,Ep hp,aby,tV hx]) t.Txns.length 0 t.Txns (by simp) (fun x hx=>(h.tx.x x hx).1.bd)
 have e2:=tw (L:=pP (zr t.Txns N t.Stacks) N) (fun x:ai=>x.Waiters.length<=32) (fun m v l x hx hp=>by
  simp only [pP,Ja hx,NY (N:=N) (l:=x.Waiters) (by omega),aby,tV hx]) t.Locks.length 0 t.Locks (by simp) (fun x hx=>(h.lk.l x hx).wl)
 have e3:=tw (L:=pM t.Txns t.Locks N) (fun x:aa=>V6 x.Layers) (fun m v l x hx hp=>by
  simp only [pM,Ja hx,Fc hp,aby,tV hx]) t.Stacks.length 0 t.Stacks (by simp) (fun s hs=>h.bdL hs)
 simp only [lh,iY,fq,eE];rw [vu (by omega),aby,vu (by omega),aby,vu (by omega),aby,abU,e1,acv,pw,Aa,abU,e2,acv,pP,zr,abU,e3,acv,pM];simp [M9]
structure Vj {α:Type} (p:α->Bool) (a l:List α) (i j:Nat):Prop where
 len:l.length=a.length
 ij:i < j
 jl:j<=a.length
 pre:l.take i=(a.take j).filter fun x=>!p x
 rest:∀ q,j<=q->l[q]?=a[q]?
section
variable {α:Type} {f:α->Option Bool} {p:α->Bool} {L:Nat->List α × Int × Int->Option (List α)} {J:List α->Int->Option (List α)}
theorem MO (hL:∀ n l v5 v6,L (n+1) (l,v5,v6)=if v6 < ((l.length:Nat):Int) then gx l v6 fun x=>(f x).bind fun r=>if r=true then L n (l,v5,IntKind.i64.wrap (v6+1)) else gx l v5 fun _=>L n (l.set v5.toNat x,IntKind.i64.wrap (v5+1),IntKind.i64.wrap (v6+1)) else J l v5)
  (a:List α) (hf:∀ x∈a,f x=some (p x)) (ha:a.length<=1000):∀ (n:Nat) (l:List α) (i j:Nat),a.length < j+n->Vj p a l i j->∃ l' i',Vj p a l' i' a.length/\L n (l,(i:Int),(j:Int))=J l' (i':Int)
 | 0,l,i,j,hn,h=>by have:=h.jl; omega
 | n+1,l,i,j,hn,h=>by
  have hl:=h.len; have hij:=h.ij; have hj:=h.jl;rw [hL];by_cases hlt:j < a.length
  ·have g1:l[j]?=some a[j]:=by rw [h.rest j (abI _),abD hlt]
   have htk:a.take (j+1)=a.take j++[a[j]]:=by rw [ads,abD hlt]; rfl
   rw [if_pos (by omega),aR g1,hf _ (acI hlt),aby,w64 (n:=(j:Int)+1) (by omega) (by omega),show ((j:Int)+1)=((j+1:Nat):Int) by omega];by_cases e:p a[j]=true
   ·rw [if_pos e];refine MO hL a hf ha n l i (j+1) (by omega) ⟨hl,by omega,by omega,?_,fun q hq=>h.rest q (by omega)⟩;rw [h.pre,htk,adl]; simp [e]
   ·have hil:i < l.length:=by omega
    rw [if_neg e,aR (abD hil),w64 (n:=(i:Int)+1) (by omega) (by omega),show ((i:Int)+1)=((i+1:Nat):Int) by omega,abX];refine MO hL a hf ha n (l.set i a[j]) (i+1) (j+1) (by omega) ⟨by simp [hl],by omega,by omega,?_,fun q hq=>by rw [adj (by omega)]; exact h.rest q (by omega)⟩;rw [yw hil,h.pre,htk,adl]; simp [e]
  ·rw [if_neg (by omega)];have:j=a.length:=by omega
   subst this;exact ⟨l,i,h,rfl⟩
theorem MJ (hL:∀ n l v5 v6,L (n+1) (l,v5,v6)=if v6 < ((l.length:Nat):Int) then gx l v6 fun x=>(f x).bind fun r=>if r=true then L n (l,v5,IntKind.i64.wrap (v6+1)) else gx l v5 fun _=>L n (l.set v5.toNat x,IntKind.i64.wrap (v5+1),IntKind.i64.wrap (v6+1)) else J l v5) {z:α}
  (hJ:∀ l v,J l v=slx l v ((l.length:Nat):Int) fun _=>slx (tD z v.toNat l) 0 v fun _=>some ((tD z v.toNat l).take v.toNat)) {I:List α->Nat->Unit->Option Int} (hI0:∀ v,I [] v ()=some (-1)) (hI1:∀ x xs v,I (x::xs) v ()=(f x).bind fun r=>if r=true then some ((v:Nat):Int) else I xs (v+1) ()) (N:Nat) (hN:1001<=N)
  (a:List α) (hf:∀ x∈a,f x=some (p x)) (ha:a.length<=1000):((I a 0 ()).bind fun r1=>if r1=-1 then some a else L N (a,r1,IntKind.i64.wrap (r1+1)))=some (a.filter fun x=>!p x):=by
 rw [lf f p hI0 hI1 a 0 hf,aby];rcases uI p a 0 with ⟨h1,h2⟩|⟨i,x,h1,h2,h3,h4⟩
 ·rw [h1,if_pos rfl,adG.2 fun x hx=>by simp [h2 x hx]]
 ·have hil:=(abz.1 h2).1;rw [h1,acv,if_neg (by omega),w64 (by omega) (by omega),show ((i:Int)+1)=((i+1:Nat):Int) by omega];have hd:Vj p a a i (i+1):=⟨rfl,by omega,by omega,by
   rw [ads,h2,adM,adl,adG.2 fun y hy=>by simp [h4 y hy]];simp [h3],fun _ _=>rfl⟩
  obtain ⟨l',i',h',e'⟩:=MO hL a hf ha N a i (i+1) (by omega) hd;rw [e',hJ];have q1:=h'.len; have q2:=h'.ij;unfold slx;rw [abX,if_pos ⟨by omega,by omega,by omega,by omega⟩];dsimp only;rw [if_pos ⟨by omega,by omega,by omega,by rw [MD (by omega)]; omega⟩];try dsimp only
  rw [KA (by omega),h'.pre,ab3 (abI _)]
end
def rP (D:List Int) (n:Int):Bool:=!decide (n∈D)
def En (D:List Int) (s:aa):aa:=⟨s.Actor,s.Layers.filter fun y=>rP D y.Txn_⟩
def FX (D:List Int) (l:List aa):List aa:=(l.map (En D)).filter fun s=>!decide (s.Layers=[])
def Ar (t:ae) (D:List Int):ae:=⟨t.Txns.filter fun x=>rP D x.ID,t.Locks,FX D t.Stacks⟩
theorem NC (N:Nat) (hN:1001<=N) {t:ae} (h:TV t) (D:List Int):tQ N t D=some (Ar t D):=by
 have h1:=h.tx.len; have h3:=h.stacks_len;have e1:=MJ (f:=fun x=>o8 N x D) (p:=fun x=>decide (x.ID∈D)) (L:=bC N D fu) (J:=fu) (fun _ _ _ _=>by rw [bC]) (fun _ _=>rfl) (I:=ed N D) (fun _=>rfl) (fun _ _ _=>rfl) N hN t.Txns (fun x _=>by simp only [o8,uH,aby]) (by omega);have e2:∀ {l:List al},l.length<=1000->ee N l D=some (l.filter fun y=>rP D y.Txn_):=fun {l} hl=>
  MJ (f:=fun x=>pg N x D) (p:=fun x=>decide (x.Txn_∈D)) (L:=bu N D fc) (J:=fc) (fun _ _ _ _=>by rw [bu]) (fun _ _=>rfl) (I:=dM N D) (fun _=>rfl) (fun _ _ _=>rfl) N hN l (fun x _=>by simp only [pg,uH,aby]) hl
 have e3:∀ {l:List aa},l.length<=1000->dz N l=some (l.filter fun s=>!decide (s.Layers=[])):=fun {l} hl=>
  MJ (f:=fun x=>o9 N x) (p:=fun s=>decide (s.Layers=[])) (L:=aZ N dX) (J:=dX) (fun _ _ _ _=>by rw [aZ]) (fun _ _=>rfl) (I:=dc N) (fun _=>rfl) (fun _ _ _=>rfl) N hN l (fun x _=>by simp [o9]) hl
 have e4:∀ (m v:Nat) (A:List aa),v+m=t.Stacks.length->A.length=v->m7 (yC N (t.Txns.filter fun x=>rP D x.ID) t) N D m v (A++t.Stacks.drop v)=some ⟨t.Txns.filter fun x=>rP D x.ID,t.Locks,(A++(t.Stacks.drop v).map (En D)).filter fun s=>!decide (s.Layers=[])⟩:=by
  intro m
  induction m with
  | zero=>
   intro v A hv hA;rw [m7,acR (by omega),aci,yC,e3 (by omega)];simp
  | succ m ih=>
   intro v A hv hA;subst hA;have hvl:A.length < t.Stacks.length:=by omega
   rw [ac0 hvl,m7,aR Ab,e2 (by have:=h.layers_len (acI hvl); omega),aby,IW];have:=ih (A.length+1) (A++[En D t.Stacks[A.length]]) (by omega) (by simp);rw [acx,acx] at this;rw [acT];simp only [acV,abS] at this;exact this
 simp only [tQ,zb h,aby];rw [show eG N t.Txns D=some (t.Txns.filter fun x=>rP D x.ID) from e1,aby,abU];exact e4 t.Stacks.length 0 [] (by omega) rfl
end Go.Proofs.YtmacaidmhchpgaaGreat

namespace Go.Proofs.YtmacaidmhchpgaaGreat
open Go Go.Proofs Go.Abs
theorem VQ {t:ae} (h:TV t) {x:Txn} (hx:XV x/\zB x) (h0:x.Done=0) (hlt:∀ y∈t.Txns,y.ID < x.ID) (hl:t.Txns.length < 32):TV ⟨t.Txns++[x],t.Locks,t.Stacks⟩:=by
 have hid:∀ {n:Int},n∈ids t->n∈ids ⟨t.Txns++[x],t.Locks,t.Stacks⟩:=fun hn=>by simp only [ids,ab4,abZ] at *; exact .inl hn
 have hnew:∀ {y:Txn},y∈t.Txns++[x]->y.ID∈ids t->y∈t.Txns:=fun {y} hy hn=>by
  rcases abZ.1 hy with hy|hy
  ·exact hy
  ·simp only [abV] at hy;obtain ⟨z,hz,e⟩:=ab9.1 hn;have:=hlt z hz;rw [hy] at e; omega
 refine ⟨⟨fun y hy=>?_,?_,by simp; omega⟩,h.lk,h.ss,fun s hs=>?_,fun y hy c hc=>?_,fun l hm=>?_,h.ac⟩
 ·rcases abZ.1 hy with hy|hy
  ·exact h.tx.x y hy
  ·simp only [abV] at hy; rw [hy]; exact hx
 ·exact ac5.2 ⟨h.tx.so,by simp,fun a ha b hb=>by simp only [abV] at hb; rw [hb]; exact hlt a ha⟩
 ·have hS:=h.st s hs;exact ⟨hS.ne,fun l hl=>hid (hS.id l hl),hS.fi,hS.up,fun l hl y hy e=>hS.ex l hl y (hnew hy (e ▸ hS.id l hl)) e⟩
 ·rcases abZ.1 hy with hy|hy
  ·exact h.pr y hy c hc
  ·simp only [abV] at hy;rw [hy,h0] at hc;simp at hc
 ·have hL:=h.lp l hm;exact ⟨hid hL.ow,fun w hw=>hid (hL.wa w hw),fun y hy e=>hL.dn y (hnew hy (e ▸ hL.ow)) e,fun y hy e=>hL.op y (hnew hy (e ▸ hL.ow)) e,fun y hy hw=>hL.wt y (hnew hy (hL.wa _ hw)) hw⟩
theorem LP.locks {t:ae} {l:ai} (h:LP t l) (L:List ai):LP ⟨t.Txns,L,t.Stacks⟩ l:=⟨h.ow,h.wa,h.dn,h.op,h.wt⟩
theorem NZ {t:ae} (h:TV t) {L:List ai} (hv:VT L) (hp:∀ l∈L,LP t l) (hk:∀ s∈t.Stacks,∀ y∈s.Layers,y.Prepared=false->∀ k∈t.Locks,k.Actor=s.Actor->k.Owner=y.Txn_->∃ k'∈L,k'.Actor=s.Actor/\k'.Owner=y.Txn_):TV ⟨t.Txns,L,t.Stacks⟩:=
 ⟨⟨h.tx.x,h.tx.so,h.tx.len⟩,hv,h.ss,fun s hs=>⟨(h.st s hs).ne,(h.st s hs).id,(h.st s hs).fi,fun i y hy hpr=>by
  obtain ⟨h1,k,h2,h3,h4⟩:=(h.st s hs).up i y hy hpr;exact ⟨h1,hk s hs y (abA hy) hpr k h2 h3 h4⟩,(h.st s hs).ex⟩,h.pr,fun l hl=>(hp l hl).locks L,h.ac⟩
theorem LP.pass {t:ae} {l l':ai} (h:LP t l) (ha:l'.Actor=l.Actor) (ho:l'.Owner=l.Owner∨l'.Owner∈l.Waiters) (hw:∀ w∈l'.Waiters,w∈l.Waiters):LP t l':=by
 refine ⟨?_,fun w hm=>h.wa w (hw w hm),fun x hx e=>?_,fun x hx e=>?_,fun x hx hm=>ha ▸ h.wt x hx (hw _ hm)⟩
 ·rcases ho with ho|ho
  ·rw [ho]; exact h.ow
  ·exact h.wa _ ho
 ·rcases ho with ho|ho
  ·rw [ha]; exact h.dn x hx (e.trans ho)
  ·have:=(h.wt x hx (e ▸ ho)).1;intro q; omega
 ·rcases ho with ho|ho
  ·rw [ha]; exact h.op x hx (e.trans ho)
  ·exact fun _=>.inr (ha ▸ (h.wt x hx (e ▸ ho)).2)
theorem yL {D:List Int} {n:Int}:rP D n=true↔n∉D:=by simp [rP]
theorem FR {D:List Int} {l:List aa} {s:aa}:s∈FX D l↔∃ s0∈l,s=En D s0/\s.Layers≠[]:=by
 simp only [FX,adi,ab9,acH,decide_eq_false_iff_not];constructor
 ·rintro ⟨⟨s0,h1,h2⟩,h3⟩; exact ⟨s0,h1,h2.symm,h3⟩
 ·rintro ⟨s0,h1,h2,h3⟩; exact ⟨⟨s0,h1,h2.symm⟩,h3⟩
theorem Kj {t:ae} {D:List Int} {L:List ai} {s:aa} {y:al} (hs:s∈t.Stacks) (hy:y∈s.Layers) (hn:y.Txn_∉D):∃ s'∈FX D t.Stacks,s'.Actor=s.Actor/\y∈s'.Layers:=by
 have hm:y∈(En D s).Layers:=adi.2 ⟨hy,yL.2 hn⟩;exact ⟨En D s,FR.2 ⟨s,hs,rfl,afu hm⟩,rfl,hm⟩
structure Lks (t:ae) (D:List Int) (L:List ai):Prop where
 vt:VT L
 fr:∀ l'∈L,∃ l∈t.Locks,l'.Actor=l.Actor/\(l'.Owner=l.Owner∨l'.Owner∈l.Waiters)/\(∀ w∈l'.Waiters,w∈l.Waiters)/\l'.Owner∉D/\∀ w∈l'.Waiters,w∉D
 to:∀ l∈t.Locks,l.Owner∉D->∃ l'∈L,l'.Actor=l.Actor/\l'.Owner=l.Owner
theorem Ua {t:ae} (h:TV t) {D:List Int} {L:List ai} (hL:Lks t D L):TV ⟨t.Txns.filter fun x=>rP D x.ID,L,FX D t.Stacks⟩:=by
 have hx:∀ {x:Txn},(x∈t.Txns.filter fun x=>rP D x.ID)->x∈t.Txns/\x.ID∉D:=fun {x} hx=>by
  obtain ⟨h1,h2⟩:=adi.1 hx;exact ⟨h1,yL.1 h2⟩
 have hid:∀ {n:Int},n∈ids t->n∉D->n∈ids ⟨t.Txns.filter fun x=>rP D x.ID,L,FX D t.Stacks⟩:=fun {n} h1 h2=>by
  obtain ⟨x,hx,rfl⟩:=ab9.1 h1;exact ab9.2 ⟨x,adi.2 ⟨hx,yL.2 h2⟩,rfl⟩
 refine ⟨⟨fun x q=>h.tx.x x (hx q).1,h.tx.so.filter _,acZ (aes _ _) h.tx.len⟩,hL.vt,?_,fun s hs=>?_,fun x q c hc=>?_,fun l' hl'=>?_,?_⟩
 ·unfold FX;exact (ac4.2 (h.ss.imp fun q=>q)).filter _
 ·obtain ⟨s0,hs0,rfl,hne⟩:=FR.1 hs;have hS:=h.st s0 hs0;have hin:∀ {y:al},y∈(En D s0).Layers->y∈s0.Layers/\y.Txn_∉D:=fun hy=>by
   obtain ⟨h1,h2⟩:=adi.1 hy;exact ⟨h1,yL.1 h2⟩
  refine ⟨hne,fun y hy=>hid (hS.id y (hin hy).1) (hin hy).2,fun y hy=>hS.fi y (hin hy).1,fun i y hy hp=>?_,fun y hy x q e=>hS.ex y (hin hy).1 x (hx q).1 e⟩;have hm:=hin (abA hy);obtain ⟨j,hj⟩:=abQ hm.1;obtain ⟨h1,k,h2,h3,h4⟩:=hS.up j y hj hp;refine ⟨?_,?_⟩
  ·
   have hjl:=(abz.1 hj).1;have e:s0.Layers=s0.Layers.take j++[y]:=by
    have:=ac8 j s0.Layers;rw [ac0 hjl,(abz.1 hj).2,acR (by omega)] at this;exact this.symm
   have e2:(En D s0).Layers=(s0.Layers.take j).filter (fun y=>rP D y.Txn_)++[y]:=by
    have q:=congrArg (List.filter fun y=>rP D y.Txn_) e;have:rP D y.Txn_=true:=yL.2 hm.2;rw [adl,show [y].filter (fun y=>rP D y.Txn_)=[y] by simp [this]] at q;exact q
   rw [e2] at hy ⊢;rcases adk i ((s0.Layers.take j).filter fun y=>rP D y.Txn_).length with q|q
   ·exfalso;rw [abM q] at hy;have hm2:=abA hy;obtain ⟨i2,hi2⟩:=abQ (adi.1 hm2).1;rw [acb] at hi2;split at hi2
    ·obtain ⟨g1,_⟩:=hS.up i2 y hi2 hp;omega
    ·cases hi2
   ·have:=(abz.1 hy).1;simp at this ⊢; omega
  ·obtain ⟨k',g1,g2,g3⟩:=hL.to k h2 (h4 ▸ hm.2);exact ⟨k',g1,g2.trans h3,g3.trans h4⟩
 ·obtain ⟨hm,hn⟩:=hx q;obtain ⟨s,hs,ha,y,hy,e⟩:=h.pr x hm c hc;obtain ⟨s',g1,g2,g3⟩:=Kj (L:=L) hs hy (e ▸ hn);exact ⟨s',g1,g2.trans ha,y,g3,e⟩
 ·obtain ⟨l,h1,h2,h3,h4,h5,h6⟩:=hL.fr l' hl';have hP:=(h.lp l h1).pass h2 h3 h4;refine ⟨hid hP.ow h5,fun w hw=>hid (hP.wa w hw) (h6 w hw),fun x q e hd=>?_,fun x q e hd=>?_,fun x q hw=>hP.wt x (hx q).1 hw⟩
  ·obtain ⟨s,hs,ha,y,hy,g1,g2⟩:=hP.dn x (hx q).1 e hd;obtain ⟨s',q1,q2,q3⟩:=Kj (L:=L) hs hy (g1 ▸ (hx q).2);exact ⟨s',q1,q2.trans ha,y,q3,g1,g2⟩
  ·rcases hP.op x (hx q).1 e hd with ⟨s,hs,ha,y,hy,g1⟩|g
   ·obtain ⟨s',q1,q2,q3⟩:=Kj (L:=L) hs hy (g1 ▸ (hx q).2);exact .inl ⟨s',q1,q2.trans ha,y,q3,g1⟩
   ·exact .inr g
 ·obtain ⟨r,hr⟩:=h.ac;refine ⟨r,fun s hs=>?_⟩;obtain ⟨s0,hs0,rfl,_⟩:=FR.1 hs;exact (hr s0 hs0).filter _
end Go.Proofs.YtmacaidmhchpgaaGreat

namespace Go.Proofs.YtmacaidmhchpgaaGreat
open Go Go.Proofs Go.Abs
theorem NL {t:List ai} (h:VT t) {k k':ai} (hk:k∈t) (hk':k'∈t) (e:k.Actor=k'.Actor):k=k':=by
 have h1:=(AR h hk).1;have h2:=(AR h hk').1;rw [e,h2] at h1;simpa using h1.symm
def lv (n:Int) (f:List Value) (l:List al):List al:=match l[l.length - 1]? with
 | some z=>if z.Txn_=n then l.set (l.length - 1) ⟨z.Txn_,f,z.Prepared⟩ else l++[⟨n,f,false⟩]
 | none=>[⟨n,f,false⟩]
theorem Ny {α:Type} {l:List α} {z:α} (h:l[l.length - 1]?=some z):l=l.take (l.length - 1)++[z]:=by
 have hl:=(abz.1 h).1;have:=ac8 (l.length - 1) l;rw [ac0 hl,(abz.1 h).2,acR (by omega)] at this;exact this.symm
theorem Wj {α:Type} {l:List α} {y z:α} (h:l[l.length - 1]?=some z):l.set (l.length - 1) y=l.take (l.length - 1)++[y]:=by
 have hl:=(abz.1 h).1;rw [List.set_eq_take_append_cons_drop,if_pos hl,acR (by omega)]
structure aao (n:Int) (f:List Value) (lay base new:List al):Prop where
 new:new=base++[⟨n,f,false⟩]
 old:∀ y∈base,y∈lay/\y.Txn_≠n/\y.Prepared=true
 all:∀ y∈lay,y∈base∨(y.Txn_=n/\y.Prepared=false)
 sub:base.Sublist lay
structure Exe (t:ae) (i:Nat) (x:Txn) (c:ah) (k:ai):Prop where
 hi:t.Txns[i]?=some x
 dn:x.Done < x.Calls.length
 hc:x.Calls[x.Done.toNat]?=some c
 hk:k∈t.Locks
 ka:k.Actor=c.Target
 ko:k.Owner=x.ID
section
variable {t:ae} {i:Nat} {x:Txn} {c:ah} {k:ai}
theorem Exe.np (h:TV t) (e:Exe t i x c k) {s:aa} (hs:s∈t.Stacks) {y:al} (hy:y∈s.Layers) (hn:y.Txn_=x.ID):y.Prepared=false:=by
 cases hp:y.Prepared with
 | false=>rfl
 | true=>
  have:=((h.st s hs).ex y hy x (abA e.hi) hn.symm).2 hp;have:=e.dn; omega
theorem Xx (h:TV t) (e:Exe t i x c k) (f:List Value) {lay:List al} (hl:lay=[]∨(⟨c.Target,lay⟩:aa)∈t.Stacks):∃ base,aao x.ID f lay base (lv x.ID f lay):=by
 rcases hl with rfl|hs
 ·exact ⟨[],⟨by simp [lv],by simp,by simp,.slnil⟩⟩
 ·have hS:=h.st _ hs;obtain ⟨z,hz⟩:=Ky hS.ne;have hlen:=adu.2 hS.ne;simp only at hz hlen;have hzm:=abA hz;unfold lv;rw [hz];by_cases q:z.Txn_=x.ID
  ·have hzp:=e.np h hs hzm q;simp only [q,if_true,Wj hz,hzp];refine ⟨_,⟨rfl,fun y hy=>?_,fun y hy=>?_,aem _ _⟩⟩
   ·obtain ⟨j,hj⟩:=abQ hy;rw [acb] at hj;split at hj
    ·have hym:=abA hj;have hp:y.Prepared=true:=by
      cases hp:y.Prepared with
      | true=>rfl
      | false=>have:=(hS.up j y hj hp).1; simp only at this; omega
     exact ⟨hym,fun e2=>(by rw [e.np h hs hym e2] at hp; cases hp),hp⟩
    ·cases hj
   ·rw [Ny hz] at hy;rcases abZ.1 hy with hy|hy
    ·exact .inl hy
    ·simp only [abV] at hy; rw [hy]; exact .inr ⟨q,hzp⟩
  ·simp only [q,if_false];have hall:∀ y∈lay,y.Prepared=true:=fun y hy=>by
    cases hp:y.Prepared with
    | true=>rfl
    | false=>
     exfalso;obtain ⟨j,hj⟩:=abQ hy;obtain ⟨g1,k',g2,g3,g4⟩:=hS.up j y hj hp;simp only at g1 g3;have:j=lay.length - 1:=by omega
     rw [this,hz] at hj;simp only [abx] at hj;have:=NL h.lk e.hk g2 (e.ka.trans g3.symm);rw [<-this,e.ko,<-hj] at g4;exact q g4.symm
   refine ⟨lay,⟨rfl,fun y hy=>⟨hy,fun e2=>?_,hall y hy⟩,fun y hy=>.inl hy,List.Sublist.refl _⟩⟩;have:=hall y hy;rw [e.np h hs hy e2] at this; cases this
theorem FD {α:Type} {l:List α} {i:Nat} {x y z:α} (hx:l[i]?=some x) (h:z∈l.set i y):z=y∨∃ j,j≠i/\l[j]?=some z:=by
 obtain ⟨j,hj⟩:=abQ h;rw [acj] at hj;split at hj
 ·split at hj
  ·simp only [abx] at hj; exact .inl hj.symm
  ·cases hj
 ·rename_i q; exact .inr ⟨j,fun e=>q e.symm,hj⟩
theorem Se {l:List Txn} {i:Nat} {x y:Txn} (hx:l[i]?=some x) (e:y.ID=x.ID):(l.set i y).map Txn.ID=l.map Txn.ID:=by
 rw [aef,e];exact tV (by rw [abH,hx]; rfl)
def AU (t:ae) (i:Nat) (x:Txn) (r:Value) (S:List aa):ae:=⟨t.Txns.set i ⟨x.ID,x.Born,x.Client,x.Seq,x.Calls,x.Done+1,r⟩,t.Locks,S⟩
theorem RS (h:TV t) (e:Exe t i x c k) {f:List Value} {r:Value} (hf:uJ f=true) (hr:m8 r=true) {A B:List aa} {lay:List al} (hsp:t.Stacks=A++⟨c.Target,lay⟩::B∨(t.Stacks=A++B/\lay=[]))
  (hA:∀ s∈A,rl s.Actor c.Target=true) (hB:∀ s∈B,rl c.Target s.Actor=true):TV (AU t i x r (A++⟨c.Target,lv x.ID f lay⟩::B)):=by
 have hx:=abA e.hi;obtain ⟨hX,hR⟩:=h.tx.x x hx;have hd1:=hX.d1; have hdn:=e.dn;have hAS:∀ s∈A,s∈t.Stacks:=fun s hs=>by rcases hsp with q|⟨q,_⟩<;>rw [q]<;>simp [hs]
 have hBS:∀ s∈B,s∈t.Stacks:=fun s hs=>by rcases hsp with q|⟨q,_⟩<;>rw [q]<;>simp [hs]
 have hcase:∀ s∈t.Stacks,s∈A∨s∈B∨s=⟨c.Target,lay⟩:=fun s hs=>by
  rcases hsp with q|⟨q,_⟩
  ·rw [q] at hs; simp only [abZ,ab7] at hs;rcases hs with hs|hs|hs
   ·exact .inl hs
   ·exact .inr (.inr hs)
   ·exact .inr (.inl hs)
  ·rw [q] at hs;rcases abZ.1 hs with hs|hs
   ·exact .inl hs
   ·exact .inr (.inl hs)
 have hlay:lay=[]∨(⟨c.Target,lay⟩:aa)∈t.Stacks:=by
  rcases hsp with q|⟨_,q⟩
  ·exact .inr (by rw [q]; simp)
  ·exact .inl q
 obtain ⟨base,hP⟩:=Xx h e f hlay;have hT:∀ {y:Txn},y∈t.Txns.set i ⟨x.ID,x.Born,x.Client,x.Seq,x.Calls,x.Done+1,r⟩->y=⟨x.ID,x.Born,x.Client,x.Seq,x.Calls,x.Done+1,r⟩∨(y∈t.Txns/\y.ID≠x.ID):=fun {y} hy=>by
  rcases FD e.hi hy with q|⟨j,hj,q⟩
  ·exact .inl q
  ·refine .inr ⟨abA q,fun e2=>hj ?_⟩;obtain ⟨h1,rfl⟩:=abz.1 q;obtain ⟨h2,h3⟩:=abz.1 e.hi;subst h3;have:=ab1.1 h.tx.so;rcases adr j i with q2|q2|q2
   ·have:=this j i h1 h2 q2; omega
   ·exact q2
   ·have:=this i j h2 h1 q2; omega
 have hids:ids (AU t i x r (A++⟨c.Target,lv x.ID f lay⟩::B))=ids t:=Se e.hi rfl;have hnw:(⟨x.ID,f,false⟩:al)∈lv x.ID f lay:=by rw [hP.new]; simp
 have hnS:(⟨c.Target,lv x.ID f lay⟩:aa)∈A++⟨c.Target,lv x.ID f lay⟩::B:=by simp
 have keep:∀ s∈t.Stacks,∀ y∈s.Layers,∃ s'∈A++(⟨c.Target,lv x.ID f lay⟩:aa)::B,s'.Actor=s.Actor/\∃ y'∈s'.Layers,y'.Txn_=y.Txn_/\y'.Prepared=y.Prepared:=fun s hs y hy=>by
  rcases hcase s hs with q|q|rfl
  ·exact ⟨s,by simp [q],rfl,y,hy,rfl,rfl⟩
  ·exact ⟨s,by simp [q],rfl,y,hy,rfl,rfl⟩
  ·refine ⟨_,hnS,rfl,?_⟩;rcases hP.all y hy with q|⟨q1,q2⟩
   ·exact ⟨y,by rw [hP.new]; simp [q],rfl,rfl⟩
   ·exact ⟨_,hnw,q1.symm,q2.symm⟩
 have keepL:∀ {a:Ref} {n:Int},Dq t a n->Dq (AU t i x r (A++⟨c.Target,lv x.ID f lay⟩::B)) a n:=fun ⟨s,hs,ha,y,hy,hn⟩=>by
  obtain ⟨s',g1,g2,y',g3,g4,_⟩:=keep s hs y hy;exact ⟨s',g1,g2.trans ha,y',g3,g4.trans hn⟩
 have newL:Dq (AU t i x r (A++⟨c.Target,lv x.ID f lay⟩::B)) c.Target x.ID:=⟨_,hnS,rfl,_,hnw,rfl⟩;have exold:∀ s∈t.Stacks,∀ l∈s.Layers,∀ y∈t.Txns.set i ⟨x.ID,x.Born,x.Client,x.Seq,x.Calls,x.Done+1,r⟩,y.ID=l.Txn_->(∃ c∈y.Calls.take y.Done.toNat,c.Target=s.Actor)/\(l.Prepared=true->y.Done=y.Calls.length):=fun s hs l hl y hy hyl=>by
  rcases hT hy with rfl|⟨q1,q2⟩
  ·have hnp:=e.np h hs hl hyl.symm;obtain ⟨⟨c',g1,g2⟩,_⟩:=(h.st s hs).ex l hl x hx hyl;refine ⟨⟨c',?_,g2⟩,fun q=>by rw [hnp] at q; cases q⟩;show c'∈x.Calls.take (x.Done+1).toNat;obtain ⟨j,hj⟩:=abQ g1;rw [acb] at hj;split at hj
   ·exact abA (i:=j) (by rw [acb,if_pos (by omega)]; exact hj)
   ·cases hj
  ·exact (h.st s hs).ex l hl y q1 hyl
 have svold:∀ s∈t.Stacks,SV (AU t i x r (A++⟨c.Target,lv x.ID f lay⟩::B)) s:=fun s hs=>
  ⟨(h.st s hs).ne,fun l hl=>hids ▸ (h.st s hs).id l hl,(h.st s hs).fi,(h.st s hs).up,exold s hs⟩
 refine ⟨⟨fun y hy=>?_,?_,?_⟩,h.lk,?_,fun s hs=>?_,fun y hy c' hc'=>?_,fun l hl=>?_,?_⟩
 ·rcases hT hy with rfl|⟨q,_⟩
  ·exact ⟨⟨hX.i1,hX.i2,hX.c1,hX.c2,by simp only; omega,by simp only; omega,hr,hX.ca⟩,hR.1,hR.2.1,hR.2.2.1,hR.2.2.2.1,hR.2.2.2.2.1,hR.2.2.2.2.2.1,fun q=>by simp only at q; omega⟩
  ·exact h.tx.x y q
 ·have hso:=h.tx.so;have:=(ac4 (f:=Txn.ID) (R:=fun a b:Int=>a < b)).2 hso;rw [<-Se e.hi (y:=⟨x.ID,x.Born,x.Client,x.Seq,x.Calls,x.Done+1,r⟩) rfl] at this;exact ac4.1 this
 ·show (t.Txns.set i _).length<=32;rw [acf]; exact h.tx.len
 ·show (A++⟨c.Target,lv x.ID f lay⟩::B).Pairwise _;have hss:=h.ss;have hAB:(A++B).Pairwise fun a b=>rl a.Actor b.Actor=true:=by
   rcases hsp with q|⟨q,_⟩
   ·rw [q] at hss; exact hss.sublist (List.Sublist.append_left (List.sublist_cons_self _ _) _)
   ·rwa [q] at hss
  obtain ⟨g1,g2,g3⟩:=ac5.1 hAB;refine ac5.2 ⟨g1,adN.2 ⟨fun s hs=>hB s hs,g2⟩,fun a ha b hb=>?_⟩;rcases ab7.1 hb with rfl|hb
  ·exact hA a ha
  ·exact g3 a ha b hb
 ·simp only [AU,abZ,ab7] at hs;rcases hs with hs|rfl|hs
  ·exact svold s (hAS s hs)
  ·have hbase:∀ y∈base,(⟨c.Target,lay⟩:aa)∈t.Stacks/\y∈lay:=fun y hy=>by
    have:=(hP.old y hy).1;rcases hlay with q|q
    ·rw [q] at this; cases this
    ·exact ⟨q,this⟩
   have hin:∀ {y:al},y∈lv x.ID f lay->y∈base∨y=⟨x.ID,f,false⟩:=fun hy=>by
    rw [hP.new] at hy;simpa using hy
   refine ⟨by rw [hP.new]; simp,fun l hl=>?_,fun l hl=>?_,fun j l hj hp=>?_,fun l hl y hy hyl=>?_⟩
   ·rw [hids];rcases hin hl with q|rfl
    ·exact (h.st _ (hbase l q).1).id l (hbase l q).2
    ·exact CK e.hi
   ·rcases hin hl with q|rfl
    ·exact (h.st _ (hbase l q).1).fi l (hbase l q).2
    ·exact hf
   ·simp only [hP.new] at hj ⊢;rcases adk j base.length with q|q
    ·rw [abM q] at hj;have:=(hP.old l (abA hj)).2.2;rw [hp] at this; cases this
    ·have hjl:=(abz.1 hj).1;simp at hjl;have:j=base.length:=by omega
     subst this;simp only [ack,List.length_singleton,true_and];simp at hj;exact ⟨k,e.hk,e.ka,by rw [<-hj]; exact e.ko⟩
   ·rcases hin hl with q|rfl
    ·exact exold _ (hbase l q).1 l (hbase l q).2 y hy hyl
    ·refine ⟨?_,fun q=>by cases q⟩;rcases hT hy with rfl|⟨_,q⟩
     ·refine ⟨c,?_,rfl⟩;show c∈x.Calls.take (x.Done+1).toNat;exact abA (i:=x.Done.toNat) (by rw [acb,if_pos (by omega)]; exact e.hc)
     ·exact absurd hyl q
  ·exact svold s (hBS s hs)
 ·rcases hT hy with rfl|⟨q,_⟩
  ·have hc2:c'∈x.Calls.take (x.Done+1).toNat:=hc';obtain ⟨j,hj⟩:=abQ hc2;rw [acb] at hj;split at hj
   ·rename_i hlt;rcases adk j x.Done.toNat with q|q
    ·exact keepL (h.pr x hx c' (abA (i:=j) (by rw [acb,if_pos q]; exact hj)))
    ·have:j=x.Done.toNat:=by omega
     rw [this,e.hc] at hj;simp only [abx] at hj;rw [<-hj]; exact newL
   ·cases hj
  ·exact keepL (h.pr y q c' hc')
 ·have hL:=h.lp l hl;have oldat:At x l.Actor->c.Target=l.Actor:=fun ⟨c2,g1,g2⟩=>by
   rw [e.hc] at g1;simp only [abx] at g1;rw [g1]; exact g2
  have hasx:x.ID=l.Owner->Dq t l.Actor x.ID∨c.Target=l.Actor:=fun q=>(hL.op x hx q e.dn).imp_right oldat;refine ⟨hids ▸ hL.ow,fun w hw=>hids ▸ hL.wa w hw,fun y hy hyo hd=>?_,fun y hy hyo hd=>?_,fun y hy hw=>?_⟩
  ·rcases hT hy with rfl|⟨q,_⟩
   ·rcases hasx hyo with ⟨s,hs,ha,z,hz,hn⟩|q
    ·obtain ⟨s',g1,g2,z',g3,g4,g5⟩:=keep s hs z hz;exact ⟨s',g1,g2.trans ha,z',g3,g4.trans hn,g5.trans (e.np h hs hz hn)⟩
    ·exact ⟨_,hnS,q,_,hnw,rfl,rfl⟩
   ·obtain ⟨s,hs,ha,z,hz,hn,hp⟩:=hL.dn y q hyo hd;obtain ⟨s',g1,g2,z',g3,g4,g5⟩:=keep s hs z hz;exact ⟨s',g1,g2.trans ha,z',g3,g4.trans hn,g5.trans hp⟩
  ·rcases hT hy with rfl|⟨q,_⟩
   ·rcases hasx hyo with q|q
    ·exact .inl (keepL q)
    ·exact .inl (q ▸ newL)
   ·exact (hL.op y q hyo hd).imp_left keepL
  ·rcases hT hy with rfl|⟨q,_⟩
   ·exfalso;have hat:=oldat (hL.wt x hx hw).2;have:=NL h.lk e.hk hl (e.ka.trans hat);subst this;have:=((h.lk.l k e.hk).w x.ID hw).2;rw [e.ko] at this; omega
   ·exact hL.wt y q hw
 ·obtain ⟨rk,hrk⟩:=h.ac;obtain ⟨M,hM⟩:∃ M,∀ n∈ids t,rk n<=M:=by
   generalize ids t=l
   induction l with
   | nil=>exact ⟨0,by simp⟩
   | cons a l ih=>
    obtain ⟨M,hM⟩:=ih;refine ⟨max M (rk a),fun n hn=>?_⟩;rcases ab7.1 hn with rfl|hn
    ·exact ac7 _ _
    ·exact acZ (hM n hn) (ac6 _ _)
  refine ⟨fun n=>if n=x.ID then M+1 else rk n,fun s hs=>?_⟩;have old:∀ s∈t.Stacks,Rk (fun n=>if n=x.ID then M+1 else rk n) s:=fun s hs=>by
   unfold Rk;rw [ab1];intro a b ha hb hab;have hlt:=ab1.1 (hrk s hs) a b ha hb hab;have hane:s.Layers[a].Txn_≠x.ID:=fun q=>by
    have:=((h.st s hs).up a _ (abD ha) (e.np h hs (acI ha) q)).1;omega
   simp only [hane,if_false];split
   ·have:=hM _ ((h.st s hs).id _ (acI ha)); omega
   ·exact hlt
  simp only [AU,abZ,ab7] at hs;rcases hs with hs|rfl|hs
  ·exact old s (hAS s hs)
  ·unfold Rk;simp only [hP.new];refine ac5.2 ⟨?_,by simp,fun a ha b hb=>?_⟩
   ·rcases hlay with q|q
    ·have:base=[]:=by rw [q] at hP; exact List.sublist_nil.1 hP.sub
     rw [this]; exact .nil
    ·exact (old _ q).sublist hP.sub
   ·simp only [abV] at hb;subst hb;simp only [if_true,(hP.old a ha).2.1,if_false];rcases hlay with q|q
    ·rw [q] at hP; have:=(hP.old a ha).1; cases this
    ·have:=hM _ ((h.st _ q).id a (hP.old a ha).1); omega
  ·exact old s (hBS s hs)
end
end Go.Proofs.YtmacaidmhchpgaaGreat

namespace Go.Proofs.YtmacaidmhchpgaaGreat
open Go Go.Proofs Go.Abs
theorem WY {t:ae} (h:TV t) {x:Txn} (hx:x∈t.Txns) (hd:x.Done=x.Calls.length) {j:Nat} {s:aa} (hj:t.Stacks[j]?=some s) {y:al} (hy:s.Layers[s.Layers.length - 1]?=some y) (hn:y.Txn_=x.ID) (hp:y.Prepared=false)
  {k:ai} (hk:k∈t.Locks) (hka:k.Actor=s.Actor) {L:List ai} (hv:VT L) (h1:∀ l'∈L,(l'∈t.Locks/\l'.Actor≠s.Actor)∨(l'.Actor=k.Actor/\l'.Owner∈k.Waiters/\∀ w∈l'.Waiters,w∈k.Waiters)) (h2:∀ l∈t.Locks,l.Actor≠s.Actor->l∈L) :
  TV ⟨t.Txns,L,t.Stacks.set j ⟨s.Actor,s.Layers.set (s.Layers.length - 1) ⟨y.Txn_,y.Fields,true⟩⟩⟩:=by
 have hs:=abA hj;have hS:=h.st s hs;have hym:=abA hy;have hne:∀ {s':aa} {i:Nat},i≠j->t.Stacks[i]?=some s'->s'.Actor≠s.Actor:=fun {s' i} hi q e=>by
  have:=E6 h.ss hj (abA q) e;obtain ⟨g1,rfl⟩:=abz.1 q;obtain ⟨g2,g3⟩:=abz.1 hj;have hp:=ab1.1 h.ss;rcases adr i j with q2|q2|q2
  ·have:=hp i j g1 g2 q2; rw [g3,e,jE] at this; cases this
  ·exact hi q2
  ·have:=hp j i g2 g1 q2; rw [g3,e,jE] at this; cases this
 have hin:∀ {s':aa},s'∈t.Stacks.set j ⟨s.Actor,s.Layers.set (s.Layers.length - 1) ⟨y.Txn_,y.Fields,true⟩⟩->s'=⟨s.Actor,s.Layers.set (s.Layers.length - 1) ⟨y.Txn_,y.Fields,true⟩⟩∨(s'∈t.Stacks/\s'.Actor≠s.Actor):=fun hs'=>by
  rcases FD hj hs' with q|⟨i,hi,q⟩
  ·exact .inl q
  ·exact .inr ⟨abA q,hne hi q⟩
 have hto:∀ {s':aa},s'∈t.Stacks->s'.Actor≠s.Actor->s'∈t.Stacks.set j ⟨s.Actor,s.Layers.set (s.Layers.length - 1) ⟨y.Txn_,y.Fields,true⟩⟩:=fun {s'} hs' q=>by
  obtain ⟨i,hi⟩:=abQ hs';have:j≠i:=fun e=>by rw [<-e,hj] at hi; simp only [abx] at hi; exact q (hi ▸ rfl)
  exact abA (i:=i) (by rw [adj this]; exact hi)
 have hnew:(⟨s.Actor,s.Layers.set (s.Layers.length - 1) ⟨y.Txn_,y.Fields,true⟩⟩:aa)∈t.Stacks.set j ⟨s.Actor,s.Layers.set (s.Layers.length - 1) ⟨y.Txn_,y.Fields,true⟩⟩:=
  abA (i:=j) (by rw [adX (abz.1 hj).1])
 have hlay:∀ {l:al},l∈s.Layers.set (s.Layers.length - 1) ⟨y.Txn_,y.Fields,true⟩->l=⟨y.Txn_,y.Fields,true⟩∨(l∈s.Layers/\l.Prepared=true):=fun {l} hl=>by
  rcases FD hy hl with q|⟨i,hi,q⟩
  ·exact .inl q
  ·refine .inr ⟨abA q,?_⟩;cases hpp:l.Prepared with
   | true=>rfl
   | false=>have:=(hS.up i l q hpp).1; omega
 have keepL:∀ {a:Ref} {n:Int},Dq t a n->Dq ⟨t.Txns,L,t.Stacks.set j ⟨s.Actor,s.Layers.set (s.Layers.length - 1) ⟨y.Txn_,y.Fields,true⟩⟩⟩ a n:=fun ⟨s',hs',ha,z,hz,hzn⟩=>by
  by_cases q:s'.Actor=s.Actor
  ·have:=E6 h.ss hj hs' q;subst this;refine ⟨_,hnew,ha,?_⟩;obtain ⟨i,hi⟩:=abQ hz;by_cases e:i=s'.Layers.length - 1
   ·subst e;rw [hi] at hy;simp only [abx] at hy;exact ⟨⟨y.Txn_,y.Fields,true⟩,abA (i:=s'.Layers.length - 1) (by rw [adX (abz.1 hi).1]),by rw [<-hy]; exact hzn⟩
   ·exact ⟨z,abA (i:=i) (by rw [adj (fun q=>e q.symm)]; exact hi),hzn⟩
  ·exact ⟨s',hto hs' q,ha,z,hz,hzn⟩
 refine ⟨⟨h.tx.x,h.tx.so,h.tx.len⟩,hv,?_,fun s' hs'=>?_,fun z hz c hc=>keepL (h.pr z hz c hc),fun l hl=>?_,?_⟩
 ·have:=(ac4 (f:=aa.Actor) (R:=fun a b=>rl a b=true)).2 h.ss;have e:(t.Stacks.set j ⟨s.Actor,s.Layers.set (s.Layers.length - 1) ⟨y.Txn_,y.Fields,true⟩⟩).map aa.Actor=t.Stacks.map aa.Actor:=by
   rw [aef]; exact tV (by rw [abH,hj]; rfl)
  rw [<-e] at this;exact ac4.1 this
 ·rcases hin hs' with rfl|⟨q,qa⟩
  ·refine ⟨fun e=>hS.ne (by have:=congrArg List.length e; simpa using this),fun l hl=>?_,fun l hl=>?_,fun i l hi hlp=>?_,fun l hl z hz e=>?_⟩
   ·rcases hlay hl with rfl|⟨q,_⟩
    ·exact hS.id y hym
    ·exact hS.id l q
   ·rcases hlay hl with rfl|⟨q,_⟩
    ·exact hS.fi y hym
    ·exact hS.fi l q
   ·exfalso;rcases hlay (abA hi) with rfl|⟨_,q⟩
    ·cases hlp
    ·rw [hlp] at q; cases q
   ·rcases hlay hl with rfl|⟨q,_⟩
    ·obtain ⟨g1,_⟩:=hS.ex y hym z hz e;refine ⟨g1,fun _=>?_⟩;have:z=x:=h.tx.uniq hz hx (e.trans hn);rw [this]; exact hd
    ·exact hS.ex l q z hz e
  ·have hS':=h.st s' q;exact ⟨hS'.ne,hS'.id,hS'.fi,fun i l hi hlp=>by
    obtain ⟨g1,k',g2,g3,g4⟩:=hS'.up i l hi hlp;exact ⟨g1,k',h2 k' g2 (g3 ▸ qa),g3,g4⟩,hS'.ex⟩
 ·rcases h1 l hl with ⟨q,qa⟩|⟨qa,qo,qw⟩
  ·have hL:=h.lp l q;refine ⟨hL.ow,hL.wa,fun z hz e hzd=>?_,fun z hz e hzd=>(hL.op z hz e hzd).imp_left keepL,hL.wt⟩;obtain ⟨s',g1,g2,g3⟩:=hL.dn z hz e hzd;exact ⟨s',hto g1 (g2 ▸ qa),g2,g3⟩
  ·have hL:=h.lp k hk;refine ⟨hL.wa _ qo,fun w hw=>hL.wa w (qw w hw),fun z hz e hzd=>?_,fun z hz e _=>.inr (qa ▸ (hL.wt z hz (e ▸ qo)).2),fun z hz hw=>qa ▸ hL.wt z hz (qw _ hw)⟩;have:=(hL.wt z hz (e ▸ qo)).1; omega
 ·obtain ⟨r,hr⟩:=h.ac;refine ⟨r,fun s' hs'=>?_⟩;rcases hin hs' with rfl|⟨q,_⟩
  ·have:=(ac4 (f:=al.Txn_) (R:=fun a b=>r a < r b)).2 (hr s hs);have e:(s.Layers.set (s.Layers.length - 1) ⟨y.Txn_,y.Fields,true⟩).map al.Txn_=s.Layers.map al.Txn_:=by
    rw [aef]; exact tV (by rw [abH,hy]; rfl)
   rw [<-e] at this;exact (ac4 (f:=al.Txn_) (R:=fun a b=>r a < r b)).1 this
  ·exact hr s' q
theorem Nt {w:List Int} (h:w.length≠0):uY w∈w:=abA (DM h)
theorem MR {n:Int}:∀ {t:List ai} {y:ai},y∈(kQ n t).1->∃ x∈t,y.Actor=x.Actor/\(∀ w∈y.Waiters,w∈x.Waiters)/\((y.Owner=x.Owner/\x.Owner≠n)∨y.Owner∈x.Waiters)
 | z::t,y,h=>by
  simp only [kQ] at h;have ih:∀ {y:ai},y∈(kQ n t).1->∃ x∈z::t,y.Actor=x.Actor/\(∀ w∈y.Waiters,w∈x.Waiters)/\((y.Owner=x.Owner/\x.Owner≠n)∨y.Owner∈x.Waiters):=fun q=>by
   obtain ⟨x,g1,g2⟩:=MR q;exact ⟨x,by simp [g1],g2⟩
  split at h
  ·split at h
   ·exact ih h
   ·rename_i e;rcases ab7.1 h with rfl|h
    ·exact ⟨z,by simp,rfl,fun w hw=>acG hw,.inr (Nt e)⟩
    ·exact ih h
  ·rename_i e;rcases ab7.1 h with rfl|h
   ·exact ⟨y,by simp,rfl,fun w hw=>hw,.inl ⟨rfl,e⟩⟩
   ·exact ih h
theorem I9 {n:Int}:∀ {t:List ai} {x:ai},x∈t->x.Owner≠n->x∈(kQ n t).1
 | z::t,x,h,hn=>by
  simp only [kQ];rcases ab7.1 h with rfl|h
  ·rw [if_neg hn]; simp
  ·split
   ·split
    ·exact I9 h hn
    ·exact aeA _ (I9 h hn)
   ·exact aeA _ (I9 h hn)
def DL (D:List Int) (t:List ai):List ai:=D.foldl (fun l n=>l.map (wd1 n)) t
def BI (D:List Int) (t:List ai):List ai:=D.foldl (fun l n=>(kQ n l).1) t
theorem KR:∀ {D:List Int} {t:List ai},VT t->VT (DL D t)
 | [],t,h=>h
 | n::D,t,h=>by unfold DL; rw [adS]; exact KR (D:=D) (WO h n)
theorem NN:∀ {D:List Int} {t:List ai},VT t->VT (BI D t)
 | [],t,h=>h
 | n::D,t,h=>by unfold BI; rw [adS]; exact NN (D:=D) (RR h n)
theorem KJ:∀ {D:List Int} {t:List ai} {y:ai},y∈DL D t->∃ x∈t,y.Actor=x.Actor/\y.Owner=x.Owner/\∀ w∈y.Waiters,w∈x.Waiters/\w∉D
 | [],t,y,h=>⟨y,h,rfl,rfl,fun w hw=>⟨hw,by simp⟩⟩
 | n::D,t,y,h=>by
  unfold DL at h;rw [adS] at h;obtain ⟨x,g1,g2,g3,g4⟩:=KJ (D:=D) h;obtain ⟨z,q1,rfl⟩:=ab9.1 g1;refine ⟨z,q1,g2,g3,fun w hw=>?_⟩;obtain ⟨q2,q3⟩:=g4 w hw;obtain ⟨q4,q5⟩:=adi.1 q2;exact ⟨q4,by simp only [neB,acH,decide_eq_false_iff_not] at q5; simp [q3,q5]⟩
theorem PK:∀ {D:List Int} {t:List ai} {x:ai},x∈t->∃ y∈DL D t,y.Actor=x.Actor/\y.Owner=x.Owner
 | [],t,x,h=>⟨x,h,rfl,rfl⟩
 | n::D,t,x,h=>by
  unfold DL;rw [adS];obtain ⟨y,g1,g2,g3⟩:=PK (D:=D) (ab9.2 ⟨x,h,rfl⟩:wd1 n x∈t.map (wd1 n));exact ⟨y,g1,g2,g3⟩
theorem NU {X:List Int}:∀ {D:List Int} {t:List ai} {y:ai},(∀ x∈t,∀ w∈x.Waiters,w∉X)->(∀ n∈D,n∈X)->y∈BI D t->∃ x∈t,y.Actor=x.Actor/\(∀ w∈y.Waiters,w∈x.Waiters)/\((y.Owner=x.Owner/\x.Owner∉D)∨y.Owner∈x.Waiters)
 | [],t,y,_,_,h=>⟨y,h,rfl,fun w hw=>hw,.inl ⟨rfl,by simp⟩⟩
 | n::D,t,y,hw,hD,h=>by
  unfold BI at h;rw [adS] at h;obtain ⟨x,g1,g2,g3,g4⟩:=NU (D:=D) (fun x hx w hw'=>by
   obtain ⟨z,q1,_,q3,_⟩:=MR hx;exact hw z q1 w (q3 w hw')) (fun m hm=>hD m (by simp [hm])) h
  obtain ⟨z,q1,q2,q3,q4⟩:=MR g1;refine ⟨z,q1,g2.trans q2,fun w hw'=>q3 w (g3 w hw'),?_⟩;rcases g4 with ⟨g4,g5⟩|g4
  ·rcases q4 with ⟨q4,q5⟩|q4
   ·exact .inl ⟨g4.trans q4,by rw [<-q4]; simp [g5]; rw [q4]; exact q5⟩
   ·exact .inr (g4 ▸ q4)
  ·exact .inr (q3 _ g4)
theorem NF:∀ {D:List Int} {t:List ai} {x:ai},x∈t->x.Owner∉D->x∈BI D t
 | [],t,x,h,_=>h
 | n::D,t,x,h,hn=>by
  unfold BI;rw [adS];simp only [ab7,not_or] at hn;exact NF (D:=D) (I9 h hn.1) hn.2
def abL (D:List Int) (t:List ai):List ai:=BI D (DL D t)
theorem Yn {t:ae} (h:TV t) (D:List Int):Lks t D (abL D t.Locks):=by
 refine ⟨NN (KR h.lk),fun l' hl'=>?_,fun l hl hn=>?_⟩
 ·obtain ⟨x,g1,g2,g3,g4⟩:=NU (X:=D) (fun x hx w hw=>by
   obtain ⟨z,_,_,_,q⟩:=KJ hx;exact (q w hw).2) (fun n hn=>hn) hl'
  obtain ⟨z,q1,q2,q3,q4⟩:=KJ g1;refine ⟨z,q1,g2.trans q2,?_,fun w hw=>(q4 w (g3 w hw)).1,?_,fun w hw=>(q4 w (g3 w hw)).2⟩
  ·rcases g4 with ⟨g4,_⟩|g4
   ·exact .inl (g4.trans q3)
   ·exact .inr (q4 _ g4).1
  ·rcases g4 with ⟨g4,g5⟩|g4
   ·rw [g4]; exact g5
   ·exact (q4 _ g4).2
 ·obtain ⟨y,g1,g2,g3⟩:=PK (D:=D) hl;exact ⟨y,NF g1 (g3 ▸ hn),g2,g3⟩
end Go.Proofs.YtmacaidmhchpgaaGreat

namespace Go.Proofs.YtmacaidmhchpgaaGreat
open Go Go.Proofs Go.Abs
def lpR (a b:Ref):Prop:=rl a b=true
def leR (a b:Ref):Prop:=¬ lpR b a
instance (a b:Ref):Decidable (lpR a b):=by unfold lpR; infer_instance
theorem FP {a b:Ref}:(sEq a.Type_ b.Type_ && sEq a.Key b.Key)=true↔a=b:=E3
theorem Pg (a:Ref):leR a a:=by unfold leR lpR; rw [jE]; simp
theorem K7 {y p c:Ref} (h1:leR y p) (h2:leR p c) (h3:¬ c=p):lpR y c:=by
 unfold leR lpR at *;have q:rl p c=true:=by
  rcases Ib p c with q|q|q
  ·exact q
  ·exact absurd q.symm h3
  ·exact absurd q h2
 rcases Ib y p with g|g|g
 ·exact yY g q
 ·rw [g]; exact q
 ·exact absurd g h1
theorem YL (N:Nat) {l:List Ref} (hl:l.length<=100000):∃ o,DJ (fun x y=>il N x y) l=some o/\o.Perm l/\o.Pairwise leR:=by
 have hlt:∀ x y,Go.Proofs.ltOf (fun x y=>(il N x y).getD 0) x y=rl x y:=by
  intro x y;rw [aec];simp only [Go.Proofs.ltOf,yP,acr,decide_eq_true_eq,AM]
 obtain ⟨o,ho⟩:=VD (c:=fun x y=>il N x y) (l:=l) (fun x y=>⟨_,yP N x y⟩) ⟨fun x=>by rw [hlt]; exact jE x,fun x y z h1 h2=>by rw [hlt] at h1 h2 ⊢; exact yY h1 h2,fun x y z h1 h2=>by
  rw [hlt] at h1 h2 ⊢;cases q:rl x z with
  | false=>rfl
  | true=>
   rcases Ib y x with g|g|g
   ·have:=yY g q; rw [h2] at this; cases this
   ·rw [g,q] at h2; cases h2
   ·rw [h1] at g; cases g⟩ (by omega)
 obtain ⟨hp,hs⟩:=JS ho;refine ⟨o,ho,hp,hs.imp (fun {a b} q=>?_)⟩;rw [yP,acr,AM] at q;exact q
structure OI (a l:List Ref) (k j:Nat):Prop where
 len:l.length=a.length
 kj:k<=j
 jl:j<=a.length
 j1:1<=j
 so:(l.take k).Pairwise lpR
 mem:∀ z,z∈l.take k↔z∈a.take j
 rest:∀ i,j<=i+1->l[i]?=a[i]?
 kj':k<=j
theorem Eh (a:List Ref) (hs:a.Pairwise leR) (ha:a.length<=100000) (v3:Nat) (h1:1<=v3) (kx:List Ref->Int->Option (List Ref)) :
  ∀ (n:Nat) (l:List Ref) (k m:Nat),a.length < v3+m+n->1<=m->OI a l k (v3+m)->k < v3+m->∃ l' k',OI a l' k' a.length/\gw a v3 kx n (l,(k:Int),(m:Int))=kx l' ((k':Nat):Int)
 | 0,l,k,m,hn,hm,h,hk=>by have:=h.jl; omega
 | n+1,l,k,m,hn,hm,h,hk=>by
  have hl:=h.len; have hj:=h.jl;rw [gw];by_cases hlt:v3+m < a.length
  ·rw [if_pos (by omega)];have e1:l[v3+m]?=a[v3+m]?:=h.rest _ (by omega);have e2:l[v3+(m - 1)]?=a[v3+(m - 1)]?:=h.rest _ (by omega);have g1:((l.drop v3).take (a.length - v3))[m]?=some a[v3+m]:=by
    rw [acS (by omega),acd,e1,abD hlt]
   have g2:((l.drop v3).take (a.length - v3))[m - 1]?=some (a[v3+(m - 1)]'(by omega)):=by
    rw [acS (by omega),acd,e2,abD (by omega)]
   rw [aR g1,w64 (by omega) (by omega),show ((m:Int) - 1)=((m - 1:Nat):Int) by omega,aR g2,w64 (n:=(m:Int)+1) (by omega) (by omega),show ((m:Int)+1)=((m+1:Nat):Int) by omega];have htk:∀ z,z∈a.take (v3+m+1)↔z∈a.take (v3+m)∨z=a[v3+m]:=by
    intro z;rw [ads,abD hlt,abZ,adM,abV]
   have hprev:(a[v3+(m - 1)]'(by omega))∈a.take (v3+m):=by
    refine abA (i:=v3+(m - 1)) ?_;rw [acS (by omega),abD (by omega)]
   by_cases e:a[v3+m]=(a[v3+(m - 1)]'(by omega))
   ·rw [if_pos (FP.2 e)];refine Eh a hs ha v3 h1 kx n l k (m+1) (by omega) (by omega) ⟨hl,by have:=h.kj; omega,by omega,by omega,h.so,fun z=>?_,fun i hi=>h.rest i (by omega),by omega⟩ (by omega);rw [h.mem,<-acy,htk];constructor
    ·exact .inl
    ·rintro (q|q)
     ·exact q
     ·rw [q,e]; exact hprev
   ·rw [if_neg (fun q=>e (FP.1 q))];have hkl:k < l.length:=by omega
    rw [aR (abD hkl),w64 (n:=(k:Int)+1) (by omega) (by omega),show ((k:Int)+1)=((k+1:Nat):Int) by omega,abX];refine Eh a hs ha v3 h1 kx n (l.set k a[v3+m]) (k+1) (m+1) (by omega) (by omega) ⟨by simp [hl],by omega,by omega,by omega,?_,fun z=>?_,fun i hi=>?_,by omega⟩ (by omega)
    ·rw [yw hkl,ac5];refine ⟨h.so,by simp,fun y hy z hz=>?_⟩;obtain rfl:=abV.1 hz;have hy':=(h.mem y).1 hy;obtain ⟨i,hi⟩:=acQ.1 hy';have hil:=(abz.1 hi).1;simp only [acJ] at hil;rw [acS (by omega),abD (by omega),abx] at hi;have hp1:leR (a[v3+(m - 1)]'(by omega)) a[v3+m]:=ab1.1 hs _ _ (by omega) hlt (by omega);rcases adk i (v3+(m - 1)) with q|q
     ·have h1:=ab1.1 hs i (v3+(m - 1)) (by omega) (by omega) q;rw [hi] at h1;exact K7 h1 hp1 e
     ·have:i=v3+(m - 1):=by omega
      subst this;rw [hi] at hp1 e;exact K7 (Pg _) hp1 e
    ·rw [yw hkl,abZ,abV,h.mem,<-acy,htk]
    ·rw [adj (by omega)]; exact h.rest i (by omega)
  ·rw [if_neg (by omega)];have:v3+m=a.length:=by omega
   rw [this] at h;exact ⟨l,k,h,rfl⟩
theorem Q4 {a l:List Ref} {k:Nat} (h:OI a l k a.length):jZ l (k:Int)=some (l.take k):=by
 have h1:=h.len; have h2:=h.kj;unfold jZ slx;rw [abX,if_pos ⟨by omega,by omega,by omega,by omega⟩];dsimp only;rw [if_pos ⟨by omega,by omega,by omega,by rw [MD (by omega)]; omega⟩];try dsimp only
 rw [KA (by omega)]
theorem JQ (N:Nat) (a:List Ref) (hs:a.Pairwise leR) (ha:a.length<=100000) (hN:100002<=N):∀ (m v:Nat),v+m=a.length->1<=v->(a.take v).Pairwise lpR->∃ r,iS a N m v ()=some r/\r.Pairwise lpR/\∀ z,z∈r↔z∈a
 | 0,v,hv,h1,hp=>⟨a,rfl,by rwa [ab3 (by omega)] at hp,fun z=>ae7⟩
 | m+1,v,hv,h1,hp=>by
  have hvl:v < a.length:=by omega
  have g1:a[v]?=some a[v]:=abD hvl;have g2:a[v - 1]?=some (a[v - 1]'(by omega)):=abD (by omega);have hprev:(a[v - 1]'(by omega))∈a.take v:=by
   refine abA (i:=v - 1) ?_;rw [acS (by omega),g2]
  have htk:∀ z,z∈a.take (v+1)↔z∈a.take v∨z=a[v]:=by
   intro z;rw [ads,g1,abZ,adM,abV]
  rw [iS,aR g1,w64 (by omega) (by omega),show ((v:Int) - 1)=((v - 1:Nat):Int) by omega,aR g2];by_cases e:a[v]=(a[v - 1]'(by omega))
  ·rw [if_pos (FP.2 e)];unfold slx;rw [if_pos ⟨by omega,by omega,by omega,by omega⟩];dsimp only;have hc:OI a a v (v+1):=⟨rfl,by omega,by omega,by omega,hp,fun z=>by
    rw [htk];constructor
    ·exact .inl
    ·rintro (q|q)
     ·exact q
     ·rw [q,e]; exact hprev,fun i _=>rfl,by omega⟩
   obtain ⟨l',k',h',e'⟩:=Eh a hs ha v h1 jZ N a v 1 (by omega) (by omega) hc (by omega);rw [show ((1:Int))=((1:Nat):Int) from rfl,e',Q4 h'];exact ⟨_,rfl,h'.so,fun z=>by rw [h'.mem,ab3 (abI _)]⟩
  ·rw [if_neg (fun q=>e (FP.1 q))];refine JQ N a hs ha hN m (v+1) (by omega) (by omega) ?_;rw [ads,g1,adM,ac5];refine ⟨hp,by simp,fun y hy z hz=>?_⟩;obtain rfl:=abV.1 hz;obtain ⟨i,hi⟩:=acQ.1 hy;have hil:=(abz.1 hi).1;simp only [acJ] at hil;rw [acS (by omega),abD (by omega),abx] at hi;have hp1:leR (a[v - 1]'(by omega)) a[v]:=ab1.1 hs _ _ (by omega) hvl (by omega);rcases adk i (v - 1) with q|q
   ·have h1:=ab1.1 hs i (v - 1) (by omega) (by omega) q;rw [hi] at h1;exact K7 h1 hp1 e
   ·have:i=v - 1:=by omega
    subst this;rw [hi] at hp1 e;exact K7 (Pg _) hp1 e
theorem RD (N:Nat) (hN:100002<=N) (a:List Ref) (hs:a.Pairwise leR) (ha:a.length<=100000):∃ r,kr N a=some r/\r.Pairwise lpR/\∀ z,z∈r↔z∈a:=by
 unfold kr;by_cases h:((a.length:Nat):Int) < 2
 ·rw [if_pos h];refine ⟨a,rfl,?_,fun z=>ae7⟩
  match a,h with
  | [],_=>exact List.Pairwise.nil
  | [x],_=>simp
  | _::_::_,h=>simp at h; omega
 ·rw [if_neg h];refine JQ N a hs ha hN (a.length - 1) 1 (by omega) (by omega) ?_
  match a,h with
  | x::xs,_=>simp
theorem zW (N:Nat) (hN:100002<=N) {x:Txn} (h1:1<=x.Calls.length) (h2:x.Calls.length<=4):∃ r,ji N x=some r/\r.Pairwise lpR/\∀ a,a∈r↔∃ c∈x.Calls,c.Target=a:=by
 have loop:∀ (xs:List ah) (v:Nat) (acc:List Ref),acc.length+xs.length<=1000->iG (ly N) xs v acc=ly N (acc++xs.map ah.Target):=by
  intro xs
  induction xs with
  | nil=>intro v acc _; rw [iG]; simp
  | cons c xs ih=>
   intro v acc hl;simp only [abW] at hl;rw [iG,s9 (by simp; omega),ih (v+1) (acc++[c.Target]) (by simp; omega)];simp
 rw [ji,loop x.Calls 0 [] (by simp; omega),abS,ly];obtain ⟨o,e1,e2,e3⟩:=YL N (l:=x.Calls.map ah.Target) (by simp; omega);have hne:(x.Calls.map ah.Target).isEmpty=false:=by cases hc:x.Calls with
  | nil=>rw [hc] at h1; simp at h1
  | cons=>rfl
 have hol:=e2.length_eq;simp only [abJ] at hol;rw [dq,if_neg (by rw [hne]; simp),e1,aby];obtain ⟨r,g1,g2,g3⟩:=RD N hN o e3 (by omega);rw [g1];exact ⟨r,rfl,g2,fun a=>by rw [g3,e2.mem_iff]; simp⟩
end Go.Proofs.YtmacaidmhchpgaaGreat

namespace Go.Proofs.YtmacaidmhchpgaaGreat
open Go Go.Proofs Go.Abs
def wA (S:List Int):List al->Bool->Option Int
 | [],_=>none
 | y::l,c=>if c=true/\y.Txn_∉S then some y.Txn_ else wA S l (c || decide (y.Txn_∈S))
def CC (S:List Int):List aa->Option Int
 | []=>none
 | s::l=>match wA S s.Layers false with
  | some n=>some n
  | none=>CC S l
def Mb (t:ae) (X:List Int):Prop:=∀ s∈t.Stacks,∀ (i j:Nat) y z,i < j->s.Layers[i]?=some y->s.Layers[j]?=some z->y.Txn_∈X->z.Txn_∈X
theorem K9 {S:List Int}:∀ {l:List al} {c:Bool} {n:Int},wA S l c=some n->n∉S/\∃ (j:Nat) (z:al),l[j]?=some z/\z.Txn_=n/\(c=true∨∃ (i:Nat) (y:al),i < j/\l[i]?=some y/\y.Txn_∈S)
 | y::l,c,n,h=>by
  rw [wA] at h;split at h
  ·rename_i q;simp only [abx] at h;exact ⟨h ▸ q.2,0,y,rfl,h,.inl q.1⟩
  ·obtain ⟨h1,j,z,h2,h3,h4⟩:=K9 h;refine ⟨h1,j+1,z,by simpa using h2,h3,?_⟩;rcases h4 with h4|⟨i,u,q1,q2,q3⟩
   ·rw [acM,decide_eq_true_eq] at h4;rcases h4 with h4|h4
    ·exact .inl h4
    ·exact .inr ⟨0,y,by omega,rfl,h4⟩
   ·exact .inr ⟨i+1,u,by omega,by simpa using q2,q3⟩
theorem K6 {S:List Int}:∀ {l:List al} {c:Bool},wA S l c=none->∀ (j:Nat) (z:al),l[j]?=some z->(c=true∨∃ (i:Nat) (y:al),i < j/\l[i]?=some y/\y.Txn_∈S)->z.Txn_∈S
 | y::l,c,h,j,z,hj,hc=>by
  rw [wA] at h;split at h
  ·cases h
  ·rename_i q;cases j with
   | zero=>
    simp only [abE,abx] at hj;subst hj;rcases hc with hc|⟨i,_,hi,_⟩
    ·by_cases g:y.Txn_∈S
     ·exact g
     ·exact absurd ⟨hc,g⟩ q
    ·omega
   | succ j=>
    rw [ab8] at hj;refine K6 h j z hj ?_;rcases hc with hc|⟨i,u,hi,hu,hm⟩
    ·exact .inl (by simp [hc])
    ·cases i with
     | zero=>
      simp only [abE,abx] at hu;subst hu;exact .inl (by simp [hm])
     | succ i=>
      rw [ab8] at hu;exact .inr ⟨i,u,by omega,hu,hm⟩
theorem L6 {S:List Int}:∀ {l:List aa} {n:Int},CC S l=some n->∃ s∈l,wA S s.Layers false=some n
 | s::l,n,h=>by
  rw [CC] at h;split at h
  ·rename_i m q;exact ⟨s,by simp,q.trans h⟩
  ·obtain ⟨s',g1,g2⟩:=L6 h;exact ⟨s',by simp [g1],g2⟩
theorem LQ {S:List Int}:∀ {l:List aa},CC S l=none->∀ s∈l,wA S s.Layers false=none
 | s::l,h,s',hs=>by
  rw [CC] at h;split at h
  ·cases h
  ·rename_i q;rcases ab7.1 hs with rfl|hs
   ·exact q
   ·exact LQ h s' hs
theorem UW (N:Nat) (rec5:Unit->Option (List Int)) (S:List Int) (hS:S.length<=1000) (rec2:List Int->Option (List Int)):∀ (l:List al) (v:Nat) (c:Bool),gm rec5 N S rec2 l v c=match wA S l c with
  | some n=>rec2 (S++[n])
  | none=>rec5 ()
 | [],v,c=>by rw [gm,wA]
 | y::l,v,c=>by
  have ih:=UW N rec5 S hS rec2 l (v+1);have e:∀ c,od (gm rec5 N S rec2 l (v+1)) N S y c=match wA S l (c || decide (y.Txn_∈S)) with
   | some n=>rec2 (S++[n])
   | none=>rec5 ():=fun c=>by
   rw [od,uH,aby,ih,ih];cases c<;>simp
  rw [gm,wA];cases c with
  | true=>
   rw [if_pos rfl,uH,aby,oa,s9 (by simp; omega)];by_cases q:y.Txn_∈S
   ·simp only [q,not_true_eq_false,and_false,if_false,decide_true,ab6,abN];rw [e]; simp [q]
   ·simp [q]
  | false=>
   rw [if_neg (by simp),oa,if_neg (by simp),if_neg (by simp)];exact e false
theorem Uc (N:Nat) (k:Option (List Int)) (S:List Int) (hS:S.length<=1000) (rec2:List Int->Option (List Int)):∀ (l:List aa) (v:Nat),jv k N S rec2 l v ()=match CC S l with
  | some n=>rec2 (S++[n])
  | none=>k
 | [],v=>by rw [jv,CC]
 | s::l,v=>by
  rw [jv,UW N _ S hS,Uc N k S hS rec2 l (v+1),CC];cases wA S s.Layers false<;>rfl
structure Dep (t:ae) (id:Int) (D:List Int):Prop where
 nd:D.Nodup
 me:id∈D
 sub:∀ n∈D,n∈ids t
 min:∀ X:List Int,id∈X->Mb t X->∀ n∈D,n∈X
theorem W9 (N:Nat) {l:List Int} (h:l≠[]) (hl:l.length<=1000):∃ r,slices_Sort_int N l=some r/\r.Perm l/\r.Pairwise (·<=·):=by
 cases l with
 | nil=>exact absurd rfl h
 | cons x xs=>
  have hs:D9 (x::xs)=some ((x::xs).mergeSort fun x y=>decide (x<=y)):=by unfold D9; rw [if_pos (by omega)]
  exact ⟨_,by simp only [slices_Sort_int,List.isEmpty_cons,abN,if_false]; exact hs,JX hs⟩
theorem G2 (N:Nat) {t:ae} (h:TV t) {id:Int}:∀ (k:Nat) (S:List Int),33 < k+S.length->Dep t id S->∃ D,kV N t k S=some D/\Dep t id D/\Mb t D/\D.Pairwise (· < ·)
 | 0,S,hk,hS=>by
  have:=rq hS.nd hS.sub;have:=h.tx.len;simp [ids] at *; omega
 | k+1,S,hk,hS=>by
  have hlen:S.length<=32:=by
   have:=rq hS.nd hS.sub;have:=h.tx.len;simp [ids] at *; omega
  rw [kV,Uc N _ S (by omega)];cases hg:CC S t.Stacks with
  | some n=>
   obtain ⟨s,hs,hl⟩:=L6 hg;obtain ⟨h1,j,z,h2,h3,h4⟩:=K9 hl;refine G2 N h k (S++[n]) (by simp; omega) ⟨ael.2 ⟨hS.nd,by simp,fun a ha b hb=>by simp only [abV] at hb; rw [hb]; exact fun e=>h1 (e ▸ ha)⟩,by simp [hS.me],fun m hm=>?_,fun X hX hc m hm=>?_⟩
   ·rcases abZ.1 hm with hm|hm
    ·exact hS.sub m hm
    ·simp only [abV] at hm; rw [hm,<-h3]; exact (h.st s hs).id z (abA h2)
   ·rcases abZ.1 hm with hm|hm
    ·exact hS.min X hX hc m hm
    ·simp only [abV] at hm;rcases h4 with h4|⟨i,y,g1,g2,g3⟩
     ·cases h4
     ·rw [hm,<-h3];exact hc s hs i j y z g1 g2 h2 (hS.min X hX hc _ g3)
  | none=>
   obtain ⟨r,e1,e2,e3⟩:=W9 N (l:=S) (afu hS.me) (by omega);simp only [wQ,e1,aby];have hnd:r.Nodup:=e2.nodup_iff.2 hS.nd;refine ⟨r,rfl,⟨hnd,e2.mem_iff.2 hS.me,fun n hn=>hS.sub n (e2.mem_iff.1 hn),fun X hX hc n hn=>hS.min X hX hc n (e2.mem_iff.1 hn)⟩,fun s hs i j y z hij hi hj hy=>?_,?_⟩
   ·rw [e2.mem_iff] at hy ⊢;exact K6 (LQ hg s hs) j z hj (.inr ⟨i,y,hij,hi,hy⟩)
   ·have:=(List.pairwise_and_iff.2 ⟨e3,hnd⟩:r.Pairwise fun a b=>a<=b/\a≠b);exact this.imp fun q=>by omega
theorem Ok (N:Nat) (hN:100<=N) {t:ae} (h:TV t) {id:Int} (hid:id∈ids t):∃ D,oZ N t id=some D/\Dep t id D/\Mb t D/\D.Pairwise (· < ·):=by
 rw [oZ];exact G2 N h N [id] (by simp; omega) ⟨by simp,by simp,fun n hn=>by simp only [abV] at hn; rw [hn]; exact hid,fun X hX _ n hn=>by simp only [abV] at hn; rw [hn]; exact hX⟩
def abT (t:ae) (D:List Int):ae:=⟨t.Txns.filter fun x=>rP D x.ID,abL D t.Locks,FX D t.Stacks⟩
theorem Pu (N:Nat) (hN:1001<=N) (k:List ai->Option (ae × List Int × Int)):∀ (D:List Int) (v:Nat) {L:List ai},VT L->pD k N D v L=k (DL D L)
 | [],v,L,_=>by rw [pD]; rfl
 | n::D,v,L,h=>by rw [pD,Zj N hN h,aby,Pu N hN k D (v+1) (WO h n)]; rfl
theorem QM (N:Nat) (hN:200<=N) (r:ae) (D0:List Int):∀ (D:List Int) (v:Nat) {L:List ai},VT L->pK r D0 N D v L=some (⟨r.Txns,BI D L,r.Stacks⟩,D0,0)
 | [],v,L,_=>by rw [pK]; rfl
 | n::D,v,L,h=>by rw [pK,UE N hN h,aby,QM N hN r D0 D (v+1) (RR h n)]; rfl
theorem KN (N:Nat) (hN:1001<=N) {t:ae} (h:TV t) {id:Int} (hid:id∈ids t):∃ D,k9 N t id=some (abT t D,D,0)/\TV (abT t D)/\Dep t id D/\Mb t D/\D.Pairwise (· < ·):=by
 obtain ⟨D,h1,h2,h3,h4⟩:=Ok N (by omega) h hid;obtain ⟨i,x,e,_⟩:=tK (N:=N) hid;refine ⟨D,?_,Ua h (Yn h D),h2,h3,h4⟩;rw [k9,rJ N (by omega) h,aby,if_pos rfl,e,aby,if_neg (by omega),h1,aby,NC N hN h,aby,Pu N hN _ D 0 (by exact h.lk),Dd,QM N (by omega) _ D D 0 (KR (by exact h.lk))];rfl
theorem Wc (N:Nat) (hN:1001<=N) {t:ae} (h:TV t) {id:Int} (hid:id∉ids t):k9 N t id=some (⟨[],[],[]⟩,[],6):=by
 rcases A9 N t id with ⟨_,e⟩|⟨i,x,_,hx,rfl⟩
 ·rw [k9,rJ N (by omega) h,aby,if_pos rfl,e,aby,if_pos (by omega)]
 ·exact absurd (CK hx) hid
end Go.Proofs.YtmacaidmhchpgaaGreat

namespace Go.Proofs.YtmacaidmhchpgaaGreat
open Go Go.Proofs Go.Abs
theorem Km {c:ah} (h:qU c=true):VA c.Target:=by
 simp only [qU,TE,abK,decide_eq_true_eq] at h;exact ⟨h.1.1.1.1.1,h.1.1.1.1.2,h.1.1.1.2⟩
def emp:ae:=⟨[],[],[]⟩
structure Nx (t:ae) (i:Nat) (x:Txn) (c:ah):Prop where
 hi:t.Txns[i]?=some x
 dn:x.Done < x.Calls.length
 hc:x.Calls[x.Done.toNat]?=some c
theorem LG (N:Nat) {t:ae} (h:TV t) (n:Int):(∃ i x c,Nx t i x c/\x.ID=n/\pk N t n=some (c,true))∨((∃ c,pk N t n=some (c,false))/\∀ x∈t.Txns,x.ID=n->x.Done=x.Calls.length):=by
 rcases A9 N t n with ⟨h1,e⟩|⟨i,x,e,hi,hid⟩
 ·refine .inr ⟨⟨_,by rw [pk,e,aby,if_pos (by omega),rv,if_pos rfl]⟩,fun x hx q=>absurd (ab9.2 ⟨x,hx,q⟩) h1⟩
 ·have hx:=(h.tx.x x (abA hi)).1;obtain ⟨m,e1,e2,e3⟩:=KI hx;by_cases q:x.Done < x.Calls.length
  ·have hm:m < x.Calls.length:=by omega
   have hc:x.Calls[m]?=some x.Calls[m]:=abD hm;refine .inl ⟨i,x,x.Calls[m],⟨hi,q,by rw [e2]; exact hc⟩,hid,?_⟩;rw [pk,e,aby,if_neg (by omega),aR hi,if_neg (by omega),rv,if_neg (by simp; omega),yl,aR hi,e1,aR hc,HZ (PJ (hx.ca _ (acI hm)))];rfl
  ·refine .inr ⟨⟨_,by rw [pk,e,aby,if_neg (by omega),aR hi,if_neg (by omega),rv,if_pos (by simp; omega)]⟩,fun y hy q2=>?_⟩;have:=h.tx.uniq hy (abA hi) (q2.trans hid.symm);rw [this]; have:=hx.d2; omega
theorem ED (N:Nat) (hN:200<=N) {t:ae} (h:TV t) {id born seq:Int} {client:ByteArray} {calls:List ah} (hx:XV ⟨id,born,client,seq,calls,0,⟨0,0,⟨#[]⟩,[],[]⟩⟩/\zB ⟨id,born,client,seq,calls,0,⟨0,0,⟨#[]⟩,[],[]⟩⟩) :
  (∃ e,e≠0/\(t.Txns.length=32∨∃ y∈t.Txns,id<=y.ID)/\j9 N t id born client seq calls=some (emp,e))∨(j9 N t id born client seq calls=some (⟨t.Txns++[⟨id,born,client,seq,calls,0,⟨0,0,⟨#[]⟩,[],[]⟩⟩],t.Locks,t.Stacks⟩,0)/\TV ⟨t.Txns++[⟨id,born,client,seq,calls,0,⟨0,0,⟨#[]⟩,[],[]⟩⟩],t.Locks,t.Stacks⟩):=by
 have hl:=h.tx.len;have e1:=(JI N ⟨id,born,client,seq,calls,0,⟨0,0,⟨#[]⟩,[],[]⟩⟩).is hx;have hJ3:po N t id born client seq calls=some (⟨t.Txns++[⟨id,born,client,seq,calls,0,⟨0,0,⟨#[]⟩,[],[]⟩⟩],t.Locks,t.Stacks⟩,0):=by
  rw [po,zb h,aby,Ep hx.1.bd,aby,s9 (by simp; omega)]
 rw [j9,rJ N hN h,aby,if_pos rfl,e1,aby,zs,if_neg (by simp)];have fin:(∀ y∈t.Txns,y.ID < id)->(∃ e,e≠0/\(t.Txns.length=32∨∃ y∈t.Txns,id<=y.ID)/\pG t (po N t id born client seq calls) false=some (emp,e))∨(pG t (po N t id born client seq calls) false=some (⟨t.Txns++[⟨id,born,client,seq,calls,0,⟨0,0,⟨#[]⟩,[],[]⟩⟩],t.Locks,t.Stacks⟩,0)/\TV ⟨t.Txns++[⟨id,born,client,seq,calls,0,⟨0,0,⟨#[]⟩,[],[]⟩⟩],t.Locks,t.Stacks⟩):=fun hlt=>by
  rw [pG,if_neg (by simp)];by_cases q:t.Txns.length=32
  ·rw [if_pos (by omega)]; exact .inl ⟨5,by simp,.inl q,rfl⟩
  ·rw [if_neg (by omega),hJ3]; exact .inr ⟨rfl,VQ h hx rfl hlt (by omega)⟩
 by_cases h0:0 < t.Txns.length
 ·have hg:t.Txns[t.Txns.length - 1]?=some (t.Txns[t.Txns.length - 1]'(by omega)):=abD (by omega);rw [if_pos (by omega),w64 (by omega) (by omega),show ((t.Txns.length:Int) - 1)=((t.Txns.length - 1:Nat):Int) by omega,aR hg];by_cases q:id<=(t.Txns[t.Txns.length - 1]'(by omega)).ID
  ·rw [pG,if_pos (by simp [q])]; exact .inl ⟨8,by simp,.inr ⟨_,acI _,q⟩,rfl⟩
  ·rw [show decide (id<=(t.Txns[t.Txns.length - 1]'(by omega)).ID)=false by simp [q]];refine fin fun y hy=>?_;obtain ⟨j,hj,rfl⟩:=ad5.1 hy;rcases adk j (t.Txns.length - 1) with q2|q2
   ·have:=ab1.1 h.tx.so j (t.Txns.length - 1) hj (by omega) q2; omega
   ·have:j=t.Txns.length - 1:=by omega
    subst this; omega
 ·rw [if_neg (by omega)];refine fin fun y hy=>?_;have:=ae6 hy; omega
inductive Acq (t:List ai) (a:Ref) (n:Int):List ai × Int × Int->Prop where
 | own {k:ai} (hk:k∈t) (ha:k.Actor=a) (ho:k.Owner=n):Acq t a n (t,1,0)
 | die {k:ai} (hk:k∈t) (ha:k.Actor=a) (ho:k.Owner < n):Acq t a n (t,3,0)
 | old {k:ai} (hk:k∈t) (ha:k.Actor=a) (ho:n < k.Owner) (hw:n∈k.Waiters):Acq t a n (t,2,0)
 | full {k:ai} (hk:k∈t) (ha:k.Actor=a) (ho:n < k.Owner) (hw:n∉k.Waiters) (hl:k.Waiters.length=32):Acq t a n ([],0,5)
 | wait {i:Nat} {k:ai} (hi:t[i]?=some k) (ha:k.Actor=a) (ho:n < k.Owner) (hw:n∉k.Waiters):Acq t a n (t.set i ⟨k.Actor,k.Owner,EC k.Waiters n⟩,2,0)
 | many (hn:∀ k∈t,k.Actor≠a) (hl:t.length=128):Acq t a n ([],0,5)
 | new (hn:∀ k∈t,k.Actor≠a):Acq t a n (t.take (pa t a)++[⟨a,n,[]⟩]++t.drop (pa t a),1,0)
theorem Vb {t:List ai} (h:VT t) (a:Ref) (n:Int):Acq t a n (acq t a n):=by
 unfold acq;by_cases hh:vv t a=true
 ·obtain ⟨k,hk,ha⟩:=zc hh;have hm:=abA hk;rw [if_pos hh,hk];simp only;by_cases e1:k.Owner=n
  ·rw [if_pos e1]; exact .own hm ha e1
  ·rw [if_neg e1];by_cases e2:k.Owner < n
   ·rw [if_pos e2]; exact .die hm ha e2
   ·rw [if_neg e2];by_cases e3:n∈k.Waiters
    ·rw [if_pos e3]; exact .old hm ha (by omega) e3
    ·rw [if_neg e3];by_cases e4:k.Waiters.length=32
     ·rw [if_pos e4]; exact .full hm ha (by omega) e3 e4
     ·rw [if_neg e4]; exact .wait hk ha (by omega) e3
 ·have hn:∀ k∈t,k.Actor≠a:=fun k hk e=>hh (e ▸ (AR h hk).2);rw [if_neg hh];by_cases e:t.length=128
  ·rw [if_pos e]; exact .many hn e
  ·rw [if_neg e]; exact .new hn
theorem UF {t:ae} (h:TV t) {i:Nat} {x:Txn} {c:ah} (hx:Nx t i x c) {L:List ai} {o:Int} (ha:acq t.Locks c.Target x.ID=(L,o,0)):TV ⟨t.Txns,L,t.Stacks⟩/\(o=1->∃ k∈L,k.Actor=c.Target/\k.Owner=x.ID):=by
 have hxm:=abA hx.hi;have hX:=(h.tx.x x hxm).1;have hva:=Km (hX.ca c (abA hx.hc));have hvt:VT L:=by have:=Yb h.lk hva hX.i1 hX.i2; rw [ha] at this; exact this
 have hA:=Vb h.lk c.Target x.ID;rw [ha] at hA;have hxu:∀ {y:Txn},y∈t.Txns->y.ID=x.ID->y.Done < y.Calls.length/\At y c.Target:=fun hy e=>by
  rw [h.tx.uniq hy hxm e]; exact ⟨hx.dn,c,hx.hc,rfl⟩
 cases hA with
 | own hk hka ho=>exact ⟨h,fun _=>⟨_,hk,hka,ho⟩⟩
 | die hk ha ho=>exact ⟨h,fun q=>by cases q⟩
 | old hk ha ho hw=>exact ⟨h,fun q=>by cases q⟩
 | @wait j k hj hka ho hw=>
  have hkm:=abA hj;refine ⟨NZ h hvt (fun l hl=>?_) fun s hs y hy hp k' hk' e1 e2=>?_,fun q=>by cases q⟩
  ·rcases FD hj hl with rfl|⟨_,_,q⟩
   ·have hL:=h.lp k hkm;refine ⟨hL.ow,fun w hw'=>?_,hL.dn,hL.op,fun y hy hw'=>?_⟩
    ·rcases Ke.1 hw' with rfl|q
     ·exact CK hx.hi
     ·exact hL.wa w q
    ·rcases Ke.1 hw' with q|q
     ·exact hka ▸ hxu hy q
     ·exact hL.wt y hy q
   ·exact h.lp l (abA q)
  ·obtain ⟨m,hm⟩:=abQ hk';by_cases q:j=m
   ·subst q;rw [hj] at hm;simp only [abx] at hm;subst hm;exact ⟨⟨k.Actor,k.Owner,EC k.Waiters x.ID⟩,abA (i:=j) (by rw [adX (abz.1 hj).1]),e1,e2⟩
   ·exact ⟨k',abA (i:=m) (by rw [adj q]; exact hm),e1,e2⟩
 | new hn=>
  have hmem:∀ {l:ai},l∈t.Locks.take (pa t.Locks c.Target)++[⟨c.Target,x.ID,[]⟩]++t.Locks.drop (pa t.Locks c.Target)↔l=⟨c.Target,x.ID,[]⟩∨l∈t.Locks:=fun {l}=>by
   have e:(l∈t.Locks)↔(l∈t.Locks.take (pa t.Locks c.Target)∨l∈t.Locks.drop (pa t.Locks c.Target)):=by
    rw [<-abZ,ac8]
   rw [e];simp only [abZ,abV];constructor
   ·rintro ((q|q)|q)
    ·exact .inr (.inl q)
    ·exact .inl q
    ·exact .inr (.inr q)
   ·rintro (q|q|q)
    ·exact .inl (.inr q)
    ·exact .inl (.inl q)
    ·exact .inr q
  refine ⟨NZ h hvt (fun l hl=>?_) fun s hs y hy hp k' hk' e1 e2=>⟨k',hmem.2 (.inr hk'),e1,e2⟩,fun _=>⟨_,hmem.2 (.inl rfl),rfl,rfl⟩⟩;rcases hmem.1 hl with rfl|q
  ·refine ⟨CK hx.hi,by simp,fun y hy e q=>?_,fun y hy e _=>.inr (hxu hy e).2,by simp⟩;have:=(hxu hy e).1; omega
  ·exact h.lp l q
inductive Za (N:Nat) (t:ae) (n:Int):Prop where
 | no (e:Int) (he:e≠0) (hq:(∀ x∈t.Txns,x.ID=n->x.Done=x.Calls.length)∨∃ i x c,Nx t i x c/\x.ID=n/\acq t.Locks c.Target n=([],0,5)) (h:iv N t n=some (emp,0,[],e))
 | got {i:Nat} {x:Txn} {c:ah} {L:List ai} {o:Int} (hx:Nx t i x c) (hn:x.ID=n) (ho:o=1∨o=2) (ha:acq t.Locks c.Target n=(L,o,0)) (h:iv N t n=some (⟨t.Txns,L,t.Stacks⟩,o,[],0))
 | died {i:Nat} {x:Txn} {c:ah} {k:ai} {D:List Int} (hx:Nx t i x c) (hn:x.ID=n) (hk:k∈t.Locks) (hka:k.Actor=c.Target) (ho:k.Owner < n) (h:iv N t n=some (abT t D,3,D,0)) (hT:TV (abT t D)) (hD:Dep t n D)
theorem KO (N:Nat) (hN:1001<=N) {t:ae} (h:TV t) (n:Int):Za N t n:=by
 rcases LG N h n with ⟨i,x,c,hx,hn,e⟩|⟨⟨c,e⟩,hq⟩
 ·have hxm:=abA hx.hi;have hX:=(h.tx.x x hxm).1;have hva:=Km (hX.ca c (abA hx.hc));have ha:=Yv N (by omega) h.lk hva (hn ▸ hX.i1) (hn ▸ hX.i2);have e0:iv N t n=if (acq t.Locks c.Target n).2.2=0 then (if (acq t.Locks c.Target n).2.1=3 then (k9 N t n).bind fun r8=>some (r8.1,(acq t.Locks c.Target n).2.1,r8.2.1,r8.2.2) else some (⟨t.Txns,(acq t.Locks c.Target n).1,t.Stacks⟩,(acq t.Locks c.Target n).2.1,[],0)) else some (emp,0,[],(acq t.Locks c.Target n).2.2):=by
   rw [iv,rJ N (by omega) h,aby,if_pos rfl,e,aby,if_pos rfl,ha,aby,zb h];rfl
  have hA:=Vb h.lk c.Target n;generalize hg:acq t.Locks c.Target n=r at hA e0;cases hA with
  | own hk hka ho=>exact .got hx hn (.inl rfl) hg (by rw [e0]; simp)
  | @die k hk hka ho=>
   obtain ⟨D,d1,d2,d3,_⟩:=KN N hN h (id:=n) (hn ▸ CK hx.hi);exact .died hx hn hk hka ho (by rw [e0]; simp [d1]) d2 d3
  | old hk hka ho hw=>exact .got hx hn (.inr rfl) hg (by rw [e0]; simp)
  | full hk hka ho hw hl=>exact .no 5 (by simp) (.inr ⟨i,x,c,hx,hn,hg⟩) (by rw [e0]; simp)
  | wait hi hka ho hw=>exact .got hx hn (.inr rfl) hg (by rw [e0]; simp)
  | many hm hl=>exact .no 5 (by simp) (.inr ⟨i,x,c,hx,hn,hg⟩) (by rw [e0]; simp)
  | new hm=>exact .got hx hn (.inl rfl) hg (by rw [e0]; simp)
 ·exact .no 6 (by simp) (.inl hq) (by rw [iv,rJ N (by omega) h,aby,if_pos rfl,e,aby,if_neg (by simp)]; rfl)
end Go.Proofs.YtmacaidmhchpgaaGreat

namespace Go.Proofs.YtmacaidmhchpgaaGreat
open Go Go.Proofs Go.Abs
def ps (S:List aa) (a:Ref):Nat:=plc (fun s=>rl s.Actor a) S
theorem Tj {S:List aa} (hs:S.Pairwise fun a b=>rl a.Actor b.Actor=true) (a:Ref):Sy (fun s:aa=>rl s.Actor a) S:=hs.imp fun h1 h2=>yY h1 h2
theorem Pb {S:List aa} (hs:S.Pairwise fun a b=>rl a.Actor b.Actor=true) (hl:S.length<=1000) (N:Nat) (a:Ref) (kx:Int->Option (Int × Bool)) :
  ∀ (n i j:Nat),j < i+n->i<=ps S a->ps S a<=j->j<=S.length->bp S N a kx n ((i:Int),(j:Int))=kx ((ps S a:Nat):Int)
 | 0,i,j,h1,h2,h3,h4=>by omega
 | n+1,i,j,h1,h2,h3,h4=>by
  rw [bp];by_cases hij:i < j
  ·rw [if_pos (by omega),Pj (by omega)];have hm:(i+j) / 2 < S.length:=by omega
   have hx:S[(i+j) / 2]?=some S[(i+j) / 2]:=abD hm;have hc:=uy (Tj hs a) hx;rw [aR hx,qy,yP];simp only [aby,AM];by_cases q:rl S[(i+j) / 2].Actor a=true
   ·rw [if_pos q,w64 (by omega) (by omega)];have:(i+j) / 2 < ps S a:=hc.1 q;exact Pb hs hl N a kx n ((i+j) / 2+1) j (by omega) (by omega) h3 h4
   ·rw [if_neg q];have:¬ (i+j) / 2 < ps S a:=fun g=>q (hc.2 g);exact Pb hs hl N a kx n i ((i+j) / 2) (by omega) h2 (by omega) (by omega)
  ·rw [if_neg (by omega)];have:i=ps S a:=by omega
   rw [this]
theorem RE {S:List aa} (hs:S.Pairwise fun a b=>rl a.Actor b.Actor=true) (a:Ref):∃ A B,A.length=ps S a/\(∀ s∈A,rl s.Actor a=true)/\(∀ s∈B,rl a s.Actor=true)/\((∃ lay,S=A++⟨a,lay⟩::B)∨(S=A++B/\∀ s,S[ps S a]?=some s->s.Actor≠a)):=by
 have hle:ps S a<=S.length:=Hw S;have hA:∀ s∈S.take (ps S a),rl s.Actor a=true:=fun s h=>by
  obtain ⟨i,hi⟩:=abQ h;rw [acb] at hi;split at hi
  ·exact (uy (Tj hs a) hi).2 (by unfold ps at *; omega)
  ·cases hi
 have hB:∀ (i:Nat) s,ps S a<=i->S[i]?=some s->rl s.Actor a=false:=fun i s hi h=>by
  cases q:rl s.Actor a with
  | false=>rfl
  | true=>have:=(uy (Tj hs a) h).1 q; unfold ps at hi; omega
 have hlt:∀ (i:Nat) s,ps S a<=i->S[i]?=some s->s.Actor≠a->rl a s.Actor=true:=fun i s hi h hne=>by
  rcases Ib s.Actor a with q|q|q
  ·rw [hB i s hi h] at q; cases q
  ·exact absurd q hne
  ·exact q
 by_cases hq:∃ s,S[ps S a]?=some s/\s.Actor=a
 ·obtain ⟨s,h1,h2⟩:=hq;have hl:=(abz.1 h1).1;have e:S=S.take (ps S a)++s::S.drop (ps S a+1):=by
   have:=ac8 (ps S a) S;rw [ac0 hl,(abz.1 h1).2] at this;exact this.symm
  refine ⟨S.take (ps S a),S.drop (ps S a+1),by simp; omega,hA,fun z hz=>?_,.inl ⟨s.Layers,by cases s; simp only at h2; subst h2; exact e⟩⟩;obtain ⟨i,hi⟩:=abQ hz;rw [acd] at hi;have:=ab1.1 hs (ps S a) (ps S a+1+i) hl (abz.1 hi).1 (by omega);rw [(abz.1 h1).2,(abz.1 hi).2,h2] at this;exact this
 ·refine ⟨S.take (ps S a),S.drop (ps S a),by simp; omega,hA,fun z hz=>?_,.inr ⟨(ac8 _ _).symm,fun s h1 h2=>hq ⟨s,h1,h2⟩⟩⟩;obtain ⟨i,hi⟩:=abQ hz;rw [acd] at hi;cases i with
  | zero=>exact hlt _ z (by omega) hi fun q=>hq ⟨z,hi,q⟩
  | succ i=>
   have hl0:ps S a < S.length:=by have:=(abz.1 hi).1; omega
   have h0:=hlt (ps S a) _ (abI _) (abD hl0) fun q=>hq ⟨_,abD hl0,q⟩;have:=ab1.1 hs (ps S a) (ps S a+(i+1)) hl0 (abz.1 hi).1 (by omega);rw [(abz.1 hi).2] at this;exact yY h0 this
def AV (S:List aa) (a:Ref) (n:Int) (f:List Value):Prop:=∃ s∈S,s.Actor=a/\∃ y,s.Layers[s.Layers.length - 1]?=some y/\y.Txn_=n/\y.Fields=f
theorem SD (n:Int) (f:List Value) (l:List al):∃ y,(lv n f l)[(lv n f l).length - 1]?=some y/\y.Txn_=n/\y.Fields=f:=by
 unfold lv;split
 ·rename_i z hz;split
  ·rename_i e;refine ⟨⟨z.Txn_,f,z.Prepared⟩,?_,e,rfl⟩;rw [acf,adX (abz.1 hz).1]
  ·exact ⟨⟨n,f,false⟩,by simp,rfl,rfl⟩
 ·exact ⟨⟨n,f,false⟩,by simp,rfl,rfl⟩
theorem R5 (N:Nat) {t:ae} {i:Nat} {x:Txn} {a:Ref} {f:List Value} (hf:uJ f=true) {r:Value} {A B:List aa} {lay:List al} (hl:lay.length<=1000) (b:Bool) (hd0:0<=x.Done) (hd1:x.Done<=1000) :
  rK ((A.length:Nat),b) x.ID N f t ((i:Nat):Int) x r (A++⟨a,lay⟩::B)=some (AU t i x r (A++⟨a,lv x.ID f lay⟩::B),0):=by
 have hf':=sP (N:=N) (Gp hf);have hset:∀ {l l':List al},(A++(⟨a,l⟩:aa)::B).set A.length ⟨a,l'⟩=A++⟨a,l'⟩::B:=IW;rw [rK,aR Ab];have J3:∀ {l:List al} {y:al},l[l.length - 1]?=some y->l.length<=2000->0 < l.length->ya ((A.length:Nat),b) N f t ((i:Nat):Int) x r (A++⟨a,l⟩::B) ((l.length:Nat):Int)=some (AU t i x r (A++⟨a,l.set (l.length - 1) ⟨y.Txn_,f,y.Prepared⟩⟩::B),0):=fun {l y} hy hl h0=>by
  rw [ya];dsimp only;rw [aR Ab,hf',aby,w64 (by omega) (by omega),show ((l.length:Int) - 1)=((l.length - 1:Nat):Int) by omega];dsimp only;rw [aR hy,w64 (n:=x.Done+1) (by omega) (by omega),abX,abX,abX,hset];rfl
 by_cases h0:lay=[]
 ·subst h0;rw [if_pos (by simp),uM,if_pos rfl];dsimp only;rw [s9 (by simp),abX,hset,w64 (by simp) (by simp)];have:=J3 (l:=[⟨x.ID,[],false⟩]) (y:=⟨x.ID,[],false⟩) rfl (by simp) (by simp);simpa [lv] using this
 ·have hp:=adu.2 h0;obtain ⟨z,hz⟩:=Ky h0;dsimp only;rw [if_neg (by omega),w64 (by omega) (by omega),show ((lay.length:Int) - 1)=((lay.length - 1:Nat):Int) by omega,aR hz];unfold lv;rw [hz];by_cases q:z.Txn_=x.ID
  ·rw [uM,if_neg (by simp [q])];have:=J3 hz (by omega) hp;simp only [q,if_true] at this ⊢;exact this
  ·rw [uM,if_pos (by simp [q])];dsimp only;rw [s9 (by simp; omega),abX,hset,w64 (by omega) (by omega)];have hlen:(lay++[(⟨x.ID,[],false⟩:al)]).length=lay.length+1:=by simp
   have:=J3 (l:=lay++[⟨x.ID,[],false⟩]) (y:=⟨x.ID,[],false⟩) (by simp) (by omega) (by simp);rw [hlen,show (((lay.length+1:Nat)):Int)=(lay.length:Int)+1 by omega] at this;rw [this];simp only [q,if_false];simp
theorem RY (N:Nat) (hN:200<=N) {t:ae} (h:TV t) {i:Nat} {x:Txn} {c:ah} {k:ai} (e:Exe t i x c k) {f:List Value} {r:Value} (hf:uJ f=true) (hr:m8 r=true) :
  ∃ S,lN N t x.ID f r=some (AU t i x r S,0)/\TV (AU t i x r S)/\AV S c.Target x.ID f:=by
 have lastf:∀ (A B:List aa) (lay:List al),AV (A++⟨c.Target,lv x.ID f lay⟩::B) c.Target x.ID f:=fun A B lay=>⟨⟨c.Target,lv x.ID f lay⟩,by simp,rfl,SD _ _ _⟩;have hxm:=abA e.hi;have hX:=(h.tx.x x hxm).1;have hsl:=h.stacks_len;obtain ⟨i2,x2,e1,e2,e3⟩:=tK (N:=N) (CK e.hi);have hxe:x2=x:=h.tx.uniq (abA e2) hxm e3;subst hxe;have hii:i2=i:=by
  obtain ⟨g1,g2⟩:=abz.1 e2;obtain ⟨g3,g4⟩:=abz.1 e.hi;have:=ab1.1 h.tx.so;rcases adr i2 i with q|q|q
  ·have:=this i2 i g1 g3 q; rw [g2,g4] at this; omega
  ·exact q
  ·have:=this i i2 g3 g1 q; rw [g2,g4] at this; omega
 subst hii;have hnext:pk N t x2.ID=some (c,true):=by
  rcases LG N h x2.ID with ⟨j,y,c',hy,hyn,g⟩|⟨_,hq⟩
  ·have:y=x2:=h.tx.uniq (abA hy.hi) hxm hyn;subst this;have:=hy.hc;rw [e.hc] at this;simp only [abx] at this;rw [this]; exact g
  ·have:=hq x2 hxm rfl; have:=e.dn; omega
 have hown:=PM N hN h.lk e.hk;rw [e.ka,e.ko] at hown;obtain ⟨A,B,hAl,hA,hB,hsp⟩:=RE h.ss c.Target;have hps:ps t.Stacks c.Target<=t.Stacks.length:=Hw _;have hbs:bg N t.Stacks c.Target=bE t.Stacks N c.Target ((ps t.Stacks c.Target:Nat):Int):=by
  have:=Pb h.ss (by omega) N c.Target (bE t.Stacks N c.Target) N 0 t.Stacks.length (by omega) (by omega) hps (by omega);rw [bg,show ((0:Int))=((0:Nat):Int) from rfl,this]
 have hd:=hX.d1; have hd2:=hX.d2; have hc2:=hX.c2;have main:∀ {q:Option (ae × Int)},rM N t x2.ID r f=q->lN N t x2.ID f r=q:=fun hq=>by
  rw [lN,rJ N hN h,aby,if_pos rfl,EV,hf,aby,if_pos rfl,rb,hr,aby,ym,if_neg (by simp),hq]
 have hJ5:∀ {q:Option (ae × Int)},(((bg N t.Stacks c.Target).bind fun r14=>if r14.2=true then rK r14 x2.ID N f t ((i2:Nat):Int) x2 r t.Stacks else (bR N t.Stacks r14.1 [⟨c.Target,[]⟩]).bind fun r16=>rK r14 x2.ID N f t ((i2:Nat):Int) x2 r r16)=q)->rM N t x2.ID r f=q:=fun hq=>by
  rw [rM,hnext,aby,if_pos rfl];dsimp only;rw [hown,aby,if_pos rfl,zb h,aby,e1,aby,aR e2,yD (BH hr),aby];exact hq
 rcases hsp with ⟨lay,hS⟩|⟨hS,hno⟩
 ·have hsm:(⟨c.Target,lay⟩:aa)∈t.Stacks:=by rw [hS]; simp
  have hll:=h.layers_len hsm;refine ⟨_,main (hJ5 ?_),RS h e hf hr (.inl hS) hA hB,lastf _ _ _⟩;have hat:t.Stacks[ps t.Stacks c.Target]?=some ⟨c.Target,lay⟩:=by rw [<-hAl,hS]; exact Ab
  have hlt:=(abz.1 hat).1;rw [hbs,bE,if_pos (by omega),aR hat,qy,yP];simp only [aby,It.2 rfl,decide_true,if_true];rw [<-hAl];have:=R5 N (t:=t) (i:=i2) (x:=x2) (a:=c.Target) hf (r:=r) (A:=A) (B:=B) (lay:=lay) (by simp only at hll; omega) true hd (by omega);rw [<-hS] at this;exact this
 ·refine ⟨_,main (hJ5 ?_),RS h e hf hr (lay:=[]) (.inr ⟨hS,rfl⟩) hA hB,lastf _ _ _⟩;have hb:bg N t.Stacks c.Target=some (((ps t.Stacks c.Target:Nat):Int),false):=by
   rw [hbs,bE];by_cases q:ps t.Stacks c.Target < t.Stacks.length
   ·have hat:=abD q;have hne:=hno _ hat;rw [if_pos (by omega),aR hat,qy,yP];simp [It,hne]
   ·rw [if_neg (by omega)]
  rw [hb,aby,if_neg (by simp)];unfold bR HV;dsimp only;rw [if_pos ⟨by omega,by omega,rfl,by omega⟩,aby,abX,<-hAl];have ht:t.Stacks.take A.length=A:=by rw [hS,List.take_left']; rfl
  have hdr:t.Stacks.drop A.length=B:=by rw [hS,List.drop_left']; rfl
  rw [ht,hdr,acx];exact R5 N (t:=t) (i:=i2) (x:=x2) (a:=c.Target) hf (r:=r) (A:=A) (B:=B) (lay:=[]) (by simp) false hd (by omega)
end Go.Proofs.YtmacaidmhchpgaaGreat

namespace Go.Proofs.YtmacaidmhchpgaaGreat
open Go Go.Proofs Go.Abs
theorem QI {t:List ai} (h:VT t) {k:ai} (hk:k∈t):(∀ l'∈(pT t (pa t k.Actor)).1,(l'∈t/\l'.Actor≠k.Actor)∨(l'.Actor=k.Actor/\l'.Owner∈k.Waiters/\∀ w∈l'.Waiters,w∈k.Waiters))/\∀ l∈t,l.Actor≠k.Actor->l∈(pT t (pa t k.Actor)).1:=by
 have hp:=(AR h hk).1;have hpl:=(abz.1 hp).1;have hne:∀ {i:Nat} {l:ai},i≠pa t k.Actor->t[i]?=some l->l.Actor≠k.Actor:=fun {i l} hi hl e=>by
  have:=(AR h (abA hl)).1;rw [e,hp] at this;simp only [abx] at this;subst this;obtain ⟨g1,g2⟩:=abz.1 hl;obtain ⟨g3,g4⟩:=abz.1 hp;have hs:=ab1.1 h.so;rcases adr i (pa t k.Actor) with q|q|q
  ·have:=hs i _ g1 g3 q; rw [g2,g4,jE] at this; cases this
  ·exact hi q
  ·have:=hs _ i g3 g1 q; rw [g2,g4,jE] at this; cases this
 rw [pT,hp];simp only;split
 ·refine ⟨fun l' hl'=>?_,fun l hl hn=>?_⟩
  ·rcases abZ.1 hl' with q|q
   ·obtain ⟨i,hi⟩:=abQ q;rw [acb] at hi;split at hi
    ·exact .inl ⟨abA hi,hne (by omega) hi⟩
    ·cases hi
   ·obtain ⟨i,hi⟩:=abQ q;rw [acd] at hi;exact .inl ⟨abA hi,hne (by omega) hi⟩
  ·obtain ⟨i,hi⟩:=abQ hl;have:i≠pa t k.Actor:=fun e=>by rw [e,hp] at hi; simp only [abx] at hi; exact hn (hi ▸ rfl)
   rw [abZ];rcases adk i (pa t k.Actor) with q|q
   ·exact .inl (abA (i:=i) (by rw [acb,if_pos q]; exact hi))
   ·exact .inr (abA (i:=i - (pa t k.Actor+1)) (by rw [acd,show pa t k.Actor+1+(i - (pa t k.Actor+1))=i by omega]; exact hi))
 ·rename_i e;refine ⟨fun l' hl'=>?_,fun l hl hn=>?_⟩
  ·rcases FD hp hl' with rfl|⟨i,hi,q⟩
   ·exact .inr ⟨rfl,Nt e,fun w hw=>acG hw⟩
   ·exact .inl ⟨abA q,hne hi q⟩
  ·obtain ⟨i,hi⟩:=abQ hl;have:pa t k.Actor≠i:=fun q=>by rw [<-q,hp] at hi; simp only [abx] at hi; exact hn (hi ▸ rfl)
   exact abA (i:=i) (by rw [adj this]; exact hi)
def uG (t:ae) (a:Ref) (n:Int):Prop:=∃ s∈t.Stacks,s.Actor=a/\∃ y∈s.Layers,y.Txn_=n/\y.Prepared=true
def OK (S:List aa) (j:Nat) (s:aa) (y:al):List aa:=S.set j ⟨s.Actor,s.Layers.set (s.Layers.length - 1) ⟨y.Txn_,y.Fields,true⟩⟩
inductive YW (N:Nat) (t:ae) (n:Int) (a:Ref):Prop where
 | no (e:Int) (he:e≠0) (hq:∀ x∈t.Txns,x.ID=n->x.Done < x.Calls.length∨(¬ ∃ c∈x.Calls,c.Target=a)∨uG t a n) (h:gE N t n a=some (emp,e))
 | ok {x:Txn} {j:Nat} {s:aa} {y:al} (hx:x∈t.Txns) (hn:x.ID=n) (hd:x.Done=x.Calls.length) (ha:∃ c∈x.Calls,c.Target=a) (hj:t.Stacks[j]?=some s) (hsa:s.Actor=a) (hy:s.Layers[s.Layers.length - 1]?=some y) (hyn:y.Txn_=n) (hp:y.Prepared=false)
   (h:gE N t n a=some (⟨t.Txns,(pT t.Locks (pa t.Locks a)).1,OK t.Stacks j s y⟩,0)) (hT:TV ⟨t.Txns,(pT t.Locks (pa t.Locks a)).1,OK t.Stacks j s y⟩)
theorem LJ (N:Nat) (hN:200<=N) {t:ae} (h:TV t) (n:Int) (a:Ref):YW N t n a:=by
 rcases A9 N t n with ⟨h1,e⟩|⟨i,x,e,hi,hid⟩
 ·refine .no 6 (by simp) (fun x hx q=>absurd (ab9.2 ⟨x,hx,q⟩) h1) ?_;rw [gE,rJ N hN h,aby,if_pos rfl,e,aby,if_pos (by omega),jr,if_pos rfl];rfl
 ·have hxm:=abA hi;have hX:=(h.tx.x x hxm).1;have hu:∀ {y:Txn},y∈t.Txns->y.ID=n->y=x:=fun hy q=>h.tx.uniq hy hxm (q.trans hid.symm);have e0:∀ {q:Option (ae × Int)},jr (lP t ((i:Nat):Int) N a n) (!x.Calls.any fun c=>GB c.Target a)=q->gE N t n a=q:=fun hq=>by
   rw [gE,rJ N hN h,aby,if_pos rfl,e,aby,if_neg (by omega),aR hi,L9,aby,hq]
  by_cases ht:∃ c∈x.Calls,c.Target=a
  ·have hany:(x.Calls.any fun c=>GB c.Target a)=true:=by
    obtain ⟨c,hc,q⟩:=ht;exact ae1.2 ⟨c,hc,(CW _ _).2 q⟩
   rw [hany] at e0;by_cases hd:x.Done < x.Calls.length
   ·refine .no 12 (by simp) (fun y hy q=>.inl (by rw [hu hy q]; exact hd)) (e0 ?_);rw [jr,if_neg (by simp),lP,aR hi,if_pos hd]; rfl
   ·have hdn:x.Done=x.Calls.length:=by have:=hX.d2; omega
    obtain ⟨c,hc,hca⟩:=ht;have htk:x.Calls.take x.Done.toNat=x.Calls:=ab3 (by omega);obtain ⟨s,hs,hsa,y,hy,hyn⟩:=h.pr x hxm c (by rw [htk]; exact hc);have hsa':=hsa.trans hca;have hlay:=pL N h.ss h.ac hs hsa' hy (hyn.trans hid);cases hp:y.Prepared with
    | true=>
     refine .no 7 (by simp) (fun z hz q=>.inr (.inr ⟨s,hs,hsa',y,hy,hyn.trans hid,hp⟩)) (e0 ?_);rw [jr,if_neg (by simp),lP,aR hi,if_neg hd,hlay,aby,if_pos hp]; rfl
    | false=>
     obtain ⟨m,hm⟩:=abQ hy;obtain ⟨hlast,k,hk,hka,hko⟩:=(h.st s hs).up m y hm hp;obtain ⟨j,hj1,hj2⟩:=GO N h.ss hs;have hml:=(abz.1 hm).1;have hyl:s.Layers[s.Layers.length - 1]?=some y:=by rw [show s.Layers.length - 1=m by omega]; exact hm
     have hva:=Km (hX.ca c hc);have hkaa:k.Actor=a:=hka.trans hsa';have hrel:mW N t.Locks a n=some ((pT t.Locks (pa t.Locks a)).1,(pT t.Locks (pa t.Locks a)).2,0):=by
      have hv:VA a:=hca ▸ hva;rw [Yh N (by omega) h.lk hv (hid ▸ hX.i1) (hid ▸ hX.i2)];obtain ⟨g1,g2⟩:=AR h.lk hk;rw [hkaa] at g1 g2;unfold rls;rw [if_pos g2,g1];simp only;rw [if_pos (hko.trans (hyn.trans hid))]
     obtain ⟨p1,p2⟩:=QI h.lk hk;rw [hkaa] at p1 p2;have hll:=h.layers_len hs;refine .ok hxm hid hdn ⟨c,hc,hca⟩ hj2 hsa' hyl (hyn.trans hid) hp (e0 ?_) (WY h hxm hdn hj2 hyl hyn hp hk hka (Ww h.lk _) (fun l' hl'=>by
      rcases p1 l' hl' with ⟨q1,q2⟩|⟨q1,q2⟩
      ·exact .inl ⟨q1,by rw [hsa']; exact q2⟩
      ·exact .inr ⟨q1.trans hkaa.symm,q2⟩) (fun l hl q=>p2 l hl (by rw [<-hsa']; exact q)))
     rw [hsa'] at hj1;rw [jr,if_neg (by simp),lP,aR hi,if_neg hd,hlay,aby,if_neg (by simp [hp]),zb h,aby,hj1,aby,aR hj2,w64 (by omega) (by omega),show ((s.Layers.length:Int) - 1)=((s.Layers.length - 1:Nat):Int) by omega,aR hyl,hrel,aby,abX,abX];rfl
  ·refine .no 6 (by simp) (fun y hy q=>.inr (.inl (by rw [hu hy q]; exact ht))) (e0 ?_);have hany:(x.Calls.any fun c=>GB c.Target a)=false:=by
    rw [<-adm];intro q;obtain ⟨c,hc,g⟩:=ae1.1 q;exact ht ⟨c,hc,(CW _ _).1 g⟩
   rw [hany,jr,if_pos (by simp)]; rfl
structure Bg (t:ae) (x:Txn):Prop where
 dn:x.Done=x.Calls.length
 pr:∀ c∈x.Calls,uG t c.Target x.ID
 fi:Bq t x.ID []=true
theorem QZ (N:Nat) {t:ae} (h:TV t) (x:Txn):Te (sQ N t x) (∀ c∈x.Calls,uG t c.Target x.ID):=by
 classical
 have hf:∀ c∈x.Calls,lH N c t.Txns t.Locks t.Stacks x.ID x.Born x.Client x.Seq x.Calls x.Done x.Last.Kind x.Last.N x.Last.S x.Last.I x.Last.L=some (!decide (uG t c.Target x.ID)):=fun c _=>by
  rw [lH];by_cases q:Dq t c.Target x.ID
  ·obtain ⟨s,hs,ha,y,hy,hn⟩:=q;rw [show (⟨t.Txns,t.Locks,t.Stacks⟩:ae)=t from rfl,pL N h.ss h.ac hs ha hy hn,aby,if_pos rfl];have:uG t c.Target x.ID↔y.Prepared=true:=⟨fun ⟨s',g1,g2,y',g3,g4,g5⟩=>by
    have:=pL N h.ss h.ac hs ha hy hn;rw [pL N h.ss h.ac g1 g2 g3 g4] at this;simp only [abx,abY,and_true] at this;rw [<-this]; exact g5,fun g=>⟨s,hs,ha,y,hy,hn,g⟩⟩
   cases hp:y.Prepared<;>simp [this,hp]
  ·rw [show (⟨t.Txns,t.Locks,t.Stacks⟩:ae)=t from rfl,Nz N h.ss q,aby,if_neg (by simp)];have:¬ uG t c.Target x.ID:=fun ⟨s',g1,g2,y',g3,g4,_⟩=>q ⟨s',g1,g2,y',g3,g4⟩;simp [this]
 have e:=lf (L:=bS N t.Txns t.Locks t.Stacks x.ID x.Born x.Client x.Seq x.Calls x.Done x.Last.Kind x.Last.N x.Last.S x.Last.I x.Last.L) (fun c=>lH N c t.Txns t.Locks t.Stacks x.ID x.Born x.Client x.Seq x.Calls x.Done x.Last.Kind x.Last.N x.Last.S x.Last.I x.Last.L) (fun c=>!decide (uG t c.Target x.ID)) (fun _=>rfl) (fun _ _ _=>rfl) x.Calls 0 hf;refine ⟨!(x.Calls.any fun c=>!decide (uG t c.Target x.ID)),?_,?_⟩
 ·simp only [sQ,bT,dy,e,aby,tp]
 ·rw [Jc]; simp
theorem QU (N:Nat) {t:ae} (h:TV t) (x:Txn):Te (mU N x t.Txns t.Locks t.Stacks) (Bg t x):=by
 rw [mU,show (⟨t.Txns,t.Locks,t.Stacks⟩:ae)=t from rfl];refine Te.ite (fun hd=>(QZ N h x).bind (fun hp=>?_) fun hp=>Te.f fun q=>hp q.pr) fun hd=>Te.f fun q=>hd q.dn;simp only [if_true,PS,aby];exact ⟨_,rfl,fun g=>⟨hd,hp,g⟩,fun g=>g.fi⟩
theorem Ui {t:ae} (h:TV t) {x:Txn} (hx:x∈t.Txns) (hr:Bg t x):Lks t [x.ID] t.Locks:=by
 have ho:∀ l∈t.Locks,l.Owner≠x.ID:=fun l hl e=>by
  obtain ⟨s,hs,ha,y,hy,hn,hp⟩:=(h.lp l hl).dn x hx e.symm hr.dn;obtain ⟨⟨c,hc,hca⟩,_⟩:=(h.st s hs).ex y hy x hx hn.symm;obtain ⟨s',g1,g2,y',g3,g4,g5⟩:=hr.pr c (acG hc);obtain ⟨i,hi⟩:=abQ hs;have:=E6 h.ss hi g1 (g2.trans hca);subst this;obtain ⟨r,hrk⟩:=h.ac;obtain ⟨a,ha'⟩:=abQ hy;obtain ⟨b,hb'⟩:=abQ g3;have:=IP (hrk s' g1) ha' hb' (hn.trans g4.symm);subst this;rw [ha'] at hb';simp only [abx] at hb';rw [<-hb',hp] at g5; cases g5
 have hw:∀ l∈t.Locks,x.ID∉l.Waiters:=fun l hl q=>by
  have:=((h.lp l hl).wt x hx q).1;have:=hr.dn; omega
 exact ⟨h.lk,fun l hl=>⟨l,hl,rfl,.inl rfl,fun w hw=>hw,by simp [ho l hl],fun w q=>by simp only [abV]; exact fun e=>hw l hl (e ▸ q)⟩,fun l hl _=>⟨l,hl,rfl,rfl⟩⟩
def Wr (t:ae) (n:Int):List Ref->List aU->Prop
 | [],[]=>True
 | a::rs,w::ws=>w.Actor=a/\(∃ s∈t.Stacks,s.Actor=a/\∃ y∈s.Layers,y.Txn_=n/\y.Prepared=true/\w.Fields=y.Fields)/\Wr t n rs ws
 | _,_=>False
inductive Res (N:Nat):ae->ae->List aI->Prop where
 | nil {t:ae} (hno:∀ x∈t.Txns,¬ Bg t x):Res N t t []
 | cons {t t':ae} {cs:List aI} {x:Txn} {ps:List Ref} {ws:List aU} (hx:x∈t.Txns) (hr:Bg t x) (hp:ji N x=some ps) (hw:Wr t x.ID ps ws) (hT:TV (Ar t [x.ID])) (rest:Res N (Ar t [x.ID]) t' cs):Res N t t' (⟨x.ID,x.Client,x.Seq,x.Last,ws⟩::cs)
theorem UU (N:Nat) {t:ae} (h:TV t) {x:Txn} (k:List aU->Option (ae × List aI)):∀ (rs:List Ref) (v:Nat) (acc:List aU),(∀ a∈rs,uG t a x.ID)->acc.length+rs.length<=1000->∃ ws,Wr t x.ID rs ws/\lU k N t.Txns t.Locks t.Stacks x rs v acc=k (acc++ws)
 | [],v,acc,_,_=>⟨[],trivial,by rw [lU,aci]⟩
 | a::rs,v,acc,hp,hl=>by
  obtain ⟨s,hs,ha,y,hy,hn,hpp⟩:=hp a (by simp);simp only [abW] at hl;obtain ⟨ws,g1,g2⟩:=UU N h k rs (v+1) (acc++[⟨a,y.Fields⟩]) (fun b hb=>hp b (by simp [hb])) (by simp; omega);refine ⟨⟨a,y.Fields⟩::ws,⟨rfl,⟨s,hs,ha,y,hy,hn,hpp,rfl⟩,g1⟩,?_⟩;rw [lU,show (⟨t.Txns,t.Locks,t.Stacks⟩:ae)=t from rfl,pL N h.ss h.ac hs ha hy hn,aby,sP (Gp ((h.st s hs).fi y hy)),aby,s9 (by simp; omega),g2,acx];rfl
theorem LO (N:Nat) (hN:100002<=N):∀ (n:Nat) {t:ae} (acc:List aI),TV t->t.Txns.length < n->acc.length+t.Txns.length<=1000->∃ t' cs,lJ N n (t.Txns,t.Locks,t.Stacks,acc)=some (t',acc++cs)/\TV t'/\Res N t t' cs
 | n+1,t,acc,h,hn,ha=>by
  classical
  have hloop:=lf (L:=dR N t.Txns t.Locks t.Stacks) (fun x=>mU N x t.Txns t.Locks t.Stacks) (fun x=>decide (Bg t x)) (fun _=>rfl) (fun _ _ _=>rfl) t.Txns 0 (fun x _=>by
   by_cases q:Bg t x
   ·rw [(QU N h x).is q]; simp [q]
   ·rw [(QU N h x).isnt q]; simp [q])
  rw [lJ,eI,hloop,aby];rcases uI (fun x=>decide (Bg t x)) t.Txns 0 with ⟨e,hno⟩|⟨i,x,e,hi,hr,_⟩
  ·rw [e,if_pos (by omega)];exact ⟨t,[],by rw [aci],h,.nil fun x hx=>by simpa using hno x hx⟩
  ·have hxm:=abA hi;have hX:=(h.tx.x x hxm).1;have hr:Bg t x:=by simpa using hr
   have hT:TV (Ar t [x.ID]):=Ua h (Ui h hxm hr);obtain ⟨ps,p1,p2,p3⟩:=zW N hN hX.c1 hX.c2;have hlen:(Ar t [x.ID]).Txns.length < t.Txns.length:=by
    refine Nat.lt_of_le_of_ne (aes _ _) fun q=>?_;have:=List.length_filter_eq_length_iff.1 q x hxm;rw [yL] at this;exact this (by simp)
   have hpl:ps.length<=4:=by
    have hnd:ps.Nodup:=p2.imp fun {a b} g e=>by rw [e,lpR,jE] at g; cases g
    have:=zx (l:=x.Calls.map ah.Target) hnd fun a hm=>by
     obtain ⟨c,hc,q⟩:=(p3 a).1 hm;exact ab9.2 ⟨c,hc,q⟩
    simp only [abJ] at this;have:=hX.c2; omega
   obtain ⟨ws,w1,w2⟩:=UU N h (x:=x) (wc N t.Txns t.Locks t.Stacks x acc x.Last (lJ N n)) ps 0 [] (fun a hm=>by
    obtain ⟨c,hc,q⟩:=(p3 a).1 hm;exact q ▸ hr.pr c hc) (by simp; omega)
   obtain ⟨t',cs,r1,r2,r3⟩:=LO N hN n (t:=Ar t [x.ID]) (acc++[⟨x.ID,x.Client,x.Seq,x.Last,ws⟩]) hT (by omega) (by simp; omega);refine ⟨t',_::cs,?_,r2,.cons hxm hr p1 w1 hT r3⟩;rw [e,acv,if_neg (by omega),aR hi,yD (BH hX.la),aby,p1,aby,w2,abS,wc,show (⟨t.Txns,t.Locks,t.Stacks⟩:ae)=t from rfl,NC N (by omega) h,aby,s9 (by simp; omega),r1,acx];rfl
theorem LR (N:Nat) (hN:100002<=N) {t:ae} (h:TV t):∃ t' cs,oI N t=some (t',cs)/\TV t'/\Res N t t' cs:=by
 have:=h.tx.len;obtain ⟨t',cs,h1,h2,h3⟩:=LO N hN N (t:=t) [] h (by omega) (by simp; omega);exact ⟨t',cs,by rw [oI,rJ N (by omega) h,aby,if_pos rfl,zb h,aby,h1]; rfl,h2,h3⟩
end Go.Proofs.YtmacaidmhchpgaaGreat

namespace Go.Proofs.YtmacaidmhchpgaaGreat
open Go Go.Proofs Go.Abs
abbrev Jb:=aj
def U8C (x:Jb):Prop:=(0<=x.Kind/\x.Kind<=255)/\(0<=x.Who/\x.Who<=255)/\(0<=x.Arg/\x.Arg<=255)
theorem IQ {a b:Int} (h:0<=a) (hb:0 < b):Int.tmod a b=a % b:=Int.tmod_eq_emod_of_nonneg h
theorem Xg (N:Nat) (t:ae) (hl:t.Txns.length<=1000) {w:Int} (h0:0<=w) (h1:w<=255):∃ n,wg N t w=some n/\((t.Txns=[]/\n=0)∨n∈ids t):=by
 rw [wg];by_cases h:t.Txns.length=0
 ·rw [if_pos (by omega)];exact ⟨0,rfl,.inl ⟨abP h,rfl⟩⟩
 ·rw [if_neg (by omega),w64 (by omega) (by omega),IQ h0 (by omega)];have h2:=Int.emod_nonneg w (b:=(t.Txns.length:Int)) (by omega);have h3:=afv w (b:=(t.Txns.length:Int)) (by omega);have hk:(w % (t.Txns.length:Int)).toNat < t.Txns.length:=by omega
  simp only [dvx];rw [if_neg (by omega),show w % (t.Txns.length:Int)=(((w % (t.Txns.length:Int)).toNat:Nat):Int) by omega,aR (abD hk)];exact ⟨_,rfl,.inr (ab9.2 ⟨_,acI hk,rfl⟩)⟩
def El:List Ref:=[⟨⟨#[65]⟩,⟨#[97]⟩⟩,⟨⟨#[65]⟩,⟨#[98]⟩⟩,⟨⟨#[65]⟩,⟨#[99]⟩⟩,⟨⟨#[65]⟩,⟨#[100]⟩⟩]
theorem Ug (N:Nat) {n:Int} (h0:0<=n) (h1:n<=255):∃ r,vq N n=some r/\r∈El:=by
 have key:∀ k:Int,k=0∨k=1∨k=2∨k=3->∃ r,(sls (⟨#[97,98,99,100]⟩) (IntKind.i64.wrap k) (IntKind.i64.wrap ((IntKind.i64.wrap k)+1)) fun s1=>some (Ref.mk (⟨#[65]⟩) s1))=some r/\r∈El:=by
  rintro k (rfl|rfl|rfl|rfl)
  ·exact ⟨⟨⟨#[65]⟩,⟨#[97]⟩⟩,rfl,by simp [El]⟩
  ·exact ⟨⟨⟨#[65]⟩,⟨#[98]⟩⟩,rfl,by simp [El]⟩
  ·exact ⟨⟨⟨#[65]⟩,⟨#[99]⟩⟩,rfl,by simp [El]⟩
  ·exact ⟨⟨⟨#[65]⟩,⟨#[100]⟩⟩,rfl,by simp [El]⟩
 rw [vq,IQ h0 (by omega)];exact key (n % 4) (by omega)
theorem H9 {r:Ref} (h:r∈El):qU ⟨r,⟨#[109]⟩,[]⟩=true:=by
 simp only [El,ab7,ac2,or_false] at h;rcases h with rfl|rfl|rfl|rfl<;>rfl
theorem Yo {a:Int} (h0:0<=a) (h1:a<=255) (k:Int) (hk:k=0∨k=2∨k=4∨k=6):0<=kJ .u8 a k/\kJ .u8 a k<=255:=by
 rcases hk with rfl|rfl|rfl|rfl
 ·show 0<=a.fdiv 1/\a.fdiv 1<=255;rw [adJ _ (by omega)]; omega
 ·show 0<=a.fdiv 4/\a.fdiv 4<=255;rw [adJ _ (by omega)]; omega
 ·show 0<=a.fdiv 16/\a.fdiv 16<=255;rw [adJ _ (by omega)]; omega
 ·show 0<=a.fdiv 64/\a.fdiv 64<=255;rw [adJ _ (by omega)]; omega
theorem Pq (N:Nat) {a:Jb} (ha:U8C a):∀ (m:Nat) (v:Nat) (l:List ah),4 < v+m->v<=4->l.length=v->(∀ c∈l,qU c=true)->v<=(a.Who % 4).toNat+1->∃ r,oS a N m (l,(v:Int))=some r/\r.length=(a.Who % 4).toNat+1/\∀ c∈r,qU c=true
 | 0,v,l,h1,h2,h3,h4,h5=>by omega
 | m+1,v,l,h1,h2,h3,h4,h5=>by
  obtain ⟨_,⟨w0,w1⟩,g0,g1⟩:=ha;rw [oS,IQ w0 (by omega),w64 (n:=a.Who % 4) (by omega) (by omega)];by_cases q:(v:Int)<=a.Who % 4
  ·have hv:v=0∨v=1∨v=2∨v=3:=by omega
   have hk:IntKind.u64.wrap (2 * (IntKind.u64.wrap (Int.tmod (v:Int) 4)))=0∨IntKind.u64.wrap (2 * (IntKind.u64.wrap (Int.tmod (v:Int) 4)))=2∨IntKind.u64.wrap (2 * (IntKind.u64.wrap (Int.tmod (v:Int) 4)))=4∨IntKind.u64.wrap (2 * (IntKind.u64.wrap (Int.tmod (v:Int) 4)))=6:=by
    rcases hv with rfl|rfl|rfl|rfl<;>decide
   rw [if_pos q];obtain ⟨s0,s1⟩:=Yo g0 g1 _ hk;obtain ⟨r,hr,hm⟩:=Ug N s0 s1;simp only [shx];rw [if_neg (by omega),hr,aby,s9 (by simp; omega),w64 (n:=(v:Int)+1) (by omega) (by omega)];refine Pq N ⟨by assumption,⟨w0,w1⟩,g0,g1⟩ m (v+1) _ (by omega) (by omega) (by simp [h3]) (fun c hc=>?_) (by omega);rcases abZ.1 hc with hc|hc
   ·exact h4 c hc
   ·simp only [abV] at hc; rw [hc]; exact H9 hm
  ·rw [if_neg q];exact ⟨l,rfl,by omega,h4⟩
theorem Vs (N:Nat) (hN:100<=N) {a:Jb} (ha:U8C a):∃ r,yq N a=some r/\1<=r.length/\r.length<=4/\∀ c∈r,qU c=true:=by
 obtain ⟨r,h1,h2,h3⟩:=Pq N ha N 0 [] (by omega) (by omega) rfl (by simp) (by omega);have:=ha.2.1;exact ⟨r,h1,by omega,by omega,h3⟩
theorem F2 {α β ρ:Type} {L:List α->Nat->List β->Option ρ} (B:Nat) (f:α->β) (P:α->Prop) (k:List β->Option ρ) (h0:∀ v l,L [] v l=k l)
  (h1:∀ x xs v l,P x->l.length < B->L (x::xs) v l=L xs (v+1) (l++[f x])) :
  ∀ (xs:List α) (v:Nat) (l:List β),(∀ x∈xs,P x)->l.length+xs.length<=B->L xs v l=k (l++xs.map f)
 | [],v,l,_,_=>by rw [h0]; simp
 | x::xs,v,l,hp,hb=>by
  simp only [abW] at hb;rw [h1 x xs v l (hp x (by simp)) (by omega),F2 B f P k h0 h1 xs (v+1) (l++[f x]) (fun y hy=>hp y (by simp [hy])) (by simp; omega)];simp
theorem Ik {N:Nat} {v:Value} (h:bdV v):jC N v=some v:=by
 obtain ⟨h1,h2⟩:=h;simp only [jC];rw [vu (by omega),vu (by omega)]
theorem N8 {N:Nat} {l:List Value} (h:Ez l):lO N l=some l:=by
 have:=F2 (L:=jG N) 1759218604441 id bdV some (fun _ _=>rfl) (fun x xs v l hp hb=>by
  simp only [jG,Ik hp,aby];rw [s9 (by simp only [abW,acm]; omega)]; rfl) l 0 [] h.2 (by simpa using h.1)
 simpa [lO] using this
theorem Qq {N:Nat} {l:List ah} (h:SL l):mS N l=some l:=by
 have:=F2 (L:=kd N) 2000000 id (fun c=>Ez c.Args) some (fun _ _=>rfl) (fun x xs v l hp hb=>by
  simp only [kd,N8 hp,aby];rw [s9 (by simp only [abW,acm]; omega)]; rfl) l 0 [] h.2 (by simpa using h.1)
 simpa [mS] using this
theorem Tq {N:Nat} {x:Txn} (h:XV x):ql N x=some x:=by
 simp only [ql,Qq h.bd.1,Ik h.bd.2,aby]
theorem RJ (N:Nat) {t:ae} (h:∀ x∈t.Txns,XV x) (n:Int):∃ x b,zZ N t n=some (x,b)/\x.Calls.length<=4:=by
 have key:∀ (xs:List Txn) (v:Nat),(∀ x∈xs,XV x)->∃ x b,qp n N xs v ()=some (x,b)/\x.Calls.length<=4:=by
  intro xs
  induction xs with
  | nil=>intro v _; exact ⟨_,_,rfl,by simp⟩
  | cons x xs ih=>
   intro v hx;rw [qp];split
   ·rw [Tq (hx x (by simp))]; exact ⟨x,true,rfl,(hx x (by simp)).c2⟩
   ·exact ih (v+1) fun y hy=>hx y (by simp [hy])
 exact key t.Txns 0 h
theorem JW (N:Nat) (l:List Ref) (hl:l.length<=1000) (x:ah) (k:Int->Option (List Ref)):∀ (n:Nat) (v:Nat),v < n->v<=l.length->∃ w:Nat,w<=v/\jP l N x k n (v:Int)=k (w:Int)
 | n+1,v,h1,h2=>by
  rw [jP];by_cases h0:0 < v
  ·have hg:l[v - 1]?=some (l[v - 1]'(by omega)):=abD (by omega);rw [if_pos (by omega),w64 (n:=(v:Int) - 1) (by omega) (by omega),show ((v:Int) - 1)=((v - 1:Nat):Int) by omega,aR hg,VX,aby,pe];cases rl (l[v - 1]'(by omega)) x.Target with
   | true=>exact ⟨v,abI _,by simp⟩
   | false=>
    obtain ⟨w,g1,g2⟩:=JW N l hl x k n (v - 1) (by omega) (by omega);refine ⟨w,by omega,?_⟩;rw [if_pos (by simp),w64 (n:=(v:Int) - 1) (by omega) (by omega),show ((v:Int) - 1)=((v - 1:Nat):Int) by omega];exact g2
  ·exact ⟨v,abI _,by rw [if_neg (by omega),pe,if_neg (by simp)]⟩
theorem Ew (N:Nat) (hN:2000<=N):∀ (xs:List ah) (v:Nat) (l:List Ref),l.length+xs.length<=1000->∃ r,fO N xs v l=some r
 | [],v,l,_=>⟨l,rfl⟩
 | x::xs,v,l,hl=>by
  simp only [abW] at hl;rw [fO];obtain ⟨w,g1,g2⟩:=JW N l (by omega) x (tP l (fO N xs (v+1)) x) N l.length (by omega) (abI _);rw [g2,tP];have hJ3:∃ r,lA l (w:Int) x (fO N xs (v+1))=some r:=by
   rw [lA];unfold slx slt;rw [if_pos ⟨by omega,by omega,by omega,by omega⟩];dsimp only;rw [vu (by simp; omega),if_pos ⟨by omega,by omega⟩];try dsimp only
   rw [s9 (by simp; omega),s9 (by simp; omega)];exact Ew N hN xs (v+1) _ (by simp; omega)
  have hJ2:∀ b,∃ r,o7 (fO N xs (v+1)) l (lA l (w:Int) x (fO N xs (v+1))) b=some r:=fun b=>by
   rw [o7];cases b with
   | true=>exact Ew N hN xs (v+1) l (by omega)
   | false=>exact hJ3
  by_cases q:w < l.length
  ·rw [if_pos (by omega),aR (abD q)]; exact hJ2 _
  ·rw [if_neg (by omega)]; exact hJ2 _
theorem Nh (N:Nat) (hN:2000<=N) {t:ae} (h:∀ x∈t.Txns,XV x) (n:Int) {w:Int} (h0:0<=w) (h1:w<=255):∃ r,kY N t n w=some r:=by
 obtain ⟨x,b,e,hl⟩:=RJ N h n;obtain ⟨ps,p⟩:=Ew N hN x.Calls 0 [] (by simp; omega);obtain ⟨r,hr,_⟩:=Ug N h0 h1;rw [kY,e,aby,mo,uF];dsimp only;rw [p,aby,aby];by_cases q:ps.length=0
 ·rw [if_pos (by omega),hr]; exact ⟨r,rfl⟩
 ·rw [if_neg (by omega),w64 (by omega) (by omega),IQ h0 (by omega)];have h2:=Int.emod_nonneg w (b:=(ps.length:Int)) (by omega);have h3:=afv w (b:=(ps.length:Int)) (by omega);have hk:(w % (ps.length:Int)).toNat < ps.length:=by omega
  simp only [dvx];rw [if_neg (by omega),show w % (ps.length:Int)=(((w % (ps.length:Int)).toNat:Nat):Int) by omega,aR (abD hk)];exact ⟨_,rfl⟩
theorem GC:m8 ⟨0,0,⟨#[]⟩,[],[]⟩=true:=by
 simp [m8,Je,FY];decide
theorem D6 (n:Int):m8 ⟨1,n,⟨#[]⟩,[],[]⟩=true:=by
 simp [m8,Je,FY];decide
theorem UI {t:ae} {i:Nat} {x:Txn} {c:ah} {L:List ai} (hx:Nx t i x c) {k:ai} (hk:k∈L) (ha:k.Actor=c.Target) (ho:k.Owner=x.ID):Exe ⟨t.Txns,L,t.Stacks⟩ i x c k:=⟨hx.hi,hx.dn,hx.hc,hk,ha,ho⟩
theorem Xd (N:Nat) (hN:100002<=N) {t:ae} (h:TV t) {v:Nat} (hv:v<=1000) {a:Jb} (ha:U8C a):∃ t' cs,wv N t (v:Int) a=some (t',cs)/\TV t'/\(cs=[]∨Res N t t' cs):=by
 have hl:=h.tx.len;obtain ⟨⟨k0,k1⟩,⟨w0,w1⟩,a0,a1⟩:=id ha;obtain ⟨n,hn,_⟩:=Xg N t (by omega) w0 w1;have J1:∀ b,∃ t' cs,ue N t n a b=some (t',cs)/\TV t'/\(cs=[]∨Res N t t' cs):=fun b=>by
  rw [ue];cases b with
  | true=>
   obtain ⟨r,hr⟩:=Nh N (by omega) (fun x hx=>(h.tx.x x hx).1) n a0 a1;rw [if_pos rfl,hr,aby];cases LJ N (by omega) h n r with
   | no e he _ q=>rw [q,aby,if_neg he]; exact ⟨t,[],rfl,h,.inl rfl⟩
   | ok _ _ _ _ _ _ _ _ _ q hT=>rw [q,aby,if_pos rfl]; exact ⟨_,[],rfl,hT,.inl rfl⟩
  | false=>
   rw [if_neg (by simp)];split
   ·obtain ⟨t',cs,e,h1,h2⟩:=LR N hN h;rw [e]; exact ⟨t',cs,rfl,h1,.inr h2⟩
   ·by_cases q:n∈ids t
    ·obtain ⟨D,e,h1,_⟩:=KN N (by omega) h q;rw [e,aby,if_pos rfl]; exact ⟨_,[],rfl,h1,.inl rfl⟩
    ·rw [Wc N (by omega) h q,aby,if_neg (by simp)]; exact ⟨t,[],rfl,h,.inl rfl⟩
 have J2:∀ b,∃ t' cs,qs N t n a b=some (t',cs)/\TV t'/\(cs=[]∨Res N t t' cs):=fun b=>by
  rw [qs];cases b with
  | true=>
   rw [if_pos rfl];cases KO N (by omega) h n with
   | no e he _ q=>rw [q,aby,if_neg he]; exact ⟨t,[],rfl,h,.inl rfl⟩
   | @got i x c L o hx hn' ho hac q=>
    obtain ⟨hT,hown⟩:=UF h hx (hn' ▸ hac);rw [q,aby,if_pos rfl];rcases ho with rfl|rfl
    ·obtain ⟨k,hk,hka,hko⟩:=hown rfl;obtain ⟨S,e1,e2,_⟩:=RY N (by omega) hT (UI hx hk hka hko) (f:=[⟨1,a.N,⟨#[]⟩,[],[]⟩]) (r:=⟨1,a.N,⟨#[]⟩,[],[]⟩) (by simp [uJ,D6]) (D6 _);rw [if_pos rfl];simp only [lS,aby];rw [<-hn',e1,aby,if_pos rfl];exact ⟨_,[],rfl,e2,.inl rfl⟩
    ·rw [if_neg (by simp)]; exact ⟨_,[],rfl,hT,.inl rfl⟩
   | died hx hn' hk hka ho q hT hD=>rw [q,aby,if_pos rfl,if_neg (by simp)]; exact ⟨_,[],rfl,hT,.inl rfl⟩
  | false=>
   rw [if_neg (by simp)];split
   ·exact J1 _
   ·exact J1 _
 have J3:∀ b,∃ t' cs,ug N a t (v:Int) n b=some (t',cs)/\TV t'/\(cs=[]∨Res N t t' cs):=fun b=>by
  rw [ug];cases b with
  | true=>
   obtain ⟨cl,e,c1,c2,c3⟩:=Vs N (by omega) ha;rw [if_pos rfl,e,aby,w64 (n:=(v:Int)+1) (by omega) (by omega)];have hx:XV ⟨(v:Int)+1,v,⟨#[99]⟩,(v:Int)+1,cl,0,⟨0,0,⟨#[]⟩,[],[]⟩⟩/\zB ⟨(v:Int)+1,v,⟨#[99]⟩,(v:Int)+1,cl,0,⟨0,0,⟨#[]⟩,[],[]⟩⟩:=
    ⟨⟨by simp only; omega,by simp only; omega,c1,c2,by simp,by simp,GC,c3⟩,by simp only; omega,by simp only; omega,by show 1<=(⟨#[99]⟩:ByteArray).size; decide,by show (⟨#[99]⟩:ByteArray).size<=32; decide,by simp only; omega,by simp only; omega,fun _=>rfl⟩
   rcases ED N (by omega) h hx with ⟨e2,he,_,q⟩|⟨q,hT⟩
   ·rw [q,aby,if_neg he]; exact ⟨t,[],rfl,h,.inl rfl⟩
   ·rw [q,aby,if_pos rfl]; exact ⟨_,[],rfl,hT,.inl rfl⟩
  | false=>
   rw [if_neg (by simp)];split
   ·exact J2 _
   ·split
    ·exact J2 _
    ·exact J2 _
 rw [wv,hn,aby];split
 ·exact J3 _
 ·exact J3 _
theorem TV.nil:TV ⟨[],[],[]⟩:=⟨⟨by simp,by simp,by simp⟩,VT.nil,by simp,by simp,by simp,by simp,⟨fun _=>0,by simp⟩⟩
end Go.Proofs.YtmacaidmhchpgaaGreat

namespace Go.Proofs.YtmacaidmhchpgaaGreat
open Go Go.Proofs Go.Abs
theorem VG (N:Nat) (hN:1001<=N) {t:ae} (h:TV t) {i:Nat} {x:Txn} {c:ah} (hx:Nx t i x c) (hno:∀ k∈t.Locks,k.Actor≠c.Target) (hl:t.Locks.length < 128) :
  ∃ L,iv N t x.ID=some (⟨t.Txns,L,t.Stacks⟩,1,[],0)/\TV ⟨t.Txns,L,t.Stacks⟩/\(∀ l,l∈L↔l=⟨c.Target,x.ID,[]⟩∨l∈t.Locks)/\L.length<=t.Locks.length+1:=by
 have hu:∀ {j:Nat} {y:Txn} {d:ah},Nx t j y d->y.ID=x.ID->y=x/\d=c:=fun hy e=>by
  have:=h.tx.uniq (abA hy.hi) (abA hx.hi) e;subst this;have:=hy.hc;rw [hx.hc] at this;simp only [abx] at this;exact ⟨rfl,this.symm⟩
 have hacq:acq t.Locks c.Target x.ID=(t.Locks.take (pa t.Locks c.Target)++[⟨c.Target,x.ID,[]⟩]++t.Locks.drop (pa t.Locks c.Target),1,0):=by
  have hh:¬ vv t.Locks c.Target=true:=fun q=>by
   obtain ⟨k,hk,ha⟩:=zc q;exact hno k (abA hk) ha
  rw [acq,if_neg hh,if_neg (by omega)]
 cases KO N hN h x.ID with
 | no e he hq g=>
  exfalso;rcases hq with hq|⟨j,y,d,hy,hyi,hq⟩
  ·have:=hq x (abA hx.hi) rfl; have:=hx.dn; omega
  ·obtain ⟨_,rfl⟩:=hu hy hyi;rw [hacq] at hq;simp at hq
 | @got j y d L o hy hyi ho ha g=>
  obtain ⟨rfl,rfl⟩:=hu hy hyi;rw [hacq] at ha;simp only [abY,and_true] at ha;obtain ⟨rfl,rfl⟩:=ha;refine ⟨_,g,(UF h hx hacq).1,fun l=>?_,by simp; omega⟩;have e:(l∈t.Locks)↔(l∈t.Locks.take (pa t.Locks d.Target)∨l∈t.Locks.drop (pa t.Locks d.Target)):=by
   rw [<-abZ,ac8]
  rw [e];simp only [abZ,abV];constructor
  ·rintro ((q|q)|q)
   ·exact .inr (.inl q)
   ·exact .inl q
   ·exact .inr (.inr q)
  ·rintro (q|q|q)
   ·exact .inl (.inr q)
   ·exact .inl (.inl q)
   ·exact .inr q
 | died hy hyi hk hka ho g hT hD=>
  exfalso;obtain ⟨_,rfl⟩:=hu hy hyi;exact hno _ hk hka
theorem zM {t:ae} (h:TV t) {l:ai} (hl:l∈t.Locks) {x:Txn} (hx:x∈t.Txns) (e:x.ID=l.Owner) (hd:x.Done=x.Calls.length):¬ uG t l.Actor x.ID:=by
 rintro ⟨s',g1,g2,y',g3,g4,g5⟩;obtain ⟨s,hs,ha,y,hy,hn,hp⟩:=(h.lp l hl).dn x hx e hd;have h1:=pL 0 h.ss h.ac hs ha hy hn;rw [pL 0 h.ss h.ac g1 g2 g3 g4] at h1;simp only [abx,abY,and_true] at h1;rw [h1,hp] at g5; cases g5
theorem Xn {t:ae} (h:TV t) {x:Txn} (hx:x∈t.Txns) (hd:x.Done=x.Calls.length) {c:ah} (hc:c∈x.Calls) (hno:∀ l∈t.Locks,l.Actor=c.Target->l.Owner≠x.ID):uG t c.Target x.ID:=by
 obtain ⟨s,hs,ha,y,hy,hn⟩:=h.pr x hx c (by rw [ab3 (by omega)]; exact hc);cases hp:y.Prepared with
 | true=>exact ⟨s,hs,ha,y,hy,hn,hp⟩
 | false=>
  obtain ⟨j,hj⟩:=abQ hy;obtain ⟨_,k,hk,hka,hko⟩:=(h.st s hs).up j y hj hp;exact absurd (hko.trans hn) (hno k hk (hka.trans ha))
def rA:Ref:=⟨⟨#[65]⟩,⟨#[97]⟩⟩
def rB:Ref:=⟨⟨#[65]⟩,⟨#[98]⟩⟩
def cA:ah:=⟨rA,⟨#[109]⟩,[]⟩
def cB:ah:=⟨rB,⟨#[109]⟩,[]⟩
theorem rAB:rA≠rB:=fun e=>by have:=congrArg Ref.Key e; simp [rA,rB] at this
theorem WN:qU cA=true:=H9 (r:=rA) (by simp [El,rA])
theorem Zl:qU cB=true:=H9 (r:=rB) (by simp [El,rB])
def x3 (d:Int) (v:Value):Txn:=⟨3,0,⟨#[99]⟩,1,[cA,cB],d,v⟩
def x5 (d:Int) (v:Value):Txn:=⟨5,0,⟨#[99]⟩,2,[cA],d,v⟩
def v0:Value:=⟨0,0,⟨#[]⟩,[],[]⟩
def vN (n:Int):Value:=⟨1,n,⟨#[]⟩,[],[]⟩
theorem Hz (N:Nat) (hN:1001<=N) {t:ae} (h:TV t) {i:Nat} {x:Txn} {c:ah} (hx:Nx t i x c) (hno:∀ k∈t.Locks,k.Actor≠c.Target) (hl:t.Locks.length < 128) (n:Int) :
  ∃ L S,iv N t x.ID=some (⟨t.Txns,L,t.Stacks⟩,1,[],0)/\lN N ⟨t.Txns,L,t.Stacks⟩ x.ID [vN n] (vN n)=some (AU ⟨t.Txns,L,t.Stacks⟩ i x (vN n) S,0)/\TV (AU ⟨t.Txns,L,t.Stacks⟩ i x (vN n) S)/\AV S c.Target x.ID [vN n]/\(∀ l,l∈L↔l=⟨c.Target,x.ID,[]⟩∨l∈t.Locks)/\L.length<=t.Locks.length+1:=by
 obtain ⟨L,h1,h2,h3,h4⟩:=VG N hN h hx hno hl;obtain ⟨S,e1,e2,e3⟩:=RY N (by omega) h2 (UI hx ((h3 _).2 (.inl rfl)) rfl rfl) (f:=[vN n]) (r:=vN n) (by simp [uJ,vN,D6]) (D6 n);exact ⟨L,S,h1,e1,e2,e3,h3,h4⟩
theorem Ue {S:List aa} {j:Nat} {s:aa} {y:al} {a:Ref} {n:Int} {f:List Value} (h:AV S a n f) (hj:S[j]?=some s) (hne:s.Actor≠a):AV (OK S j s y) a n f:=by
 obtain ⟨s',hs,ha,g⟩:=h;obtain ⟨i,hi⟩:=abQ hs;have:j≠i:=fun e=>by rw [<-e,hj] at hi; simp only [abx] at hi; exact hne (hi ▸ ha)
 exact ⟨s',abA (i:=i) (by unfold OK; rw [adj this]; exact hi),ha,g⟩
theorem V2 {S:List aa} {D:List Int} {a:Ref} {n:Int} {f:List Value} (h:AV S a n f) (hn:n∉D):AV (FX D S) a n f:=by
 obtain ⟨s,hs,ha,y,hy,hyn,hyf⟩:=h;have hst:rP D y.Txn_=true:=yL.2 (hyn ▸ hn);have e:=congrArg (List.filter fun z=>rP D z.Txn_) (Ny hy);rw [adl,show [y].filter (fun z=>rP D z.Txn_)=[y] by simp [hst]] at e;have e2:(En D s).Layers=(s.Layers.take (s.Layers.length - 1)).filter (fun z=>rP D z.Txn_)++[y]:=e;exact ⟨En D s,FR.2 ⟨s,hs,rfl,by rw [e2]; simp⟩,ha,y,by rw [e2]; simp,hyn,hyf⟩
theorem QH (N:Nat) (hN:200<=N) {t:ae} (h:TV t) {x:Txn} (hx:x∈t.Txns) (hd:x.Done=x.Calls.length) {c:ah} (hc:c∈x.Calls) (hk:(⟨c.Target,x.ID,[]⟩:ai)∈t.Locks) :
  ∃ L S,gE N t x.ID c.Target=some (⟨t.Txns,L,S⟩,0)/\TV ⟨t.Txns,L,S⟩/\(∀ l,l∈L↔l∈t.Locks/\l.Actor≠c.Target)/\L.length<=t.Locks.length/\(∀ a n f,a≠c.Target->AV t.Stacks a n f->AV S a n f):=by
 cases LJ N hN h x.ID c.Target with
 | no e he hq g=>
  exfalso;rcases hq x hx rfl with q|q|q
  ·omega
  ·exact q ⟨c,hc,rfl⟩
  ·exact zM h hk hx rfl hd q
 | ok hx' hn hd' ha hj hsa hy hyn hp g hT=>
  have hm:=QI h.lk hk;simp only at hm;refine ⟨_,_,g,hT,fun l=>⟨fun hl=>?_,fun ⟨h1,h2⟩=>hm.2 l h1 h2⟩,?_,fun a n f hne hl=>Ue hl hj (by rw [hsa]; exact hne.symm)⟩
  ·rcases hm.1 l hl with q|⟨_,q,_⟩
   ·exact q
   ·cases q
  ·unfold pT;split
   ·split
    ·simp; omega
    ·simp
   ·simp
theorem Xt (N:Nat) (hN:100002<=N):uK N=some true:=by
 have hXV3:XV (x3 0 v0)/\zB (x3 0 v0):=⟨⟨by decide,by decide,by decide,by decide,by decide,by decide,GC,fun c hc=>by
  simp only [x3,ab7,ac2,or_false] at hc;rcases hc with rfl|rfl
  ·exact WN
  ·exact Zl⟩,by decide,by decide,by decide,by decide,by decide,by decide,fun _=>rfl⟩
 have hXV5:XV (x5 0 v0)/\zB (x5 0 v0):=⟨⟨by decide,by decide,by decide,by decide,by decide,by decide,GC,fun c hc=>by
  simp only [x5,ab7,ac2,or_false] at hc;rw [hc]; exact WN⟩,by decide,by decide,by decide,by decide,by decide,by decide,fun _=>rfl⟩
 obtain ⟨b1,T1⟩:j9 N ⟨[],[],[]⟩ 3 0 ⟨#[99]⟩ 1 [cA,cB]=some (⟨[x3 0 v0],[],[]⟩,0)/\TV ⟨[x3 0 v0],[],[]⟩:=by
  rcases ED N (by omega) TV.nil hXV3 with ⟨e,_,q,_⟩|q
  ·rcases q with q|⟨y,hy,_⟩
   ·cases q
   ·cases hy
  ·exact q
 obtain ⟨b2,T2⟩:j9 N ⟨[x3 0 v0],[],[]⟩ 5 0 ⟨#[99]⟩ 2 [cA]=some (⟨[x3 0 v0,x5 0 v0],[],[]⟩,0)/\TV ⟨[x3 0 v0,x5 0 v0],[],[]⟩:=by
  rcases ED N (by omega) T1 hXV5 with ⟨e,_,q,_⟩|q
  ·rcases q with q|⟨y,hy,q⟩
   ·cases q
   ·simp only [abV] at hy;rw [hy] at q;exact absurd q (by decide)
  ·exact q
 obtain ⟨L1,S1,l1,e1,T3,_,m1,n1⟩:=Hz N (by omega) T2 (i:=0) (x:=x3 0 v0) (c:=cA) ⟨rfl,by decide,rfl⟩ (by simp) (by simp) 0;have T3':TV ⟨[x3 1 (vN 0),x5 0 v0],L1,S1⟩:=T3;obtain ⟨L2,S2,l2,e2,T4,_,m2,n2⟩:=Hz N (by omega) T3' (i:=0) (x:=x3 1 (vN 0)) (c:=cB) ⟨rfl,by decide,rfl⟩ (fun k hk=>by
  rcases (m1 k).1 hk with rfl|q
  ·exact rAB
  ·cases q) (by simp only [acm] at n1; simp only; omega) 1
 have T4':TV ⟨[x3 2 (vN 1),x5 0 v0],L2,S2⟩:=T4;simp only [acm] at n1 n2;obtain ⟨L3,S3,p3,T5,m3,n3,_⟩:=QH N (by omega) T4' (x:=x3 2 (vN 1)) (by simp) rfl (c:=cA) (by simp [x3]) ((m2 _).2 (.inr ((m1 _).2 (.inl rfl))));simp only at n3 m3;have c3:∀ l∈L3,l=⟨rB,3,[]⟩:=fun l hl=>by
  obtain ⟨g1,g2⟩:=(m3 l).1 hl;rcases (m2 l).1 g1 with q|q
  ·exact q
  ·rcases (m1 l).1 q with rfl|q
   ·exact absurd rfl g2
   ·cases q
 obtain ⟨L4,S4,l4,e4,T6,f6,m4,n4⟩:=Hz N (by omega) T5 (i:=1) (x:=x5 0 v0) (c:=cA) ⟨rfl,by decide,rfl⟩ (fun k hk=>by rw [c3 k hk]; exact fun q=>rAB q.symm) (by simp only; omega) 9;have T6':TV ⟨[x3 2 (vN 1),x5 1 (vN 9)],L4,S4⟩:=T6;have hA5:(⟨rA,5,[]⟩:ai)∈L4:=(m4 _).2 (.inl rfl);have hB3:(⟨rB,3,[]⟩:ai)∈L4:=(m4 _).2 (.inr ((m3 _).2 ⟨(m2 _).2 (.inl rfl),fun q=>rAB q.symm⟩));have c4:∀ l∈L4,l=⟨rA,5,[]⟩∨l=⟨rB,3,[]⟩:=fun l hl=>((m4 l).1 hl).imp id (c3 l);have hids:ids ⟨[x3 2 (vN 1),x5 1 (vN 9)],L4,S4⟩=[3,5]:=rfl;obtain ⟨u5,hu5,ha5,y5,hy5,hn5,hp5⟩:=(T6'.lp _ hA5).dn (x5 1 (vN 9)) (by simp) rfl rfl;simp only at ha5;obtain ⟨u3,hu3,ha3,y3,hy3,hn3⟩:=T6'.pr (x3 2 (vN 1)) (by simp) cA (by show cA∈[cA,cB].take 2; simp);obtain ⟨iu,hiu⟩:=abQ hu5;have hu:u3=u5:=E6 T6'.ss hiu hu3 (ha3.trans ha5.symm);subst hu;obtain ⟨i3,hi3⟩:=abQ hy3;obtain ⟨i5,hi5⟩:=abQ hy5;have hlast:=((T6'.st u3 hu3).up i5 y5 hi5 hp5).1;have hi35:i3 < i5:=by
  have:=(abz.1 hi3).1;rcases adk i3 i5 with q|q
  ·exact q
  ·have:i3=i5:=by omega
   subst this;rw [hi3] at hi5;simp only [abx] at hi5;rw [hi5,hn5] at hn3;exact absurd hn3 (by decide)
 have hlay:tN N ⟨[x3 2 (vN 1),x5 1 (vN 9)],L4,S4⟩ rA=some u3.Layers:=by
  obtain ⟨j,hj1,hj2⟩:=GO N T6'.ss hu3;rw [ha5] at hj1;rw [tN,hj1,aby,if_pos (by omega),aR hj2,Fc (T6'.bdL hu3)];rfl
 have hlen:u3.Layers.length=2:=by
  obtain ⟨r,hr⟩:=T6'.ac;have hnd:(u3.Layers.map al.Txn_).Nodup:=by
   unfold List.Nodup;rw [ac4];exact (hr u3 hu3).imp fun q e=>by rw [e] at q; omega
  have g1:=rq (l:=[3,5]) hnd fun n hn=>by
   obtain ⟨y,hy,rfl⟩:=ab9.1 hn;exact (T6'.st u3 hu3).id y hy
  simp only [abJ,abW,acm] at g1;omega
 obtain ⟨D,a1,_,dD,cD,_⟩:=KN N (by omega) T6' (id:=3) (by simp [hids]);have hD:D.length=2:=by
  have h5:(5:Int)∈D:=by
   have:=cD u3 hu3 i3 i5 y3 y5 hi35 hi3 hi5 (by rw [hn3]; exact dD.me)
   rwa [hn5] at this
  have g1:=rq (l:=[3,5]) dD.nd dD.sub;have g2:=rq (l:=D) (k:=[3,5]) (by decide) fun n hn=>by
   simp only [ab7,ac2,or_false] at hn;rcases hn with rfl|rfl
   ·exact dD.me
   ·exact h5
  simp only [abW,acm] at g1 g2;omega
 obtain ⟨L5,S5,p5,T7,m5,n5',k5⟩:=QH N (by omega) T6' (x:=x3 2 (vN 1)) (by simp) rfl (c:=cB) (by simp [x3]) hB3;have hA5':(⟨rA,5,[]⟩:ai)∈L5:=(m5 _).2 ⟨hA5,rAB⟩;have c5:∀ l∈L5,l=⟨rA,5,[]⟩:=fun l hl=>by
  obtain ⟨g1,g2⟩:=(m5 l).1 hl;rcases c4 l g1 with q|q
  ·exact q
  ·rw [q] at g2; exact absurd rfl g2
 have f7:AV S5 rA 5 [vN 9]:=k5 rA 5 _ rAB f6;have hpr3:∀ c∈(x3 2 (vN 1)).Calls,uG ⟨[x3 2 (vN 1),x5 1 (vN 9)],L5,S5⟩ c.Target 3:=fun c hc=>
  Xn T7 (x:=x3 2 (vN 1)) (by simp) rfl hc fun l hl _=>by rw [c5 l hl]; decide
 have hnr5:¬ Bg ⟨[x3 2 (vN 1),x5 1 (vN 9)],L5,S5⟩ (x5 1 (vN 9)):=fun q=>
  zM T7 hA5' (x:=x5 1 (vN 9)) (by simp) rfl rfl (q.pr cA (by simp [x5]))
 have hr3:Bg ⟨[x3 2 (vN 1),x5 1 (vN 9)],L5,S5⟩ (x3 2 (vN 1)):=by
  refine ⟨rfl,hpr3,abG.2 fun s hs=>EA (by simp) fun i y hi hyn z hz=>?_⟩;exfalso;obtain ⟨j,hj⟩:=abQ hz;rw [acb] at hj;split at hj
  case isFalse=>cases hj
  rename_i hji;have hzm:=abA hj;have hz5:z.Txn_=5:=by
   have:z.Txn_∈[3,5]:=(T7.st s hs).id z hzm;simp only [ab7,ac2,or_false] at this;rcases this with q|q
   ·obtain ⟨r,hr⟩:=T7.ac;have:=IP (hr s hs) hj hi (q.trans hyn.symm);omega
   ·exact q
  obtain ⟨⟨c,hc,hca⟩,_⟩:=(T7.st s hs).ex z hzm (x5 1 (vN 9)) (by simp) hz5.symm;have hca':s.Actor=rA:=by
   have:=acG hc;simp only [x5,abV] at this;rw [<-hca,this]; rfl
  have hzp:z.Prepared=false:=by
   cases hp:z.Prepared with
   | false=>rfl
   | true=>exact absurd ⟨s,hs,hca',z,hzm,hz5,hp⟩ (zM T7 hA5' (x:=x5 1 (vN 9)) (by simp) rfl rfl)
  have:=((T7.st s hs).up j z hj hzp).1;have:=(abz.1 hi).1;omega
 obtain ⟨t',cs,r1,T8,hres⟩:=LR N hN T7;have hcs:(∃ ws,cs=[⟨3,⟨#[99]⟩,1,vN 1,ws⟩]/\ws.length=2)/\t'=Ar ⟨[x3 2 (vN 1),x5 1 (vN 9)],L5,S5⟩ [3]:=by
  cases hres with
  | nil hno=>exact absurd hr3 (hno _ (by simp))
  | @cons _ _ cs x ps ws hx hr hp hw hT rest=>
   have hx3:x=x3 2 (vN 1):=by
    simp only [ab7,ac2,or_false] at hx;rcases hx with rfl|rfl
    ·rfl
    ·exact absurd hr hnr5
   subst hx3;have hrem:(Ar ⟨[x3 2 (vN 1),x5 1 (vN 9)],L5,S5⟩ [(x3 2 (vN 1)).ID]).Txns=[x5 1 (vN 9)]:=rfl;have hdone:∀ {u u':ae} {cs:List aI},Res N u u' cs->u.Txns=[x5 1 (vN 9)]->(⟨rA,5,[]⟩:ai)∈u.Locks->TV u->cs=[]/\u'=u:=fun h1 h2 h3 h4=>by
    cases h1 with
    | nil=>exact ⟨rfl,rfl⟩
    | @cons _ _ _ y _ _ hy hry=>
     exfalso;rw [h2] at hy;simp only [abV] at hy;subst hy;exact zM h4 h3 (x:=x5 1 (vN 9)) (by rw [h2]; simp) rfl rfl (hry.pr cA (by simp [x5]))
   obtain ⟨q1,q2⟩:=hdone rest hrem hA5' hT;subst q1;have hps:ps.length=2:=by
    obtain ⟨r,g1,g2,g3⟩:=zW N hN (x:=x3 2 (vN 1)) (by decide) (by decide);rw [g1] at hp;simp only [abx] at hp;subst hp;have hnd:r.Nodup:=g2.imp fun {a b} g e=>by rw [e,lpR,jE] at g; cases g
    have u1:=zx (l:=[rA,rB]) hnd fun a hm=>by
     obtain ⟨c,hc,q⟩:=(g3 a).1 hm;simp only [x3,ab7,ac2,or_false] at hc;rcases hc with rfl|rfl<;>rw [<-q]<;>simp [cA,cB]
    have u2:=zx (l:=r) (k:=[rA,rB]) (by simp [rAB]) fun a hm=>by
     simp only [ab7,ac2,or_false] at hm;rcases hm with rfl|rfl
     ·exact (g3 _).2 ⟨cA,by simp [x3],rfl⟩
     ·exact (g3 _).2 ⟨cB,by simp [x3],rfl⟩
    simp only [abW,acm] at u1 u2;omega
   have hwl:∀ {ps:List Ref} {ws:List aU},Wr ⟨[x3 2 (vN 1),x5 1 (vN 9)],L5,S5⟩ 3 ps ws->ws.length=ps.length:=by
    intro ps
    induction ps with
    | nil=>intro ws h; cases ws with
     | nil=>rfl
     | cons=>exact h.elim
    | cons a ps ih=>intro ws h; cases ws with
     | nil=>exact h.elim
     | cons w ws=>simp [ih h.2.2]
   exact ⟨⟨ws,rfl,(hwl hw).trans hps⟩,q2⟩
 obtain ⟨⟨ws,rfl,hws⟩,rfl⟩:=hcs;have hT8:(Ar ⟨[x3 2 (vN 1),x5 1 (vN 9)],L5,S5⟩ [3]).Txns=[x5 1 (vN 9)]:=rfl;have hfind:AA N (Ar ⟨[x3 2 (vN 1),x5 1 (vN 9)],L5,S5⟩ [3]) 5=some (x5 1 (vN 9),true):=by
  obtain ⟨i,x,g1,g2,g3⟩:=tK (N:=N) (t:=Ar ⟨[x3 2 (vN 1),x5 1 (vN 9)],L5,S5⟩ [3]) (n:=5) (by unfold ids; rw [hT8]; simp [x5]);have hxm:=abA g2;rw [hT8] at hxm;simp only [abV] at hxm;subst hxm;rw [AA,g1,aby,if_pos (by omega),aR g2,Ep (T8.tx.x _ (abA g2)).1.bd];rfl
 obtain ⟨r,g1,g2,g3⟩:=zW N hN (x:=x5 1 (vN 9)) (by decide) (by decide);have hrl:r.length=1:=by
  have hnd:r.Nodup:=g2.imp fun {a b} g e=>by rw [e,lpR,jE] at g; cases g
  have u1:=zx (l:=[rA]) hnd fun a hm=>by
   obtain ⟨c,hc,q⟩:=(g3 a).1 hm;simp only [x5,ab7,ac2,or_false] at hc;rw [<-q,hc]; simp [cA]
  have u2:0 < r.length:=ae6 ((g3 rA).2 ⟨cA,by simp [x5],rfl⟩);simp only [abW,acm] at u1;omega
 have hfields:∃ l,tA N (Ar ⟨[x3 2 (vN 1),x5 1 (vN 9)],L5,S5⟩ [3]) rA []=some l/\l.length=1:=by
  obtain ⟨s,hs,ha,y,hy,hyn,hyf⟩:=V2 (D:=[3]) f7 (by decide);obtain ⟨j,hj1,hj2⟩:=GO N T8.ss hs;rw [ha] at hj1;have hyl:=(abz.1 hy).1;have hbd:=T8.bdL hs;refine ⟨[vN 9],?_,rfl⟩;rw [tA,hj1,aby];simp only [yx,yB];rw [if_pos (by omega),aR hj2,if_pos (by simp; omega),aR hj2,w64 (by have:=hbd.1; omega) (by have:=hbd.1; omega),show ((s.Layers.length:Int) - 1)=((s.Layers.length - 1:Nat):Int) by omega,aR hy,sP (hbd.2 y (abA hy)),hyf];rfl
 obtain ⟨fl,hf1,hf2⟩:=hfields;have loop:∀ fuel:Nat,3<=fuel->gA N (qP N) fuel ([x3 0 v0,x5 0 v0],[],[],0)=qP N [x3 2 (vN 1),x5 0 v0] L2 S2:=by
  intro fuel hf;obtain ⟨m,rfl⟩:∃ m,fuel=m+1+1+1:=⟨fuel - 3,by omega⟩;rw [gA,if_pos (by decide)];show (iv N ⟨[x3 0 v0,x5 0 v0],[],[]⟩ (x3 0 v0).ID).bind _=_;rw [l1,aby,if_pos rfl,s3,if_neg (by simp),s5];simp only [lS,aby];show (lN N ⟨[x3 0 v0,x5 0 v0],L1,[]⟩ (x3 0 v0).ID [vN 0] (vN 0)).bind _=_;rw [e1,aby,if_pos rfl,show IntKind.i64.wrap (0+1)=1 from rfl];show gA N _ (m+1+1) ([x3 1 (vN 0),x5 0 v0],L1,S1,1)=_;rw [gA,if_pos (by decide)];show (iv N ⟨[x3 1 (vN 0),x5 0 v0],L1,S1⟩ (x3 1 (vN 0)).ID).bind _=_;rw [l2,aby,if_pos rfl,s3,if_neg (by simp),s5];simp only [lS,aby];show (lN N ⟨[x3 1 (vN 0),x5 0 v0],L2,S1⟩ (x3 1 (vN 0)).ID [vN 1] (vN 1)).bind _=_;rw [e2,aby,if_pos rfl,show IntKind.i64.wrap (1+1)=2 from rfl];show gA N _ (m+1) ([x3 2 (vN 1),x5 0 v0],L2,S2,2)=_;rw [gA,if_neg (by decide)]
 unfold uK;show (j9 N ⟨[],[],[]⟩ 3 0 ⟨#[99]⟩ 1 [cA,cB]).bind _=_;rw [b1,aby,if_pos rfl];show (j9 N ⟨[x3 0 v0],[],[]⟩ 5 0 ⟨#[99]⟩ 2 [cA]).bind _=_;rw [b2,aby,if_pos rfl];refine (loop N (by omega)).trans ?_;rw [qP];show (gE N ⟨[x3 2 (vN 1),x5 0 v0],L2,S2⟩ (x3 2 (vN 1)).ID cA.Target).bind _=_;rw [p3,aby,if_pos rfl];show (iv N ⟨[x3 2 (vN 1),x5 0 v0],L3,S3⟩ (x5 0 v0).ID).bind _=_;rw [l4,aby,if_pos rfl,vY,if_neg (by simp),u6];simp only [lS,aby];show (lN N ⟨[x3 2 (vN 1),x5 0 v0],L4,S3⟩ (x5 0 v0).ID [vN 9] (vN 9)).bind _=_;rw [e4,aby,if_pos rfl];show (tN N ⟨[x3 2 (vN 1),x5 1 (vN 9)],L4,S4⟩ rA).bind _=_;rw [hlay,aby,if_pos (by rw [hlen]; rfl)];show (kh N ⟨[x3 2 (vN 1),x5 1 (vN 9)],L4,S4⟩).bind _=_;rw [rJ N (by omega) T6',aby,tc,if_neg (by simp),sS];show (k9 N ⟨[x3 2 (vN 1),x5 1 (vN 9)],L4,S4⟩ 3).bind _=_;rw [a1,aby,if_pos rfl,wE,if_neg (by simp [hD]),we];show (gE N ⟨[x3 2 (vN 1),x5 1 (vN 9)],L4,S4⟩ (x3 2 (vN 1)).ID cB.Target).bind _=_;rw [p5,aby,if_pos rfl];show (oI N ⟨[x3 2 (vN 1),x5 1 (vN 9)],L5,S5⟩).bind _=_;rw [r1,aby,if_pos (by rfl)];refine (aR (i:=0) rfl).trans ?_;rw [if_pos (by rfl),sp,if_neg (by simp [hws]),sN];dsimp only;rw [hfind,aby,if_pos rfl];dsimp only;rw [g1,aby,if_pos (by rw [hrl]; rfl)];show (tA N (Ar ⟨[x3 2 (vN 1),x5 1 (vN 9)],L5,S5⟩ [3]) rA []).bind _=_;rw [hf1,aby];simp [hf2]
end Go.Proofs.YtmacaidmhchpgaaGreat

namespace Go.Proofs.YtmacaidmhchpgaaGreat
open Go Go.Proofs Go.Abs
theorem N1 (N:Nat) (hN:100002<=N):∀ (xs:List Jb) (v:Nat) {t:ae},v+xs.length<=60->(∀ x∈xs,U8C x)->TV t->eY N xs v (t.Txns,t.Locks,t.Stacks)=some true
 | [],v,t,_,_,_=>by rw [eY]
 | x::xs,v,t,hl,hx,h=>by
  simp only [abW] at hl;obtain ⟨t',cs,e,h1,_⟩:=Xd N hN h (v:=v) (by omega) (hx x (by simp));have ih:=N1 N hN xs (v+1) (t:=t') (by omega) (fun y hy=>hx y (by simp [hy])) h1;rw [eY,show (⟨t.Txns,t.Locks,t.Stacks⟩:ae)=t from rfl,e,aby];by_cases q:t'.Txns.length=0
  ·rw [if_pos (by simp only; omega)]; exact ih
  ·have hg:t'.Txns[0]?=some (t'.Txns[0]'(by omega)):=abD (by omega);rw [if_neg (by simp only; omega)];refine (aR (i:=0) hg).trans ?_;cases KO N (by omega) h1 (t'.Txns[0]'(by omega)).ID with
   | no e he _ g=>rw [g,aby,if_neg (by exact he),j4,if_neg (by simp)]; exact ih
   | got hx hn ho ha g=>
    rw [g,aby,if_pos rfl,if_neg (by simp only; omega),j4,if_neg (by simp)]; exact ih
   | @died i y c k D hy hn hk hka ho g hT hD=>
    exfalso;obtain ⟨z,hz,e2⟩:=ab9.1 (h1.lp k hk).ow;obtain ⟨j,hj,rfl⟩:=ad5.1 hz;rcases afk j with rfl|h0
    ·omega
    ·have:=ab1.1 h1.tx.so 0 j (by omega) hj h0; omega
theorem Lr (l:List Jb) (hw:∀ x∈l,U8C x):mL 200000 l=some true:=by
 rw [mL,Xt 200000 (by omega),aby,if_pos rfl];split
 ·rfl
 ·exact N1 200000 (by omega) l 0 (t:=⟨[],[],[]⟩) (by omega) hw TV.nil
end Go.Proofs.YtmacaidmhchpgaaGreat
