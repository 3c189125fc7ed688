/- Plain facts on the models; no program in sight. -/
import Derived.Test.YtmacaidmhchpgaaGreatM
set_option linter.defProp false
set_option linter.unusedSimpArgs false
set_option linter.unusedVariables false
namespace Go.Proofs.YtmacaidmhchpgaaGreat
open Go Go.Proofs Go.Abs
def QI {a b:ByteArray}:sEq a b=true↔a=b:=by
 unfold sEq;rw [beq_iff_eq,ByteArray.toList_eq,ByteArray.toList_eq];obtain ⟨⟨x⟩⟩:=a;obtain ⟨⟨y⟩⟩:=b;simp
theorem Gb (a:ByteArray):sEq a a=true:=QI.2 rfl
theorem H6 {c:Prop} [Decidable c] {a b:Bool}:(if c then some a else some b)=some (if c then a else b):=by split<;>rfl
def MR {c:Prop} [Decidable c] {a b:Bool}:((if c then a else b)=true)↔((c/\a=true)∨(¬ c/\b=true)):=by split<;>simp [*]
def Ko {a b:Bool}:(some a=some b)↔(a=true↔b=true):=by cases a<;>cases b<;>simp
def Jl {α β:Type} {l:List α} {i:Nat} {x:α} {k:α->Option β} (h:l[i]?=some x):gx l (i:Int) k=k x:=aN h
def Cy {α:Type} (p:α->Bool):List α->Nat->Int
 | [],_=>-1
 | x::xs,v=>if p x=true then (v:Int) else Cy p xs (v+1)
theorem kD {α:Type} {L:List α->Nat->Unit->Option Int} (f:α->Option Bool) (p:α->Bool) (h0:∀ v,L [] v ()=some (-1))
  (h1:∀ x xs v,L (x::xs) v ()=(f x).bind fun r=>if r=true then some ((v:Nat):Int) else L xs (v+1) ()) :
  ∀ (xs:List α) (v:Nat),(∀ x∈xs,f x=some (p x))->L xs v ()=some (Cy p xs v)
 | [],v,_=>by rw [h0]; rfl
 | x::xs,v,h=>by
  rw [h1,h x (by simp),cc,kD f p h0 h1 xs (v+1) (fun y hy=>h y (by simp [hy]))];simp only [Cy];cases p x<;>rfl
def s8 {α:Type} (p:α->Bool):∀ (xs:List α) (v:Nat),decide (0<=Cy p xs v)=xs.any p
 | [],v=>rfl
 | x::xs,v=>by
  simp only [Cy,adw];by_cases h:p x=true
  ·have:(0:Int)<=(v:Int):=by omega
   simp [h,this]
  ·simpa [h] using s8 p xs (v+1)
def PO {α ρ:Type} {L:List α->Nat->Unit->Option ρ} (p:α->Bool) (k no:Option ρ) (h0:∀ v,L [] v ()=k)
  (h1:∀ x xs v,L (x::xs) v ()=if p x=true then L xs (v+1) () else no) :
  ∀ (xs:List α) (v:Nat),L xs v ()=if xs.all p=true then k else no
 | [],v=>by rw [h0]; rfl
 | x::xs,v=>by
  rw [h1,PO p k no h0 h1 xs (v+1)];simp only [xV];by_cases h:p x=true<;>simp [h]
theorem tc {α:Type} {l:List α} {i:Nat} {x:α} (h:l[i]?=some x):l.set i x=l:=by
 apply nN;intro j;rw [hU];split
 ·rename_i e;subst e;have:=(cd.1 h).1;rw [if_pos this,h]
 ·rfl
def tN {α ρ:Type} {L:Nat->Nat->List α->Option ρ} (P:α->Prop)
  (h1:∀ m v l x,l[v]?=some x->P x->L (m+1) v l=L m (v+1) l) :
  ∀ (m v:Nat) (l:List α),v+m<=l.length->(∀ x∈l,P x)->L m v l=L 0 (v+m) l
 | 0,v,l,_,_=>rfl
 | m+1,v,l,h,hp=>by
  have hv:v < l.length:=by omega
  rw [h1 m v l l[v] (cq hv) (hp _ (nx hv)),tN P h1 m (v+1) l (by omega) hp]
  congr 1; omega
def vn {α β:Type} {b:Nat} {l:List α} {k:Option β} (h:l.length * (b+1)<=140737488355328):apn b l k=k:=by simp only [apn]; rw [if_pos h]
def qK {α β:Type} {b:Nat} {l l':List α} {k:List α->Option β} (h:(l.length+l'.length) * (b+1)<=140737488355328):apx b l l' k=k (l++l'):=by simp only [apx]; rw [if_pos h]
end Go.Proofs.YtmacaidmhchpgaaGreat
namespace Go.Proofs.YtmacaidmhchpgaaGreat
open Go Go.Proofs Go.Abs
def w64 {n:Int} (h1:-9223372036854775808<=n) (h2:n<=9223372036854775807):IntKind.i64.wrap n=n:=lE h1 h2
def N3:∀ x:List UInt8,Op.bytesLess x x=false
 | []=>rfl
 | a::x=>by simp [Op.bytesLess,N3 x]
def QP:∀ {x y z:List UInt8},Op.bytesLess x y=true->Op.bytesLess y z=true->Op.bytesLess x z=true
 | _,[],_,h1,h2=>by simp [Op.bytesLess] at h1
 | _,_::_,[],h1,h2=>by simp [Op.bytesLess] at h2
 | [],_::_,_::_,h1,h2=>rfl
 | a::x,b::y,c::z,h1,h2=>by
  simp only [Op.bytesLess,ny,decide_eq_true_eq,cw,beq_iff_eq] at h1 h2 ⊢;rcases h1 with h1|⟨rfl,h1⟩
  ·rcases h2 with h2|⟨rfl,h2⟩
   ·exact .inl (UInt8.lt_trans h1 h2)
   ·exact .inl h1
  ·rcases h2 with h2|⟨rfl,h2⟩
   ·exact .inl h2
   ·exact .inr ⟨rfl,QP h1 h2⟩
def Vw:∀ x y:List UInt8,Op.bytesLess x y=true∨x=y∨Op.bytesLess y x=true
 | [],[]=>.inr (.inl rfl)
 | [],_::_=>.inl rfl
 | _::_,[]=>.inr (.inr rfl)
 | a::x,b::y=>by
  simp only [Op.bytesLess,ny,decide_eq_true_eq,cw,beq_iff_eq];rcases UInt8.lt_or_lt_of_ne (a:=a) (b:=b) |> fun h=>(Classical.em (a=b)).imp id h with rfl|h|h
  ·rcases Vw x y with h|rfl|h
   ·exact .inl (.inr ⟨rfl,h⟩)
   ·exact .inr (.inl rfl)
   ·exact .inr (.inr (.inr ⟨rfl,h⟩))
  ·exact .inl (.inl h)
  ·exact .inr (.inr (.inl h))
def Am {a b:ByteArray}:sEq a b=true↔a=b:=by
 unfold sEq;rw [beq_iff_eq,ByteArray.toList_eq,ByteArray.toList_eq];obtain ⟨⟨x⟩⟩:=a;obtain ⟨⟨y⟩⟩:=b;simp
def Tg {a b:ByteArray} (h:a.toList=b.toList):a=b:=Am.1 (by simpa [sEq] using h)
def FV (a:ByteArray):sLt a a=false:=N3 _
def Oi {a b c:ByteArray} (h1:sLt a b=true) (h2:sLt b c=true):sLt a c=true:=QP h1 h2
def SO (a b:ByteArray):sLt a b=true∨a=b∨sLt b a=true:=by
 rcases Vw a.toList b.toList with h|h|h
 ·exact .inl h
 ·exact .inr (.inl (Tg h))
 ·exact .inr (.inr h)
def yN (a b:ByteArray):Int:=if sLt a b=true then -1 else if sEq a b=true then 0 else 1
theorem U2 (N:Nat) (a b:ByteArray):fe N a b=some (yN a b):=by
 have n1:sEq a a=true:=Am.2 rfl;have n2:sEq b b=true:=Am.2 rfl;simp only [fe,lf,n1,n2,cc,yN];cases sLt a b<;>cases sEq a b<;>rfl
def BG {a b:ByteArray}:yN a b=0↔a=b:=by
 unfold yN;constructor
 ·intro h;split at h
  ·omega
  ·split at h
   ·rename_i e; exact Am.1 e
   ·omega
 ·rintro rfl;simp [FV,Am.2 rfl]
def PA {a b:ByteArray}:yN a b < 0↔sLt a b=true:=by
 unfold yN;split
 ·simp [*]
 ·split<;>simp [*]
end Go.Proofs.YtmacaidmhchpgaaGreat
namespace Go.Proofs.YtmacaidmhchpgaaGreat
open Go Go.Proofs Go.Abs
def rl (a b:Ref):Bool:=sLt a.Type_ b.Type_ || (sEq a.Type_ b.Type_ && sLt a.Key b.Key)
def P7 {a b:Ref}:rl a b=true↔sLt a.Type_ b.Type_=true∨(a.Type_=b.Type_/\sLt a.Key b.Key=true):=by
 simp [rl,Am]
def iC (a:Ref):rl a a=false:=by
 simp [rl,FV]
def yH {a b c:Ref} (h1:rl a b=true) (h2:rl b c=true):rl a c=true:=by
 rw [P7] at *;rcases h1 with h1|⟨e1,h1⟩
 ·rcases h2 with h2|⟨e2,h2⟩
  ·exact .inl (Oi h1 h2)
  ·exact .inl (e2 ▸ h1)
 ·rcases h2 with h2|⟨e2,h2⟩
  ·exact .inl (e1 ▸ h2)
  ·exact .inr ⟨e1.trans e2,Oi h1 h2⟩
def MU {a b:Ref} (h1:a.Type_=b.Type_) (h2:a.Key=b.Key):a=b:=by
 cases a; cases b; simp only at h1 h2; rw [h1,h2]
def HY (a b:Ref):rl a b=true∨a=b∨rl b a=true:=by
 simp only [P7];rcases SO a.Type_ b.Type_ with h|h|h
 ·exact .inl (.inl h)
 ·rcases SO a.Key b.Key with q|q|q
  ·exact .inl (.inr ⟨h,q⟩)
  ·exact .inr (.inl (MU h q))
  ·exact .inr (.inr (.inr ⟨h.symm,q⟩))
 ·exact .inr (.inr (.inl h))
def El (a b:Ref):Int:=if yN a.Type_ b.Type_=0 then yN a.Key b.Key else yN a.Type_ b.Type_
def Nv (N:Nat) (a b:Ref):mC N a b=some (El a b):=by
 simp only [mC,U2,cc,tF,pW,El];by_cases h1:yN a.Type_ b.Type_=0
 ·by_cases h2:yN a.Key b.Key=0<;>simp [h1,h2]
 ·simp [h1]
def AJ {a b:Ref}:El a b < 0↔rl a b=true:=by
 unfold El;rw [P7];by_cases h1:yN a.Type_ b.Type_=0
 ·rw [if_pos h1,PA];have e:=BG.1 h1;simp [e,FV]
 ·rw [if_neg h1,PA];have e:¬ a.Type_=b.Type_:=fun q=>h1 (BG.2 q);simp [e]
def Ie {a b:Ref}:El a b=0↔a=b:=by
 unfold El;by_cases h1:yN a.Type_ b.Type_=0
 ·rw [if_pos h1,BG];have e:=BG.1 h1;exact ⟨fun h=>MU e h,fun h=>by rw [h]⟩
 ·rw [if_neg h1];exact ⟨fun h=>absurd h h1,fun h=>by rw [h] at h1; exact absurd (BG.2 rfl) h1⟩
def WA (N:Nat) (a b:Ref):wu N a b=some (rl a b):=by
 simp only [wu,rl];cases sLt a.Type_ b.Type_<;>cases sEq a.Type_ b.Type_<;>simp
structure VA (a:Ref):Prop where
 t1:1<=a.Type_.size
 t2:a.Type_.size<=32
 k:a.Key.size<=32
structure VL (x:ai):Prop where
 a:VA x.Actor
 o1:1<=x.Owner
 o2:x.Owner<=1099511627776
 wl:x.Waiters.length<=32
 w:∀ n∈x.Waiters,1<=n/\n < x.Owner
 so:x.Waiters.Pairwise (· < ·)
structure VT (t:List ai):Prop where
 len:t.length<=128
 l:∀ x∈t,VL x
 so:t.Pairwise fun a b=>rl a.Actor b.Actor=true
def Ld (N:Nat) {a:Ref} (h:VA a):iG N a=some true:=by
 have:=h.t1; have:=h.t2; have:=h.k;simp only [iG];rw [if_pos (by omega),if_pos (by omega)];simp; omega
def Qu (N:Nat) {n:Int} (h1:1<=n) (h2:n<=1099511627776):jG N n=some true:=by
 simp [jG,h1,h2]
def I9 {α:Type} {l xs:List α} {v:Nat} {x:α} (hd:l.drop v=x::xs):v < l.length/\l[v]?=some x/\l.drop (v+1)=xs:=by
 have hvl:v < l.length:=by
  rcases nP v l.length with h|h
  ·exact h
  ·rw [xd h] at hd; simp at hd
 rw [xC hvl] at hd;simp only [acS] at hd;exact ⟨hvl,by rw [cq hvl,hd.1],hd.2⟩
def Nm {α:Type} {R:α->α->Prop} {l:List α} (hs:l.Pairwise R) {v:Nat} {x:α} (hv:0 < v) (hx:l[v]?=some x):∃ y,l[v - 1]?=some y/\R y x:=by
 have hvl:=(cd.1 hx).1;have hxe:=(cd.1 hx).2;refine ⟨_,cq (by omega),?_⟩;have:=na.1 hs (v - 1) v (by omega) hvl (by omega)
 rwa [hxe] at this
def Sy {x:ai} (h:VL x):∀ (xs:List Int) (v:Nat),x.Waiters.drop v=xs->eV x xs v ()=some true
 | [],v,_=>rfl
 | n::xs,v,hd=>by
  obtain ⟨hvl,hx,hd'⟩:=I9 hd;have hn:=h.w n (cg hx);have hl:=h.wl;have ih:=Sy h xs (v+1) hd';rw [eV,if_neg (by omega),if_neg (by omega)];by_cases h0:0 < v
  ·obtain ⟨y,hy,hlt⟩:=Nm h.so h0 hx;rw [if_pos (by omega),w64 (by omega) (by omega),show ((v:Int) - 1)=((v - 1:Nat):Int) by omega,aN hy];have:¬ n<=y:=by omega
   simp [this,iE,ih]
  ·rw [if_neg (by omega)];simp [iE,ih]
def X3 (N:Nat) {x:ai} (h:VL x):lY N x=some true:=by
 have hl:=h.wl;have:¬ (32:Int) < (x.Waiters.length:Int):=by omega
 simp [lY,Ld N h.a,Qu N h.o1 h.o2,this,lI,lx,Sy h x.Waiters 0 rfl]
def PH (N:Nat) {t:List ai} (h:VT t):∀ (xs:List ai) (v:Nat),t.drop v=xs->jH N t xs v ()=some true
 | [],v,_=>rfl
 | x::xs,v,hd=>by
  obtain ⟨hvl,hx,hd'⟩:=I9 hd;have hl:=h.len;have ih:=PH N h xs (v+1) hd';rw [jH,X3 N (h.l x (cg hx)),cc,if_pos rfl];by_cases h0:0 < v
  ·obtain ⟨y,hy,hlt⟩:=Nm h.so h0 hx;rw [if_pos (by omega),w64 (by omega) (by omega),show ((v:Int) - 1)=((v - 1:Nat):Int) by omega,aN hy,Nv,cc];have:=AJ.2 hlt;have:¬ 0<=El y.Actor x.Actor:=by omega
   simp [this,om,ih]
  ·rw [if_neg (by omega)];simp [om,ih]
theorem AQ (N:Nat) {t:List ai} (h:VT t):je N t=some true:=by
 have:=h.len;rw [je,if_neg (by omega)];exact PH N h t 0 rfl
section
variable {α:Type} {p:α->Bool}
def plc (p:α->Bool) (t:List α):Nat:=(t.takeWhile p).length
def IQ (t:List α):plc p t<=t.length:=(List.takeWhile_sublist p).length_le
def Ta (p:α->Bool) (t:List α):Prop:=t.Pairwise fun a b=>p b=true->p a=true
def tT:∀ {t:List α},Ta p t->∀ {i:Nat} {r:α},t[i]?=some r->(p r=true↔i < plc p t)
 | [],hp,i,r,hr=>by simp at hr
 | x::xs,hp,i,r,hr=>by
  have hp':=xR.1 hp;by_cases h:p x=true
  ·have e:plc p (x::xs)=plc p xs+1:=by simp [plc,aej,h]
   rw [e];cases i with
   | zero=>simp only [cu,cb] at hr; subst hr; simp [h]
   | succ i=>
    rw [nn] at hr;rw [tT (t:=xs) hp'.2 hr]; omega
  ·have e:plc p (x::xs)=0:=by simp [plc,aej,h]
   rw [e];constructor
   ·intro hlt;exfalso;cases i with
    | zero=>simp only [cu,cb] at hr; subst hr; exact h hlt
    | succ i=>
     rw [nn] at hr;exact h (hp'.1 r (cg hr) hlt)
   ·omega
end
def Qw {i j:Nat} (h:i+j<=1000000):IntKind.i64.wrap (kd .u64 (IntKind.u64.wrap (IntKind.i64.wrap ((i:Int)+(j:Int)))) 1)=(((i+j) / 2:Nat):Int):=by
 rw [w64 (n:=(i:Int)+(j:Int)) (by omega) (by omega)];have e:IntKind.u64.wrap ((i:Int)+(j:Int))=(i:Int)+(j:Int):=SF ⟨by show (0:Int)<=_; omega,by show _<=(18446744073709551615:Int); omega⟩;rw [e];have e2:kd .u64 ((i:Int)+(j:Int)) 1=(((i+j) / 2:Nat):Int):=by
  show ((i:Int)+(j:Int)).fdiv 2=_;rw [acQ _ (by omega)];omega
 rw [e2,w64 (by omega) (by omega)]
def pa (t:List ai) (a:Ref):Nat:=plc (fun x=>rl x.Actor a) t
def eqA (a b:Ref):Bool:=sEq a.Type_ b.Type_ && sEq a.Key b.Key
def FC {a b:Ref}:eqA a b=true↔a=b:=by
 simp only [eqA,cw,Am];exact ⟨fun q=>MU q.1 q.2,fun q=>by rw [q]; exact ⟨rfl,rfl⟩⟩
def vl (t:List ai) (a:Ref):Bool:=match t[pa t a]? with
 | some x=>eqA x.Actor a
 | none=>false
def GZ {t:List ai} (hs:t.Pairwise fun a b=>rl a.Actor b.Actor=true) (a:Ref):Ta (fun x:ai=>rl x.Actor a) t:=hs.imp (fun h1 h2=>yH h1 h2)
def PY {t:List ai} (h:VT t) (N:Nat) (a:Ref) (kx:Int->Option (Int × Bool)) :
  ∀ (n i j:Nat),j < i+n->i<=pa t a->pa t a<=j->j<=t.length->aY t N a kx n ((i:Int),(j:Int))=kx ((pa t a:Nat):Int)
 | 0,i,j,h1,h2,h3,h4=>by omega
 | n+1,i,j,h1,h2,h3,h4=>by
  have hl:=h.len;rw [aY];by_cases hij:i < j
  ·rw [if_pos (by omega),Qw (by omega)];have hm:(i+j) / 2 < t.length:=by omega
   have hx:t[(i+j) / 2]?=some t[(i+j) / 2]:=cq hm;have hc:=tT (GZ h.so a) hx;rw [aN hx,pd,Nv];simp only [cc,AJ];by_cases hs:rl t[(i+j) / 2].Actor a=true
   ·rw [if_pos hs,w64 (by omega) (by omega)];have:(i+j) / 2 < pa t a:=hc.1 hs;exact PY h N a kx n ((i+j) / 2+1) j (by omega) (by omega) h3 h4
   ·rw [if_neg hs];have:¬ (i+j) / 2 < pa t a:=fun q=>hs (hc.2 q);exact PY h N a kx n i ((i+j) / 2) (by omega) h2 (by omega) (by omega)
  ·rw [if_neg (by omega)];have:i=pa t a:=by omega
   rw [this]
def MY (N:Nat) (hN:200<=N) {t:List ai} (h:VT t) (a:Ref):qz N t a=some (((pa t a:Nat):Int),vl t a):=by
 have hl:=h.len;have hp:pa t a<=t.length:=IQ t;have:=PY h N a (dM t N a) N 0 t.length (by omega) (by omega) hp (by omega);simp only [qz,de];rw [show (0:Int)=((0:Nat):Int) from rfl,this];unfold dM vl;cases hq:t[pa t a]? with
 | none=>
  have:=xT.1 hq;rw [if_neg (by omega)]; rfl
 | some s=>
  have:=(cd.1 hq).1;rw [if_pos (by omega),aN hq,pd,Nv];have e:decide (El s.Actor a=0)=eqA s.Actor a:=by rw [acM,decide_eq_true_eq,Ie,FC]
  simp [e]
def za {t:List ai} {a:Ref} (h:vl t a=true):∃ x,t[pa t a]?=some x/\x.Actor=a:=by
 unfold vl at h;split at h
 ·rename_i s hs; exact ⟨s,hs,FC.1 h⟩
 ·cases h
theorem Wl {t:List ai} (hp:t.Pairwise fun a b=>rl a.Actor b.Actor=true) {i:Nat} {x:ai} (hi:t[i]?=some x):pa t x.Actor=i/\vl t x.Actor=true:=by
 have h1:=tT (GZ hp x.Actor) hi;simp only [iC] at h1;have hle:pa t x.Actor<=i:=by
  rcases nP i (pa t x.Actor) with h|h
  ·exact absurd (h1.2 h) (by simp)
  ·exact h
 have hil:=(cd.1 hi).1;have hie:=(cd.1 hi).2;have hpl:pa t x.Actor < t.length:=by omega
 have e:pa t x.Actor=i:=by
  rcases nP (pa t x.Actor) i with h|h
  ·exfalso;have h2:=tT (GZ hp x.Actor) (cq hpl);have h3:=na.1 hp _ i hpl hil h;rw [hie] at h3;have:pa t x.Actor < pa t x.Actor:=h2.1 h3;omega
  ·omega
 refine ⟨e,?_⟩;unfold vl;rw [e,hi];exact FC.2 rfl
end Go.Proofs.YtmacaidmhchpgaaGreat
namespace Go.Proofs.YtmacaidmhchpgaaGreat
open Go Go.Proofs Go.Abs
def Wz {α:Type} {l:List α} {v:Nat} {x:α} (h:l[v]?=some x):l.set v x=l:=by
 apply nN;intro i;rw [hU];by_cases e:v=i
 ·subst e;have hlt:=(cd.1 h).1;simp [hlt,<-h]
 ·simp [e]
def Qc (N:Nat) {t:List ai} (h:VT t):∀ (m v:Nat),v+m=t.length->kO N m v t=some t
 | 0,v,hv=>by rw [kO,XP (by omega)]
 | m+1,v,hv=>by
  have hx:t[v]?=some t[v]:=cq (by omega);have hw:=(h.l _ (cg hx)).wl;rw [kO,aN hx,dU,Vd (by omega),cc];rw [Wz (x:=t[v]) hx];exact Qc N h m (v+1) (by omega)
def CT (N:Nat) {t:List ai} (h:VT t):fQ N t=some t:=by
 have:=h.len;rw [fQ,eJ,Vd (by omega),cc];exact Qc N h _ 0 (by omega)
def pz (w:List Int) (n:Int):Nat:=plc (fun x=>decide (x < n)) w
def Z2 {w:List Int} (hs:w.Pairwise (· < ·)) (n:Int):Ta (fun x:Int=>decide (x < n)) w:=hs.imp (fun h1 h2=>by simp only [decide_eq_true_eq] at *; omega)
def Mo {w:List Int} (hs:w.Pairwise (· < ·)) {n:Int} {i:Nat} {x:Int} (hx:w[i]?=some x):x < n↔i < pz w n:=by
 have:=tT (Z2 hs n) hx;simpa [pz] using this
def O3 (w:List Int) (n:Int):pz w n<=w.length:=IQ w
def WG (N:Nat) (a b:Int):oI N a b=some (decide (a < b)):=by
 simp [oI,pY]
def Zy {w:List Int} (hs:w.Pairwise (· < ·)) {n:Int}:n∈w↔w[pz w n]?=some n:=by
 constructor
 ·intro h;obtain ⟨i,hi⟩:=nV.1 h;have h1:=Mo hs hi (n:=n);have hle:pz w n<=i:=by omega
  have hil:=(cd.1 hi).1;have hpl:pz w n < w.length:=by omega
  rcases nP (pz w n) i with q|q
  ·exfalso;have h2:=Mo hs (cq hpl) (n:=n);have h3:=na.1 hs _ i hpl hil q;have h4:w[i]=n:=(cd.1 hi).2;omega
  ·have:pz w n=i:=by omega
   rw [this]; exact hi
 ·exact cg
def QN {w:List Int} (hl:w.length<=32) (hs:w.Pairwise (· < ·)) (N:Nat) (a:Int) (kx:Int->Option (Int × Bool)) :
  ∀ (n i j:Nat),j < i+n->i<=pz w a->pz w a<=j->j<=w.length->dQ w N a kx n ((i:Int),(j:Int))=kx ((pz w a:Nat):Int)
 | 0,i,j,h1,h2,h3,h4=>by omega
 | n+1,i,j,h1,h2,h3,h4=>by
  rw [dQ];by_cases hij:i < j
  ·rw [if_pos (by omega),Qw (by omega)];have hm:(i+j) / 2 < w.length:=by omega
   have hx:w[(i+j) / 2]?=some w[(i+j) / 2]:=cq hm;have hc:=Mo hs hx (n:=a);rw [aN hx,WG];simp only [cc,decide_eq_true_eq];by_cases hlt:w[(i+j) / 2] < a
   ·rw [if_pos hlt,w64 (by omega) (by omega)];have:(i+j) / 2 < pz w a:=hc.1 hlt;exact QN hl hs N a kx n ((i+j) / 2+1) j (by omega) (by omega) h3 h4
   ·rw [if_neg hlt];have:¬ (i+j) / 2 < pz w a:=fun q=>hlt (hc.2 q);exact QN hl hs N a kx n i ((i+j) / 2) (by omega) h2 (by omega) (by omega)
  ·rw [if_neg (by omega)];have:i=pz w a:=by omega
   rw [this]
def Zv (N:Nat) (hN:200<=N) {w:List Int} (hl:w.length<=32) (hs:w.Pairwise (· < ·)) (a:Int):gp N w a=some (((pz w a:Nat):Int),decide (a∈w)):=by
 have hp:=O3 w a;have:=QN hl hs N a (jh w a N) N 0 w.length (by omega) (by omega) hp (by omega);simp only [gp];rw [show (0:Int)=((0:Nat):Int) from rfl,this];unfold jh;have hm:=Zy hs (n:=a);cases hq:w[pz w a]? with
 | none=>
  have:=xT.1 hq;rw [if_neg (by omega)];rw [hq] at hm;have:a∉w:=fun q=>by simpa using hm.1 q
  simp [this]
 | some s=>
  have:=(cd.1 hq).1;rw [if_pos (by omega),aN hq];rw [hq] at hm;by_cases e:s=a
  ·subst e;have:s∈w:=hm.2 rfl;simp [this]
  ·have:a∉w:=fun q=>e (ng (hm.1 q));simp [e,this,k8]
def ES (w:List Int) (n:Int):List Int:=w.take (pz w n)++[n]++w.drop (pz w n)
def Kr {w:List Int} {n z:Int}:z∈ES w n↔z=n∨z∈w:=by
 unfold ES;have:z∈w↔z∈w.take (pz w n)∨z∈w.drop (pz w n):=by rw [<-cH,xD]
 rw [this];simp only [cH,cO];constructor
 ·rintro ((h|h)|h)<;>simp [h]
 ·rintro (h|h|h)<;>simp [h]
def Wv {w:List Int} {n:Int}:(ES w n).length=w.length+1:=by
 have:=O3 w n;simp [ES]; omega
def Yh {w:List Int} (hs:w.Pairwise (· < ·)) {n:Int} (hn:n∉w):(ES w n).Pairwise (· < ·):=by
 unfold ES;have hp:=O3 w n;have h1:∀ z∈w.take (pz w n),z < n:=by
  intro z hz;obtain ⟨i,hi⟩:=nV.1 hz;have hil:=(cd.1 hi).1;rw [nC] at hil;rw [xk (by omega)] at hi;exact (Mo hs hi).2 (by omega)
 have h2:∀ z∈w.drop (pz w n),n < z:=by
  intro z hz;obtain ⟨i,hi⟩:=nV.1 hz;rw [cX] at hi;have:=Mo hs hi (n:=n);have hne:z≠n:=fun q=>hn (q ▸ cg hi);omega
 rw [nr,xr];refine ⟨hs.sublist (adf _ _),?_,fun a ha b hb=>?_⟩
 ·rw [xS,xR];exact ⟨fun b hb=>h2 b hb,hs.sublist (adI _ _)⟩
 ·have:=h1 a ha;rcases cH.1 hb with hb|hb
  ·rw [cO] at hb; omega
  ·have:=h2 b hb; omega
def acq (t:List ai) (a:Ref) (n:Int):List ai × Int × Int:=
 if vl t a=true then
  match t[pa t a]? with
  | some x=>if x.Owner=n then (t,1,0) else if x.Owner < n then (t,3,0) else if n∈x.Waiters then (t,2,0) else if x.Waiters.length=32 then ([],0,5) else (t.set (pa t a) ⟨x.Actor,x.Owner,ES x.Waiters n⟩,2,0)
  | none=>([],0,0)
 else if t.length=128 then ([],0,5) else (t.take (pa t a)++[⟨a,n,[]⟩]++t.drop (pa t a),1,0)
def XA (t:List ai) (a:Ref):pa t a<=t.length:=IQ t
def Y8 (N:Nat) (hN:200<=N) {t:List ai} (h:VT t) {a:Ref} (ha:VA a) {n:Int} (n1:1<=n) (n2:n<=1099511627776):pP N t a n=some (acq t a n):=by
 have hl:=h.len;have hp:=XA t a;simp only [pP,AQ N h,Ld N ha,Qu N n1 n2,cc,if_true,nz,oP,cR,if_false,oM,MY N hN h];unfold acq;by_cases hh:vl t a=true
 ·obtain ⟨x,hx,hxa⟩:=za hh;have hv:=h.l x (cg hx);have hw:=hv.wl;rw [if_pos hh,if_pos hh,aN hx,Zv N hN hv.wl hv.so,hx];simp only [cc,CT N h];by_cases e1:x.Owner=n
  ·simp [e1]
  ·by_cases e2:x.Owner < n
   ·simp [e1,e2]
   ·by_cases e3:n∈x.Waiters
    ·simp [e1,e2,e3]
    ·by_cases e4:x.Waiters.length=32
     ·simp [e1,e2,e3,e4]
     ·have e4':¬ ((x.Waiters.length:Nat):Int)=32:=by omega
      have hpz:=O3 x.Waiters n;simp only [e1,e2,e3,e4,e4',if_false,decide_false,cR,aN hx];unfold mF Ia;rw [if_pos ⟨by omega,by omega,rfl,by omega⟩];simp [ES]
 ·rw [if_neg hh,if_neg hh];by_cases e:t.length=128
  ·rw [if_pos (by omega),if_pos e]
  ·rw [if_neg (by omega),if_neg e,CT N h,cc];unfold lL Ia;rw [if_pos ⟨by omega,by omega,rfl,by omega⟩];simp
def QW {α β:Type} {R:β->β->Prop} {f:α->β} {l:List α} (h:l.Pairwise fun a b=>R (f a) (f b)) {i:Nat} {x y:α} (hx:l[i]?=some x) (he:f y=f x):(l.set i y).Pairwise fun a b=>R (f a) (f b):=by
 rw [na] at *;intro j k hj hk hjk;rw [hC] at hj hk;have hxi:l[i]'((cd.1 hx).1)=x:=(cd.1 hx).2;have key:∀ j (hj:j < l.length),f ((l.set i y)[j]'(by rw [hC]; exact hj))=f l[j]:=by
  intro j hj;rw [List.getElem_set];split
  ·rename_i e; subst e; rw [he,hxi]
  ·rfl
 rw [key j hj,key k hk];exact h j k hj hk hjk
def VT.set {t:List ai} (h:VT t) {i:Nat} {x y:ai} (hx:t[i]?=some x) (he:y.Actor=x.Actor) (hy:VL y):VT (t.set i y):=by
 refine ⟨by rw [hC]; exact h.len,fun z hz=>?_,QW (f:=ai.Actor) (R:=fun a b=>rl a b=true) h.so hx he⟩;rcases ad7 hz with hz|rfl
 ·exact h.l z hz
 ·exact hy
def XS {t:List ai} (hs:t.Pairwise fun a b=>rl a.Actor b.Actor=true) {a:Ref} (hh:¬ vl t a=true) (x:ai) (hx:x.Actor=a):(t.take (pa t a)++[x]++t.drop (pa t a)).Pairwise fun a b=>rl a.Actor b.Actor=true:=by
 have h1:∀ z∈t.take (pa t a),rl z.Actor a=true:=by
  intro z hz;obtain ⟨i,hi⟩:=nV.1 hz;have hil:=(cd.1 hi).1;rw [nC] at hil;rw [xk (by omega)] at hi;exact (tT (GZ hs a) hi).2 (by show i < pa t a; omega)
 have h2:∀ z∈t.drop (pa t a),rl a z.Actor=true:=by
  intro z hz;obtain ⟨i,hi⟩:=nV.1 hz;rw [cX] at hi;have hc:=tT (GZ hs a) hi;rcases HY z.Actor a with q|q|q
  ·have:pa t a+i < pa t a:=hc.1 q;omega
  ·exact absurd (q ▸ (Wl hs hi).2) hh
  ·exact q
 rw [nr,xr];refine ⟨hs.sublist (adf _ _),?_,fun y hy z hz=>?_⟩
 ·rw [xS,xR];exact ⟨fun b hb=>hx ▸ h2 b hb,hs.sublist (adI _ _)⟩
 ·have:=h1 y hy;rcases cH.1 hz with hz|hz
  ·rw [cO] at hz; rw [hz,hx]; exact this
  ·exact yH this (h2 z hz)
def Zg {t:List ai} (h:VT t) {a:Ref} (ha:VA a) {n:Int} (n1:1<=n) (n2:n<=1099511627776):VT (acq t a n).1:=by
 have nil:VT []:=⟨by simp,by simp,List.Pairwise.nil⟩;have hl:=h.len;have hp:=XA t a;unfold acq;split
 ·rename_i hh;obtain ⟨x,hx,hxa⟩:=za hh;have hv:=h.l x (cg hx);have hw:=hv.wl;rw [hx];dsimp only;split
  ·exact h
  split
  ·exact h
  split
  ·exact h
  split
  ·exact nil
  rename_i e1 e2 e3 e4;exact h.set hx rfl ⟨hv.a,hv.o1,hv.o2,by rw [Wv]; show x.Waiters.length+1<=32; omega,fun z hz=>by
   rcases Kr.1 hz with rfl|hz
   ·exact ⟨n1,by show z < x.Owner; omega⟩
   ·exact hv.w z hz,Yh hv.so e3⟩
 ·rename_i hh;split
  ·exact nil
  ·rename_i e;refine ⟨by simp; omega,fun z hz=>?_,XS h.so hh ⟨a,n,[]⟩ rfl⟩;simp only [cH,cO] at hz;rcases hz with (hz|rfl)|hz
   ·exact h.l z (nB hz)
   ·exact ⟨ha,n1,n2,by simp,by simp,List.Pairwise.nil⟩
   ·exact h.l z (xw hz)
end Go.Proofs.YtmacaidmhchpgaaGreat
namespace Go.Proofs.YtmacaidmhchpgaaGreat
open Go Go.Proofs Go.Abs
def yq {α:Type} {l:List α} {k:Nat} {x:α} (h:k < l.length):(l.set k x).take (k+1)=l.take k++[x]:=by
 rw [xE,hU];simp only [if_true,h,xQ];rw [aea (cr k)]
theorem Vv (N:Nat) (x id:Int):kZ N x id=some (decide (x=id)):=rfl
def Qv (N:Nat) (id:Int):∀ (xs:List Int) (v:Nat),(id∉xs/\bh N id xs v ()=some (-1))∨∃ i,xs[i]?=some id/\id∉xs.take i/\bh N id xs v ()=some ((v+i:Nat):Int)
 | [],v=>.inl ⟨by simp,rfl⟩
 | x::xs,v=>by
  rw [bh,Vv,cc];by_cases e:x=id
  ·exact .inr ⟨0,by simp [e],by simp,by simp [e]⟩
  ·have e':¬ id=x:=fun q=>e q.symm;rcases Qv N id xs (v+1) with ⟨h1,h2⟩|⟨i,h1,h2,h3⟩
   ·exact .inl ⟨by simp [e',h1],by simp [e,h2]⟩
   ·refine .inr ⟨i+1,by simpa using h1,by simp [e',h2],?_⟩;simp only [e,decide_false,cR,if_false,h3]
    congr 2; omega
def neB (id:Int) (x:Int):Bool:=!decide (x=id)
structure Xq (a l:List Int) (id:Int) (i j:Nat):Prop where
 len:l.length=a.length
 ij:i < j
 jl:j<=a.length
 pre:l.take i=(a.take j).filter (neB id)
 rest:∀ q,j<=q->l[q]?=a[q]?
theorem Ic (N:Nat) (a:List Int) (id:Int) (ha:a.length<=1000) (kx:List Int->Int->Option (List Int)):∀ (n:Nat) (l:List Int) (i j:Nat),a.length < j+n->Xq a l id i j->∃ l' i',Xq a l' id i' a.length/\bf N id kx n (l,(i:Int),(j:Int))=kx l' ((i':Nat):Int)
 | 0,l,i,j,hn,h=>by have:=h.jl; omega
 | n+1,l,i,j,hn,h=>by
  have hl:=h.len; have hij:=h.ij; have hj:=h.jl;rw [bf];by_cases hlt:j < a.length
  ·have g1:l[j]?=some a[j]:=by rw [h.rest j (cr _),cq hlt]
   have htk:a.take (j+1)=a.take j++[a[j]]:=by rw [xE,cq hlt]; rfl
   rw [if_pos (by omega),aN g1,Vv,cc,w64 (n:=(j:Int)+1) (by omega) (by omega),show ((j:Int)+1)=((j+1:Nat):Int) by omega];by_cases e:a[j]=id
   ·simp only [e,decide_true,if_true];refine Ic N a id ha kx n l i (j+1) (by omega) ⟨hl,by omega,by omega,?_,fun q hq=>h.rest q (by omega)⟩;rw [h.pre,htk,xB]; simp [neB,e]
   ·have hil:i < l.length:=by omega
    simp only [e,decide_false,cR,if_false];rw [aN (cq hil),w64 (n:=(i:Int)+1) (by omega) (by omega),show ((i:Int)+1)=((i+1:Nat):Int) by omega,cP];refine Ic N a id ha kx n (l.set i a[j]) (i+1) (j+1) (by omega) ⟨by simp [hl],by omega,by omega,?_,fun q hq=>by rw [nW (by omega)]; exact h.rest q (by omega)⟩;rw [yq hil,h.pre,htk,xB]; simp [neB,e]
  ·rw [if_neg (by omega)];have:j=a.length:=by omega
   subst this;exact ⟨l,i,h,rfl⟩
def UA (N:Nat) (hN:1001<=N) (a:List Int) (id:Int) (ha:a.length<=1000):bA N a id=some (a.filter (neB id)):=by
 unfold bA dH;rcases Qv N id a 0 with ⟨h1,h2⟩|⟨i,h1,h2,h3⟩
 ·rw [h2,cc,if_pos rfl];have hf:a.filter (neB id)=a:=xP.2 (fun x hx=>by
   simp only [neB];by_cases e:x=id
   ·exact absurd (e ▸ hx) h1
   ·simp [e])
  rw [hf]
 ·have hil:=(cd.1 h1).1;rw [h3,cc,if_neg (by omega),cV,w64 (by omega) (by omega),show ((i:Int)+1)=((i+1:Nat):Int) by omega];have hd:Xq a a id i (i+1):=⟨rfl,by omega,by omega,by
   rw [xE,h1,xQ,xB];have e1:(a.take i).filter (neB id)=a.take i:=xP.2 fun x hx=>by
    simp only [neB];by_cases e:x=id
    ·exact absurd (e ▸ hx) h2
    ·simp [e]
   rw [e1]; simp [neB],fun _ _=>rfl⟩
  obtain ⟨l',i',h',e'⟩:=Ic N a id ha dW N a i (i+1) (by omega) hd;rw [e'];have q1:=h'.len; have q2:=h'.ij;unfold dW slx;rw [cP,if_pos ⟨by omega,by omega,by omega,by omega⟩];dsimp only;rw [if_pos ⟨by omega,by omega,by omega,by rw [Np (by omega)]; omega⟩];try dsimp only
  rw [Kx (by omega),h'.pre,nj (cr _)]
def uX (w:List Int):Int:=(w[w.length - 1]?).getD 0
def ml (t:List ai) (p:Nat):List ai × Int:=match t[p]? with
 | some x=>if x.Waiters.length=0 then (t.take p++t.drop (p+1),0) else (t.set p ⟨x.Actor,uX x.Waiters,x.Waiters.take (x.Waiters.length - 1)⟩,uX x.Waiters)
 | none=>(t,0)
theorem Ea {w:List Int} (h:w.length≠0):w[w.length - 1]?=some (uX w):=by
 have:w.length - 1 < w.length:=by omega
 rw [uX,cq this]; rfl
def Sw (N:Nat) {t:List ai} {p:Nat} {x:ai} (hx:t[p]?=some x) (hp:t.length<=1000) (hw:x.Waiters.length<=32):tI N t (p:Int)=some (ml t p):=by
 have hlt:=(cd.1 hx).1;rw [tI,aN hx,ml,hx];dsimp only;by_cases e:x.Waiters.length=0
 ·rw [if_pos (by omega),if_pos e,w64 (by omega) (by omega)];unfold lH S6;rw [if_pos ⟨by omega,by omega,by omega⟩,cc];simp only [cP,show ((p:Int)+1).toNat=p+1 by omega]
 ·rw [if_neg (by omega),if_neg e,w64 (by omega) (by omega),show ((x.Waiters.length:Nat):Int) - 1=((x.Waiters.length - 1:Nat):Int) by omega,aN (Ea e)];unfold slt;rw [cP,if_pos ⟨by omega,by omega⟩];simp only [adv,cP]
def VL.passed {x:ai} (h:VL x) (e:x.Waiters.length≠0):VL ⟨x.Actor,uX x.Waiters,x.Waiters.take (x.Waiters.length - 1)⟩:=by
 have hg:=Ea e;have hm:=h.w _ (cg hg);have h1:=h.o2; have h2:=h.wl;refine ⟨h.a,hm.1,by show uX x.Waiters<=_; omega,by simp; omega,fun z hz=>⟨(h.w z (nB hz)).1,?_⟩,h.so.sublist (adf _ _)⟩;obtain ⟨i,hi⟩:=nV.1 hz;have hil:=(cd.1 hi).1;rw [nC] at hil;rw [xk (by omega)] at hi;have hlt:i < x.Waiters.length:=by omega
 have:=na.1 h.so i (x.Waiters.length - 1) hlt (by omega) (by omega);rw [(cd.1 hi).2,(cd.1 hg).2] at this;exact this
def Xk {t:List ai} (h:VT t) (p:Nat):VT (ml t p).1:=by
 unfold ml;split
 ·rename_i x hx;split
  ·refine ⟨?_,fun z hz=>?_,?_⟩
   ·have:=h.len;simp only [ni,nC,acK]; omega
   ·rcases cH.1 hz with hz|hz
    ·exact h.l z (nB hz)
    ·exact h.l z (xw hz)
   ·refine h.so.sublist ?_
    conv=>rhs; rw [<-xD p t]
    refine List.Sublist.append (List.Sublist.refl _) ?_;rw [<-acA];exact adI _ _
  ·rename_i e;exact h.set hx rfl ((h.l x (cg hx)).passed e)
 ·exact h
def rls (t:List ai) (a:Ref) (n:Int):List ai × Int × Int:=
 if vl t a=true then
  match t[pa t a]? with
  | some x=>if x.Owner=n then ((ml t (pa t a)).1,(ml t (pa t a)).2,0) else ([],0,10)
  | none=>([],0,0)
 else ([],0,10)
def Zd (N:Nat) (hN:200<=N) {t:List ai} (h:VT t) {a:Ref} (ha:VA a) {n:Int} (n1:1<=n) (n2:n<=1099511627776):mw N t a n=some (rls t a n):=by
 have hl:=h.len;simp only [mw,AQ N h,Ld N ha,Qu N n1 n2,cc,if_true,nz,oS,cR,if_false,pg,MY N hN h];unfold rls;by_cases hh:vl t a=true
 ·obtain ⟨x,hx,hxa⟩:=za hh;have hv:=h.l x (cg hx);rw [if_pos hh,if_pos hh,aN hx,hx];by_cases e:x.Owner=n
  ·simp [e,kN,tu,CT N h,Sw N hx (by omega) hv.wl]
  ·simp [e,kN]
 ·rw [if_neg hh,if_neg hh];simp [kN]
def VT.nil:VT []:=⟨by simp,by simp,List.Pairwise.nil⟩
def jZ (n:Int):List ai->List ai × List ay
 | []=>([],[])
 | x::xs=>if x.Owner=n then (if x.Waiters.length=0 then jZ n xs else (⟨x.Actor,uX x.Waiters,x.Waiters.take (x.Waiters.length - 1)⟩::(jZ n xs).1,⟨x.Actor,uX x.Waiters⟩::(jZ n xs).2)) else (x::(jZ n xs).1,(jZ n xs).2)
def zJ {α:Type} {A B:List α} {x:α}:(A++x::B)[A.length]?=some x:=by simp
def Jj {α:Type} {A B:List α} {x y:α}:(A++x::B).set A.length y=A++y::B:=by simp
def TG {A B:List ai} {x:ai} (e:x.Waiters.length=0):ml (A++x::B) A.length=(A++B,0):=by
 rw [ml,zJ];dsimp only;rw [if_pos e];simp
def TQ {A B:List ai} {x:ai} (e:x.Waiters.length≠0):ml (A++x::B) A.length=(A++⟨x.Actor,uX x.Waiters,x.Waiters.take (x.Waiters.length - 1)⟩::B,uX x.Waiters):=by
 rw [ml,zJ];dsimp only;rw [if_neg e,Jj]
def Wn {x:ai} (h:VL x) (e:x.Waiters.length≠0):1<=uX x.Waiters:=(h.w _ (cg (Ea e))).1
def Ed (N:Nat) (n:Int):∀ (B A:List ai) (g:List ay) (k:Nat),B.length < k->A.length+B.length<=200->g.length+B.length<=1000->(∀ x∈B,VL x)->eE n N k (A++B,g,((A.length:Nat):Int))=some (A++(jZ n B).1,g++(jZ n B).2)
 | _,_,_,0,h,_,_,_=>by omega
 | [],A,g,k+1,h,h1,h2,hB=>by
  rw [eE,if_neg (by simp)];simp [jZ]
 | x::B,A,g,k+1,h,h1,h2,hB=>by
  simp only [cG] at h h1 h2;have hx:=hB x (by simp);rw [eE,if_pos (by simp; omega),aN zJ];by_cases e:x.Owner=n
  ·rw [if_pos e,Sw N zJ (by simp; omega) hx.wl,cc];by_cases e0:x.Waiters.length=0
   ·rw [TG e0];dsimp only;rw [if_pos rfl,Ed N n B A g k (by omega) (by omega) (by omega) (fun y hy=>hB y (by simp [hy]))];simp [jZ,e,e0]
   ·have hp:=Wn hx e0;rw [TQ e0];dsimp only;rw [if_neg (by omega),YV (by simp only [cG,cY]; omega),w64 (by omega) (by omega)];have:=Ed N n B (A++[⟨x.Actor,uX x.Waiters,x.Waiters.take (x.Waiters.length - 1)⟩]) (g++[⟨x.Actor,uX x.Waiters⟩]) k (by omega) (by simp; omega) (by simp; omega) (fun y hy=>hB y (by simp [hy]));simp only [ni,cG,cY,nr,xS] at this;rw [show ((A.length:Nat):Int)+1=((A.length+(0+1):Nat):Int) by omega,this];simp [jZ,e,e0]
  ·rw [if_neg e,w64 (by omega) (by omega)];have:=Ed N n B (A++[x]) g k (by omega) (by simp; omega) (by omega) (fun y hy=>hB y (by simp [hy]));simp only [ni,cG,cY,nr,xS] at this;rw [show ((A.length:Nat):Int)+1=((A.length+(0+1):Nat):Int) by omega,this];simp [jZ,e]
def Vz (N:Nat) (hN:200<=N) {t:List ai} (h:VT t) (n:Int):kL N t n=some (jZ n t):=by
 have hl:=h.len;have:=Ed N n t [] [] N (by omega) (by simp; omega) (by simp; omega) h.l;simp only [kL,AQ N h,cc,if_true,CT N h];simpa using this
def Dd {n:Int}:∀ {t:List ai} {y:ai},y∈(jZ n t).1->∃ x∈t,y.Actor=x.Actor/\(VL x->VL y)
 | [],y,h=>by simp [jZ] at h
 | x::xs,y,h=>by
  unfold jZ at h;split at h
  ·split at h
   ·obtain ⟨z,hz,q⟩:=Dd h;exact ⟨z,by simp [hz],q⟩
   ·rename_i e0;rcases cF.1 h with rfl|h
    ·exact ⟨x,by simp,rfl,fun hv=>hv.passed e0⟩
    ·obtain ⟨z,hz,q⟩:=Dd h;exact ⟨z,by simp [hz],q⟩
  ·rcases cF.1 h with rfl|h
   ·exact ⟨y,by simp,rfl,id⟩
   ·obtain ⟨z,hz,q⟩:=Dd h;exact ⟨z,by simp [hz],q⟩
def PB {n:Int}:∀ (t:List ai),(jZ n t).1.length<=t.length
 | []=>by simp [jZ]
 | x::xs=>by
  have:=PB (n:=n) xs;unfold jZ;split
  ·split<;>simp<;>omega
  ·simp; omega
def SN {n:Int}:∀ {t:List ai},(t.Pairwise fun a b=>rl a.Actor b.Actor=true)->(jZ n t).1.Pairwise fun a b=>rl a.Actor b.Actor=true
 | [],_=>by simp [jZ]
 | x::xs,h=>by
  rw [xR] at h;have ih:=SN (n:=n) h.2;have hd:∀ y∈(jZ n xs).1,rl x.Actor y.Actor=true:=by
   intro y hy;obtain ⟨z,hz,q,_⟩:=Dd hy;rw [q]; exact h.1 z hz
  unfold jZ;split
  ·split
   ·exact ih
   ·rw [xR]; exact ⟨hd,ih⟩
  ·rw [xR]; exact ⟨hd,ih⟩
def SH {t:List ai} (h:VT t) (n:Int):VT (jZ n t).1:=by
 refine ⟨nu (PB t) h.len,fun y hy=>?_,SN h.so⟩;obtain ⟨x,hx,_,q⟩:=Dd hy;exact q (h.l x hx)
def wd1 (n:Int) (x:ai):ai:=⟨x.Actor,x.Owner,x.Waiters.filter (neB n)⟩
theorem Xz (N:Nat) (hN:1001<=N) (n:Int):∀ (B A:List ai) (m:Nat),m=B.length->(∀ x∈B,VL x)->iS N n m A.length (A++B)=some (A++B.map (wd1 n))
 | [],A,m,hm,hB=>by subst hm; simp [iS]
 | x::B,A,m,hm,hB=>by
  subst hm;have hx:=hB x (by simp);have hw:=hx.wl;rw [cG,iS,aN zJ,UA N hN _ n (by omega),cc,Jj];have:=Xz N hN n B (A++[wd1 n x]) B.length rfl (fun y hy=>hB y (by simp [hy]));simp only [ni,cG,cY,nr,xS,wd1] at this;rw [this]; rfl
def ZN (N:Nat) (hN:1001<=N) {t:List ai} (h:VT t) (n:Int):ou N t n=some (t.map (wd1 n)):=by
 have:=Xz N hN n t [] t.length rfl h.l;simp only [ou,AQ N h,cc,if_true,CT N h];simpa using this
def Xr {t:List ai} (h:VT t) (n:Int):VT (t.map (wd1 n)):=by
 refine ⟨by rw [cy]; exact h.len,fun y hy=>?_,?_⟩
 ·obtain ⟨x,hx,rfl⟩:=cE.1 hy;have hv:=h.l x hx;exact ⟨hv.a,hv.o1,hv.o2,nu (adg _ _) hv.wl,fun z hz=>hv.w z (nI.1 hz).1,hv.so.sublist List.filter_sublist⟩
 ·rw [nZ];exact h.so
end Go.Proofs.YtmacaidmhchpgaaGreat
namespace Go.Proofs.YtmacaidmhchpgaaGreat
open Go Go.Proofs Go.Abs
def I6 (l:List ByteArray):Bool:=l.all fun s=>decide (s.size<=64)
def Ma:∀ (xs:List ByteArray) (v:Nat),jD xs v ()=some (I6 xs)
 | [],v=>rfl
 | x::xs,v=>by
  have ih:=Ma xs (v+1);simp only [jD,ih,I6,xV]
  grind
def lM (v:Value):Bool:=
 decide (0<=v.Kind) && decide (v.Kind<=5) &&
 decide (v.N=0∨v.Kind=1∨(v.Kind=2/\v.N=1)) &&
 (sEq v.S ⟨#[]⟩ || decide (v.Kind=3)) && (decide (v.I.length=0) || decide (v.Kind=4)) && (decide (v.L.length=0) || decide (v.Kind=5)) &&
 decide (v.S.size<=64) && decide (v.I.length<=16) && decide (v.L.length<=16) && I6 v.L
def qh (N:Nat) (v:Value):gU N v=some (lM v):=by
 simp only [gU,qp,qv,qO,qu,jv,lQ,lP,jx,qc,Ma,lM];generalize I6 v.L=q;generalize sEq v.S ⟨#[]⟩=z;cases z<;>cases q<;>simp only [H6,Ko,MR,if_true,if_false,cR,cw,ny,nD,decide_eq_true_eq,decide_eq_false_iff_not,nA,nJ,nE,nG,nX,nw,nz,nY,and_false,false_and,or_false,false_or,adJ,true_and,and_true,iff_false,false_iff,not_false_eq_true,not_true_eq_false,true_or,or_true ]<;>omega
def GB (a b:Ref):Bool:=sEq a.Type_ b.Type_ && sEq a.Key b.Key
def Dj (a b:Ref):GB a b=true↔a=b:=by
 obtain ⟨a1,a2⟩:=a;obtain ⟨b1,b2⟩:=b;simp [GB,QI]
def XG (s:ByteArray):Bool:=decide (1<=s.size) && decide (s.size<=32)
def Tr (r:Ref):Bool:=decide (1<=r.Type_.size) && decide (r.Type_.size<=32) && decide (r.Key.size<=32)
def Ja {α:Type} (p:α->Bool) (l:List α):(l.any fun x=>!p x)=!(l.all p):=by
 induction l with
 | nil=>rfl
 | cons x l ih=>simp [ih]
def MW (v:Value):Bool:=lM v && !decide (v.Kind=0)
def qE (c:ah):Bool:=Tr c.Target && XG c.Method && decide (c.Args.length<=4) && c.Args.all MW
def Yp (N:Nat) (l:List Value):bt N l=some (!(l.all MW)):=by
 have h:=kD (L:=bY N) (mg N) (fun v=>!MW v) (fun _=>rfl) (fun _ _ _=>rfl) l 0 (fun x _=>by
  simp only [mg,qh,cc,MW];by_cases h:x.Kind=0<;>simp [h])
 simp only [bt,dw,h,cc,s8,Ja]
def Lm (N:Nat) (c:ah):pS N c=some (qE c):=by
 simp only [pS,iF,iH,Yp,cc,adK,qE,Tr,XG];generalize c.Args.all MW=z;cases z<;>simp only [H6,Ko,MR,if_true,if_false,cR,cw,ny,nD,decide_eq_true_eq,decide_eq_false_iff_not,nA,nJ,nE,nG,nX,nw,nz,nY,and_false,false_and,or_false,false_or,adJ,true_and,and_true,iff_false,false_iff,not_false_eq_true,not_true_eq_false,true_or,or_true ]<;>omega
def bdV (v:Value):Prop:=v.I.length<=17592186044416/\v.L.length<=8796093022208
def EJ (l:List Value):Prop:=l.length<=1759218604441/\∀ v∈l,bdV v
def TT (l:List ah):Prop:=l.length<=2000000/\∀ c∈l,EJ c.Args
def BK {v:Value} (h:lM v=true):bdV v:=by
 simp only [lM,cw,decide_eq_true_eq] at h;exact ⟨by omega,by omega⟩
def PW {c:ah} (h:qE c=true):EJ c.Args:=by
 simp only [qE,cw,decide_eq_true_eq,cn] at h;refine ⟨by omega,fun v hv=>BK ?_⟩;have:=h.2 v hv;simp only [MW,cw] at this;exact this.1
def Of {N:Nat} {l:List Int} (h:l.length<=17592186044416):dU N l=some l:=vn (by omega)
def Q7 {N:Nat} {l:List ByteArray} (h:l.length<=8796093022208):fI N l=some l:=vn (by omega)
def RK {N:Nat} {l:List Value} (h:l.length<=1759218604441):ga N l=some l:=vn (by omega)
def My {N:Nat} {l:List ah} (h:l.length<=2000000):ew N l=some l:=vn (by omega)
def Te (o:Option Bool) (P:Prop):Prop:=∃ b,o=some b/\(b=true↔P)
def Te.iff {o:Option Bool} {P Q:Prop} (h:Te o P) (e:P↔Q):Te o Q:=by
 obtain ⟨b,h1,h2⟩:=h;exact ⟨b,h1,h2.trans e⟩
def Te.dec {p:Prop} [Decidable p]:Te (some (decide p)) p:=⟨_,rfl,by simp⟩
def Te.f {P:Prop} (h:¬ P):Te (some false) P:=⟨_,rfl,by simp [h]⟩
def Te.bind {o:Option Bool} {P Q:Prop} {f:Bool->Option Bool} (h:Te o P) (h1:P->Te (f true) Q) (h2:¬ P->Te (f false) Q):Te (o.bind f) Q:=by
 obtain ⟨b,rfl,h⟩:=h;cases b with
 | true=>exact h1 (h.1 rfl)
 | false=>exact h2 fun p=>by cases h.2 p
def Te.ite {c:Prop} [Decidable c] {a b:Option Bool} {Q:Prop} (h1:c->Te a Q) (h2:¬ c->Te b Q):Te (if c then a else b) Q:=by
 split
 ·exact h1 ‹_›
 ·exact h2 ‹_›
def Te.is {o:Option Bool} {P:Prop} (h:Te o P) (p:P):o=some true:=by
 obtain ⟨b,h1,h2⟩:=h;rw [h1,h2.2 p]
def Te.isnt {o:Option Bool} {P:Prop} (h:Te o P) (p:¬ P):o=some false:=by
 obtain ⟨b,h1,h2⟩:=h;cases b with
 | true=>exact absurd (h2.1 rfl) p
 | false=>exact h1
def Xx {α:Type} {l:List α} {L:List α->Nat->Unit->Option Bool} {P:Nat->α->Prop} {C:Prop} (h0:∀ v,Te (L [] v ()) C)
  (hs:∀ x xs v,l[v]?=some x->∀ R,Te (L xs (v+1) ()) R->Te (L (x::xs) v ()) (P v x/\R)):∀ xs v,l.drop v=xs->Te (L xs v ()) ((∀ i x,v<=i->l[i]?=some x->P i x)/\C)
 | [],v,hd=>(h0 v).iff ⟨fun h=>⟨fun i x hi hx=>by
   have:=List.drop_eq_nil_iff.1 hd;have:=(cd.1 hx).1;omega,h⟩,fun h=>h.2⟩
 | x::xs,v,hd=>by
  obtain ⟨hv,hx,hd'⟩:=I9 hd;refine (hs x xs v hx _ (Xx h0 hs xs (v+1) hd')).iff ⟨fun h=>⟨fun i y hi hy=>?_,h.2.2⟩,fun h=>⟨h.1 v x (cr _) hx,fun i y hi hy=>h.1 i y (by omega) hy,h.2⟩⟩;rcases ael hi with hlt|rfl
  ·exact h.2.1 i y hlt hy
  ·rw [hx,cb] at hy;subst hy;exact h.1
def Y4 {α:Type} {l:List α} {L:List α->Nat->Unit->Option Bool} {P:Nat->α->Prop} {C:Prop} (h0:∀ v,Te (L [] v ()) C)
  (hs:∀ x xs v,l[v]?=some x->∀ R,Te (L xs (v+1) ()) R->Te (L (x::xs) v ()) (P v x/\R)):Te (L l 0 ()) ((∀ i x,l[i]?=some x->P i x)/\C):=
 (Xx h0 hs l 0 rfl).iff ⟨fun h=>⟨fun i x hx=>h.1 i x (cT _) hx,h.2⟩,fun h=>⟨fun i x _ hx=>h.1 i x hx,h.2⟩⟩
def uy {α:Type} (p:α->Bool):∀ (l:List α) (v:Nat),(Cy p l v=-1/\∀ x∈l,p x=false)∨∃ i x,Cy p l v=((v+i:Nat):Int)/\l[i]?=some x/\p x=true/\∀ y∈l.take i,p y=false
 | [],v=>.inl ⟨rfl,by simp⟩
 | x::xs,v=>by
  simp only [Cy];by_cases h:p x=true
  ·exact .inr ⟨0,x,by simp [h],rfl,h,by simp⟩
  ·rw [if_neg h];rcases uy p xs (v+1) with ⟨e,ha⟩|⟨i,y,e,hy,hp,ht⟩
   ·exact .inl ⟨e,by simpa [h] using ha⟩
   ·exact .inr ⟨i+1,y,by rw [e]; omega,by simpa using hy,hp,by simpa [h] using ht⟩
end Go.Proofs.YtmacaidmhchpgaaGreat
namespace Go.Proofs.YtmacaidmhchpgaaGreat
open Go Go.Proofs Go.Abs
structure XV (x:Txn):Prop where
 i1:1<=x.ID
 i2:x.ID<=1099511627776
 c1:1<=x.Calls.length
 c2:x.Calls.length<=4
 d1:0<=x.Done
 d2:x.Done<=x.Calls.length
 la:lM x.Last=true
 ca:∀ c∈x.Calls,qE c=true
def zh (x:Txn):Prop:=0<=x.Born/\x.Born<=1099511627776/\1<=x.Client.size/\x.Client.size<=32/\1<=x.Seq/\x.Seq<=1099511627776/\(x.Done=0->x.Last.Kind=0)
def Wo (N:Nat) (l:List ah):bn N l=some (!(l.all qE)):=by
 have h:=kD (L:=bC N) (oD N) (fun v=>!qE v) (fun _=>rfl) (fun _ _ _=>rfl) l 0 (fun x _=>by
  simp only [oD,Lm,cc])
 simp only [bn,b8,h,cc,s8,Ja]
def Kf (N:Nat) (x:Txn):Te (o5 N x) (XV x/\zh x):=by
 have e:(XV x/\zh x)↔((1<=x.ID/\x.ID<=1099511627776/\1<=x.Calls.length/\x.Calls.length<=4/\0<=x.Done/\x.Done<=x.Calls.length/\lM x.Last=true/\x.Calls.all qE=true)/\zh x):=
  and_congr_left fun _=>⟨fun h=>⟨h.i1,h.i2,h.c1,h.c2,h.d1,h.d2,h.la,cn.2 h.ca⟩,fun ⟨a,b,c,d,e,f,g,h⟩=>⟨a,b,c,d,e,f,g,cn.1 h⟩⟩
 refine Te.iff ?_ e.symm;simp only [o5,fR,gW,gV,fU,Wo,qh,cc,adK,zh];generalize x.Calls.all qE=z;generalize lM x.Last=v;refine ⟨decide ((1<=x.ID/\x.ID<=1099511627776/\1<=x.Calls.length/\x.Calls.length<=4/\0<=x.Done/\x.Done<=x.Calls.length/\v=true/\z=true)/\0<=x.Born/\x.Born<=1099511627776/\1<=x.Client.size/\x.Client.size<=32/\1<=x.Seq/\x.Seq<=1099511627776/\(x.Done=0->x.Last.Kind=0)),?_,decide_eq_true_iff⟩;cases v<;>cases z<;>simp only [H6,Ko,MR,if_true,if_false,cR,cw,ny,nD,decide_eq_true_eq,decide_eq_false_iff_not,nA,nJ,nE,nG,nX,nw,nz,nY,and_false,false_and,or_false,false_or,adJ,true_and,and_true,iff_false,false_iff,not_false_eq_true,not_true_eq_false,true_or,or_true ]<;>omega
structure TX (t:ae):Prop where
 x:∀ x∈t.Txns,XV x/\zh x
 so:t.Txns.Pairwise fun a b=>a.ID < b.ID
 len:t.Txns.length<=32
def Hi {α:Type} {f:α->Int} {l:List α}:(l.Pairwise fun a b=>f a < f b)↔∀ i x y,l[i+1]?=some x->l[i]?=some y->f y < f x:=by
 constructor
 ·intro h i x y hx hy;obtain ⟨h1,rfl⟩:=cd.1 hx;obtain ⟨h2,rfl⟩:=cd.1 hy;exact na.1 h i (i+1) h2 h1 (by omega)
 ·intro h;rw [na];intro i j hi hj hij
  induction j with
  | zero=>omega
  | succ j ih=>
   have h1:=h j _ _ (cq hj) (cq (by omega));rcases ael (Nat.le_of_lt_succ hij) with h2|rfl
   ·have:=ih (by omega) h2; omega
   ·exact h1
def PE (N:Nat) (t:ae) (hl:t.Txns.length<=1000000):Te (tW N t) (TX t):=by
 have h:=Y4 (l:=t.Txns) (L:=gA t N) (P:=fun v x=>(XV x/\zh x)/\(∀ y,0 < v->t.Txns[v - 1]?=some y->y.ID < x.ID)) (C:=t.Txns.length<=32)
  (fun v=>by simp only [gA]; exact Te.dec.iff (by omega))
  (fun x xs v hx R hR=>by
   have hv:=(cd.1 hx).1;simp only [gA];refine (Kf N x).bind (fun p=>?_) fun p=>Te.f fun q=>p q.1.1;simp only [if_true];by_cases h0:0 < v
   ·rw [if_pos (by omega),w64 (by omega) (by omega),show ((v:Int) - 1)=((v - 1:Nat):Int) by omega,aN (cq (by omega))];simp only [kR,decide_eq_true_eq];refine Te.ite (fun q=>Te.f fun r=>?_) fun q=>hR.iff ⟨fun r=>⟨⟨p,fun y _ hy=>?_⟩,r⟩,fun r=>r.2⟩
    ·have:=r.1.2 _ h0 (cq (by omega)); omega
    ·rw [cq (by omega),cb] at hy; subst hy; omega
   ·rw [if_neg (by omega)];simp only [kR,cR,if_false];exact hR.iff ⟨fun r=>⟨⟨p,fun y h=>absurd h h0⟩,r⟩,fun r=>r.2⟩)
 refine h.iff ⟨fun h=>⟨fun x hx=>?_,Hi.2 fun i x y hx hy=>(h.1 _ _ hx).2 y (by omega) (by simpa using hy),h.2⟩,fun h=>⟨fun v x hx=>⟨h.x x (cg hx),fun y h0 hy=>?_⟩,h.len⟩⟩
 ·obtain ⟨i,hi⟩:=cC hx;exact (h.1 i x hi).1
 ·exact Hi.1 h.so (v - 1) x y (by rw [show v - 1+1=v by omega]; exact hx) hy
def ids (t:ae):List Int:=t.Txns.map Txn.ID
def WQ (N:Nat) (t:ae) (n:Int):eT N t n=some (Cy (fun x:Txn=>decide (x.ID=n)) t.Txns 0):=by
 have h:=kD (L:=dP N n) (fun x=>w7 N x n) (fun x=>decide (x.ID=n)) (fun _=>rfl) (fun _ _ _=>rfl) t.Txns 0 (fun x _=>rfl);simp only [eT,eD,h,cc]
def A9 (N:Nat) (t:ae) (n:Int):(n∉ids t/\eT N t n=some (-1))∨∃ i x,eT N t n=some ((i:Nat):Int)/\t.Txns[i]?=some x/\x.ID=n:=by
 rw [WQ];rcases uy (fun x:Txn=>decide (x.ID=n)) t.Txns 0 with ⟨h,ha⟩|⟨i,x,h,hx,hp,_⟩
 ·refine .inl ⟨fun hm=>?_,by rw [h]⟩;obtain ⟨x,hx,rfl⟩:=cE.1 hm;simpa using ha x hx
 ·exact .inr ⟨i,x,by rw [h]; simp,hx,by simpa using hp⟩
theorem AO {t:ae} {i:Nat} {x:Txn} (h:t.Txns[i]?=some x):x.ID∈ids t:=cE.2 ⟨x,cg h,rfl⟩
def qT {N:Nat} {t:ae} {n:Int} (h:n∈ids t):∃ i x,eT N t n=some ((i:Nat):Int)/\t.Txns[i]?=some x/\x.ID=n:=by
 rcases A9 N t n with h1|h1
 ·exact absurd h h1.1
 ·exact h1
def TX.uniq {t:ae} (h:TX t) {x y:Txn} (hx:x∈t.Txns) (hy:y∈t.Txns) (e:x.ID=y.ID):x=y:=by
 obtain ⟨i,hi,rfl⟩:=adL.1 hx;obtain ⟨j,hj,rfl⟩:=adL.1 hy;have:=na.1 h.so;rcases xi i j with q|rfl|q
 ·have:=this i j hi hj q; omega
 ·rfl
 ·have:=this j i hj hi q; omega
end Go.Proofs.YtmacaidmhchpgaaGreat
namespace Go.Proofs.YtmacaidmhchpgaaGreat
open Go Go.Proofs Go.Abs
theorem Eg {α ρ:Type} {l:List α} {L:List α->Nat->Unit->Option ρ} {k:Option ρ} (h0:∀ v,L [] v ()=k)
  (hs:∀ x xs v,l[v]?=some x->L (x::xs) v ()=L xs (v+1) ()):L l 0 ()=k:=by
 have:∀ xs v,l.drop v=xs->L xs v ()=k:=by
  intro xs
  induction xs with
  | nil=>intro v _; exact h0 v
  | cons x xs ih=>
   intro v hd;obtain ⟨hv,hx,hd'⟩:=I9 hd;rw [hs x xs v hx];exact ih (v+1) hd'
 exact this l 0 rfl
def XF {α:Type} {L:List α->Nat->Unit->Option Int} (f:α->Option Bool) (h0:∀ v,L [] v ()=some (-1))
  (h1:∀ x xs v,L (x::xs) v ()=(f x).bind fun r=>if r=true then some ((v:Nat):Int) else L xs (v+1) ()) (xs:List α) (h:∀ x∈xs,f x=some false):L xs 0 ()=some (-1):=by
 rw [kD f (fun _=>false) h0 h1 xs 0 h];have:=s8 (fun _:α=>false) xs 0;rcases uy (fun _:α=>false) xs 0 with ⟨h,_⟩|⟨i,x,_,_,h,_⟩
 ·rw [h]
 ·cases h
def BU (t:ae) (a:Ref) (n:Int):Prop:=∃ s∈t.Stacks,s.Actor=a/\∃ y∈s.Layers,y.Txn_=n
def sU (l:List Value):Bool:=decide (l.length<=8) && l.all lM
def At (x:Txn) (a:Ref):Prop:=∃ c,x.Calls[x.Done.toNat]?=some c/\c.Target=a
structure SV (t:ae) (s:aa):Prop where
 ne:s.Layers≠[]
 id:∀ l∈s.Layers,l.Txn_∈ids t
 fi:∀ l∈s.Layers,sU l.Fields=true
 up:∀ (i:Nat) l,s.Layers[i]?=some l->l.Prepared=false->i+1=s.Layers.length/\∃ k∈t.Locks,k.Actor=s.Actor/\k.Owner=l.Txn_
 ex:∀ l∈s.Layers,∀ x∈t.Txns,x.ID=l.Txn_->(∃ c∈x.Calls.take x.Done.toNat,c.Target=s.Actor)/\(l.Prepared=true->x.Done=x.Calls.length)
structure LP (t:ae) (l:ai):Prop where
 ow:l.Owner∈ids t
 wa:∀ w∈l.Waiters,w∈ids t
 dn:∀ x∈t.Txns,x.ID=l.Owner->x.Done=x.Calls.length->∃ s∈t.Stacks,s.Actor=l.Actor/\∃ y∈s.Layers,y.Txn_=x.ID/\y.Prepared=false
 op:∀ x∈t.Txns,x.ID=l.Owner->x.Done < x.Calls.length->BU t l.Actor x.ID∨At x l.Actor
 wt:∀ x∈t.Txns,x.ID∈l.Waiters->x.Done < x.Calls.length/\At x l.Actor
def Rk (r:Int->Nat) (s:aa):Prop:=s.Layers.Pairwise fun a b=>r a.Txn_ < r b.Txn_
structure TV (t:ae):Prop where
 tx:TX t
 lk:VT t.Locks
 ss:t.Stacks.Pairwise fun a b=>rl a.Actor b.Actor=true
 st:∀ s∈t.Stacks,SV t s
 pr:∀ x∈t.Txns,∀ c∈x.Calls.take x.Done.toNat,BU t c.Target x.ID
 lp:∀ l∈t.Locks,LP t l
 ac:∃ r:Int->Nat,∀ s∈t.Stacks,Rk r s
def FJ (N:Nat) (l:List Value):j9 N l=some (sU l):=by
 have h:=kD (L:=bN N) (kt N) (fun v=>!lM v) (fun _=>rfl) (fun _ _ _=>rfl) l 0 (fun x _=>by
  simp only [kt,qh,cc])
 simp only [j9,bO,dg,h,cc,s8,Ja,sU,adK];by_cases q:l.length<=8
 ·rw [if_pos (by omega)]; simp [q]
 ·rw [if_neg (by omega)]; simp [q]
theorem OV (N:Nat) {t:ae} (h:TV t):ov N t=some true:=by
 rw [ov,AQ N h.lk,cc,if_pos rfl];refine Eg (fun v=>by rw [iV]) fun x xs v hx=>?_;have hp:=h.lp x (cg hx);obtain ⟨i,y,e,_⟩:=qT (N:=N) hp.ow;have hw:=XF (L:=dp N t.Txns t.Locks t.Stacks) (fun w=>lh N w t.Txns t.Locks t.Stacks) (fun _=>rfl) (fun _ _ _=>rfl) x.Waiters (fun w hw=>by
  obtain ⟨j,z,e,_⟩:=qT (N:=N) (hp.wa w hw);rw [lh,e,cc];simp)
 rw [iV,e,cc,if_neg (by omega),dj,dG,hw];rfl
def KA {α:Type} {l:List α} (h:l≠[]):∃ x,l[l.length - 1]?=some x:=⟨_,cq (by have:=xy.2 h; omega)⟩
def Ms {α β:Type} {l:List α} {n:Nat} {k:List α->Option β} (h:n<=l.length):slx l 0 (n:Int) k=k (l.take n):=by
 simp only [slx];rw [if_pos (by omega)];simp
def I7 {r:Int->Nat} {s:aa} (h:Rk r s) {i j:Nat} {x y:al} (hx:s.Layers[i]?=some x) (hy:s.Layers[j]?=some y) (e:x.Txn_=y.Txn_):i=j:=by
 obtain ⟨hi,rfl⟩:=cd.1 hx;obtain ⟨hj,rfl⟩:=cd.1 hy;have:=na.1 h;rcases xi i j with q|q|q
 ·have:=this i j hi hj q; rw [e] at this; omega
 ·exact q
 ·have:=this j i hj hi q; rw [e] at this; omega
theorem M9 (N:Nat) {t:ae} {s:aa} (h:SV t s) {r:Int->Nat} (hr:Rk r s) (hl:s.Layers.length<=1000000):jX N t s.Layers=some true:=by
 rw [jX];have hp:=xy.2 h.ne;refine Eg (fun v=>by rw [et]; simp; omega) fun x xs v hx=>?_;have hv:=(cd.1 hx).1;have hm:=cg hx;obtain ⟨i,y,e,_⟩:=qT (N:=N) (h.id x hm);have hc:aZ N (s.Layers.take v) x.Txn_ x.Fields x.Prepared=some false:=by
  have:=XF (L:=bP N x.Txn_ x.Fields x.Prepared) (fun y=>kh N y x.Txn_ x.Fields x.Prepared) (fun _=>rfl) (fun _ _ _=>rfl) (s.Layers.take v) (fun y hy=>by
   obtain ⟨j,hj⟩:=cC hy;rw [cW] at hj;split at hj
   ·rw [kh];have:¬ y.Txn_=x.Txn_:=fun e=>by have:=I7 hr hj hx e; omega
    simp [this]
   ·cases hj)
  rw [aZ,dc,this];rfl
 rw [et,e,cc,if_neg (by omega),FJ,h.fi x hm,cc,if_pos rfl];cases hb:x.Prepared with
 | true=>rw [if_pos rfl,Ms (by omega),<-hb,hc]; rfl
 | false=>
  have:=(h.up v x hx hb).1;rw [if_neg (by simp),w64 (by omega) (by omega),if_neg (by omega),Ms (by omega),<-hb,hc];rfl
def yR (N:Nat) (a b:Ref):gG N a b=some (El a b):=by
 simp only [gG,U2,cc,tF,pW,El];by_cases h1:yN a.Type_ b.Type_=0
 ·by_cases h2:yN a.Key b.Key=0<;>simp [h1,h2]
 ·simp [h1]
def Lp (N:Nat) (l:List ah) (a:Ref):m9 N l a=some (l.any fun c=>GB c.Target a):=by
 have h:=kD (L:=bM N a.Type_ a.Key) (fun x=>tQ N x a.Type_ a.Key) (fun c=>GB c.Target a) (fun _=>rfl) (fun _ _ _=>rfl) l 0 (fun x _=>rfl);simp only [m9,bQ,dh,h,cc,s8]
theorem Uo (N:Nat) {l:List ah} {a:Ref} (h:∃ c∈l,c.Target=a):m9 N l a=some true:=by
 rw [Lp];obtain ⟨c,hc,rfl⟩:=h
 congr 1
 exact adM.2 ⟨c,hc,(Dj _ _).2 rfl⟩
def KD {x:Txn} (h:XV x):∃ n:Nat,x.Done=n/\x.Done.toNat=n/\n<=x.Calls.length:=⟨x.Done.toNat,by have:=h.d1; omega,rfl,by have:=h.d2; omega⟩
end Go.Proofs.YtmacaidmhchpgaaGreat
namespace Go.Proofs.YtmacaidmhchpgaaGreat
open Go Go.Proofs Go.Abs
theorem AG {t:List ai} (h:VT t) {k:ai} (hk:k∈t):t[pa t k.Actor]?=some k/\vl t k.Actor=true:=by
 obtain ⟨i,hi⟩:=cC hk;have h1:=tT (GZ h.so k.Actor) hi;simp only [iC] at h1;have h2:¬ i < pa t k.Actor:=fun q=>by have:=h1.2 q; cases this
 have hil:=(cd.1 hi).1;have e:pa t k.Actor=i:=by
  rcases nP (pa t k.Actor) i with q|q
  ·have hj:t[pa t k.Actor]?=some t[pa t k.Actor]:=cq (by omega);have h3:=(tT (GZ h.so k.Actor) hj).1 (by
    have:=na.1 h.so _ _ (by omega) hil q
    rwa [(cd.1 hi).2] at this)
   unfold pa at h3; omega
  ·omega
 refine ⟨by rw [e]; exact hi,?_⟩;rw [vl,e,hi];exact FC.2 rfl
def Wa (N:Nat) (hN:200<=N) {t:List ai} (h:VT t) (a:Ref):mX N t a=some (if vl t a=true then ((t[pa t a]?).map ai.Owner).getD 0 else 0):=by
 simp only [mX,AQ N h,cc,if_true,MY N hN h];by_cases hh:vl t a=true
 ·obtain ⟨x,hx,_⟩:=za hh;rw [if_pos hh,if_pos hh,aN hx,hx]; rfl
 ·rw [if_neg hh,if_neg hh]
theorem Pw (N:Nat) (hN:200<=N) {t:List ai} (h:VT t) {k:ai} (hk:k∈t):mX N t k.Actor=some k.Owner:=by
 obtain ⟨h1,h2⟩:=AG h hk;rw [Wa N hN h,if_pos h2,h1]; rfl
def Ol (N:Nat) {t:ae} (hx:TX t) {s:aa} (h:SV t s) (rec3:Unit->Option Bool):eW rec3 N t s s.Layers 0 ()=rec3 ():=by
 refine Eg (fun v=>by rw [eW]) fun y xs v hy=>?_;have hm:=cg hy;obtain ⟨i,x,e,hi,hid⟩:=qT (N:=N) (h.id y hm);have hxm:=cg hi;obtain ⟨n,e1,e2,e3⟩:=KD (hx.x x hxm).1;obtain ⟨h1,h2⟩:=h.ex y hm x hxm hid;rw [eW,e,cc,aN hi,e1,Ms (by omega),Uo N (by rw [<-e2]; exact h1),cc,if_pos rfl];cases hp:y.Prepared with
 | true=>
  have:=h2 hp;rw [if_pos rfl,jB,if_neg (by simp; omega)]
 | false=>rw [if_neg (by simp),jB,if_neg (by simp)]
def MP (N:Nat) (hN:200<=N) {t:ae} (h:TV t) (hl:t.Stacks.length<=1000000) (hll:∀ s∈t.Stacks,s.Layers.length<=1000000):lU N t=some true:=by
 rw [lU];refine Eg (fun v=>by rw [eu]) fun s xs v hs=>?_;have hv:=(cd.1 hs).1;have hm:=cg hs;obtain ⟨r,hr⟩:=h.ac;have hS:=h.st s hm;have h5:jr (jt s (eu t N xs (v+1)) N t) (!true)=eu t N xs (v+1) ():=by
  have hpos:=xy.2 hS.ne;have:=hll s hm;obtain ⟨y,hy⟩:=KA hS.ne;rw [jr,if_neg (by simp),jt,w64 (by omega) (by omega),show ((s.Layers.length:Int) - 1)=((s.Layers.length - 1:Nat):Int) by omega,aN hy];cases hp:y.Prepared with
  | true=>rw [if_pos rfl,ly,if_neg (by simp),lD,Ol N h.tx hS]
  | false=>
   obtain ⟨_,k,hk,h1,h2⟩:=hS.up _ y hy hp;rw [if_neg (by simp),<-h1,Pw N hN h.lk hk,cc,ly,if_neg (by simp [h2]),lD,Ol N h.tx hS]
 rw [eu,M9 N hS (hr s hm) (hll s hm),cc];by_cases h0:0 < v
 ·obtain ⟨z,hz,hlt⟩:=Nm h.ss h0 hs;have:=AJ.2 hlt;rw [if_pos (by omega),w64 (by omega) (by omega),show ((v:Int) - 1)=((v - 1:Nat):Int) by omega,aN hz,yR,cc,if_neg (by omega)];exact h5
 ·rw [if_neg (by omega)];exact h5
def Kd (N:Nat) (t:ae) (a:Ref):(lA N t a=some (-1)/\∀ s∈t.Stacks,s.Actor≠a)∨∃ i s,lA N t a=some ((i:Nat):Int)/\t.Stacks[i]?=some s/\s.Actor=a:=by
 have h:=kD (L:=bS N a.Type_ a.Key) (fun x=>yj N x a.Type_ a.Key) (fun s=>GB s.Actor a) (fun _=>rfl) (fun _ _ _=>rfl) t.Stacks 0 (fun x _=>rfl);simp only [lA,dq,h,cc];rcases uy (fun s:aa=>GB s.Actor a) t.Stacks 0 with ⟨e,ha⟩|⟨i,s,e,hi,hp,_⟩
 ·refine .inl ⟨by rw [e],fun s hs q=>?_⟩;have:=ha s hs;rw [(Dj _ _).2 q] at this; cases this
 ·exact .inr ⟨i,s,by rw [e]; simp,hi,(Dj _ _).1 hp⟩
def CL {t:ae} (h:t.Stacks.Pairwise fun a b=>rl a.Actor b.Actor=true) {i:Nat} {s s':aa} (hi:t.Stacks[i]?=some s) (hs:s'∈t.Stacks) (e:s'.Actor=s.Actor):s'=s:=by
 obtain ⟨j,hj⟩:=cC hs;obtain ⟨h1,rfl⟩:=cd.1 hi;obtain ⟨h2,rfl⟩:=cd.1 hj;have:=na.1 h;rcases xi i j with q|rfl|q
 ·have:=this i j h1 h2 q; rw [e,iC] at this; cases this
 ·rfl
 ·have:=this j i h2 h1 q; rw [e,iC] at this; cases this
def GV (N:Nat) {t:ae} (h:t.Stacks.Pairwise fun a b=>rl a.Actor b.Actor=true) {s:aa} (hs:s∈t.Stacks):∃ i:Nat,lA N t s.Actor=some (i:Int)/\t.Stacks[i]?=some s:=by
 rcases Kd N t s.Actor with ⟨_,q⟩|⟨i,s',e,hi,q⟩
 ·exact absurd rfl (q s hs)
 ·exact ⟨i,e,by rw [hi,CL h hi hs q.symm]⟩
def K0 (n:Int) (l:List al):al × Bool:=match l.find? fun y=>decide (y.Txn_=n) with
 | some y=>(y,true)
 | none=>(⟨0,[],false⟩,false)
def Qp (n:Int):∀ (l:List al) (v:Nat),sB n l v ()=some (K0 n l)
 | [],v=>rfl
 | y::l,v=>by
  rw [sB,Qp n l (v+1)];by_cases q:y.Txn_=n<;>simp [K0,List.find?_cons,q]
def Rh (N:Nat) {t:ae} (h:t.Stacks.Pairwise fun a b=>rl a.Actor b.Actor=true) {s:aa} (hs:s∈t.Stacks) (n:Int):jb N t s.Actor n=some (K0 n s.Layers):=by
 obtain ⟨i,e,hi⟩:=GV N h hs;rw [jb,e,cc,if_pos (by omega),aN hi,Qp]
def Wf (N:Nat) {t:ae} {a:Ref} (h:∀ s∈t.Stacks,s.Actor≠a) (n:Int):jb N t a n=some (⟨0,[],false⟩,false):=by
 rcases Kd N t a with ⟨e,_⟩|⟨i,s,_,hi,q⟩
 ·rw [jb,e,cc,if_neg (by omega)]
 ·exact absurd q (h s (cg hi))
def Yg {r:Int->Nat} {s:aa} (hr:Rk r s) {y:al} (hy:y∈s.Layers):K0 y.Txn_ s.Layers=(y,true):=by
 rw [K0];cases e:s.Layers.find? fun z=>decide (z.Txn_=y.Txn_) with
 | none=>exact absurd (aem.1 e y hy) (by simp)
 | some z=>
  have h1:=List.find?_some e;have h2:=List.mem_of_find?_eq_some e;obtain ⟨i,hi⟩:=cC h2;obtain ⟨j,hj⟩:=cC hy;have:=I7 hr hi hj (by simpa using h1);subst this;rw [hi] at hj;simp only [cb] at hj;rw [hj]
def Yk {n:Int} {l:List al} (h:∀ y∈l,y.Txn_≠n):K0 n l=(⟨0,[],false⟩,false):=by
 rw [K0,aem.2 (fun y hy=>by simpa using h y hy)]
def o6 (N:Nat) {t:ae} (h:t.Stacks.Pairwise fun a b=>rl a.Actor b.Actor=true) (hr:∃ r:Int->Nat,∀ s∈t.Stacks,Rk r s) {a:Ref} {n:Int} {s:aa} {y:al} (hs:s∈t.Stacks) (ha:s.Actor=a) (hy:y∈s.Layers) (hn:y.Txn_=n):jb N t a n=some (y,true):=by
 subst ha; subst hn;obtain ⟨r,hr⟩:=hr;rw [Rh N h hs,Yg (hr s hs) hy]
def NO (N:Nat) {t:ae} (h:t.Stacks.Pairwise fun a b=>rl a.Actor b.Actor=true) {a:Ref} {n:Int} (hn:¬ BU t a n):jb N t a n=some (⟨0,[],false⟩,false):=by
 by_cases q:∃ s∈t.Stacks,s.Actor=a
 ·obtain ⟨s,hs,rfl⟩:=q;rw [Rh N h hs,Yk fun y hy e=>hn ⟨s,hs,rfl,y,hy,e⟩]
 ·exact Wf N (fun s hs e=>q ⟨s,hs,e⟩) n
end Go.Proofs.YtmacaidmhchpgaaGreat
namespace Go.Proofs.YtmacaidmhchpgaaGreat
open Go Go.Proofs Go.Abs
def Xu {x:Txn} {a:Ref} (hx:XV x) (h:At x a):∃ n c,x.Done=((n:Nat):Int)/\x.Calls[n]?=some c/\c.Target=a:=by
 obtain ⟨c,h1,h2⟩:=h;exact ⟨x.Done.toNat,c,by have:=hx.d1; omega,h1,h2⟩
def Sa (N:Nat) {t:ae} (h:TV t) {x:Txn} (hx:x∈t.Txns) (rec3:Unit->Option Bool):gC rec3 N t x (x.Calls.take x.Done.toNat) 0 ()=rec3 ():=by
 refine Eg (fun v=>by rw [gC]) fun c xs v hc=>?_;obtain ⟨s,hs,ha,y,hy,hn⟩:=h.pr x hx c (cg hc);rw [gC,o6 N h.ss h.ac hs ha hy hn,cc,if_pos rfl]
def Sj (N:Nat) {t:ae} (h:TV t) {l:ai} (hl:LP t l) (rec18:Unit->Option Bool):eX rec18 N t l l.Waiters 0 ()=rec18 ():=by
 refine Eg (fun v=>by rw [eX]) fun w xs v hw=>?_;have hm:=cg hw;obtain ⟨i,x,e,hi,hid⟩:=qT (N:=N) (hl.wa w hm);have hx:=cg hi;obtain ⟨h1,h2⟩:=hl.wt x hx (by rw [hid]; exact hm);obtain ⟨n,c,e1,e2,e3⟩:=Xu (h.tx.x x hx).1 h2;rw [eX,e,cc,aN hi,if_neg (by omega),e1,aN e2,<-e3];simp [mS,Gb]
def Ll (N:Nat) {t:ae} (h:TV t):kf N t=some true:=by
 rw [kf];have h4:mU N t=some true:=by
  rw [mU];refine Eg (fun v=>by rw [bH]) fun l xs v hl=>?_;have hlm:=cg hl;have hp:=h.lp l hlm;obtain ⟨i,x,e,hi,hid⟩:=qT (N:=N) hp.ow;have hx:=cg hi;have h3:fb (fc (bH N t xs (v+1)) N t l) false=bH N t xs (v+1) ():=by
   rw [fb,if_neg (by simp),fc,Sj N h hp]
  have hd:=(h.tx.x x hx).1.d2;rw [bH,e,cc,aN hi];by_cases hL:BU t l.Actor x.ID
  ·obtain ⟨s,hs,ha,y,hy,hn⟩:=hL;rw [o6 N h.ss h.ac hs ha hy hn,cc];by_cases hd':x.Done < x.Calls.length
   ·rw [if_pos hd',if_pos rfl]; exact h3
   ·obtain ⟨s',hs',ha',y',hy',hn',hp'⟩:=hp.dn x hx hid (by omega);have:=o6 N h.ss h.ac hs ha hy hn;rw [o6 N h.ss h.ac hs' ha' hy' hn'] at this;simp only [cb,cz,and_true] at this;rw [if_neg hd',if_pos rfl,if_neg (by rw [<-this,hp']; simp)]; exact h3
  ·rw [NO N h.ss hL,cc];by_cases hd':x.Done < x.Calls.length
   ·have hat:=(hp.op x hx hid hd').resolve_left hL;obtain ⟨n,c,e1,e2,e3⟩:=Xu (h.tx.x x hx).1 hat;rw [if_pos hd',if_neg (by simp),e1,aN e2,show (!(sEq c.Target.Type_ l.Actor.Type_ && sEq c.Target.Key l.Actor.Key))=false by rw [e3]; simp [Gb]];exact h3
   ·obtain ⟨s',hs',ha',y',hy',hn',_⟩:=hp.dn x hx hid (by omega);exact absurd ⟨s',hs',ha',y',hy',hn'⟩ hL
 rw [h4];refine Eg (fun v=>by rw [iM]) fun x xs v hx=>?_;have hm:=cg hx;obtain ⟨n,e1,e2,e3⟩:=KD (h.tx.x x hm).1;rw [iM,e1,Ms e3,<-e2,Sa N h hm]
def uA (N:Nat) (l:List Int) (n:Int):dy N l n=some (decide (n∈l)):=by
 have h:=kD (L:=jd n) (fun x=>some (decide (n=x))) (fun x=>decide (n=x)) (fun _=>rfl) (fun x xs v=>by rw [jd]; by_cases q:n=x<;>simp [q]) l 0 (fun x _=>rfl)
 simp only [dy,oG,h,cc,s8]
 congr 1
 rw [acM];simp
def ug (id:Int) (gone:List Int):List al->Bool->Bool
 | [],_=>true
 | y::l,c=>if y.Txn_=id/\c=true then false else ug id gone l (c || !decide (y.Txn_∈gone))
def zQ (t:ae) (id:Int) (gone:List Int):Bool:=t.Stacks.all fun s=>ug id gone s.Layers false
def KO (N:Nat) (id:Int) (gone:List Int) (rec3:Unit->Option Bool):∀ (l:List al) (v:Nat) (c:Bool),jY rec3 id N gone l v c=if ug id gone l c=true then rec3 () else some false
 | [],v,c=>by simp [jY,ug]
 | y::l,v,c=>by
  have e:vd c (jY rec3 id N gone l (v+1)) N gone y=if ug id gone l (c || !decide (y.Txn_∈gone))=true then rec3 () else some false:=by
   rw [vd,uA,cc,KO N id gone rec3 l,KO N id gone rec3 l];cases c<;>simp
  rw [jY,e,ug];simp only [zA];by_cases q:y.Txn_=id<;>cases c<;>simp [q]
def PQ (N:Nat) (t:ae) (id:Int) (gone:List Int):vv N t id gone=some (zQ t id gone):=by
 rw [vv,PO (L:=pj id N gone) (fun s=>ug id gone s.Layers false) (some true) (some false) (fun v=>by rw [pj]) (fun s xs v=>by rw [pj,KO]) t.Stacks 0,zQ];split
 ·rename_i h; rw [h]
 ·rename_i h; rw [xp] at h; rw [h]
def Ew {id:Int} {gone:List Int}:∀ {l:List al} {c:Bool},(c=true->∀ y∈l,y.Txn_≠id)->(∀ (i:Nat) y,l[i]?=some y->y.Txn_=id->∀ z∈l.take i,z.Txn_∈gone)->ug id gone l c=true
 | [],_,_,_=>rfl
 | y::l,c,h1,h2=>by
  rw [ug,if_neg (fun q=>h1 q.2 y (by simp) q.1)];refine Ew (fun hc z hz e=>?_) fun i z hz e u hu=>h2 (i+1) z (by simpa using hz) e u (by simp [hu]);rw [ny] at hc;rcases hc with hc|hc
  ·exact h1 hc z (by simp [hz]) e
  ·obtain ⟨i,hi⟩:=cC hz;have:=h2 (i+1) z (by simpa using hi) e y (by simp);simp [this] at hc
end Go.Proofs.YtmacaidmhchpgaaGreat
namespace Go.Proofs.YtmacaidmhchpgaaGreat
open Go Go.Proofs Go.Abs
def m7 {l:List Int}:∀ {k:List Int},k.Nodup->(∀ x∈k,x∈l)->k.length<=l.length:=by
 induction l with
 | nil=>
  intro k _ h;cases k with
  | nil=>simp
  | cons x k=>have:=h x (by simp); simp at this
 | cons a l ih=>
  intro k hk h;have h1:=ih (k:=k.erase a) (hk.erase a) fun x hx=>by
   obtain ⟨h2,h3⟩:=(hk.mem_erase_iff).1 hx;exact (cF.1 (h x h3)).resolve_left h2
  by_cases q:a∈k
  ·rw [List.length_erase_of_mem q] at h1; simp; omega
  ·rw [List.erase_of_not_mem q] at h1; simp; omega
def uS (t:ae):List Txn->List Int->List Int
 | [],g=>g
 | x::xs,g=>uS t xs (if x.ID∈g then g else if zQ t x.ID g=true then g++[x.ID] else g)
structure GI (t:ae) (g:List Int):Prop where
 nd:g.Nodup
 sub:∀ n∈g,n∈ids t
def GI.add {t:ae} {g:List Int} (h:GI t g) {x:Txn} (hx:x∈t.Txns):GI t (if x.ID∈g then g else if zQ t x.ID g=true then g++[x.ID] else g):=by
 split
 ·exact h
 ·split
  ·rename_i h1 _;refine ⟨ade.2 ⟨h.nd,by simp,fun a ha b hb=>?_⟩,fun n hn=>?_⟩
   ·simp only [cO] at hb; rw [hb]; exact fun e=>h1 (e ▸ ha)
   ·rcases cH.1 hn with hn|hn
    ·exact h.sub n hn
    ·simp only [cO] at hn; rw [hn]; exact cE.2 ⟨x,hx,rfl⟩
  ·exact h
def GI.len {t:ae} {g:List Int} (h:GI t g):g.length<=t.Txns.length:=by
 have:=m7 h.nd h.sub;simpa [ids] using this
def GQ {t:ae}:∀ {xs:List Txn} {g:List Int},(∀ x∈xs,x∈t.Txns)->GI t g->GI t (uS t xs g)
 | [],g,_,h=>h
 | x::xs,g,hx,h=>by rw [uS]; exact GQ (fun y hy=>hx y (by simp [hy])) (h.add (hx x (by simp)))
def GG {t:ae}:∀ {xs:List Txn} {g:List Int} {n:Int},n∈g->n∈uS t xs g
 | [],g,n,h=>h
 | x::xs,g,n,h=>by rw [uS]; exact GG (t:=t) (xs:=xs) (by split; exact h; split; exact adG _ h; exact h)
def Qq {t:ae}:∀ {xs:List Txn} {g:List Int} {u:Int},u∈xs.map Txn.ID->(∀ g',(∀ n∈g,n∈g')->zQ t u g'=true)->u∈uS t xs g
 | x::xs,g,u,h,hf=>by
  simp only [nq,cF] at h;have hsub:∀ n∈g,n∈(if x.ID∈g then g else if zQ t x.ID g=true then g++[x.ID] else g):=fun n hn=>by
   split; exact hn; split; exact adG _ hn; exact hn
  rw [uS];rcases h with rfl|h
  ·refine GG ?_;split
   ·assumption
   ·rw [if_pos (hf g fun n hn=>hn)]; simp
  ·exact Qq h fun g' hg=>hf g' fun n hn=>hg n (hsub n hn)
def SW (N:Nat) (t:ae) (rec4:List Int->Option Bool) (hl:t.Txns.length<=1000):∀ (xs:List Txn) (v:Nat) (g:List Int),(∀ x∈xs,x∈t.Txns)->GI t g->jy rec4 N t xs v g=rec4 (uS t xs g)
 | [],v,g,_,_=>by rw [jy]; rfl
 | x::xs,v,g,hx,hg=>by
  have ih:=SW N t rec4 hl xs (v+1) _ (fun y hy=>hx y (by simp [hy])) (hg.add (hx x (by simp)));have:=hg.len;rw [jy,uA,cc,uS];by_cases q:x.ID∈g
  ·rw [if_pos q] at ih ⊢;simp [q,sI,ih]
  ·rw [if_neg q] at ih ⊢;rw [if_neg (by simpa using q),PQ,cc,sI];by_cases f:zQ t x.ID g=true
   ·rw [if_pos f] at ih ⊢;rw [if_pos f,qK (by simp; omega),ih]
   ·rw [if_neg f] at ih ⊢;rw [if_neg f,ih]
def F3 (t:ae):Nat->List Int->List Int
 | 0,g=>g
 | m+1,g=>F3 t m (uS t t.Txns g)
def SQ (N:Nat) (t:ae) (hl:t.Txns.length<=1000):∀ (m v:Nat) (g:List Int),GI t g->kM t N m v g=some (decide ((F3 t m g).length=t.Txns.length))
 | 0,v,g,_=>by
  rw [kM,F3]
  congr 1
  rw [acM]; simp; omega
 | m+1,v,g,hg=>by
  rw [kM,SW N t _ hl _ _ _ (fun x hx=>hx) hg,SQ N t hl m _ _ (GQ (fun x hx=>hx) hg),F3]
def Q2 {r:Int->Nat}:∀ {l:List Int},l≠[]->∃ u∈l,∀ n∈l,r u<=r n
 | [x],_=>⟨x,by simp,by simp⟩
 | x::y::l,_=>by
  obtain ⟨u,hu,h⟩:=Q2 (r:=r) (l:=y::l) (by simp);by_cases q:r x<=r u
  ·exact ⟨x,by simp,fun n hn=>by
    rcases cF.1 hn with rfl|hn
    ·exact cr _
    ·exact nu q (h n hn)⟩
  ·exact ⟨u,adN _ hu,fun n hn=>by
    rcases cF.1 hn with rfl|hn
    ·omega
    ·exact h n hn⟩
def TH {t:ae} (h:TV t) {g:List Int} (hg:GI t g):g.length+1<=(uS t t.Txns g).length∨∀ n∈ids t,n∈g:=by
 obtain ⟨r,hr⟩:=h.ac;by_cases q:(ids t).filter (fun n=>!decide (n∈g))=[]
 ·exact .inr fun n hn=>by
   have:=List.filter_eq_nil_iff.1 q n hn;simpa using this
 ·obtain ⟨u,hu,hm⟩:=Q2 (r:=r) q;simp only [nI,nD,decide_eq_false_iff_not] at hu hm;have hin:u∈uS t t.Txns g:=by
   refine Qq hu.1 fun g' hg'=>cn.2 fun s hs=>Ew (by simp) fun i y hy e z hz=>hg' _ ?_;obtain ⟨j,hj⟩:=cC hz;rw [cW] at hj;split at hj
   ·rename_i hji;have hlt:r z.Txn_ < r y.Txn_:=by
     obtain ⟨h1,rfl⟩:=cd.1 hj;obtain ⟨h2,rfl⟩:=cd.1 hy;exact na.1 (hr s hs) j i h1 h2 hji
    by_cases hzg:z.Txn_∈g
    ·exact hzg
    ·have:=hm z.Txn_ ⟨(h.st s hs).id z (cg hj),hzg⟩;rw [e] at hlt; omega
   ·cases hj
  have hG:=GQ (fun x hx=>hx) hg;have:=m7 (l:=uS t t.Txns g) (k:=u::g) (xZ.2 ⟨hu.2,hg.nd⟩) fun x hx=>by
   rcases cF.1 hx with rfl|hx
   ·exact hin
   ·exact GG hx
  exact .inl (by simpa using this)
def TX.nd {t:ae} (h:TX t):(ids t).Nodup:=by
 unfold ids List.Nodup;rw [nZ];exact h.so.imp fun q e=>by omega
def Kl {t:ae} (h:TV t):∀ (m:Nat) {g:List Int},GI t g->t.Txns.length<=m+g.length->(F3 t m g).length=t.Txns.length
 | 0,g,hg,hl=>by have:=hg.len; rw [F3]; omega
 | m+1,g,hg,hl=>by
  have hG:=GQ (fun x hx=>hx) hg;rw [F3];rcases TH h hg with q|q
  ·exact Kl h m hG (by omega)
  ·refine Kl h m hG ?_;have:=m7 (l:=uS t t.Txns g) h.tx.nd fun n hn=>GG (q n hn);simp [ids] at this;omega
def Th (N:Nat) {t:ae} (h:TV t):uw N t=some true:=by
 have hl:=h.tx.len;rw [uw,SQ N t (by omega) _ _ _ ⟨by simp,by simp⟩,Kl h _ ⟨by simp,by simp⟩ (by simp)];simp
def wm {l:List Ref}:∀ {k:List Ref},k.Nodup->(∀ x∈k,x∈l)->k.length<=l.length:=by
 classical
 induction l with
 | nil=>
  intro k _ h;cases k with
  | nil=>simp
  | cons x k=>have:=h x (by simp); simp at this
 | cons a l ih=>
  intro k hk h;have h1:=ih (k:=k.filter fun x=>!decide (x=a)) (hk.filter _) fun x hx=>by
   simp only [nI,nD,decide_eq_false_iff_not] at hx;exact (cF.1 (h x hx.1)).resolve_left hx.2
  have h2:k.length<=(k.filter fun x=>!decide (x=a)).length+1:=by
   clear h1 h ih
   induction k with
   | nil=>simp
   | cons b k ih=>
    rw [xZ] at hk;by_cases q:b=a
    ·subst q;have:(k.filter fun x=>!decide (x=b))=k:=xP.2 fun x hx=>by simp; exact fun e=>hk.1 (e ▸ hx)
     simp [this]
    ·have:=ih hk.2;simp [q]; omega
  simp only [cG]; omega
def TV.stacks_len {t:ae} (h:TV t):t.Stacks.length<=128:=by
 have hcl:∀ {l:List Txn},(∀ x∈l,XV x)->(l.flatMap fun x=>x.Calls.map ah.Target).length<=l.length * 4:=by
  intro l
  induction l with
  | nil=>simp
  | cons x l ih=>
   intro hx;have h1:=ih fun y hy=>hx y (by simp [hy]);have h2:=(hx x (by simp)).c2;simp only [ac0,ni,cy,cG];omega
 have hnd:(t.Stacks.map aa.Actor).Nodup:=by
  unfold List.Nodup;rw [nZ];exact h.ss.imp fun q e=>by rw [e,iC] at q; cases q
 have:=wm (l:=t.Txns.flatMap fun x=>x.Calls.map ah.Target) hnd fun a ha=>by
  obtain ⟨s,hs,rfl⟩:=cE.1 ha;have hS:=h.st s hs;obtain ⟨y,hy⟩:=adb _ hS.ne;obtain ⟨x,hx,e⟩:=cE.1 (hS.id y hy);obtain ⟨c,hc,e2⟩:=(hS.ex y hy x hx e).1;exact List.mem_flatMap.2 ⟨x,hx,cE.2 ⟨c,nB hc,e2⟩⟩
 have h2:=hcl fun x hx=>(h.tx.x x hx).1;have:=h.tx.len;simp only [cy] at *;omega
def TV.layers_len {t:ae} (h:TV t) {s:aa} (hs:s∈t.Stacks):s.Layers.length<=32:=by
 obtain ⟨r,hr⟩:=h.ac;have:=m7 (l:=ids t) (k:=s.Layers.map al.Txn_) (by
  unfold List.Nodup;rw [nZ];exact (hr s hs).imp fun q e=>by rw [e] at q; omega) fun n hn=>by
   obtain ⟨y,hy,rfl⟩:=cE.1 hn;exact (h.st s hs).id y hy
 have:=h.tx.len;simp [ids] at *;omega
def qY (N:Nat) (hN:200<=N) {t:ae} (h:TV t):jL N t=some true:=by
 have hl:=h.tx.len;simp only [jL,(PE N t (by omega)).is h.tx,OV N h,MP N hN h (by have:=h.stacks_len; omega) (fun s hs=>by have:=h.layers_len hs; omega),Ll N h,Th N h,cc,if_true]
end Go.Proofs.YtmacaidmhchpgaaGreat
namespace Go.Proofs.YtmacaidmhchpgaaGreat
open Go Go.Proofs Go.Abs
def yz {N:Nat} {v:Value} (h:bdV v):gF N v=some v:=by
 simp only [gF,Of h.1,Q7 h.2,cc]
def se {N:Nat} {l:List Value} (h:EJ l):eB N l=some l:=by
 have:=tN (L:=iq N) bdV (fun m v l x hx hp=>by
  simp only [iq,Jl hx,yz hp,cc,tc hx]) l.length 0 l (by simp) h.2
 simp only [eB,RK h.1,cc,cU,this,iq]
def Iz {N:Nat} {c:ah} (h:EJ c.Args):kv N c=some c:=by
 simp only [kv,se h,cc]
def XV.bd {x:Txn} (h:XV x):TT x.Calls/\bdV x.Last:=⟨⟨by have:=h.c2; omega,fun c hc=>PW (h.ca c hc)⟩,BK h.la⟩
def AX {N:Nat} {x:Txn} (h:TT x.Calls/\bdV x.Last):jS N x=some x:=by
 have:=tN (L:=j6 (uW N x) N) (fun c:ah=>EJ c.Args) (fun m v l y hy hp=>by
  simp only [j6,Jl hy,Iz hp,cc,tc hy]) x.Calls.length 0 x.Calls (by simp) h.1.2
 simp only [jS,My h.1.1,cc,cU,this,j6,uW,yz h.2]
def G0 {l:List Value} (h:sU l=true):EJ l:=by
 simp only [sU,cw,decide_eq_true_eq,cn] at h;exact ⟨by omega,fun v hv=>BK (h.2 v hv)⟩
def Wb (l:List al):Prop:=l.length<=1000000/\∀ y∈l,EJ y.Fields
def E5 {N:Nat} {l:List al} (h:Wb l):j4 N l=some l:=by
 have:=tN (L:=iw N) (fun y:al=>EJ y.Fields) (fun m v l x hx hp=>by
  simp only [iw,Jl hx,se hp,cc,tc hx]) l.length 0 l (by simp) h.2
 simp only [j4,gg,vn (b:=39) (l:=l) (by have:=h.1; omega),cc,cU,this,iw]
def TV.bdL {t:ae} (h:TV t) {s:aa} (hs:s∈t.Stacks):Wb s.Layers:=⟨by have:=h.layers_len hs; omega,fun y hy=>G0 ((h.st s hs).fi y hy)⟩
def zc {N:Nat} {t:ae} (h:TV t):kB N t=some t:=by
 have h1:=h.tx.len; have h2:=h.lk.len; have h3:=h.stacks_len;have e1:=tN (L:=pe (zN N t.Stacks t.Locks) N) (fun x:Txn=>TT x.Calls/\bdV x.Last) (fun m v l x hx hp=>by
  simp only [pe,Jl hx,AX hp,cc,tc hx]) t.Txns.length 0 t.Txns (by simp) (fun x hx=>(h.tx.x x hx).1.bd)
 have e2:=tN (L:=o7 (zC t.Txns N t.Stacks) N) (fun x:ai=>x.Waiters.length<=32) (fun m v l x hx hp=>by
  simp only [o7,Jl hx,Of (N:=N) (l:=x.Waiters) (by omega),cc,tc hx]) t.Locks.length 0 t.Locks (by simp) (fun x hx=>(h.lk.l x hx).wl)
 have e3:=tN (L:=oU t.Txns t.Locks N) (fun x:aa=>Wb x.Layers) (fun m v l x hx hp=>by
  simp only [oU,Jl hx,E5 hp,cc,tc hx]) t.Stacks.length 0 t.Stacks (by simp) (fun s hs=>h.bdL hs)
 simp only [kB,iy,eJ,dV];rw [vn (by omega),cc,vn (by omega),cc,vn (by omega),cc,cU,e1,cV,pe,zN,cU,e2,cV,o7,zC,cU,e3,cV,oU];simp [NJ]
structure WZ {α:Type} (p:α->Bool) (a l:List α) (i j:Nat):Prop where
 len:l.length=a.length
 ij:i < j
 jl:j<=a.length
 pre:l.take i=(a.take j).filter fun x=>!p x
 rest:∀ q,j<=q->l[q]?=a[q]?
section
variable {α:Type} {f:α->Option Bool} {p:α->Bool} {L:Nat->List α × Int × Int->Option (List α)} {J:List α->Int->Option (List α)}
theorem M4 (hL:∀ n l v5 v6,L (n+1) (l,v5,v6)=if v6 < ((l.length:Nat):Int) then gx l v6 fun x=>(f x).bind fun r=>if r=true then L n (l,v5,IntKind.i64.wrap (v6+1)) else gx l v5 fun _=>L n (l.set v5.toNat x,IntKind.i64.wrap (v5+1),IntKind.i64.wrap (v6+1)) else J l v5)
  (a:List α) (hf:∀ x∈a,f x=some (p x)) (ha:a.length<=1000):∀ (n:Nat) (l:List α) (i j:Nat),a.length < j+n->WZ p a l i j->∃ l' i',WZ p a l' i' a.length/\L n (l,(i:Int),(j:Int))=J l' (i':Int)
 | 0,l,i,j,hn,h=>by have:=h.jl; omega
 | n+1,l,i,j,hn,h=>by
  have hl:=h.len; have hij:=h.ij; have hj:=h.jl;rw [hL];by_cases hlt:j < a.length
  ·have g1:l[j]?=some a[j]:=by rw [h.rest j (cr _),cq hlt]
   have htk:a.take (j+1)=a.take j++[a[j]]:=by rw [xE,cq hlt]; rfl
   rw [if_pos (by omega),aN g1,hf _ (nx hlt),cc,w64 (n:=(j:Int)+1) (by omega) (by omega),show ((j:Int)+1)=((j+1:Nat):Int) by omega];by_cases e:p a[j]=true
   ·rw [if_pos e];refine M4 hL a hf ha n l i (j+1) (by omega) ⟨hl,by omega,by omega,?_,fun q hq=>h.rest q (by omega)⟩;rw [h.pre,htk,xB]; simp [e]
   ·have hil:i < l.length:=by omega
    rw [if_neg e,aN (cq hil),w64 (n:=(i:Int)+1) (by omega) (by omega),show ((i:Int)+1)=((i+1:Nat):Int) by omega,cP];refine M4 hL a hf ha n (l.set i a[j]) (i+1) (j+1) (by omega) ⟨by simp [hl],by omega,by omega,?_,fun q hq=>by rw [nW (by omega)]; exact h.rest q (by omega)⟩;rw [yq hil,h.pre,htk,xB]; simp [e]
  ·rw [if_neg (by omega)];have:j=a.length:=by omega
   subst this;exact ⟨l,i,h,rfl⟩
def MX (hL:∀ n l v5 v6,L (n+1) (l,v5,v6)=if v6 < ((l.length:Nat):Int) then gx l v6 fun x=>(f x).bind fun r=>if r=true then L n (l,v5,IntKind.i64.wrap (v6+1)) else gx l v5 fun _=>L n (l.set v5.toNat x,IntKind.i64.wrap (v5+1),IntKind.i64.wrap (v6+1)) else J l v5) {z:α}
  (hJ:∀ l v,J l v=slx l v ((l.length:Nat):Int) fun _=>slx (tp z v.toNat l) 0 v fun _=>some ((tp z v.toNat l).take v.toNat)) {I:List α->Nat->Unit->Option Int} (hI0:∀ v,I [] v ()=some (-1)) (hI1:∀ x xs v,I (x::xs) v ()=(f x).bind fun r=>if r=true then some ((v:Nat):Int) else I xs (v+1) ()) (N:Nat) (hN:1001<=N)
  (a:List α) (hf:∀ x∈a,f x=some (p x)) (ha:a.length<=1000):((I a 0 ()).bind fun r1=>if r1=-1 then some a else L N (a,r1,IntKind.i64.wrap (r1+1)))=some (a.filter fun x=>!p x):=by
 rw [kD f p hI0 hI1 a 0 hf,cc];rcases uy p a 0 with ⟨h1,h2⟩|⟨i,x,h1,h2,h3,h4⟩
 ·rw [h1,if_pos rfl,xP.2 fun x hx=>by simp [h2 x hx]]
 ·have hil:=(cd.1 h2).1;rw [h1,cV,if_neg (by omega),w64 (by omega) (by omega),show ((i:Int)+1)=((i+1:Nat):Int) by omega];have hd:WZ p a a i (i+1):=⟨rfl,by omega,by omega,by
   rw [xE,h2,xQ,xB,xP.2 fun y hy=>by simp [h4 y hy]];simp [h3],fun _ _=>rfl⟩
  obtain ⟨l',i',h',e'⟩:=M4 hL a hf ha N a i (i+1) (by omega) hd;rw [e',hJ];have q1:=h'.len; have q2:=h'.ij;unfold slx;rw [cP,if_pos ⟨by omega,by omega,by omega,by omega⟩];dsimp only;rw [if_pos ⟨by omega,by omega,by omega,by rw [Np (by omega)]; omega⟩];try dsimp only
  rw [Kx (by omega),h'.pre,nj (cr _)]
end
def mB (D:List Int) (n:Int):Bool:=!decide (n∈D)
def zP (D:List Int) (s:aa):aa:=⟨s.Actor,s.Layers.filter fun y=>mB D y.Txn_⟩
def C9 (D:List Int) (l:List aa):List aa:=(l.map (zP D)).filter fun s=>!decide (s.Layers=[])
def yP (t:ae) (D:List Int):ae:=⟨t.Txns.filter fun x=>mB D x.ID,t.Locks,C9 D t.Stacks⟩
theorem NP (N:Nat) (hN:1001<=N) {t:ae} (h:TV t) (D:List Int):tE N t D=some (yP t D):=by
 have h1:=h.tx.len; have h3:=h.stacks_len;have e1:=MX (f:=fun x=>oQ N x D) (p:=fun x=>decide (x.ID∈D)) (L:=bq N D eL) (J:=eL) (fun _ _ _ _=>by rw [bq]) (fun _ _=>rfl) (I:=dL N D) (fun _=>rfl) (fun _ _ _=>rfl) N hN t.Txns (fun x _=>by simp only [oQ,uA,cc]) (by omega);have e2:∀ {l:List al},l.length<=1000->dK N l D=some (l.filter fun y=>mB D y.Txn_):=fun {l} hl=>
  MX (f:=fun x=>pb N x D) (p:=fun x=>decide (x.Txn_∈D)) (L:=bk N D eA) (J:=eA) (fun _ _ _ _=>by rw [bk]) (fun _ _=>rfl) (I:=du N D) (fun _=>rfl) (fun _ _ _=>rfl) N hN l (fun x _=>by simp only [pb,uA,cc]) hl
 have e3:∀ {l:List aa},l.length<=1000->bZ N l=some (l.filter fun s=>!decide (s.Layers=[])):=fun {l} hl=>
  MX (f:=fun x=>oF N x) (p:=fun s=>decide (s.Layers=[])) (L:=aW N dI) (J:=dI) (fun _ _ _ _=>by rw [aW]) (fun _ _=>rfl) (I:=bL N) (fun _=>rfl) (fun _ _ _=>rfl) N hN l (fun x _=>by simp [oF]) hl
 have e4:∀ (m v:Nat) (A:List aa),v+m=t.Stacks.length->A.length=v->mE (yo N (t.Txns.filter fun x=>mB D x.ID) t) N D m v (A++t.Stacks.drop v)=some ⟨t.Txns.filter fun x=>mB D x.ID,t.Locks,(A++(t.Stacks.drop v).map (zP D)).filter fun s=>!decide (s.Layers=[])⟩:=by
  intro m
  induction m with
  | zero=>
   intro v A hv hA;rw [mE,xd (by omega),cS,yo,e3 (by omega)];simp
  | succ m ih=>
   intro v A hv hA;subst hA;have hvl:A.length < t.Stacks.length:=by omega
   rw [xC hvl,mE,aN zJ,e2 (by have:=h.layers_len (nx hvl); omega),cc,Jj];have:=ih (A.length+1) (A++[zP D t.Stacks[A.length]]) (by omega) (by simp);rw [nr,nr] at this;rw [nq];simp only [nH,cK] at this;exact this
 simp only [tE,zc h,cc];rw [show dX N t.Txns D=some (t.Txns.filter fun x=>mB D x.ID) from e1,cc,cU];exact e4 t.Stacks.length 0 [] (by omega) rfl
end Go.Proofs.YtmacaidmhchpgaaGreat
namespace Go.Proofs.YtmacaidmhchpgaaGreat
open Go Go.Proofs Go.Abs
def V9 {t:ae} (h:TV t) {x:Txn} (hx:XV x/\zh x) (h0:x.Done=0) (hlt:∀ y∈t.Txns,y.ID < x.ID) (hl:t.Txns.length < 32):TV ⟨t.Txns++[x],t.Locks,t.Stacks⟩:=by
 have hid:∀ {n:Int},n∈ids t->n∈ids ⟨t.Txns++[x],t.Locks,t.Stacks⟩:=fun hn=>by simp only [ids,nt,cH] at *; exact .inl hn
 have hnew:∀ {y:Txn},y∈t.Txns++[x]->y.ID∈ids t->y∈t.Txns:=fun {y} hy hn=>by
  rcases cH.1 hy with hy|hy
  ·exact hy
  ·simp only [cO] at hy;obtain ⟨z,hz,e⟩:=cE.1 hn;have:=hlt z hz;rw [hy] at e; omega
 refine ⟨⟨fun y hy=>?_,?_,by simp; omega⟩,h.lk,h.ss,fun s hs=>?_,fun y hy c hc=>?_,fun l hm=>?_,h.ac⟩
 ·rcases cH.1 hy with hy|hy
  ·exact h.tx.x y hy
  ·simp only [cO] at hy; rw [hy]; exact hx
 ·exact xr.2 ⟨h.tx.so,by simp,fun a ha b hb=>by simp only [cO] at hb; rw [hb]; exact hlt a ha⟩
 ·have hS:=h.st s hs;exact ⟨hS.ne,fun l hl=>hid (hS.id l hl),hS.fi,hS.up,fun l hl y hy e=>hS.ex l hl y (hnew hy (e ▸ hS.id l hl)) e⟩
 ·rcases cH.1 hy with hy|hy
  ·exact h.pr y hy c hc
  ·simp only [cO] at hy;rw [hy,h0] at hc;simp at hc
 ·have hL:=h.lp l hm;exact ⟨hid hL.ow,fun w hw=>hid (hL.wa w hw),fun y hy e=>hL.dn y (hnew hy (e ▸ hL.ow)) e,fun y hy e=>hL.op y (hnew hy (e ▸ hL.ow)) e,fun y hy hw=>hL.wt y (hnew hy (hL.wa _ hw)) hw⟩
def LP.locks {t:ae} {l:ai} (h:LP t l) (L:List ai):LP ⟨t.Txns,L,t.Stacks⟩ l:=⟨h.ow,h.wa,h.dn,h.op,h.wt⟩
def Oc {t:ae} (h:TV t) {L:List ai} (hv:VT L) (hp:∀ l∈L,LP t l) (hk:∀ s∈t.Stacks,∀ y∈s.Layers,y.Prepared=false->∀ k∈t.Locks,k.Actor=s.Actor->k.Owner=y.Txn_->∃ k'∈L,k'.Actor=s.Actor/\k'.Owner=y.Txn_):TV ⟨t.Txns,L,t.Stacks⟩:=
 ⟨⟨h.tx.x,h.tx.so,h.tx.len⟩,hv,h.ss,fun s hs=>⟨(h.st s hs).ne,(h.st s hs).id,(h.st s hs).fi,fun i y hy hpr=>by
  obtain ⟨h1,k,h2,h3,h4⟩:=(h.st s hs).up i y hy hpr;exact ⟨h1,hk s hs y (cg hy) hpr k h2 h3 h4⟩,(h.st s hs).ex⟩,h.pr,fun l hl=>(hp l hl).locks L,h.ac⟩
def LP.pass {t:ae} {l l':ai} (h:LP t l) (ha:l'.Actor=l.Actor) (ho:l'.Owner=l.Owner∨l'.Owner∈l.Waiters) (hw:∀ w∈l'.Waiters,w∈l.Waiters):LP t l':=by
 refine ⟨?_,fun w hm=>h.wa w (hw w hm),fun x hx e=>?_,fun x hx e=>?_,fun x hx hm=>ha ▸ h.wt x hx (hw _ hm)⟩
 ·rcases ho with ho|ho
  ·rw [ho]; exact h.ow
  ·exact h.wa _ ho
 ·rcases ho with ho|ho
  ·rw [ha]; exact h.dn x hx (e.trans ho)
  ·have:=(h.wt x hx (e ▸ ho)).1;intro q; omega
 ·rcases ho with ho|ho
  ·rw [ha]; exact h.op x hx (e.trans ho)
  ·exact fun _=>.inr (ha ▸ (h.wt x hx (e ▸ ho)).2)
def ve {D:List Int} {n:Int}:mB D n=true↔n∉D:=by simp [mB]
def AP {D:List Int} {l:List aa} {s:aa}:s∈C9 D l↔∃ s0∈l,s=zP D s0/\s.Layers≠[]:=by
 simp only [C9,nI,cE,nD,decide_eq_false_iff_not];constructor
 ·rintro ⟨⟨s0,h1,h2⟩,h3⟩; exact ⟨s0,h1,h2.symm,h3⟩
 ·rintro ⟨s0,h1,h2,h3⟩; exact ⟨⟨s0,h1,h2.symm⟩,h3⟩
def Kt {t:ae} {D:List Int} {L:List ai} {s:aa} {y:al} (hs:s∈t.Stacks) (hy:y∈s.Layers) (hn:y.Txn_∉D):∃ s'∈C9 D t.Stacks,s'.Actor=s.Actor/\y∈s'.Layers:=by
 have hm:y∈(zP D s).Layers:=nI.2 ⟨hy,ve.2 hn⟩;exact ⟨zP D s,AP.2 ⟨s,hs,rfl,adh hm⟩,rfl,hm⟩
structure Lks (t:ae) (D:List Int) (L:List ai):Prop where
 vt:VT L
 fr:∀ l'∈L,∃ l∈t.Locks,l'.Actor=l.Actor/\(l'.Owner=l.Owner∨l'.Owner∈l.Waiters)/\(∀ w∈l'.Waiters,w∈l.Waiters)/\l'.Owner∉D/\∀ w∈l'.Waiters,w∉D
 to:∀ l∈t.Locks,l.Owner∉D->∃ l'∈L,l'.Actor=l.Actor/\l'.Owner=l.Owner
def VS {t:ae} (h:TV t) {D:List Int} {L:List ai} (hL:Lks t D L):TV ⟨t.Txns.filter fun x=>mB D x.ID,L,C9 D t.Stacks⟩:=by
 have hx:∀ {x:Txn},(x∈t.Txns.filter fun x=>mB D x.ID)->x∈t.Txns/\x.ID∉D:=fun {x} hx=>by
  obtain ⟨h1,h2⟩:=nI.1 hx;exact ⟨h1,ve.1 h2⟩
 have hid:∀ {n:Int},n∈ids t->n∉D->n∈ids ⟨t.Txns.filter fun x=>mB D x.ID,L,C9 D t.Stacks⟩:=fun {n} h1 h2=>by
  obtain ⟨x,hx,rfl⟩:=cE.1 h1;exact cE.2 ⟨x,nI.2 ⟨hx,ve.2 h2⟩,rfl⟩
 refine ⟨⟨fun x q=>h.tx.x x (hx q).1,h.tx.so.filter _,nu (adg _ _) h.tx.len⟩,hL.vt,?_,fun s hs=>?_,fun x q c hc=>?_,fun l' hl'=>?_,?_⟩
 ·unfold C9;exact (nZ.2 (h.ss.imp fun q=>q)).filter _
 ·obtain ⟨s0,hs0,rfl,hne⟩:=AP.1 hs;have hS:=h.st s0 hs0;have hin:∀ {y:al},y∈(zP D s0).Layers->y∈s0.Layers/\y.Txn_∉D:=fun hy=>by
   obtain ⟨h1,h2⟩:=nI.1 hy;exact ⟨h1,ve.1 h2⟩
  refine ⟨hne,fun y hy=>hid (hS.id y (hin hy).1) (hin hy).2,fun y hy=>hS.fi y (hin hy).1,fun i y hy hp=>?_,fun y hy x q e=>hS.ex y (hin hy).1 x (hx q).1 e⟩;have hm:=hin (cg hy);obtain ⟨j,hj⟩:=cC hm.1;obtain ⟨h1,k,h2,h3,h4⟩:=hS.up j y hj hp;refine ⟨?_,?_⟩
  ·
   have hjl:=(cd.1 hj).1;have e:s0.Layers=s0.Layers.take j++[y]:=by
    have:=xD j s0.Layers;rw [xC hjl,(cd.1 hj).2,xd (by omega)] at this;exact this.symm
   have e2:(zP D s0).Layers=(s0.Layers.take j).filter (fun y=>mB D y.Txn_)++[y]:=by
    have q:=congrArg (List.filter fun y=>mB D y.Txn_) e;have:mB D y.Txn_=true:=ve.2 hm.2;rw [xB,show [y].filter (fun y=>mB D y.Txn_)=[y] by simp [this]] at q;exact q
   rw [e2] at hy ⊢;rcases nP i ((s0.Layers.take j).filter fun y=>mB D y.Txn_).length with q|q
   ·exfalso;rw [cJ q] at hy;have hm2:=cg hy;obtain ⟨i2,hi2⟩:=cC (nI.1 hm2).1;rw [cW] at hi2;split at hi2
    ·obtain ⟨g1,_⟩:=hS.up i2 y hi2 hp;omega
    ·cases hi2
   ·have:=(cd.1 hy).1;simp at this ⊢; omega
  ·obtain ⟨k',g1,g2,g3⟩:=hL.to k h2 (h4 ▸ hm.2);exact ⟨k',g1,g2.trans h3,g3.trans h4⟩
 ·obtain ⟨hm,hn⟩:=hx q;obtain ⟨s,hs,ha,y,hy,e⟩:=h.pr x hm c hc;obtain ⟨s',g1,g2,g3⟩:=Kt (L:=L) hs hy (e ▸ hn);exact ⟨s',g1,g2.trans ha,y,g3,e⟩
 ·obtain ⟨l,h1,h2,h3,h4,h5,h6⟩:=hL.fr l' hl';have hP:=(h.lp l h1).pass h2 h3 h4;refine ⟨hid hP.ow h5,fun w hw=>hid (hP.wa w hw) (h6 w hw),fun x q e hd=>?_,fun x q e hd=>?_,fun x q hw=>hP.wt x (hx q).1 hw⟩
  ·obtain ⟨s,hs,ha,y,hy,g1,g2⟩:=hP.dn x (hx q).1 e hd;obtain ⟨s',q1,q2,q3⟩:=Kt (L:=L) hs hy (g1 ▸ (hx q).2);exact ⟨s',q1,q2.trans ha,y,q3,g1,g2⟩
  ·rcases hP.op x (hx q).1 e hd with ⟨s,hs,ha,y,hy,g1⟩|g
   ·obtain ⟨s',q1,q2,q3⟩:=Kt (L:=L) hs hy (g1 ▸ (hx q).2);exact .inl ⟨s',q1,q2.trans ha,y,q3,g1⟩
   ·exact .inr g
 ·obtain ⟨r,hr⟩:=h.ac;refine ⟨r,fun s hs=>?_⟩;obtain ⟨s0,hs0,rfl,_⟩:=AP.1 hs;exact (hr s0 hs0).filter _
end Go.Proofs.YtmacaidmhchpgaaGreat
namespace Go.Proofs.YtmacaidmhchpgaaGreat
open Go Go.Proofs Go.Abs
def Oq {t:List ai} (h:VT t) {k k':ai} (hk:k∈t) (hk':k'∈t) (e:k.Actor=k'.Actor):k=k':=by
 have h1:=(AG h hk).1;have h2:=(AG h hk').1;rw [e,h2] at h1;simpa using h1.symm
def gy (n:Int) (f:List Value) (l:List al):List al:=match l[l.length - 1]? with
 | some z=>if z.Txn_=n then l.set (l.length - 1) ⟨z.Txn_,f,z.Prepared⟩ else l++[⟨n,f,false⟩]
 | none=>[⟨n,f,false⟩]
def NR {α:Type} {l:List α} {z:α} (h:l[l.length - 1]?=some z):l=l.take (l.length - 1)++[z]:=by
 have hl:=(cd.1 h).1;have:=xD (l.length - 1) l;rw [xC hl,(cd.1 h).2,xd (by omega)] at this;exact this.symm
def W1 {α:Type} {l:List α} {y z:α} (h:l[l.length - 1]?=some z):l.set (l.length - 1) y=l.take (l.length - 1)++[y]:=by
 have hl:=(cd.1 h).1;rw [List.set_eq_take_append_cons_drop,if_pos hl,xd (by omega)]
structure abq (n:Int) (f:List Value) (lay base new:List al):Prop where
 new:new=base++[⟨n,f,false⟩]
 old:∀ y∈base,y∈lay/\y.Txn_≠n/\y.Prepared=true
 all:∀ y∈lay,y∈base∨(y.Txn_=n/\y.Prepared=false)
 sub:base.Sublist lay
structure Exe (t:ae) (i:Nat) (x:Txn) (c:ah) (k:ai):Prop where
 hi:t.Txns[i]?=some x
 dn:x.Done < x.Calls.length
 hc:x.Calls[x.Done.toNat]?=some c
 hk:k∈t.Locks
 ka:k.Actor=c.Target
 ko:k.Owner=x.ID
section
variable {t:ae} {i:Nat} {x:Txn} {c:ah} {k:ai}
def Exe.np (h:TV t) (e:Exe t i x c k) {s:aa} (hs:s∈t.Stacks) {y:al} (hy:y∈s.Layers) (hn:y.Txn_=x.ID):y.Prepared=false:=by
 cases hp:y.Prepared with
 | false=>rfl
 | true=>
  have:=((h.st s hs).ex y hy x (cg e.hi) hn.symm).2 hp;have:=e.dn; omega
def X9 (h:TV t) (e:Exe t i x c k) (f:List Value) {lay:List al} (hl:lay=[]∨(⟨c.Target,lay⟩:aa)∈t.Stacks):∃ base,abq x.ID f lay base (gy x.ID f lay):=by
 rcases hl with rfl|hs
 ·exact ⟨[],⟨by simp [gy],by simp,by simp,.slnil⟩⟩
 ·have hS:=h.st _ hs;obtain ⟨z,hz⟩:=KA hS.ne;have hlen:=xy.2 hS.ne;simp only at hz hlen;have hzm:=cg hz;unfold gy;rw [hz];by_cases q:z.Txn_=x.ID
  ·have hzp:=e.np h hs hzm q;simp only [q,if_true,W1 hz,hzp];refine ⟨_,⟨rfl,fun y hy=>?_,fun y hy=>?_,adf _ _⟩⟩
   ·obtain ⟨j,hj⟩:=cC hy;rw [cW] at hj;split at hj
    ·have hym:=cg hj;have hp:y.Prepared=true:=by
      cases hp:y.Prepared with
      | true=>rfl
      | false=>have:=(hS.up j y hj hp).1; simp only at this; omega
     exact ⟨hym,fun e2=>(by rw [e.np h hs hym e2] at hp; cases hp),hp⟩
    ·cases hj
   ·rw [NR hz] at hy;rcases cH.1 hy with hy|hy
    ·exact .inl hy
    ·simp only [cO] at hy; rw [hy]; exact .inr ⟨q,hzp⟩
  ·simp only [q,if_false];have hall:∀ y∈lay,y.Prepared=true:=fun y hy=>by
    cases hp:y.Prepared with
    | true=>rfl
    | false=>
     exfalso;obtain ⟨j,hj⟩:=cC hy;obtain ⟨g1,k',g2,g3,g4⟩:=hS.up j y hj hp;simp only at g1 g3;have:j=lay.length - 1:=by omega
     rw [this,hz] at hj;simp only [cb] at hj;have:=Oq h.lk e.hk g2 (e.ka.trans g3.symm);rw [<-this,e.ko,<-hj] at g4;exact q g4.symm
   refine ⟨lay,⟨rfl,fun y hy=>⟨hy,fun e2=>?_,hall y hy⟩,fun y hy=>.inl hy,List.Sublist.refl _⟩⟩;have:=hall y hy;rw [e.np h hs hy e2] at this; cases this
def Fp {α:Type} {l:List α} {i:Nat} {x y z:α} (hx:l[i]?=some x) (h:z∈l.set i y):z=y∨∃ j,j≠i/\l[j]?=some z:=by
 obtain ⟨j,hj⟩:=cC h;rw [hU] at hj;split at hj
 ·split at hj
  ·simp only [cb] at hj; exact .inl hj.symm
  ·cases hj
 ·rename_i q; exact .inr ⟨j,fun e=>q e.symm,hj⟩
theorem SU {l:List Txn} {i:Nat} {x y:Txn} (hx:l[i]?=some x) (e:y.ID=x.ID):(l.set i y).map Txn.ID=l.map Txn.ID:=by
 rw [xW,e];exact tc (by rw [cv,hx]; rfl)
def tn (t:ae) (i:Nat) (x:Txn) (r:Value) (S:List aa):ae:=⟨t.Txns.set i ⟨x.ID,x.Born,x.Client,x.Seq,x.Calls,x.Done+1,r⟩,t.Locks,S⟩
def SJ (h:TV t) (e:Exe t i x c k) {f:List Value} {r:Value} (hf:sU f=true) (hr:lM r=true) {A B:List aa} {lay:List al} (hsp:t.Stacks=A++⟨c.Target,lay⟩::B∨(t.Stacks=A++B/\lay=[]))
  (hA:∀ s∈A,rl s.Actor c.Target=true) (hB:∀ s∈B,rl c.Target s.Actor=true):TV (tn t i x r (A++⟨c.Target,gy x.ID f lay⟩::B)):=by
 have hx:=cg e.hi;obtain ⟨hX,hR⟩:=h.tx.x x hx;have hd1:=hX.d1; have hdn:=e.dn;have hAS:∀ s∈A,s∈t.Stacks:=fun s hs=>by rcases hsp with q|⟨q,_⟩<;>rw [q]<;>simp [hs]
 have hBS:∀ s∈B,s∈t.Stacks:=fun s hs=>by rcases hsp with q|⟨q,_⟩<;>rw [q]<;>simp [hs]
 have hcase:∀ s∈t.Stacks,s∈A∨s∈B∨s=⟨c.Target,lay⟩:=fun s hs=>by
  rcases hsp with q|⟨q,_⟩
  ·rw [q] at hs; simp only [cH,cF] at hs;rcases hs with hs|hs|hs
   ·exact .inl hs
   ·exact .inr (.inr hs)
   ·exact .inr (.inl hs)
  ·rw [q] at hs;rcases cH.1 hs with hs|hs
   ·exact .inl hs
   ·exact .inr (.inl hs)
 have hlay:lay=[]∨(⟨c.Target,lay⟩:aa)∈t.Stacks:=by
  rcases hsp with q|⟨_,q⟩
  ·exact .inr (by rw [q]; simp)
  ·exact .inl q
 obtain ⟨base,hP⟩:=X9 h e f hlay;have hT:∀ {y:Txn},y∈t.Txns.set i ⟨x.ID,x.Born,x.Client,x.Seq,x.Calls,x.Done+1,r⟩->y=⟨x.ID,x.Born,x.Client,x.Seq,x.Calls,x.Done+1,r⟩∨(y∈t.Txns/\y.ID≠x.ID):=fun {y} hy=>by
  rcases Fp e.hi hy with q|⟨j,hj,q⟩
  ·exact .inl q
  ·refine .inr ⟨cg q,fun e2=>hj ?_⟩;obtain ⟨h1,rfl⟩:=cd.1 q;obtain ⟨h2,h3⟩:=cd.1 e.hi;subst h3;have:=na.1 h.tx.so;rcases xi j i with q2|q2|q2
   ·have:=this j i h1 h2 q2; omega
   ·exact q2
   ·have:=this i j h2 h1 q2; omega
 have hids:ids (tn t i x r (A++⟨c.Target,gy x.ID f lay⟩::B))=ids t:=SU e.hi rfl;have hnw:(⟨x.ID,f,false⟩:al)∈gy x.ID f lay:=by rw [hP.new]; simp
 have hnS:(⟨c.Target,gy x.ID f lay⟩:aa)∈A++⟨c.Target,gy x.ID f lay⟩::B:=by simp
 have keep:∀ s∈t.Stacks,∀ y∈s.Layers,∃ s'∈A++(⟨c.Target,gy x.ID f lay⟩:aa)::B,s'.Actor=s.Actor/\∃ y'∈s'.Layers,y'.Txn_=y.Txn_/\y'.Prepared=y.Prepared:=fun s hs y hy=>by
  rcases hcase s hs with q|q|rfl
  ·exact ⟨s,by simp [q],rfl,y,hy,rfl,rfl⟩
  ·exact ⟨s,by simp [q],rfl,y,hy,rfl,rfl⟩
  ·refine ⟨_,hnS,rfl,?_⟩;rcases hP.all y hy with q|⟨q1,q2⟩
   ·exact ⟨y,by rw [hP.new]; simp [q],rfl,rfl⟩
   ·exact ⟨_,hnw,q1.symm,q2.symm⟩
 have keepL:∀ {a:Ref} {n:Int},BU t a n->BU (tn t i x r (A++⟨c.Target,gy x.ID f lay⟩::B)) a n:=fun ⟨s,hs,ha,y,hy,hn⟩=>by
  obtain ⟨s',g1,g2,y',g3,g4,_⟩:=keep s hs y hy;exact ⟨s',g1,g2.trans ha,y',g3,g4.trans hn⟩
 have newL:BU (tn t i x r (A++⟨c.Target,gy x.ID f lay⟩::B)) c.Target x.ID:=⟨_,hnS,rfl,_,hnw,rfl⟩;have exold:∀ s∈t.Stacks,∀ l∈s.Layers,∀ y∈t.Txns.set i ⟨x.ID,x.Born,x.Client,x.Seq,x.Calls,x.Done+1,r⟩,y.ID=l.Txn_->(∃ c∈y.Calls.take y.Done.toNat,c.Target=s.Actor)/\(l.Prepared=true->y.Done=y.Calls.length):=fun s hs l hl y hy hyl=>by
  rcases hT hy with rfl|⟨q1,q2⟩
  ·have hnp:=e.np h hs hl hyl.symm;obtain ⟨⟨c',g1,g2⟩,_⟩:=(h.st s hs).ex l hl x hx hyl;refine ⟨⟨c',?_,g2⟩,fun q=>by rw [hnp] at q; cases q⟩;show c'∈x.Calls.take (x.Done+1).toNat;obtain ⟨j,hj⟩:=cC g1;rw [cW] at hj;split at hj
   ·exact cg (i:=j) (by rw [cW,if_pos (by omega)]; exact hj)
   ·cases hj
  ·exact (h.st s hs).ex l hl y q1 hyl
 have svold:∀ s∈t.Stacks,SV (tn t i x r (A++⟨c.Target,gy x.ID f lay⟩::B)) s:=fun s hs=>
  ⟨(h.st s hs).ne,fun l hl=>hids ▸ (h.st s hs).id l hl,(h.st s hs).fi,(h.st s hs).up,exold s hs⟩
 refine ⟨⟨fun y hy=>?_,?_,?_⟩,h.lk,?_,fun s hs=>?_,fun y hy c' hc'=>?_,fun l hl=>?_,?_⟩
 ·rcases hT hy with rfl|⟨q,_⟩
  ·exact ⟨⟨hX.i1,hX.i2,hX.c1,hX.c2,by simp only; omega,by simp only; omega,hr,hX.ca⟩,hR.1,hR.2.1,hR.2.2.1,hR.2.2.2.1,hR.2.2.2.2.1,hR.2.2.2.2.2.1,fun q=>by simp only at q; omega⟩
  ·exact h.tx.x y q
 ·have hso:=h.tx.so;have:=(nZ (f:=Txn.ID) (R:=fun a b:Int=>a < b)).2 hso;rw [<-SU e.hi (y:=⟨x.ID,x.Born,x.Client,x.Seq,x.Calls,x.Done+1,r⟩) rfl] at this;exact nZ.1 this
 ·show (t.Txns.set i _).length<=32;rw [hC]; exact h.tx.len
 ·show (A++⟨c.Target,gy x.ID f lay⟩::B).Pairwise _;have hss:=h.ss;have hAB:(A++B).Pairwise fun a b=>rl a.Actor b.Actor=true:=by
   rcases hsp with q|⟨q,_⟩
   ·rw [q] at hss; exact hss.sublist (List.Sublist.append_left (List.sublist_cons_self _ _) _)
   ·rwa [q] at hss
  obtain ⟨g1,g2,g3⟩:=xr.1 hAB;refine xr.2 ⟨g1,xR.2 ⟨fun s hs=>hB s hs,g2⟩,fun a ha b hb=>?_⟩;rcases cF.1 hb with rfl|hb
  ·exact hA a ha
  ·exact g3 a ha b hb
 ·simp only [tn,cH,cF] at hs;rcases hs with hs|rfl|hs
  ·exact svold s (hAS s hs)
  ·have hbase:∀ y∈base,(⟨c.Target,lay⟩:aa)∈t.Stacks/\y∈lay:=fun y hy=>by
    have:=(hP.old y hy).1;rcases hlay with q|q
    ·rw [q] at this; cases this
    ·exact ⟨q,this⟩
   have hin:∀ {y:al},y∈gy x.ID f lay->y∈base∨y=⟨x.ID,f,false⟩:=fun hy=>by
    rw [hP.new] at hy;simpa using hy
   refine ⟨by rw [hP.new]; simp,fun l hl=>?_,fun l hl=>?_,fun j l hj hp=>?_,fun l hl y hy hyl=>?_⟩
   ·rw [hids];rcases hin hl with q|rfl
    ·exact (h.st _ (hbase l q).1).id l (hbase l q).2
    ·exact AO e.hi
   ·rcases hin hl with q|rfl
    ·exact (h.st _ (hbase l q).1).fi l (hbase l q).2
    ·exact hf
   ·simp only [hP.new] at hj ⊢;rcases nP j base.length with q|q
    ·rw [cJ q] at hj;have:=(hP.old l (cg hj)).2.2;rw [hp] at this; cases this
    ·have hjl:=(cd.1 hj).1;simp at hjl;have:j=base.length:=by omega
     subst this;simp only [ni,List.length_singleton,true_and];simp at hj;exact ⟨k,e.hk,e.ka,by rw [<-hj]; exact e.ko⟩
   ·rcases hin hl with q|rfl
    ·exact exold _ (hbase l q).1 l (hbase l q).2 y hy hyl
    ·refine ⟨?_,fun q=>by cases q⟩;rcases hT hy with rfl|⟨_,q⟩
     ·refine ⟨c,?_,rfl⟩;show c∈x.Calls.take (x.Done+1).toNat;exact cg (i:=x.Done.toNat) (by rw [cW,if_pos (by omega)]; exact e.hc)
     ·exact absurd hyl q
  ·exact svold s (hBS s hs)
 ·rcases hT hy with rfl|⟨q,_⟩
  ·have hc2:c'∈x.Calls.take (x.Done+1).toNat:=hc';obtain ⟨j,hj⟩:=cC hc2;rw [cW] at hj;split at hj
   ·rename_i hlt;rcases nP j x.Done.toNat with q|q
    ·exact keepL (h.pr x hx c' (cg (i:=j) (by rw [cW,if_pos q]; exact hj)))
    ·have:j=x.Done.toNat:=by omega
     rw [this,e.hc] at hj;simp only [cb] at hj;rw [<-hj]; exact newL
   ·cases hj
  ·exact keepL (h.pr y q c' hc')
 ·have hL:=h.lp l hl;have oldat:At x l.Actor->c.Target=l.Actor:=fun ⟨c2,g1,g2⟩=>by
   rw [e.hc] at g1;simp only [cb] at g1;rw [g1]; exact g2
  have hasx:x.ID=l.Owner->BU t l.Actor x.ID∨c.Target=l.Actor:=fun q=>(hL.op x hx q e.dn).imp_right oldat;refine ⟨hids ▸ hL.ow,fun w hw=>hids ▸ hL.wa w hw,fun y hy hyo hd=>?_,fun y hy hyo hd=>?_,fun y hy hw=>?_⟩
  ·rcases hT hy with rfl|⟨q,_⟩
   ·rcases hasx hyo with ⟨s,hs,ha,z,hz,hn⟩|q
    ·obtain ⟨s',g1,g2,z',g3,g4,g5⟩:=keep s hs z hz;exact ⟨s',g1,g2.trans ha,z',g3,g4.trans hn,g5.trans (e.np h hs hz hn)⟩
    ·exact ⟨_,hnS,q,_,hnw,rfl,rfl⟩
   ·obtain ⟨s,hs,ha,z,hz,hn,hp⟩:=hL.dn y q hyo hd;obtain ⟨s',g1,g2,z',g3,g4,g5⟩:=keep s hs z hz;exact ⟨s',g1,g2.trans ha,z',g3,g4.trans hn,g5.trans hp⟩
  ·rcases hT hy with rfl|⟨q,_⟩
   ·rcases hasx hyo with q|q
    ·exact .inl (keepL q)
    ·exact .inl (q ▸ newL)
   ·exact (hL.op y q hyo hd).imp_left keepL
  ·rcases hT hy with rfl|⟨q,_⟩
   ·exfalso;have hat:=oldat (hL.wt x hx hw).2;have:=Oq h.lk e.hk hl (e.ka.trans hat);subst this;have:=((h.lk.l k e.hk).w x.ID hw).2;rw [e.ko] at this; omega
   ·exact hL.wt y q hw
 ·obtain ⟨rk,hrk⟩:=h.ac;obtain ⟨M,hM⟩:∃ M,∀ n∈ids t,rk n<=M:=by
   generalize ids t=l
   induction l with
   | nil=>exact ⟨0,by simp⟩
   | cons a l ih=>
    obtain ⟨M,hM⟩:=ih;refine ⟨max M (rk a),fun n hn=>?_⟩;rcases cF.1 hn with rfl|hn
    ·exact n8 _ _
    ·exact nu (hM n hn) (nR _ _)
  refine ⟨fun n=>if n=x.ID then M+1 else rk n,fun s hs=>?_⟩;have old:∀ s∈t.Stacks,Rk (fun n=>if n=x.ID then M+1 else rk n) s:=fun s hs=>by
   unfold Rk;rw [na];intro a b ha hb hab;have hlt:=na.1 (hrk s hs) a b ha hb hab;have hane:s.Layers[a].Txn_≠x.ID:=fun q=>by
    have:=((h.st s hs).up a _ (cq ha) (e.np h hs (nx ha) q)).1;omega
   simp only [hane,if_false];split
   ·have:=hM _ ((h.st s hs).id _ (nx ha)); omega
   ·exact hlt
  simp only [tn,cH,cF] at hs;rcases hs with hs|rfl|hs
  ·exact old s (hAS s hs)
  ·unfold Rk;simp only [hP.new];refine xr.2 ⟨?_,by simp,fun a ha b hb=>?_⟩
   ·rcases hlay with q|q
    ·have:base=[]:=by rw [q] at hP; exact List.sublist_nil.1 hP.sub
     rw [this]; exact .nil
    ·exact (old _ q).sublist hP.sub
   ·simp only [cO] at hb;subst hb;simp only [if_true,(hP.old a ha).2.1,if_false];rcases hlay with q|q
    ·rw [q] at hP; have:=(hP.old a ha).1; cases this
    ·have:=hM _ ((h.st _ q).id a (hP.old a ha).1); omega
  ·exact old s (hBS s hs)
end
end Go.Proofs.YtmacaidmhchpgaaGreat
namespace Go.Proofs.YtmacaidmhchpgaaGreat
open Go Go.Proofs Go.Abs
def Yq {t:ae} (h:TV t) {x:Txn} (hx:x∈t.Txns) (hd:x.Done=x.Calls.length) {j:Nat} {s:aa} (hj:t.Stacks[j]?=some s) {y:al} (hy:s.Layers[s.Layers.length - 1]?=some y) (hn:y.Txn_=x.ID) (hp:y.Prepared=false)
  {k:ai} (hk:k∈t.Locks) (hka:k.Actor=s.Actor) {L:List ai} (hv:VT L) (h1:∀ l'∈L,(l'∈t.Locks/\l'.Actor≠s.Actor)∨(l'.Actor=k.Actor/\l'.Owner∈k.Waiters/\∀ w∈l'.Waiters,w∈k.Waiters)) (h2:∀ l∈t.Locks,l.Actor≠s.Actor->l∈L) :
  TV ⟨t.Txns,L,t.Stacks.set j ⟨s.Actor,s.Layers.set (s.Layers.length - 1) ⟨y.Txn_,y.Fields,true⟩⟩⟩:=by
 have hs:=cg hj;have hS:=h.st s hs;have hym:=cg hy;have hne:∀ {s':aa} {i:Nat},i≠j->t.Stacks[i]?=some s'->s'.Actor≠s.Actor:=fun {s' i} hi q e=>by
  have:=CL h.ss hj (cg q) e;obtain ⟨g1,rfl⟩:=cd.1 q;obtain ⟨g2,g3⟩:=cd.1 hj;have hp:=na.1 h.ss;rcases xi i j with q2|q2|q2
  ·have:=hp i j g1 g2 q2; rw [g3,e,iC] at this; cases this
  ·exact hi q2
  ·have:=hp j i g2 g1 q2; rw [g3,e,iC] at this; cases this
 have hin:∀ {s':aa},s'∈t.Stacks.set j ⟨s.Actor,s.Layers.set (s.Layers.length - 1) ⟨y.Txn_,y.Fields,true⟩⟩->s'=⟨s.Actor,s.Layers.set (s.Layers.length - 1) ⟨y.Txn_,y.Fields,true⟩⟩∨(s'∈t.Stacks/\s'.Actor≠s.Actor):=fun hs'=>by
  rcases Fp hj hs' with q|⟨i,hi,q⟩
  ·exact .inl q
  ·exact .inr ⟨cg q,hne hi q⟩
 have hto:∀ {s':aa},s'∈t.Stacks->s'.Actor≠s.Actor->s'∈t.Stacks.set j ⟨s.Actor,s.Layers.set (s.Layers.length - 1) ⟨y.Txn_,y.Fields,true⟩⟩:=fun {s'} hs' q=>by
  obtain ⟨i,hi⟩:=cC hs';have:j≠i:=fun e=>by rw [<-e,hj] at hi; simp only [cb] at hi; exact q (hi ▸ rfl)
  exact cg (i:=i) (by rw [nW this]; exact hi)
 have hnew:(⟨s.Actor,s.Layers.set (s.Layers.length - 1) ⟨y.Txn_,y.Fields,true⟩⟩:aa)∈t.Stacks.set j ⟨s.Actor,s.Layers.set (s.Layers.length - 1) ⟨y.Txn_,y.Fields,true⟩⟩:=
  cg (i:=j) (by rw [xo (cd.1 hj).1])
 have hlay:∀ {l:al},l∈s.Layers.set (s.Layers.length - 1) ⟨y.Txn_,y.Fields,true⟩->l=⟨y.Txn_,y.Fields,true⟩∨(l∈s.Layers/\l.Prepared=true):=fun {l} hl=>by
  rcases Fp hy hl with q|⟨i,hi,q⟩
  ·exact .inl q
  ·refine .inr ⟨cg q,?_⟩;cases hpp:l.Prepared with
   | true=>rfl
   | false=>have:=(hS.up i l q hpp).1; omega
 have keepL:∀ {a:Ref} {n:Int},BU t a n->BU ⟨t.Txns,L,t.Stacks.set j ⟨s.Actor,s.Layers.set (s.Layers.length - 1) ⟨y.Txn_,y.Fields,true⟩⟩⟩ a n:=fun ⟨s',hs',ha,z,hz,hzn⟩=>by
  by_cases q:s'.Actor=s.Actor
  ·have:=CL h.ss hj hs' q;subst this;refine ⟨_,hnew,ha,?_⟩;obtain ⟨i,hi⟩:=cC hz;by_cases e:i=s'.Layers.length - 1
   ·subst e;rw [hi] at hy;simp only [cb] at hy;exact ⟨⟨y.Txn_,y.Fields,true⟩,cg (i:=s'.Layers.length - 1) (by rw [xo (cd.1 hi).1]),by rw [<-hy]; exact hzn⟩
   ·exact ⟨z,cg (i:=i) (by rw [nW (fun q=>e q.symm)]; exact hi),hzn⟩
  ·exact ⟨s',hto hs' q,ha,z,hz,hzn⟩
 refine ⟨⟨h.tx.x,h.tx.so,h.tx.len⟩,hv,?_,fun s' hs'=>?_,fun z hz c hc=>keepL (h.pr z hz c hc),fun l hl=>?_,?_⟩
 ·have:=(nZ (f:=aa.Actor) (R:=fun a b=>rl a b=true)).2 h.ss;have e:(t.Stacks.set j ⟨s.Actor,s.Layers.set (s.Layers.length - 1) ⟨y.Txn_,y.Fields,true⟩⟩).map aa.Actor=t.Stacks.map aa.Actor:=by
   rw [xW]; exact tc (by rw [cv,hj]; rfl)
  rw [<-e] at this;exact nZ.1 this
 ·rcases hin hs' with rfl|⟨q,qa⟩
  ·refine ⟨fun e=>hS.ne (by have:=congrArg List.length e; simpa using this),fun l hl=>?_,fun l hl=>?_,fun i l hi hlp=>?_,fun l hl z hz e=>?_⟩
   ·rcases hlay hl with rfl|⟨q,_⟩
    ·exact hS.id y hym
    ·exact hS.id l q
   ·rcases hlay hl with rfl|⟨q,_⟩
    ·exact hS.fi y hym
    ·exact hS.fi l q
   ·exfalso;rcases hlay (cg hi) with rfl|⟨_,q⟩
    ·cases hlp
    ·rw [hlp] at q; cases q
   ·rcases hlay hl with rfl|⟨q,_⟩
    ·obtain ⟨g1,_⟩:=hS.ex y hym z hz e;refine ⟨g1,fun _=>?_⟩;have:z=x:=h.tx.uniq hz hx (e.trans hn);rw [this]; exact hd
    ·exact hS.ex l q z hz e
  ·have hS':=h.st s' q;exact ⟨hS'.ne,hS'.id,hS'.fi,fun i l hi hlp=>by
    obtain ⟨g1,k',g2,g3,g4⟩:=hS'.up i l hi hlp;exact ⟨g1,k',h2 k' g2 (g3 ▸ qa),g3,g4⟩,hS'.ex⟩
 ·rcases h1 l hl with ⟨q,qa⟩|⟨qa,qo,qw⟩
  ·have hL:=h.lp l q;refine ⟨hL.ow,hL.wa,fun z hz e hzd=>?_,fun z hz e hzd=>(hL.op z hz e hzd).imp_left keepL,hL.wt⟩;obtain ⟨s',g1,g2,g3⟩:=hL.dn z hz e hzd;exact ⟨s',hto g1 (g2 ▸ qa),g2,g3⟩
  ·have hL:=h.lp k hk;refine ⟨hL.wa _ qo,fun w hw=>hL.wa w (qw w hw),fun z hz e hzd=>?_,fun z hz e _=>.inr (qa ▸ (hL.wt z hz (e ▸ qo)).2),fun z hz hw=>qa ▸ hL.wt z hz (qw _ hw)⟩;have:=(hL.wt z hz (e ▸ qo)).1; omega
 ·obtain ⟨r,hr⟩:=h.ac;refine ⟨r,fun s' hs'=>?_⟩;rcases hin hs' with rfl|⟨q,_⟩
  ·have:=(nZ (f:=al.Txn_) (R:=fun a b=>r a < r b)).2 (hr s hs);have e:(s.Layers.set (s.Layers.length - 1) ⟨y.Txn_,y.Fields,true⟩).map al.Txn_=s.Layers.map al.Txn_:=by
    rw [xW]; exact tc (by rw [cv,hy]; rfl)
   rw [<-e] at this;exact (nZ (f:=al.Txn_) (R:=fun a b=>r a < r b)).1 this
  ·exact hr s' q
def NW {w:List Int} (h:w.length≠0):uX w∈w:=cg (Ea h)
def Nh {n:Int}:∀ {t:List ai} {y:ai},y∈(jZ n t).1->∃ x∈t,y.Actor=x.Actor/\(∀ w∈y.Waiters,w∈x.Waiters)/\((y.Owner=x.Owner/\x.Owner≠n)∨y.Owner∈x.Waiters)
 | z::t,y,h=>by
  simp only [jZ] at h;have ih:∀ {y:ai},y∈(jZ n t).1->∃ x∈z::t,y.Actor=x.Actor/\(∀ w∈y.Waiters,w∈x.Waiters)/\((y.Owner=x.Owner/\x.Owner≠n)∨y.Owner∈x.Waiters):=fun q=>by
   obtain ⟨x,g1,g2⟩:=Nh q;exact ⟨x,by simp [g1],g2⟩
  split at h
  ·split at h
   ·exact ih h
   ·rename_i e;rcases cF.1 h with rfl|h
    ·exact ⟨z,by simp,rfl,fun w hw=>nB hw,.inr (NW e)⟩
    ·exact ih h
  ·rename_i e;rcases cF.1 h with rfl|h
   ·exact ⟨y,by simp,rfl,fun w hw=>hw,.inl ⟨rfl,e⟩⟩
   ·exact ih h
def Jq {n:Int}:∀ {t:List ai} {x:ai},x∈t->x.Owner≠n->x∈(jZ n t).1
 | z::t,x,h,hn=>by
  simp only [jZ];rcases cF.1 h with rfl|h
  ·rw [if_neg hn]; simp
  ·split
   ·split
    ·exact Jq h hn
    ·exact adN _ (Jq h hn)
   ·exact adN _ (Jq h hn)
def Eh (D:List Int) (t:List ai):List ai:=D.foldl (fun l n=>l.map (wd1 n)) t
def Bw (D:List Int) (t:List ai):List ai:=D.foldl (fun l n=>(jZ n l).1) t
def Ln:∀ {D:List Int} {t:List ai},VT t->VT (Eh D t)
 | [],t,h=>h
 | n::D,t,h=>by unfold Eh; rw [xL]; exact Ln (D:=D) (Xr h n)
def Oh:∀ {D:List Int} {t:List ai},VT t->VT (Bw D t)
 | [],t,h=>h
 | n::D,t,h=>by unfold Bw; rw [xL]; exact Oh (D:=D) (SH h n)
def Lh:∀ {D:List Int} {t:List ai} {y:ai},y∈Eh D t->∃ x∈t,y.Actor=x.Actor/\y.Owner=x.Owner/\∀ w∈y.Waiters,w∈x.Waiters/\w∉D
 | [],t,y,h=>⟨y,h,rfl,rfl,fun w hw=>⟨hw,by simp⟩⟩
 | n::D,t,y,h=>by
  unfold Eh at h;rw [xL] at h;obtain ⟨x,g1,g2,g3,g4⟩:=Lh (D:=D) h;obtain ⟨z,q1,rfl⟩:=cE.1 g1;refine ⟨z,q1,g2,g3,fun w hw=>?_⟩;obtain ⟨q2,q3⟩:=g4 w hw;obtain ⟨q4,q5⟩:=nI.1 q2;exact ⟨q4,by simp only [neB,nD,decide_eq_false_iff_not] at q5; simp [q3,q5]⟩
def Rr:∀ {D:List Int} {t:List ai} {x:ai},x∈t->∃ y∈Eh D t,y.Actor=x.Actor/\y.Owner=x.Owner
 | [],t,x,h=>⟨x,h,rfl,rfl⟩
 | n::D,t,x,h=>by
  unfold Eh;rw [xL];obtain ⟨y,g1,g2,g3⟩:=Rr (D:=D) (cE.2 ⟨x,h,rfl⟩:wd1 n x∈t.map (wd1 n));exact ⟨y,g1,g2,g3⟩
def Oa {X:List Int}:∀ {D:List Int} {t:List ai} {y:ai},(∀ x∈t,∀ w∈x.Waiters,w∉X)->(∀ n∈D,n∈X)->y∈Bw D t->∃ x∈t,y.Actor=x.Actor/\(∀ w∈y.Waiters,w∈x.Waiters)/\((y.Owner=x.Owner/\x.Owner∉D)∨y.Owner∈x.Waiters)
 | [],t,y,_,_,h=>⟨y,h,rfl,fun w hw=>hw,.inl ⟨rfl,by simp⟩⟩
 | n::D,t,y,hw,hD,h=>by
  unfold Bw at h;rw [xL] at h;obtain ⟨x,g1,g2,g3,g4⟩:=Oa (D:=D) (fun x hx w hw'=>by
   obtain ⟨z,q1,_,q3,_⟩:=Nh hx;exact hw z q1 w (q3 w hw')) (fun m hm=>hD m (by simp [hm])) h
  obtain ⟨z,q1,q2,q3,q4⟩:=Nh g1;refine ⟨z,q1,g2.trans q2,fun w hw'=>q3 w (g3 w hw'),?_⟩;rcases g4 with ⟨g4,g5⟩|g4
  ·rcases q4 with ⟨q4,q5⟩|q4
   ·exact .inl ⟨g4.trans q4,by rw [<-q4]; simp [g5]; rw [q4]; exact q5⟩
   ·exact .inr (g4 ▸ q4)
  ·exact .inr (q3 _ g4)
def NV:∀ {D:List Int} {t:List ai} {x:ai},x∈t->x.Owner∉D->x∈Bw D t
 | [],t,x,h,_=>h
 | n::D,t,x,h,hn=>by
  unfold Bw;rw [xL];simp only [cF,not_or] at hn;exact NV (D:=D) (Jq h hn.1) hn.2
def abL (D:List Int) (t:List ai):List ai:=Bw D (Eh D t)
def Zr {t:ae} (h:TV t) (D:List Int):Lks t D (abL D t.Locks):=by
 refine ⟨Oh (Ln h.lk),fun l' hl'=>?_,fun l hl hn=>?_⟩
 ·obtain ⟨x,g1,g2,g3,g4⟩:=Oa (X:=D) (fun x hx w hw=>by
   obtain ⟨z,_,_,_,q⟩:=Lh hx;exact (q w hw).2) (fun n hn=>hn) hl'
  obtain ⟨z,q1,q2,q3,q4⟩:=Lh g1;refine ⟨z,q1,g2.trans q2,?_,fun w hw=>(q4 w (g3 w hw)).1,?_,fun w hw=>(q4 w (g3 w hw)).2⟩
  ·rcases g4 with ⟨g4,_⟩|g4
   ·exact .inl (g4.trans q3)
   ·exact .inr (q4 _ g4).1
  ·rcases g4 with ⟨g4,g5⟩|g4
   ·rw [g4]; exact g5
   ·exact (q4 _ g4).2
 ·obtain ⟨y,g1,g2,g3⟩:=Rr (D:=D) hl;exact ⟨y,NV g1 (g3 ▸ hn),g2,g3⟩
end Go.Proofs.YtmacaidmhchpgaaGreat
namespace Go.Proofs.YtmacaidmhchpgaaGreat
open Go Go.Proofs Go.Abs
def lpR (a b:Ref):Prop:=rl a b=true
def leR (a b:Ref):Prop:=¬ lpR b a
instance (a b:Ref):Decidable (lpR a b):=by unfold lpR; infer_instance
def Gz {a b:Ref}:(sEq a.Type_ b.Type_ && sEq a.Key b.Key)=true↔a=b:=FC
def Q0 (a:Ref):leR a a:=by unfold leR lpR; rw [iC]; simp
def Mt {y p c:Ref} (h1:leR y p) (h2:leR p c) (h3:¬ c=p):lpR y c:=by
 unfold leR lpR at *;have q:rl p c=true:=by
  rcases HY p c with q|q|q
  ·exact q
  ·exact absurd q.symm h3
  ·exact absurd q h2
 rcases HY y p with g|g|g
 ·exact yH g q
 ·rw [g]; exact q
 ·exact absurd g h1
def ZP (N:Nat) {l:List Ref} (hl:l.length<=100000):∃ o,DN (fun x y=>gG N x y) l=some o/\o.Perm l/\o.Pairwise leR:=by
 have hlt:∀ x y,Go.Proofs.ltOf (fun x y=>(gG N x y).getD 0) x y=rl x y:=by
  intro x y;rw [acM];simp only [Go.Proofs.ltOf,yR,nk,decide_eq_true_eq,AJ]
 obtain ⟨o,ho⟩:=Xj (c:=fun x y=>gG N x y) (l:=l) (fun x y=>⟨_,yR N x y⟩) ⟨fun x=>by rw [hlt]; exact iC x,fun x y z h1 h2=>by rw [hlt] at h1 h2 ⊢; exact yH h1 h2,fun x y z h1 h2=>by
  rw [hlt] at h1 h2 ⊢;cases q:rl x z with
  | false=>rfl
  | true=>
   rcases HY y x with g|g|g
   ·have:=yH g q; rw [h2] at this; cases this
   ·rw [g,q] at h2; cases h2
   ·rw [h1] at g; cases g⟩ (by omega)
 obtain ⟨hp,hs⟩:=JU ho;refine ⟨o,ho,hp,hs.imp (fun {a b} q=>?_)⟩;rw [yR,nk,AJ] at q;exact q
structure O4 (a l:List Ref) (k j:Nat):Prop where
 len:l.length=a.length
 kj:k<=j
 jl:j<=a.length
 j1:1<=j
 so:(l.take k).Pairwise lpR
 mem:∀ z,z∈l.take k↔z∈a.take j
 rest:∀ i,j<=i+1->l[i]?=a[i]?
 kj':k<=j
theorem Em (a:List Ref) (hs:a.Pairwise leR) (ha:a.length<=100000) (v3:Nat) (h1:1<=v3) (kx:List Ref->Int->Option (List Ref)) :
  ∀ (n:Nat) (l:List Ref) (k m:Nat),a.length < v3+m+n->1<=m->O4 a l k (v3+m)->k < v3+m->∃ l' k',O4 a l' k' a.length/\fP a v3 kx n (l,(k:Int),(m:Int))=kx l' ((k':Nat):Int)
 | 0,l,k,m,hn,hm,h,hk=>by have:=h.jl; omega
 | n+1,l,k,m,hn,hm,h,hk=>by
  have hl:=h.len; have hj:=h.jl;rw [fP];by_cases hlt:v3+m < a.length
  ·rw [if_pos (by omega)];have e1:l[v3+m]?=a[v3+m]?:=h.rest _ (by omega);have e2:l[v3+(m - 1)]?=a[v3+(m - 1)]?:=h.rest _ (by omega);have g1:((l.drop v3).take (a.length - v3))[m]?=some a[v3+m]:=by
    rw [xk (by omega),cX,e1,cq hlt]
   have g2:((l.drop v3).take (a.length - v3))[m - 1]?=some (a[v3+(m - 1)]'(by omega)):=by
    rw [xk (by omega),cX,e2,cq (by omega)]
   rw [aN g1,w64 (by omega) (by omega),show ((m:Int) - 1)=((m - 1:Nat):Int) by omega,aN g2,w64 (n:=(m:Int)+1) (by omega) (by omega),show ((m:Int)+1)=((m+1:Nat):Int) by omega];have htk:∀ z,z∈a.take (v3+m+1)↔z∈a.take (v3+m)∨z=a[v3+m]:=by
    intro z;rw [xE,cq hlt,cH,xQ,cO]
   have hprev:(a[v3+(m - 1)]'(by omega))∈a.take (v3+m):=by
    refine cg (i:=v3+(m - 1)) ?_;rw [xk (by omega),cq (by omega)]
   by_cases e:a[v3+m]=(a[v3+(m - 1)]'(by omega))
   ·rw [if_pos (Gz.2 e)];refine Em a hs ha v3 h1 kx n l k (m+1) (by omega) (by omega) ⟨hl,by have:=h.kj; omega,by omega,by omega,h.so,fun z=>?_,fun i hi=>h.rest i (by omega),by omega⟩ (by omega);rw [h.mem,<-nf,htk];constructor
    ·exact .inl
    ·rintro (q|q)
     ·exact q
     ·rw [q,e]; exact hprev
   ·rw [if_neg (fun q=>e (Gz.1 q))];have hkl:k < l.length:=by omega
    rw [aN (cq hkl),w64 (n:=(k:Int)+1) (by omega) (by omega),show ((k:Int)+1)=((k+1:Nat):Int) by omega,cP];refine Em a hs ha v3 h1 kx n (l.set k a[v3+m]) (k+1) (m+1) (by omega) (by omega) ⟨by simp [hl],by omega,by omega,by omega,?_,fun z=>?_,fun i hi=>?_,by omega⟩ (by omega)
    ·rw [yq hkl,xr];refine ⟨h.so,by simp,fun y hy z hz=>?_⟩;obtain rfl:=cO.1 hz;have hy':=(h.mem y).1 hy;obtain ⟨i,hi⟩:=nV.1 hy';have hil:=(cd.1 hi).1;simp only [nC] at hil;rw [xk (by omega),cq (by omega),cb] at hi;have hp1:leR (a[v3+(m - 1)]'(by omega)) a[v3+m]:=na.1 hs _ _ (by omega) hlt (by omega);rcases nP i (v3+(m - 1)) with q|q
     ·have h1:=na.1 hs i (v3+(m - 1)) (by omega) (by omega) q;rw [hi] at h1;exact Mt h1 hp1 e
     ·have:i=v3+(m - 1):=by omega
      subst this;rw [hi] at hp1 e;exact Mt (Q0 _) hp1 e
    ·rw [yq hkl,cH,cO,h.mem,<-nf,htk]
    ·rw [nW (by omega)]; exact h.rest i (by omega)
  ·rw [if_neg (by omega)];have:v3+m=a.length:=by omega
   rw [this] at h;exact ⟨l,k,h,rfl⟩
def Rw {a l:List Ref} {k:Nat} (h:O4 a l k a.length):jq l (k:Int)=some (l.take k):=by
 have h1:=h.len; have h2:=h.kj;unfold jq slx;rw [cP,if_pos ⟨by omega,by omega,by omega,by omega⟩];dsimp only;rw [if_pos ⟨by omega,by omega,by omega,by rw [Np (by omega)]; omega⟩];try dsimp only
 rw [Kx (by omega)]
def JY (N:Nat) (a:List Ref) (hs:a.Pairwise leR) (ha:a.length<=100000) (hN:100002<=N):∀ (m v:Nat),v+m=a.length->1<=v->(a.take v).Pairwise lpR->∃ r,ia a N m v ()=some r/\r.Pairwise lpR/\∀ z,z∈r↔z∈a
 | 0,v,hv,h1,hp=>⟨a,rfl,by rwa [nj (by omega)] at hp,fun z=>xY⟩
 | m+1,v,hv,h1,hp=>by
  have hvl:v < a.length:=by omega
  have g1:a[v]?=some a[v]:=cq hvl;have g2:a[v - 1]?=some (a[v - 1]'(by omega)):=cq (by omega);have hprev:(a[v - 1]'(by omega))∈a.take v:=by
   refine cg (i:=v - 1) ?_;rw [xk (by omega),g2]
  have htk:∀ z,z∈a.take (v+1)↔z∈a.take v∨z=a[v]:=by
   intro z;rw [xE,g1,cH,xQ,cO]
  rw [ia,aN g1,w64 (by omega) (by omega),show ((v:Int) - 1)=((v - 1:Nat):Int) by omega,aN g2];by_cases e:a[v]=(a[v - 1]'(by omega))
  ·rw [if_pos (Gz.2 e)];unfold slx;rw [if_pos ⟨by omega,by omega,by omega,by omega⟩];dsimp only;have hc:O4 a a v (v+1):=⟨rfl,by omega,by omega,by omega,hp,fun z=>by
    rw [htk];constructor
    ·exact .inl
    ·rintro (q|q)
     ·exact q
     ·rw [q,e]; exact hprev,fun i _=>rfl,by omega⟩
   obtain ⟨l',k',h',e'⟩:=Em a hs ha v h1 jq N a v 1 (by omega) (by omega) hc (by omega);rw [show (1:Int)=((1:Nat):Int) from rfl,e',Rw h'];exact ⟨_,rfl,h'.so,fun z=>by rw [h'.mem,nj (cr _)]⟩
  ·rw [if_neg (fun q=>e (Gz.1 q))];refine JY N a hs ha hN m (v+1) (by omega) (by omega) ?_;rw [xE,g1,xQ,xr];refine ⟨hp,by simp,fun y hy z hz=>?_⟩;obtain rfl:=cO.1 hz;obtain ⟨i,hi⟩:=nV.1 hy;have hil:=(cd.1 hi).1;simp only [nC] at hil;rw [xk (by omega),cq (by omega),cb] at hi;have hp1:leR (a[v - 1]'(by omega)) a[v]:=na.1 hs _ _ (by omega) hvl (by omega);rcases nP i (v - 1) with q|q
   ·have h1:=na.1 hs i (v - 1) (by omega) (by omega) q;rw [hi] at h1;exact Mt h1 hp1 e
   ·have:i=v - 1:=by omega
    subst this;rw [hi] at hp1 e;exact Mt (Q0 _) hp1 e
def RY (N:Nat) (hN:100002<=N) (a:List Ref) (hs:a.Pairwise leR) (ha:a.length<=100000):∃ r,jJ N a=some r/\r.Pairwise lpR/\∀ z,z∈r↔z∈a:=by
 unfold jJ;by_cases h:((a.length:Nat):Int) < 2
 ·rw [if_pos h];refine ⟨a,rfl,?_,fun z=>xY⟩
  match a,h with
  | [],_=>exact List.Pairwise.nil
  | [x],_=>simp
  | _::_::_,h=>simp at h; omega
 ·rw [if_neg h];refine JY N a hs ha hN (a.length - 1) 1 (by omega) (by omega) ?_
  match a,h with
  | x::xs,_=>simp
def uT (N:Nat) (hN:100002<=N) {x:Txn} (h1:1<=x.Calls.length) (h2:x.Calls.length<=4):∃ r,gB N x=some r/\r.Pairwise lpR/\∀ a,a∈r↔∃ c∈x.Calls,c.Target=a:=by
 have loop:∀ (xs:List ah) (v:Nat) (acc:List Ref),acc.length+xs.length<=1000->gJ (kI N) xs v acc=kI N (acc++xs.map ah.Target):=by
  intro xs
  induction xs with
  | nil=>intro v acc _; rw [gJ]; simp
  | cons c xs ih=>
   intro v acc hl;simp only [cG] at hl;rw [gJ,qK (by simp; omega),ih (v+1) (acc++[c.Target]) (by simp; omega)];simp
 rw [gB,loop x.Calls 0 [] (by simp; omega),cK,kI];obtain ⟨o,e1,e2,e3⟩:=ZP N (l:=x.Calls.map ah.Target) (by simp; omega);have hne:(x.Calls.map ah.Target).isEmpty=false:=by cases hc:x.Calls with
  | nil=>rw [hc] at h1; simp at h1
  | cons=>rfl
 have hol:=e2.length_eq;simp only [cy] at hol;rw [bX,if_neg (by rw [hne]; simp),e1,cc];obtain ⟨r,g1,g2,g3⟩:=RY N hN o e3 (by omega);rw [g1];exact ⟨r,rfl,g2,fun a=>by rw [g3,e2.mem_iff]; simp⟩
end Go.Proofs.YtmacaidmhchpgaaGreat
namespace Go.Proofs.YtmacaidmhchpgaaGreat
open Go Go.Proofs Go.Abs
def wb (S:List Int):List al->Bool->Option Int
 | [],_=>none
 | y::l,c=>if c=true/\y.Txn_∉S then some y.Txn_ else wb S l (c || decide (y.Txn_∈S))
def Cm (S:List Int):List aa->Option Int
 | []=>none
 | s::l=>match wb S s.Layers false with
  | some n=>some n
  | none=>Cm S l
def MG (t:ae) (X:List Int):Prop:=∀ s∈t.Stacks,∀ (i j:Nat) y z,i < j->s.Layers[i]?=some y->s.Layers[j]?=some z->y.Txn_∈X->z.Txn_∈X
def Lx {S:List Int}:∀ {l:List al} {c:Bool} {n:Int},wb S l c=some n->n∉S/\∃ (j:Nat) (z:al),l[j]?=some z/\z.Txn_=n/\(c=true∨∃ (i:Nat) (y:al),i < j/\l[i]?=some y/\y.Txn_∈S)
 | y::l,c,n,h=>by
  rw [wb] at h;split at h
  ·rename_i q;simp only [cb] at h;exact ⟨h ▸ q.2,0,y,rfl,h,.inl q.1⟩
  ·obtain ⟨h1,j,z,h2,h3,h4⟩:=Lx h;refine ⟨h1,j+1,z,by simpa using h2,h3,?_⟩;rcases h4 with h4|⟨i,u,q1,q2,q3⟩
   ·rw [ny,decide_eq_true_eq] at h4;rcases h4 with h4|h4
    ·exact .inl h4
    ·exact .inr ⟨0,y,by omega,rfl,h4⟩
   ·exact .inr ⟨i+1,u,by omega,by simpa using q2,q3⟩
def Mb {S:List Int}:∀ {l:List al} {c:Bool},wb S l c=none->∀ (j:Nat) (z:al),l[j]?=some z->(c=true∨∃ (i:Nat) (y:al),i < j/\l[i]?=some y/\y.Txn_∈S)->z.Txn_∈S
 | y::l,c,h,j,z,hj,hc=>by
  rw [wb] at h;split at h
  ·cases h
  ·rename_i q;cases j with
   | zero=>
    simp only [cu,cb] at hj;subst hj;rcases hc with hc|⟨i,_,hi,_⟩
    ·by_cases g:y.Txn_∈S
     ·exact g
     ·exact absurd ⟨hc,g⟩ q
    ·omega
   | succ j=>
    rw [nn] at hj;refine Mb h j z hj ?_;rcases hc with hc|⟨i,u,hi,hu,hm⟩
    ·exact .inl (by simp [hc])
    ·cases i with
     | zero=>
      simp only [cu,cb] at hu;subst hu;exact .inl (by simp [hm])
     | succ i=>
      rw [nn] at hu;exact .inr ⟨i,u,by omega,hu,hm⟩
def Mv {S:List Int}:∀ {l:List aa} {n:Int},Cm S l=some n->∃ s∈l,wb S s.Layers false=some n
 | s::l,n,h=>by
  rw [Cm] at h;split at h
  ·rename_i m q;exact ⟨s,by simp,q.trans h⟩
  ·obtain ⟨s',g1,g2⟩:=Mv h;exact ⟨s',by simp [g1],g2⟩
def LX {S:List Int}:∀ {l:List aa},Cm S l=none->∀ s∈l,wb S s.Layers false=none
 | s::l,h,s',hs=>by
  rw [Cm] at h;split at h
  ·cases h
  ·rename_i q;rcases cF.1 hs with rfl|hs
   ·exact q
   ·exact LX h s' hs
def VR (N:Nat) (rec5:Unit->Option (List Int)) (S:List Int) (hS:S.length<=1000) (rec2:List Int->Option (List Int)):∀ (l:List al) (v:Nat) (c:Bool),fJ rec5 N S rec2 l v c=match wb S l c with
  | some n=>rec2 (S++[n])
  | none=>rec5 ()
 | [],v,c=>by rw [fJ,wb]
 | y::l,v,c=>by
  have ih:=VR N rec5 S hS rec2 l (v+1);have e:∀ c,mH (fJ rec5 N S rec2 l (v+1)) N S y c=match wb S l (c || decide (y.Txn_∈S)) with
   | some n=>rec2 (S++[n])
   | none=>rec5 ():=fun c=>by
   rw [mH,uA,cc,ih,ih];cases c<;>simp
  rw [fJ,wb];cases c with
  | true=>
   rw [if_pos rfl,uA,cc,mG,qK (by simp; omega)];by_cases q:y.Txn_∈S
   ·simp only [q,not_true_eq_false,and_false,if_false,decide_true,nz,cR];rw [e]; simp [q]
   ·simp [q]
  | false=>
   rw [if_neg (by simp),mG,if_neg (by simp),if_neg (by simp)];exact e false
theorem UC (N:Nat) (k:Option (List Int)) (S:List Int) (hS:S.length<=1000) (rec2:List Int->Option (List Int)):∀ (l:List aa) (v:Nat),iR k N S rec2 l v ()=match Cm S l with
  | some n=>rec2 (S++[n])
  | none=>k
 | [],v=>by rw [iR,Cm]
 | s::l,v=>by
  rw [iR,VR N _ S hS,UC N k S hS rec2 l (v+1),Cm];cases wb S s.Layers false<;>rfl
structure Dep (t:ae) (id:Int) (D:List Int):Prop where
 nd:D.Nodup
 me:id∈D
 sub:∀ n∈D,n∈ids t
 min:∀ X:List Int,id∈X->MG t X->∀ n∈D,n∈X
def Yl (N:Nat) {l:List Int} (h:l≠[]) (hl:l.length<=1000):∃ r,slices_Sort_int N l=some r/\r.Perm l/\r.Pairwise (·<=·):=by
 cases l with
 | nil=>exact absurd rfl h
 | cons x xs=>
  have hs:Ei (x::xs)=some ((x::xs).mergeSort fun x y=>decide (x<=y)):=by unfold Ei; rw [if_pos (by omega)]
  exact ⟨_,by simp only [slices_Sort_int,List.isEmpty_cons,cR,if_false]; exact hs,Kb hs⟩
def G7 (N:Nat) {t:ae} (h:TV t) {id:Int}:∀ (k:Nat) (S:List Int),33 < k+S.length->Dep t id S->∃ D,ki N t k S=some D/\Dep t id D/\MG t D/\D.Pairwise (· < ·)
 | 0,S,hk,hS=>by
  have:=m7 hS.nd hS.sub;have:=h.tx.len;simp [ids] at *; omega
 | k+1,S,hk,hS=>by
  have hlen:S.length<=32:=by
   have:=m7 hS.nd hS.sub;have:=h.tx.len;simp [ids] at *; omega
  rw [ki,UC N _ S (by omega)];cases hg:Cm S t.Stacks with
  | some n=>
   obtain ⟨s,hs,hl⟩:=Mv hg;obtain ⟨h1,j,z,h2,h3,h4⟩:=Lx hl;refine G7 N h k (S++[n]) (by simp; omega) ⟨ade.2 ⟨hS.nd,by simp,fun a ha b hb=>by simp only [cO] at hb; rw [hb]; exact fun e=>h1 (e ▸ ha)⟩,by simp [hS.me],fun m hm=>?_,fun X hX hc m hm=>?_⟩
   ·rcases cH.1 hm with hm|hm
    ·exact hS.sub m hm
    ·simp only [cO] at hm; rw [hm,<-h3]; exact (h.st s hs).id z (cg h2)
   ·rcases cH.1 hm with hm|hm
    ·exact hS.min X hX hc m hm
    ·simp only [cO] at hm;rcases h4 with h4|⟨i,y,g1,g2,g3⟩
     ·cases h4
     ·rw [hm,<-h3];exact hc s hs i j y z g1 g2 h2 (hS.min X hX hc _ g3)
  | none=>
   obtain ⟨r,e1,e2,e3⟩:=Yl N (l:=S) (adh hS.me) (by omega);simp only [wM,e1,cc];have hnd:r.Nodup:=e2.nodup_iff.2 hS.nd;refine ⟨r,rfl,⟨hnd,e2.mem_iff.2 hS.me,fun n hn=>hS.sub n (e2.mem_iff.1 hn),fun X hX hc n hn=>hS.min X hX hc n (e2.mem_iff.1 hn)⟩,fun s hs i j y z hij hi hj hy=>?_,?_⟩
   ·rw [e2.mem_iff] at hy ⊢;exact Mb (LX hg s hs) j z hj (.inr ⟨i,y,hij,hi,hy⟩)
   ·have:=(List.pairwise_and_iff.2 ⟨e3,hnd⟩:r.Pairwise fun a b=>a<=b/\a≠b);exact this.imp fun q=>by omega
def OW (N:Nat) (hN:100<=N) {t:ae} (h:TV t) {id:Int} (hid:id∈ids t):∃ D,oo N t id=some D/\Dep t id D/\MG t D/\D.Pairwise (· < ·):=by
 rw [oo];exact G7 N h N [id] (by simp; omega) ⟨by simp,by simp,fun n hn=>by simp only [cO] at hn; rw [hn]; exact hid,fun X hX _ n hn=>by simp only [cO] at hn; rw [hn]; exact hX⟩
def abT (t:ae) (D:List Int):ae:=⟨t.Txns.filter fun x=>mB D x.ID,abL D t.Locks,C9 D t.Stacks⟩
theorem Rc (N:Nat) (hN:1001<=N) (k:List ai->Option (ae × List Int × Int)):∀ (D:List Int) (v:Nat) {L:List ai},VT L->oZ k N D v L=k (Eh D L)
 | [],v,L,_=>by rw [oZ]; rfl
 | n::D,v,L,h=>by rw [oZ,ZN N hN h,cc,Rc N hN k D (v+1) (Xr h n)]; rfl
theorem QS (N:Nat) (hN:200<=N) (r:ae) (D0:List Int):∀ (D:List Int) (v:Nat) {L:List ai},VT L->oY r D0 N D v L=some (⟨r.Txns,Bw D L,r.Stacks⟩,D0,0)
 | [],v,L,_=>by rw [oY]; rfl
 | n::D,v,L,h=>by rw [oY,Vz N hN h,cc,QS N hN r D0 D (v+1) (SH h n)]; rfl
theorem KR (N:Nat) (hN:1001<=N) {t:ae} (h:TV t) {id:Int} (hid:id∈ids t):∃ D,ky N t id=some (abT t D,D,0)/\TV (abT t D)/\Dep t id D/\MG t D/\D.Pairwise (· < ·):=by
 obtain ⟨D,h1,h2,h3,h4⟩:=OW N (by omega) h hid;obtain ⟨i,x,e,_⟩:=qT (N:=N) hid;refine ⟨D,?_,VS h (Zr h D),h2,h3,h4⟩;rw [ky,qY N (by omega) h,cc,if_pos rfl,e,cc,if_neg (by omega),h1,cc,NP N hN h,cc,Rc N hN _ D 0 (by exact h.lk),Dh,QS N (by omega) _ D D 0 (Ln (by exact h.lk))];rfl
def WD (N:Nat) (hN:1001<=N) {t:ae} (h:TV t) {id:Int} (hid:id∉ids t):ky N t id=some (⟨[],[],[]⟩,[],6):=by
 rcases A9 N t id with ⟨_,e⟩|⟨i,x,_,hx,rfl⟩
 ·rw [ky,qY N (by omega) h,cc,if_pos rfl,e,cc,if_pos (by omega)]
 ·exact absurd (AO hx) hid
end Go.Proofs.YtmacaidmhchpgaaGreat
namespace Go.Proofs.YtmacaidmhchpgaaGreat
open Go Go.Proofs Go.Abs
def Km {c:ah} (h:qE c=true):VA c.Target:=by
 simp only [qE,Tr,cw,decide_eq_true_eq] at h;exact ⟨h.1.1.1.1.1,h.1.1.1.1.2,h.1.1.1.2⟩
def emp:ae:=⟨[],[],[]⟩
structure Nx (t:ae) (i:Nat) (x:Txn) (c:ah):Prop where
 hi:t.Txns[i]?=some x
 dn:x.Done < x.Calls.length
 hc:x.Calls[x.Done.toNat]?=some c
def Gv (N:Nat) {t:ae} (h:TV t) (n:Int):(∃ i x c,Nx t i x c/\x.ID=n/\mD N t n=some (c,true))∨((∃ c,mD N t n=some (c,false))/\∀ x∈t.Txns,x.ID=n->x.Done=x.Calls.length):=by
 rcases A9 N t n with ⟨h1,e⟩|⟨i,x,e,hi,hid⟩
 ·refine .inr ⟨⟨_,by rw [mD,e,cc,if_pos (by omega),ra,if_pos rfl]⟩,fun x hx q=>absurd (cE.2 ⟨x,hx,q⟩) h1⟩
 ·have hx:=(h.tx.x x (cg hi)).1;obtain ⟨m,e1,e2,e3⟩:=KD hx;by_cases q:x.Done < x.Calls.length
  ·have hm:m < x.Calls.length:=by omega
   have hc:x.Calls[m]?=some x.Calls[m]:=cq hm;refine .inl ⟨i,x,x.Calls[m],⟨hi,q,by rw [e2]; exact hc⟩,hid,?_⟩;rw [mD,e,cc,if_neg (by omega),aN hi,if_neg (by omega),ra,if_neg (by simp; omega),yh,aN hi,e1,aN hc,Iz (PW (hx.ca _ (nx hm)))];rfl
  ·refine .inr ⟨⟨_,by rw [mD,e,cc,if_neg (by omega),aN hi,if_neg (by omega),ra,if_pos (by simp; omega)]⟩,fun y hy q2=>?_⟩;have:=h.tx.uniq hy (cg hi) (q2.trans hid.symm);rw [this]; have:=hx.d2; omega
def EF (N:Nat) (hN:200<=N) {t:ae} (h:TV t) {id born seq:Int} {client:ByteArray} {calls:List ah} (hx:XV ⟨id,born,client,seq,calls,0,⟨0,0,⟨#[]⟩,[],[]⟩⟩/\zh ⟨id,born,client,seq,calls,0,⟨0,0,⟨#[]⟩,[],[]⟩⟩) :
  (∃ e,e≠0/\(t.Txns.length=32∨∃ y∈t.Txns,id<=y.ID)/\jI N t id born client seq calls=some (emp,e))∨(jI N t id born client seq calls=some (⟨t.Txns++[⟨id,born,client,seq,calls,0,⟨0,0,⟨#[]⟩,[],[]⟩⟩],t.Locks,t.Stacks⟩,0)/\TV ⟨t.Txns++[⟨id,born,client,seq,calls,0,⟨0,0,⟨#[]⟩,[],[]⟩⟩],t.Locks,t.Stacks⟩):=by
 have hl:=h.tx.len;have e1:=(Kf N ⟨id,born,client,seq,calls,0,⟨0,0,⟨#[]⟩,[],[]⟩⟩).is hx;have hJ3:oN N t id born client seq calls=some (⟨t.Txns++[⟨id,born,client,seq,calls,0,⟨0,0,⟨#[]⟩,[],[]⟩⟩],t.Locks,t.Stacks⟩,0):=by
  rw [oN,zc h,cc,AX hx.1.bd,cc,qK (by simp; omega)]
 rw [jI,qY N hN h,cc,if_pos rfl,e1,cc,zg,if_neg (by simp)];have fin:(∀ y∈t.Txns,y.ID < id)->(∃ e,e≠0/\(t.Txns.length=32∨∃ y∈t.Txns,id<=y.ID)/\pc t (oN N t id born client seq calls) false=some (emp,e))∨(pc t (oN N t id born client seq calls) false=some (⟨t.Txns++[⟨id,born,client,seq,calls,0,⟨0,0,⟨#[]⟩,[],[]⟩⟩],t.Locks,t.Stacks⟩,0)/\TV ⟨t.Txns++[⟨id,born,client,seq,calls,0,⟨0,0,⟨#[]⟩,[],[]⟩⟩],t.Locks,t.Stacks⟩):=fun hlt=>by
  rw [pc,if_neg (by simp)];by_cases q:t.Txns.length=32
  ·rw [if_pos (by omega)]; exact .inl ⟨5,by simp,.inl q,rfl⟩
  ·rw [if_neg (by omega),hJ3]; exact .inr ⟨rfl,V9 h hx rfl hlt (by omega)⟩
 by_cases h0:0 < t.Txns.length
 ·have hg:t.Txns[t.Txns.length - 1]?=some (t.Txns[t.Txns.length - 1]'(by omega)):=cq (by omega);rw [if_pos (by omega),w64 (by omega) (by omega),show ((t.Txns.length:Int) - 1)=((t.Txns.length - 1:Nat):Int) by omega,aN hg];by_cases q:id<=(t.Txns[t.Txns.length - 1]'(by omega)).ID
  ·rw [pc,if_pos (by simp [q])]; exact .inl ⟨8,by simp,.inr ⟨_,nx _,q⟩,rfl⟩
  ·rw [show decide (id<=(t.Txns[t.Txns.length - 1]'(by omega)).ID)=false by simp [q]];refine fin fun y hy=>?_;obtain ⟨j,hj,rfl⟩:=adL.1 hy;rcases nP j (t.Txns.length - 1) with q2|q2
   ·have:=na.1 h.tx.so j (t.Txns.length - 1) hj (by omega) q2; omega
   ·have:j=t.Txns.length - 1:=by omega
    subst this; omega
 ·rw [if_neg (by omega)];refine fin fun y hy=>?_;have:=aeo hy; omega
inductive Acq (t:List ai) (a:Ref) (n:Int):List ai × Int × Int->Prop where
 | own {k:ai} (hk:k∈t) (ha:k.Actor=a) (ho:k.Owner=n):Acq t a n (t,1,0)
 | die {k:ai} (hk:k∈t) (ha:k.Actor=a) (ho:k.Owner < n):Acq t a n (t,3,0)
 | old {k:ai} (hk:k∈t) (ha:k.Actor=a) (ho:n < k.Owner) (hw:n∈k.Waiters):Acq t a n (t,2,0)
 | full {k:ai} (hk:k∈t) (ha:k.Actor=a) (ho:n < k.Owner) (hw:n∉k.Waiters) (hl:k.Waiters.length=32):Acq t a n ([],0,5)
 | wait {i:Nat} {k:ai} (hi:t[i]?=some k) (ha:k.Actor=a) (ho:n < k.Owner) (hw:n∉k.Waiters):Acq t a n (t.set i ⟨k.Actor,k.Owner,ES k.Waiters n⟩,2,0)
 | many (hn:∀ k∈t,k.Actor≠a) (hl:t.length=128):Acq t a n ([],0,5)
 | new (hn:∀ k∈t,k.Actor≠a):Acq t a n (t.take (pa t a)++[⟨a,n,[]⟩]++t.drop (pa t a),1,0)
def Lu {t:List ai} (h:VT t) (a:Ref) (n:Int):Acq t a n (acq t a n):=by
 unfold acq;by_cases hh:vl t a=true
 ·obtain ⟨k,hk,ha⟩:=za hh;have hm:=cg hk;rw [if_pos hh,hk];simp only;by_cases e1:k.Owner=n
  ·rw [if_pos e1]; exact .own hm ha e1
  ·rw [if_neg e1];by_cases e2:k.Owner < n
   ·rw [if_pos e2]; exact .die hm ha e2
   ·rw [if_neg e2];by_cases e3:n∈k.Waiters
    ·rw [if_pos e3]; exact .old hm ha (by omega) e3
    ·rw [if_neg e3];by_cases e4:k.Waiters.length=32
     ·rw [if_pos e4]; exact .full hm ha (by omega) e3 e4
     ·rw [if_neg e4]; exact .wait hk ha (by omega) e3
 ·have hn:∀ k∈t,k.Actor≠a:=fun k hk e=>hh (e ▸ (AG h hk).2);rw [if_neg hh];by_cases e:t.length=128
  ·rw [if_pos e]; exact .many hn e
  ·rw [if_neg e]; exact .new hn
def Qd {t:ae} (h:TV t) {i:Nat} {x:Txn} {c:ah} (hx:Nx t i x c) {L:List ai} {o:Int} (ha:acq t.Locks c.Target x.ID=(L,o,0)):TV ⟨t.Txns,L,t.Stacks⟩/\(o=1->∃ k∈L,k.Actor=c.Target/\k.Owner=x.ID):=by
 have hxm:=cg hx.hi;have hX:=(h.tx.x x hxm).1;have hva:=Km (hX.ca c (cg hx.hc));have hvt:VT L:=by have:=Zg h.lk hva hX.i1 hX.i2; rw [ha] at this; exact this
 have hA:=Lu h.lk c.Target x.ID;rw [ha] at hA;have hxu:∀ {y:Txn},y∈t.Txns->y.ID=x.ID->y.Done < y.Calls.length/\At y c.Target:=fun hy e=>by
  rw [h.tx.uniq hy hxm e]; exact ⟨hx.dn,c,hx.hc,rfl⟩
 cases hA with
 | own hk hka ho=>exact ⟨h,fun _=>⟨_,hk,hka,ho⟩⟩
 | die hk ha ho=>exact ⟨h,fun q=>by cases q⟩
 | old hk ha ho hw=>exact ⟨h,fun q=>by cases q⟩
 | @wait j k hj hka ho hw=>
  have hkm:=cg hj;refine ⟨Oc h hvt (fun l hl=>?_) fun s hs y hy hp k' hk' e1 e2=>?_,fun q=>by cases q⟩
  ·rcases Fp hj hl with rfl|⟨_,_,q⟩
   ·have hL:=h.lp k hkm;refine ⟨hL.ow,fun w hw'=>?_,hL.dn,hL.op,fun y hy hw'=>?_⟩
    ·rcases Kr.1 hw' with rfl|q
     ·exact AO hx.hi
     ·exact hL.wa w q
    ·rcases Kr.1 hw' with q|q
     ·exact hka ▸ hxu hy q
     ·exact hL.wt y hy q
   ·exact h.lp l (cg q)
  ·obtain ⟨m,hm⟩:=cC hk';by_cases q:j=m
   ·subst q;rw [hj] at hm;simp only [cb] at hm;subst hm;exact ⟨⟨k.Actor,k.Owner,ES k.Waiters x.ID⟩,cg (i:=j) (by rw [xo (cd.1 hj).1]),e1,e2⟩
   ·exact ⟨k',cg (i:=m) (by rw [nW q]; exact hm),e1,e2⟩
 | new hn=>
  have hmem:∀ {l:ai},l∈t.Locks.take (pa t.Locks c.Target)++[⟨c.Target,x.ID,[]⟩]++t.Locks.drop (pa t.Locks c.Target)↔l=⟨c.Target,x.ID,[]⟩∨l∈t.Locks:=fun {l}=>by
   have e:(l∈t.Locks)↔(l∈t.Locks.take (pa t.Locks c.Target)∨l∈t.Locks.drop (pa t.Locks c.Target)):=by
    rw [<-cH,xD]
   rw [e];simp only [cH,cO];constructor
   ·rintro ((q|q)|q)
    ·exact .inr (.inl q)
    ·exact .inl q
    ·exact .inr (.inr q)
   ·rintro (q|q|q)
    ·exact .inl (.inr q)
    ·exact .inl (.inl q)
    ·exact .inr q
  refine ⟨Oc h hvt (fun l hl=>?_) fun s hs y hy hp k' hk' e1 e2=>⟨k',hmem.2 (.inr hk'),e1,e2⟩,fun _=>⟨_,hmem.2 (.inl rfl),rfl,rfl⟩⟩;rcases hmem.1 hl with rfl|q
  ·refine ⟨AO hx.hi,by simp,fun y hy e q=>?_,fun y hy e _=>.inr (hxu hy e).2,by simp⟩;have:=(hxu hy e).1; omega
  ·exact h.lp l q
inductive ZZ (N:Nat) (t:ae) (n:Int):Prop where
 | no (e:Int) (he:e≠0) (hq:(∀ x∈t.Txns,x.ID=n->x.Done=x.Calls.length)∨∃ i x c,Nx t i x c/\x.ID=n/\acq t.Locks c.Target n=([],0,5)) (h:gN N t n=some (emp,0,[],e))
 | got {i:Nat} {x:Txn} {c:ah} {L:List ai} {o:Int} (hx:Nx t i x c) (hn:x.ID=n) (ho:o=1∨o=2) (ha:acq t.Locks c.Target n=(L,o,0)) (h:gN N t n=some (⟨t.Txns,L,t.Stacks⟩,o,[],0))
 | died {i:Nat} {x:Txn} {c:ah} {k:ai} {D:List Int} (hx:Nx t i x c) (hn:x.ID=n) (hk:k∈t.Locks) (hka:k.Actor=c.Target) (ho:k.Owner < n) (h:gN N t n=some (abT t D,3,D,0)) (hT:TV (abT t D)) (hD:Dep t n D)
theorem Li (N:Nat) (hN:1001<=N) {t:ae} (h:TV t) (n:Int):ZZ N t n:=by
 rcases Gv N h n with ⟨i,x,c,hx,hn,e⟩|⟨⟨c,e⟩,hq⟩
 ·have hxm:=cg hx.hi;have hX:=(h.tx.x x hxm).1;have hva:=Km (hX.ca c (cg hx.hc));have ha:=Y8 N (by omega) h.lk hva (hn ▸ hX.i1) (hn ▸ hX.i2);have e0:gN N t n=if (acq t.Locks c.Target n).2.2=0 then (if (acq t.Locks c.Target n).2.1=3 then (ky N t n).bind fun r8=>some (r8.1,(acq t.Locks c.Target n).2.1,r8.2.1,r8.2.2) else some (⟨t.Txns,(acq t.Locks c.Target n).1,t.Stacks⟩,(acq t.Locks c.Target n).2.1,[],0)) else some (emp,0,[],(acq t.Locks c.Target n).2.2):=by
   rw [gN,qY N (by omega) h,cc,if_pos rfl,e,cc,if_pos rfl,ha,cc,zc h];rfl
  have hA:=Lu h.lk c.Target n;generalize hg:acq t.Locks c.Target n=r at hA e0;cases hA with
  | own hk hka ho=>exact .got hx hn (.inl rfl) hg (by rw [e0]; simp)
  | @die k hk hka ho=>
   obtain ⟨D,d1,d2,d3,_⟩:=KR N hN h (id:=n) (hn ▸ AO hx.hi);exact .died hx hn hk hka ho (by rw [e0]; simp [d1]) d2 d3
  | old hk hka ho hw=>exact .got hx hn (.inr rfl) hg (by rw [e0]; simp)
  | full hk hka ho hw hl=>exact .no 5 (by simp) (.inr ⟨i,x,c,hx,hn,hg⟩) (by rw [e0]; simp)
  | wait hi hka ho hw=>exact .got hx hn (.inr rfl) hg (by rw [e0]; simp)
  | many hm hl=>exact .no 5 (by simp) (.inr ⟨i,x,c,hx,hn,hg⟩) (by rw [e0]; simp)
  | new hm=>exact .got hx hn (.inl rfl) hg (by rw [e0]; simp)
 ·exact .no 6 (by simp) (.inl hq) (by rw [gN,qY N (by omega) h,cc,if_pos rfl,e,cc,if_neg (by simp)]; rfl)
end Go.Proofs.YtmacaidmhchpgaaGreat
namespace Go.Proofs.YtmacaidmhchpgaaGreat
open Go Go.Proofs Go.Abs
def ps (S:List aa) (a:Ref):Nat:=plc (fun s=>rl s.Actor a) S
def Tu {S:List aa} (hs:S.Pairwise fun a b=>rl a.Actor b.Actor=true) (a:Ref):Ta (fun s:aa=>rl s.Actor a) S:=hs.imp fun h1 h2=>yH h1 h2
def Rg {S:List aa} (hs:S.Pairwise fun a b=>rl a.Actor b.Actor=true) (hl:S.length<=1000) (N:Nat) (a:Ref) (kx:Int->Option (Int × Bool)) :
  ∀ (n i j:Nat),j < i+n->i<=ps S a->ps S a<=j->j<=S.length->bg S N a kx n ((i:Int),(j:Int))=kx ((ps S a:Nat):Int)
 | 0,i,j,h1,h2,h3,h4=>by omega
 | n+1,i,j,h1,h2,h3,h4=>by
  rw [bg];by_cases hij:i < j
  ·rw [if_pos (by omega),Qw (by omega)];have hm:(i+j) / 2 < S.length:=by omega
   have hx:S[(i+j) / 2]?=some S[(i+j) / 2]:=cq hm;have hc:=tT (Tu hs a) hx;rw [aN hx,qi,yR];simp only [cc,AJ];by_cases q:rl S[(i+j) / 2].Actor a=true
   ·rw [if_pos q,w64 (by omega) (by omega)];have:(i+j) / 2 < ps S a:=hc.1 q;exact Rg hs hl N a kx n ((i+j) / 2+1) j (by omega) (by omega) h3 h4
   ·rw [if_neg q];have:¬ (i+j) / 2 < ps S a:=fun g=>q (hc.2 g);exact Rg hs hl N a kx n i ((i+j) / 2) (by omega) h2 (by omega) (by omega)
  ·rw [if_neg (by omega)];have:i=ps S a:=by omega
   rw [this]
def RV {S:List aa} (hs:S.Pairwise fun a b=>rl a.Actor b.Actor=true) (a:Ref):∃ A B,A.length=ps S a/\(∀ s∈A,rl s.Actor a=true)/\(∀ s∈B,rl a s.Actor=true)/\((∃ lay,S=A++⟨a,lay⟩::B)∨(S=A++B/\∀ s,S[ps S a]?=some s->s.Actor≠a)):=by
 have hle:ps S a<=S.length:=IQ S;have hA:∀ s∈S.take (ps S a),rl s.Actor a=true:=fun s h=>by
  obtain ⟨i,hi⟩:=cC h;rw [cW] at hi;split at hi
  ·exact (tT (Tu hs a) hi).2 (by unfold ps at *; omega)
  ·cases hi
 have hB:∀ (i:Nat) s,ps S a<=i->S[i]?=some s->rl s.Actor a=false:=fun i s hi h=>by
  cases q:rl s.Actor a with
  | false=>rfl
  | true=>have:=(tT (Tu hs a) h).1 q; unfold ps at hi; omega
 have hlt:∀ (i:Nat) s,ps S a<=i->S[i]?=some s->s.Actor≠a->rl a s.Actor=true:=fun i s hi h hne=>by
  rcases HY s.Actor a with q|q|q
  ·rw [hB i s hi h] at q; cases q
  ·exact absurd q hne
  ·exact q
 by_cases hq:∃ s,S[ps S a]?=some s/\s.Actor=a
 ·obtain ⟨s,h1,h2⟩:=hq;have hl:=(cd.1 h1).1;have e:S=S.take (ps S a)++s::S.drop (ps S a+1):=by
   have:=xD (ps S a) S;rw [xC hl,(cd.1 h1).2] at this;exact this.symm
  refine ⟨S.take (ps S a),S.drop (ps S a+1),by simp; omega,hA,fun z hz=>?_,.inl ⟨s.Layers,by cases s; simp only at h2; subst h2; exact e⟩⟩;obtain ⟨i,hi⟩:=cC hz;rw [cX] at hi;have:=na.1 hs (ps S a) (ps S a+1+i) hl (cd.1 hi).1 (by omega);rw [(cd.1 h1).2,(cd.1 hi).2,h2] at this;exact this
 ·refine ⟨S.take (ps S a),S.drop (ps S a),by simp; omega,hA,fun z hz=>?_,.inr ⟨(xD _ _).symm,fun s h1 h2=>hq ⟨s,h1,h2⟩⟩⟩;obtain ⟨i,hi⟩:=cC hz;rw [cX] at hi;cases i with
  | zero=>exact hlt _ z (by omega) hi fun q=>hq ⟨z,hi,q⟩
  | succ i=>
   have hl0:ps S a < S.length:=by have:=(cd.1 hi).1; omega
   have h0:=hlt (ps S a) _ (cr _) (cq hl0) fun q=>hq ⟨_,cq hl0,q⟩;have:=na.1 hs (ps S a) (ps S a+(i+1)) hl0 (cd.1 hi).1 (by omega);rw [(cd.1 hi).2] at this;exact yH h0 this
def CH (S:List aa) (a:Ref) (n:Int) (f:List Value):Prop:=∃ s∈S,s.Actor=a/\∃ y,s.Layers[s.Layers.length - 1]?=some y/\y.Txn_=n/\y.Fields=f
theorem SX (n:Int) (f:List Value) (l:List al):∃ y,(gy n f l)[(gy n f l).length - 1]?=some y/\y.Txn_=n/\y.Fields=f:=by
 unfold gy;split
 ·rename_i z hz;split
  ·rename_i e;refine ⟨⟨z.Txn_,f,z.Prepared⟩,?_,e,rfl⟩;rw [hC,xo (cd.1 hz).1]
  ·exact ⟨⟨n,f,false⟩,by simp,rfl,rfl⟩
 ·exact ⟨⟨n,f,false⟩,by simp,rfl,rfl⟩
def SD (N:Nat) {t:ae} {i:Nat} {x:Txn} {a:Ref} {f:List Value} (hf:sU f=true) {r:Value} {A B:List aa} {lay:List al} (hl:lay.length<=1000) (b:Bool) (hd0:0<=x.Done) (hd1:x.Done<=1000) :
  rp ((A.length:Nat),b) x.ID N f t ((i:Nat):Int) x r (A++⟨a,lay⟩::B)=some (tn t i x r (A++⟨a,gy x.ID f lay⟩::B),0):=by
 have hf':=se (N:=N) (G0 hf);have hset:∀ {l l':List al},(A++(⟨a,l⟩:aa)::B).set A.length ⟨a,l'⟩=A++⟨a,l'⟩::B:=Jj;rw [rp,aN zJ];have J3:∀ {l:List al} {y:al},l[l.length - 1]?=some y->l.length<=2000->0 < l.length->w9 ((A.length:Nat),b) N f t ((i:Nat):Int) x r (A++⟨a,l⟩::B) ((l.length:Nat):Int)=some (tn t i x r (A++⟨a,l.set (l.length - 1) ⟨y.Txn_,f,y.Prepared⟩⟩::B),0):=fun {l y} hy hl h0=>by
  rw [w9];dsimp only;rw [aN zJ,hf',cc,w64 (by omega) (by omega),show ((l.length:Int) - 1)=((l.length - 1:Nat):Int) by omega];dsimp only;rw [aN hy,w64 (n:=x.Done+1) (by omega) (by omega),cP,cP,cP,hset];rfl
 by_cases h0:lay=[]
 ·subst h0;rw [if_pos (by simp),uz,if_pos rfl];dsimp only;rw [qK (by simp),cP,hset,w64 (by simp) (by simp)];have:=J3 (l:=[⟨x.ID,[],false⟩]) (y:=⟨x.ID,[],false⟩) rfl (by simp) (by simp);simpa [gy] using this
 ·have hp:=xy.2 h0;obtain ⟨z,hz⟩:=KA h0;dsimp only;rw [if_neg (by omega),w64 (by omega) (by omega),show ((lay.length:Int) - 1)=((lay.length - 1:Nat):Int) by omega,aN hz];unfold gy;rw [hz];by_cases q:z.Txn_=x.ID
  ·rw [uz,if_neg (by simp [q])];have:=J3 hz (by omega) hp;simp only [q,if_true] at this ⊢;exact this
  ·rw [uz,if_pos (by simp [q])];dsimp only;rw [qK (by simp; omega),cP,hset,w64 (by omega) (by omega)];have hlen:(lay++[(⟨x.ID,[],false⟩:al)]).length=lay.length+1:=by simp
   have:=J3 (l:=lay++[⟨x.ID,[],false⟩]) (y:=⟨x.ID,[],false⟩) (by simp) (by omega) (by simp);rw [hlen,show ((lay.length+1:Nat):Int)=(lay.length:Int)+1 by omega] at this;rw [this];simp only [q,if_false];simp
def Qj (N:Nat) (hN:200<=N) {t:ae} (h:TV t) {i:Nat} {x:Txn} {c:ah} {k:ai} (e:Exe t i x c k) {f:List Value} {r:Value} (hf:sU f=true) (hr:lM r=true) :
  ∃ A B lay,(t.Stacks=A++⟨c.Target,lay⟩::B∨(t.Stacks=A++B/\lay=[]))/\jm N t x.ID f r=some (tn t i x r (A++⟨c.Target,gy x.ID f lay⟩::B),0)/\TV (tn t i x r (A++⟨c.Target,gy x.ID f lay⟩::B)):=by
 have hxm:=cg e.hi;have hX:=(h.tx.x x hxm).1;have hsl:=h.stacks_len;obtain ⟨i2,x2,e1,e2,e3⟩:=qT (N:=N) (AO e.hi);have hxe:x2=x:=h.tx.uniq (cg e2) hxm e3;subst hxe;have hii:i2=i:=by
  obtain ⟨g1,g2⟩:=cd.1 e2;obtain ⟨g3,g4⟩:=cd.1 e.hi;have:=na.1 h.tx.so;rcases xi i2 i with q|q|q
  ·have:=this i2 i g1 g3 q; rw [g2,g4] at this; omega
  ·exact q
  ·have:=this i i2 g3 g1 q; rw [g2,g4] at this; omega
 subst hii;have hnext:mD N t x2.ID=some (c,true):=by
  rcases Gv N h x2.ID with ⟨j,y,c',hy,hyn,g⟩|⟨_,hq⟩
  ·have:y=x2:=h.tx.uniq (cg hy.hi) hxm hyn;subst this;have:=hy.hc;rw [e.hc] at this;simp only [cb] at this;rw [this]; exact g
  ·have:=hq x2 hxm rfl; have:=e.dn; omega
 have hown:=Pw N hN h.lk e.hk;rw [e.ka,e.ko] at hown;obtain ⟨A,B,hAl,hA,hB,hsp⟩:=RV h.ss c.Target;have hps:ps t.Stacks c.Target<=t.Stacks.length:=IQ _;have hbs:ba N t.Stacks c.Target=bu t.Stacks N c.Target ((ps t.Stacks c.Target:Nat):Int):=by
  have:=Rg h.ss (by omega) N c.Target (bu t.Stacks N c.Target) N 0 t.Stacks.length (by omega) (by omega) hps (by omega);rw [ba,show (0:Int)=((0:Nat):Int) from rfl,this]
 have hd:=hX.d1; have hd2:=hX.d2; have hc2:=hX.c2;have main:∀ {q:Option (ae × Int)},qW N t x2.ID r f=q->jm N t x2.ID f r=q:=fun hq=>by
  rw [jm,qY N hN h,cc,if_pos rfl,FJ,hf,cc,if_pos rfl,qh,hr,cc,ye,if_neg (by simp),hq]
 have hJ5:∀ {q:Option (ae × Int)},(((ba N t.Stacks c.Target).bind fun r14=>if r14.2=true then rp r14 x2.ID N f t ((i2:Nat):Int) x2 r t.Stacks else (bE N t.Stacks r14.1 [⟨c.Target,[]⟩]).bind fun r16=>rp r14 x2.ID N f t ((i2:Nat):Int) x2 r r16)=q)->qW N t x2.ID r f=q:=fun hq=>by
  rw [qW,hnext,cc,if_pos rfl];dsimp only;rw [hown,cc,if_pos rfl,zc h,cc,e1,cc,aN e2,yz (BK hr),cc];exact hq
 rcases hsp with ⟨lay,hS⟩|⟨hS,hno⟩
 ·have hsm:(⟨c.Target,lay⟩:aa)∈t.Stacks:=by rw [hS]; simp
  have hll:=h.layers_len hsm;refine ⟨A,B,lay,.inl hS,main (hJ5 ?_),SJ h e hf hr (.inl hS) hA hB⟩;have hat:t.Stacks[ps t.Stacks c.Target]?=some ⟨c.Target,lay⟩:=by rw [<-hAl,hS]; exact zJ
  have hlt:=(cd.1 hat).1;rw [hbs,bu,if_pos (by omega),aN hat,qi,yR];simp only [cc,Ie.2 rfl,decide_true,if_true];rw [<-hAl];have:=SD N (t:=t) (i:=i2) (x:=x2) (a:=c.Target) hf (r:=r) (A:=A) (B:=B) (lay:=lay) (by simp only at hll; omega) true hd (by omega);rw [<-hS] at this;exact this
 ·refine ⟨A,B,[],.inr ⟨hS,rfl⟩,main (hJ5 ?_),SJ h e hf hr (lay:=[]) (.inr ⟨hS,rfl⟩) hA hB⟩;have hb:ba N t.Stacks c.Target=some (((ps t.Stacks c.Target:Nat):Int),false):=by
   rw [hbs,bu];by_cases q:ps t.Stacks c.Target < t.Stacks.length
   ·have hat:=cq q;have hne:=hno _ hat;rw [if_pos (by omega),aN hat,qi,yR];simp [Ie,hne]
   ·rw [if_neg (by omega)]
  rw [hb,cc,if_neg (by simp)];unfold bE Ia;dsimp only;rw [if_pos ⟨by omega,by omega,rfl,by omega⟩,cc,cP,<-hAl];have ht:t.Stacks.take A.length=A:=by rw [hS,List.take_left']; rfl
  have hdr:t.Stacks.drop A.length=B:=by rw [hS,List.drop_left']; rfl
  rw [ht,hdr,nr];exact SD N (t:=t) (i:=i2) (x:=x2) (a:=c.Target) hf (r:=r) (A:=A) (B:=B) (lay:=[]) (by simp) false hd (by omega)
def SL (N:Nat) (hN:200<=N) {t:ae} (h:TV t) {i:Nat} {x:Txn} {c:ah} {k:ai} (e:Exe t i x c k) {f:List Value} {r:Value} (hf:sU f=true) (hr:lM r=true) :
  ∃ S,jm N t x.ID f r=some (tn t i x r S,0)/\TV (tn t i x r S)/\CH S c.Target x.ID f:=by
 obtain ⟨A,B,lay,_,h1,h2⟩:=Qj N hN h e hf hr;exact ⟨_,h1,h2,⟨c.Target,gy x.ID f lay⟩,by simp,rfl,SX _ _ _⟩
end Go.Proofs.YtmacaidmhchpgaaGreat
namespace Go.Proofs.YtmacaidmhchpgaaGreat
open Go Go.Proofs Go.Abs
def Q8 {t:List ai} (h:VT t) {k:ai} (hk:k∈t):(∀ l'∈(ml t (pa t k.Actor)).1,(l'∈t/\l'.Actor≠k.Actor)∨(l'.Actor=k.Actor/\l'.Owner∈k.Waiters/\∀ w∈l'.Waiters,w∈k.Waiters))/\∀ l∈t,l.Actor≠k.Actor->l∈(ml t (pa t k.Actor)).1:=by
 have hp:=(AG h hk).1;have hpl:=(cd.1 hp).1;have hne:∀ {i:Nat} {l:ai},i≠pa t k.Actor->t[i]?=some l->l.Actor≠k.Actor:=fun {i l} hi hl e=>by
  have:=(AG h (cg hl)).1;rw [e,hp] at this;simp only [cb] at this;subst this;obtain ⟨g1,g2⟩:=cd.1 hl;obtain ⟨g3,g4⟩:=cd.1 hp;have hs:=na.1 h.so;rcases xi i (pa t k.Actor) with q|q|q
  ·have:=hs i _ g1 g3 q; rw [g2,g4,iC] at this; cases this
  ·exact hi q
  ·have:=hs _ i g3 g1 q; rw [g2,g4,iC] at this; cases this
 rw [ml,hp];simp only;split
 ·refine ⟨fun l' hl'=>?_,fun l hl hn=>?_⟩
  ·rcases cH.1 hl' with q|q
   ·obtain ⟨i,hi⟩:=cC q;rw [cW] at hi;split at hi
    ·exact .inl ⟨cg hi,hne (by omega) hi⟩
    ·cases hi
   ·obtain ⟨i,hi⟩:=cC q;rw [cX] at hi;exact .inl ⟨cg hi,hne (by omega) hi⟩
  ·obtain ⟨i,hi⟩:=cC hl;have:i≠pa t k.Actor:=fun e=>by rw [e,hp] at hi; simp only [cb] at hi; exact hn (hi ▸ rfl)
   rw [cH];rcases nP i (pa t k.Actor) with q|q
   ·exact .inl (cg (i:=i) (by rw [cW,if_pos q]; exact hi))
   ·exact .inr (cg (i:=i - (pa t k.Actor+1)) (by rw [cX,show pa t k.Actor+1+(i - (pa t k.Actor+1))=i by omega]; exact hi))
 ·rename_i e;refine ⟨fun l' hl'=>?_,fun l hl hn=>?_⟩
  ·rcases Fp hp hl' with rfl|⟨i,hi,q⟩
   ·exact .inr ⟨rfl,NW e,fun w hw=>nB hw⟩
   ·exact .inl ⟨cg q,hne hi q⟩
  ·obtain ⟨i,hi⟩:=cC hl;have:pa t k.Actor≠i:=fun q=>by rw [<-q,hp] at hi; simp only [cb] at hi; exact hn (hi ▸ rfl)
   exact cg (i:=i) (by rw [nW this]; exact hi)
def dF (t:ae) (a:Ref) (n:Int):Prop:=∃ s∈t.Stacks,s.Actor=a/\∃ y∈s.Layers,y.Txn_=n/\y.Prepared=true
def zk (S:List aa) (j:Nat) (s:aa) (y:al):List aa:=S.set j ⟨s.Actor,s.Layers.set (s.Layers.length - 1) ⟨y.Txn_,y.Fields,true⟩⟩
inductive ZI (N:Nat) (t:ae) (n:Int) (a:Ref):Prop where
 | no (e:Int) (he:e≠0) (hq:∀ x∈t.Txns,x.ID=n->x.Done < x.Calls.length∨(¬ ∃ c∈x.Calls,c.Target=a)∨dF t a n) (h:fu N t n a=some (emp,e))
 | ok {x:Txn} {j:Nat} {s:aa} {y:al} (hx:x∈t.Txns) (hn:x.ID=n) (hd:x.Done=x.Calls.length) (ha:∃ c∈x.Calls,c.Target=a) (hj:t.Stacks[j]?=some s) (hsa:s.Actor=a) (hy:s.Layers[s.Layers.length - 1]?=some y) (hyn:y.Txn_=n) (hp:y.Prepared=false)
   (h:fu N t n a=some (⟨t.Txns,(ml t.Locks (pa t.Locks a)).1,zk t.Stacks j s y⟩,0)) (hT:TV ⟨t.Txns,(ml t.Locks (pa t.Locks a)).1,zk t.Stacks j s y⟩)
theorem FZ (N:Nat) (hN:200<=N) {t:ae} (h:TV t) (n:Int) (a:Ref):ZI N t n a:=by
 rcases A9 N t n with ⟨h1,e⟩|⟨i,x,e,hi,hid⟩
 ·refine .no 6 (by simp) (fun x hx q=>absurd (cE.2 ⟨x,hx,q⟩) h1) ?_;rw [fu,qY N hN h,cc,if_pos rfl,e,cc,if_pos (by omega),iO,if_pos rfl];rfl
 ·have hxm:=cg hi;have hX:=(h.tx.x x hxm).1;have hu:∀ {y:Txn},y∈t.Txns->y.ID=n->y=x:=fun hy q=>h.tx.uniq hy hxm (q.trans hid.symm);have e0:∀ {q:Option (ae × Int)},iO (lg t ((i:Nat):Int) N a n) (!x.Calls.any fun c=>GB c.Target a)=q->fu N t n a=q:=fun hq=>by
   rw [fu,qY N hN h,cc,if_pos rfl,e,cc,if_neg (by omega),aN hi,Lp,cc,hq]
  by_cases ht:∃ c∈x.Calls,c.Target=a
  ·have hany:(x.Calls.any fun c=>GB c.Target a)=true:=by
    obtain ⟨c,hc,q⟩:=ht;exact adM.2 ⟨c,hc,(Dj _ _).2 q⟩
   rw [hany] at e0;by_cases hd:x.Done < x.Calls.length
   ·refine .no 12 (by simp) (fun y hy q=>.inl (by rw [hu hy q]; exact hd)) (e0 ?_);rw [iO,if_neg (by simp),lg,aN hi,if_pos hd]; rfl
   ·have hdn:x.Done=x.Calls.length:=by have:=hX.d2; omega
    obtain ⟨c,hc,hca⟩:=ht;have htk:x.Calls.take x.Done.toNat=x.Calls:=nj (by omega);obtain ⟨s,hs,hsa,y,hy,hyn⟩:=h.pr x hxm c (by rw [htk]; exact hc);have hsa':=hsa.trans hca;have hlay:=o6 N h.ss h.ac hs hsa' hy (hyn.trans hid);cases hp:y.Prepared with
    | true=>
     refine .no 7 (by simp) (fun z hz q=>.inr (.inr ⟨s,hs,hsa',y,hy,hyn.trans hid,hp⟩)) (e0 ?_);rw [iO,if_neg (by simp),lg,aN hi,if_neg hd,hlay,cc,if_pos hp]; rfl
    | false=>
     obtain ⟨m,hm⟩:=cC hy;obtain ⟨hlast,k,hk,hka,hko⟩:=(h.st s hs).up m y hm hp;obtain ⟨j,hj1,hj2⟩:=GV N h.ss hs;have hml:=(cd.1 hm).1;have hyl:s.Layers[s.Layers.length - 1]?=some y:=by rw [show s.Layers.length - 1=m by omega]; exact hm
     have hva:=Km (hX.ca c hc);have hkaa:k.Actor=a:=hka.trans hsa';have hrel:mw N t.Locks a n=some ((ml t.Locks (pa t.Locks a)).1,(ml t.Locks (pa t.Locks a)).2,0):=by
      have hv:VA a:=hca ▸ hva;rw [Zd N (by omega) h.lk hv (hid ▸ hX.i1) (hid ▸ hX.i2)];obtain ⟨g1,g2⟩:=AG h.lk hk;rw [hkaa] at g1 g2;unfold rls;rw [if_pos g2,g1];simp only;rw [if_pos (hko.trans (hyn.trans hid))]
     obtain ⟨p1,p2⟩:=Q8 h.lk hk;rw [hkaa] at p1 p2;have hll:=h.layers_len hs;refine .ok hxm hid hdn ⟨c,hc,hca⟩ hj2 hsa' hyl (hyn.trans hid) hp (e0 ?_) (Yq h hxm hdn hj2 hyl hyn hp hk hka (Xk h.lk _) (fun l' hl'=>by
      rcases p1 l' hl' with ⟨q1,q2⟩|⟨q1,q2⟩
      ·exact .inl ⟨q1,by rw [hsa']; exact q2⟩
      ·exact .inr ⟨q1.trans hkaa.symm,q2⟩) (fun l hl q=>p2 l hl (by rw [<-hsa']; exact q)))
     rw [hsa'] at hj1;rw [iO,if_neg (by simp),lg,aN hi,if_neg hd,hlay,cc,if_neg (by simp [hp]),zc h,cc,hj1,cc,aN hj2,w64 (by omega) (by omega),show ((s.Layers.length:Int) - 1)=((s.Layers.length - 1:Nat):Int) by omega,aN hyl,hrel,cc,cP,cP];rfl
  ·refine .no 6 (by simp) (fun y hy q=>.inr (.inl (by rw [hu hy q]; exact ht))) (e0 ?_);have hany:(x.Calls.any fun c=>GB c.Target a)=false:=by
    rw [<-xp];intro q;obtain ⟨c,hc,g⟩:=adM.1 q;exact ht ⟨c,hc,(Dj _ _).1 g⟩
   rw [hany,iO,if_pos (by simp)]; rfl
structure zz (t:ae) (x:Txn):Prop where
 dn:x.Done=x.Calls.length
 pr:∀ c∈x.Calls,dF t c.Target x.ID
 fi:zQ t x.ID []=true
def RH (N:Nat) {t:ae} (h:TV t) (x:Txn):Te (sg N t x) (∀ c∈x.Calls,dF t c.Target x.ID):=by
 classical
 have hf:∀ c∈x.Calls,kT N c t.Txns t.Locks t.Stacks x.ID x.Born x.Client x.Seq x.Calls x.Done x.Last.Kind x.Last.N x.Last.S x.Last.I x.Last.L=some (!decide (dF t c.Target x.ID)):=fun c _=>by
  rw [kT];by_cases q:BU t c.Target x.ID
  ·obtain ⟨s,hs,ha,y,hy,hn⟩:=q;rw [show (⟨t.Txns,t.Locks,t.Stacks⟩:ae)=t from rfl,o6 N h.ss h.ac hs ha hy hn,cc,if_pos rfl];have:dF t c.Target x.ID↔y.Prepared=true:=⟨fun ⟨s',g1,g2,y',g3,g4,g5⟩=>by
    have:=o6 N h.ss h.ac hs ha hy hn;rw [o6 N h.ss h.ac g1 g2 g3 g4] at this;simp only [cb,cz,and_true] at this;rw [<-this]; exact g5,fun g=>⟨s,hs,ha,y,hy,hn,g⟩⟩
   cases hp:y.Prepared<;>simp [this,hp]
  ·rw [show (⟨t.Txns,t.Locks,t.Stacks⟩:ae)=t from rfl,NO N h.ss q,cc,if_neg (by simp)];have:¬ dF t c.Target x.ID:=fun ⟨s',g1,g2,y',g3,g4,_⟩=>q ⟨s',g1,g2,y',g3,g4⟩;simp [this]
 have e:=kD (L:=bF N t.Txns t.Locks t.Stacks x.ID x.Born x.Client x.Seq x.Calls x.Done x.Last.Kind x.Last.N x.Last.S x.Last.I x.Last.L) (fun c=>kT N c t.Txns t.Locks t.Stacks x.ID x.Born x.Client x.Seq x.Calls x.Done x.Last.Kind x.Last.N x.Last.S x.Last.I x.Last.L) (fun c=>!decide (dF t c.Target x.ID)) (fun _=>rfl) (fun _ _ _=>rfl) x.Calls 0 hf;refine ⟨!(x.Calls.any fun c=>!decide (dF t c.Target x.ID)),?_,?_⟩
 ·simp only [sg,bD,b9,e,cc,s8]
 ·rw [Ja]; simp
def Qe (N:Nat) {t:ae} (h:TV t) (x:Txn):Te (mA N x t.Txns t.Locks t.Stacks) (zz t x):=by
 rw [mA,show (⟨t.Txns,t.Locks,t.Stacks⟩:ae)=t from rfl];refine Te.ite (fun hd=>(RH N h x).bind (fun hp=>?_) fun hp=>Te.f fun q=>hp q.pr) fun hd=>Te.f fun q=>hd q.dn;simp only [if_true,PQ,cc];exact ⟨_,rfl,fun g=>⟨hd,hp,g⟩,fun g=>g.fi⟩
def Vl {t:ae} (h:TV t) {x:Txn} (hx:x∈t.Txns) (hr:zz t x):Lks t [x.ID] t.Locks:=by
 have ho:∀ l∈t.Locks,l.Owner≠x.ID:=fun l hl e=>by
  obtain ⟨s,hs,ha,y,hy,hn,hp⟩:=(h.lp l hl).dn x hx e.symm hr.dn;obtain ⟨⟨c,hc,hca⟩,_⟩:=(h.st s hs).ex y hy x hx hn.symm;obtain ⟨s',g1,g2,y',g3,g4,g5⟩:=hr.pr c (nB hc);obtain ⟨i,hi⟩:=cC hs;have:=CL h.ss hi g1 (g2.trans hca);subst this;obtain ⟨r,hrk⟩:=h.ac;obtain ⟨a,ha'⟩:=cC hy;obtain ⟨b,hb'⟩:=cC g3;have:=I7 (hrk s' g1) ha' hb' (hn.trans g4.symm);subst this;rw [ha'] at hb';simp only [cb] at hb';rw [<-hb',hp] at g5; cases g5
 have hw:∀ l∈t.Locks,x.ID∉l.Waiters:=fun l hl q=>by
  have:=((h.lp l hl).wt x hx q).1;have:=hr.dn; omega
 exact ⟨h.lk,fun l hl=>⟨l,hl,rfl,.inl rfl,fun w hw=>hw,by simp [ho l hl],fun w q=>by simp only [cO]; exact fun e=>hw l hl (e ▸ q)⟩,fun l hl _=>⟨l,hl,rfl,rfl⟩⟩
def Wr (t:ae) (n:Int):List Ref->List aR->Prop
 | [],[]=>True
 | a::rs,w::ws=>w.Actor=a/\(∃ s∈t.Stacks,s.Actor=a/\∃ y∈s.Layers,y.Txn_=n/\y.Prepared=true/\w.Fields=y.Fields)/\Wr t n rs ws
 | _,_=>False
inductive Res (N:Nat):ae->ae->List aD->Prop where
 | nil {t:ae} (hno:∀ x∈t.Txns,¬ zz t x):Res N t t []
 | cons {t t':ae} {cs:List aD} {x:Txn} {ps:List Ref} {ws:List aR} (hx:x∈t.Txns) (hr:zz t x) (hp:gB N x=some ps) (hw:Wr t x.ID ps ws) (hT:TV (yP t [x.ID])) (rest:Res N (yP t [x.ID]) t' cs):Res N t t' (⟨x.ID,x.Client,x.Seq,x.Last,ws⟩::cs)
theorem U1 (N:Nat) {t:ae} (h:TV t) {x:Txn} (k:List aR->Option (ae × List aD)):∀ (rs:List Ref) (v:Nat) (acc:List aR),(∀ a∈rs,dF t a x.ID)->acc.length+rs.length<=1000->∃ ws,Wr t x.ID rs ws/\kQ k N t.Txns t.Locks t.Stacks x rs v acc=k (acc++ws)
 | [],v,acc,_,_=>⟨[],trivial,by rw [kQ,cS]⟩
 | a::rs,v,acc,hp,hl=>by
  obtain ⟨s,hs,ha,y,hy,hn,hpp⟩:=hp a (by simp);simp only [cG] at hl;obtain ⟨ws,g1,g2⟩:=U1 N h k rs (v+1) (acc++[⟨a,y.Fields⟩]) (fun b hb=>hp b (by simp [hb])) (by simp; omega);refine ⟨⟨a,y.Fields⟩::ws,⟨rfl,⟨s,hs,ha,y,hy,hn,hpp,rfl⟩,g1⟩,?_⟩;rw [kQ,show (⟨t.Txns,t.Locks,t.Stacks⟩:ae)=t from rfl,o6 N h.ss h.ac hs ha hy hn,cc,se (G0 ((h.st s hs).fi y hy)),cc,qK (by simp; omega),g2,nr];rfl
theorem MH (N:Nat) (hN:100002<=N):∀ (n:Nat) {t:ae} (acc:List aD),TV t->t.Txns.length < n->acc.length+t.Txns.length<=1000->∃ t' cs,kK N n (t.Txns,t.Locks,t.Stacks,acc)=some (t',acc++cs)/\TV t'/\Res N t t' cs
 | n+1,t,acc,h,hn,ha=>by
  classical
  have hloop:=kD (L:=dE N t.Txns t.Locks t.Stacks) (fun x=>mA N x t.Txns t.Locks t.Stacks) (fun x=>decide (zz t x)) (fun _=>rfl) (fun _ _ _=>rfl) t.Txns 0 (fun x _=>by
   by_cases q:zz t x
   ·rw [(Qe N h x).is q]; simp [q]
   ·rw [(Qe N h x).isnt q]; simp [q])
  rw [kK,dY,hloop,cc];rcases uy (fun x=>decide (zz t x)) t.Txns 0 with ⟨e,hno⟩|⟨i,x,e,hi,hr,_⟩
  ·rw [e,if_pos (by omega)];exact ⟨t,[],by rw [cS],h,.nil fun x hx=>by simpa using hno x hx⟩
  ·have hxm:=cg hi;have hX:=(h.tx.x x hxm).1;have hr:zz t x:=by simpa using hr
   have hT:TV (yP t [x.ID]):=VS h (Vl h hxm hr);obtain ⟨ps,p1,p2,p3⟩:=uT N hN hX.c1 hX.c2;have hlen:(yP t [x.ID]).Txns.length < t.Txns.length:=by
    refine aep (adg _ _) fun q=>?_;have:=aeq.1 q x hxm;rw [ve] at this;exact this (by simp)
   have hpl:ps.length<=4:=by
    have hnd:ps.Nodup:=p2.imp fun {a b} g e=>by rw [e,lpR,iC] at g; cases g
    have:=wm (l:=x.Calls.map ah.Target) hnd fun a hm=>by
     obtain ⟨c,hc,q⟩:=(p3 a).1 hm;exact cE.2 ⟨c,hc,q⟩
    simp only [cy] at this;have:=hX.c2; omega
   obtain ⟨ws,w1,w2⟩:=U1 N h (x:=x) (wi N t.Txns t.Locks t.Stacks x acc x.Last (kK N n)) ps 0 [] (fun a hm=>by
    obtain ⟨c,hc,q⟩:=(p3 a).1 hm;exact q ▸ hr.pr c hc) (by simp; omega)
   obtain ⟨t',cs,r1,r2,r3⟩:=MH N hN n (t:=yP t [x.ID]) (acc++[⟨x.ID,x.Client,x.Seq,x.Last,ws⟩]) hT (by omega) (by simp; omega);refine ⟨t',_::cs,?_,r2,.cons hxm hr p1 w1 hT r3⟩;rw [e,cV,if_neg (by omega),aN hi,yz (BK hX.la),cc,p1,cc,w2,cK,wi,show (⟨t.Txns,t.Locks,t.Stacks⟩:ae)=t from rfl,NP N (by omega) h,cc,qK (by simp; omega),r1,nr];rfl
def Gm (N:Nat) (hN:100002<=N) {t:ae} (h:TV t):∃ t' cs,lq N t=some (t',cs)/\TV t'/\Res N t t' cs:=by
 have:=h.tx.len;obtain ⟨t',cs,h1,h2,h3⟩:=MH N hN N (t:=t) [] h (by omega) (by simp; omega);exact ⟨t',cs,by rw [lq,qY N (by omega) h,cc,if_pos rfl,zc h,cc,h1]; rfl,h2,h3⟩
def XJ {N:Nat} {t t':ae} {cs:List aD} (h:Res N t t' cs):cs.length<=t.Txns.length:=by
 induction h with
 | nil=>simp
 | @cons t t' cs x ps ws hx hr hp hw hT rest ih=>
  have hlen:(yP t [x.ID]).Txns.length < t.Txns.length:=by
   refine aep (adg _ _) fun q=>?_;have:=aeq.1 q x hx;rw [ve] at this;exact this (by simp)
  simp only [cG]; omega
end Go.Proofs.YtmacaidmhchpgaaGreat
namespace Go.Proofs.YtmacaidmhchpgaaGreat
open Go Go.Proofs Go.Abs
abbrev Gt:=aj
def U8C (x:Gt):Prop:=(0<=x.Kind/\x.Kind<=255)/\(0<=x.Who/\x.Who<=255)/\(0<=x.Arg/\x.Arg<=255)
def Jr {a b:Int} (h:0<=a) (hb:0 < b):Int.tmod a b=a % b:=Int.tmod_eq_emod_of_nonneg h
def YB (N:Nat) (t:ae) (hl:t.Txns.length<=1000) {w:Int} (h0:0<=w) (h1:w<=255):∃ n,vJ N t w=some n/\((t.Txns=[]/\n=0)∨n∈ids t):=by
 rw [vJ];by_cases h:t.Txns.length=0
 ·rw [if_pos (by omega)];exact ⟨0,rfl,.inl ⟨cQ h,rfl⟩⟩
 ·rw [if_neg (by omega),w64 (by omega) (by omega),Jr h0 (by omega)];have h2:=Int.emod_nonneg w (b:=(t.Txns.length:Int)) (by omega);have h3:=aes w (b:=(t.Txns.length:Int)) (by omega);have hk:(w % (t.Txns.length:Int)).toNat < t.Txns.length:=by omega
  simp only [dvx];rw [if_neg (by omega),show w % (t.Txns.length:Int)=(((w % (t.Txns.length:Int)).toNat:Nat):Int) by omega,aN (cq hk)];exact ⟨_,rfl,.inr (cE.2 ⟨_,nx hk,rfl⟩)⟩
def EM:List Ref:=[⟨⟨#[65]⟩,⟨#[97]⟩⟩,⟨⟨#[65]⟩,⟨#[98]⟩⟩,⟨⟨#[65]⟩,⟨#[99]⟩⟩,⟨⟨#[65]⟩,⟨#[100]⟩⟩]
def U8 (N:Nat) {n:Int} (h0:0<=n) (h1:n<=255):∃ r,vx N n=some r/\r∈EM:=by
 have key:∀ k:Int,k=0∨k=1∨k=2∨k=3->∃ r,(sls (⟨#[97,98,99,100]⟩) (IntKind.i64.wrap k) (IntKind.i64.wrap ((IntKind.i64.wrap k)+1)) fun s1=>some (Ref.mk (⟨#[65]⟩) s1))=some r/\r∈EM:=by
  rintro k (rfl|rfl|rfl|rfl)
  ·exact ⟨⟨⟨#[65]⟩,⟨#[97]⟩⟩,rfl,by simp [EM]⟩
  ·exact ⟨⟨⟨#[65]⟩,⟨#[98]⟩⟩,rfl,by simp [EM]⟩
  ·exact ⟨⟨⟨#[65]⟩,⟨#[99]⟩⟩,rfl,by simp [EM]⟩
  ·exact ⟨⟨⟨#[65]⟩,⟨#[100]⟩⟩,rfl,by simp [EM]⟩
 rw [vx,Jr h0 (by omega)];exact key (n % 4) (by omega)
theorem Ip {r:Ref} (h:r∈EM):qE ⟨r,⟨#[109]⟩,[]⟩=true:=by
 simp only [EM,cF,nM,or_false] at h;rcases h with rfl|rfl|rfl|rfl<;>rfl
def Y6 {a:Int} (h0:0<=a) (h1:a<=255) (k:Int) (hk:k=0∨k=2∨k=4∨k=6):0<=kd .u8 a k/\kd .u8 a k<=255:=by
 rcases hk with rfl|rfl|rfl|rfl
 ·show 0<=a.fdiv 1/\a.fdiv 1<=255;rw [acQ _ (by omega)]; omega
 ·show 0<=a.fdiv 4/\a.fdiv 4<=255;rw [acQ _ (by omega)]; omega
 ·show 0<=a.fdiv 16/\a.fdiv 16<=255;rw [acQ _ (by omega)]; omega
 ·show 0<=a.fdiv 64/\a.fdiv 64<=255;rw [acQ _ (by omega)]; omega
def QV (N:Nat) {a:Gt} (ha:U8C a):∀ (m:Nat) (v:Nat) (l:List ah),4 < v+m->v<=4->l.length=v->(∀ c∈l,qE c=true)->v<=(a.Who % 4).toNat+1->∃ r,od a N m (l,(v:Int))=some r/\r.length=(a.Who % 4).toNat+1/\∀ c∈r,qE c=true
 | 0,v,l,h1,h2,h3,h4,h5=>by omega
 | m+1,v,l,h1,h2,h3,h4,h5=>by
  obtain ⟨_,⟨w0,w1⟩,g0,g1⟩:=ha;rw [od,Jr w0 (by omega),w64 (n:=a.Who % 4) (by omega) (by omega)];by_cases q:(v:Int)<=a.Who % 4
  ·have hv:v=0∨v=1∨v=2∨v=3:=by omega
   have hk:IntKind.u64.wrap (2 * (IntKind.u64.wrap (Int.tmod (v:Int) 4)))=0∨IntKind.u64.wrap (2 * (IntKind.u64.wrap (Int.tmod (v:Int) 4)))=2∨IntKind.u64.wrap (2 * (IntKind.u64.wrap (Int.tmod (v:Int) 4)))=4∨IntKind.u64.wrap (2 * (IntKind.u64.wrap (Int.tmod (v:Int) 4)))=6:=by
    rcases hv with rfl|rfl|rfl|rfl<;>decide
   rw [if_pos q];obtain ⟨s0,s1⟩:=Y6 g0 g1 _ hk;obtain ⟨r,hr,hm⟩:=U8 N s0 s1;simp only [shx];rw [if_neg (by omega),hr,cc,qK (by simp; omega),w64 (n:=(v:Int)+1) (by omega) (by omega)];refine QV N ⟨by assumption,⟨w0,w1⟩,g0,g1⟩ m (v+1) _ (by omega) (by omega) (by simp [h3]) (fun c hc=>?_) (by omega);rcases cH.1 hc with hc|hc
   ·exact h4 c hc
   ·simp only [cO] at hc; rw [hc]; exact Ip hm
  ·rw [if_neg q];exact ⟨l,rfl,by omega,h4⟩
def Xi (N:Nat) (hN:100<=N) {a:Gt} (ha:U8C a):∃ r,wT N a=some r/\1<=r.length/\r.length<=4/\∀ c∈r,qE c=true:=by
 obtain ⟨r,h1,h2,h3⟩:=QV N ha N 0 [] (by omega) (by omega) rfl (by simp) (by omega);have:=ha.2.1;exact ⟨r,h1,by omega,by omega,h3⟩
def G4 {α β ρ:Type} {L:List α->Nat->List β->Option ρ} (B:Nat) (f:α->β) (P:α->Prop) (k:List β->Option ρ) (h0:∀ v l,L [] v l=k l)
  (h1:∀ x xs v l,P x->l.length < B->L (x::xs) v l=L xs (v+1) (l++[f x])) :
  ∀ (xs:List α) (v:Nat) (l:List β),(∀ x∈xs,P x)->l.length+xs.length<=B->L xs v l=k (l++xs.map f)
 | [],v,l,_,_=>by rw [h0]; simp
 | x::xs,v,l,hp,hb=>by
  simp only [cG] at hb;rw [h1 x xs v l (hp x (by simp)) (by omega),G4 B f P k h0 h1 xs (v+1) (l++[f x]) (fun y hy=>hp y (by simp [hy])) (by simp; omega)];simp
def HO {N:Nat} {v:Value} (h:bdV v):ja N v=some v:=by
 obtain ⟨h1,h2⟩:=h;simp only [ja];rw [vn (by omega),vn (by omega)]
def Ot {N:Nat} {l:List Value} (h:EJ l):kJ N l=some l:=by
 have:=G4 (L:=jc N) 1759218604441 id bdV some (fun _ _=>rfl) (fun x xs v l hp hb=>by
  simp only [jc,HO hp,cc];rw [qK (by simp only [cG,cY]; omega)]; rfl) l 0 [] h.2 (by simpa using h.1)
 simpa [kJ] using this
def PL {N:Nat} {l:List ah} (h:TT l):lV N l=some l:=by
 have:=G4 (L:=jz N) 2000000 id (fun c=>EJ c.Args) some (fun _ _=>rfl) (fun x xs v l hp hb=>by
  simp only [jz,Ot hp,cc];rw [qK (by simp only [cG,cY]; omega)]; rfl) l 0 [] h.2 (by simpa using h.1)
 simpa [lV] using this
def SZ {N:Nat} {x:Txn} (h:XV x):pQ N x=some x:=by
 simp only [pQ,PL h.bd.1,HO h.bd.2,cc]
def R7 (N:Nat) {t:ae} (h:∀ x∈t.Txns,XV x) (n:Int):∃ x b,zi N t n=some (x,b)/\x.Calls.length<=4:=by
 have key:∀ (xs:List Txn) (v:Nat),(∀ x∈xs,XV x)->∃ x b,pR n N xs v ()=some (x,b)/\x.Calls.length<=4:=by
  intro xs
  induction xs with
  | nil=>intro v _; exact ⟨_,_,rfl,by simp⟩
  | cons x xs ih=>
   intro v hx;rw [pR];split
   ·rw [SZ (hx x (by simp))]; exact ⟨x,true,rfl,(hx x (by simp)).c2⟩
   ·exact ih (v+1) fun y hy=>hx y (by simp [hy])
 exact key t.Txns 0 h
def J9 (N:Nat) (l:List Ref) (hl:l.length<=1000) (x:ah) (k:Int->Option (List Ref)):∀ (n:Nat) (v:Nat),v < n->v<=l.length->∃ w:Nat,w<=v/\jk l N x k n (v:Int)=k (w:Int)
 | n+1,v,h1,h2=>by
  rw [jk];by_cases h0:0 < v
  ·have hg:l[v - 1]?=some (l[v - 1]'(by omega)):=cq (by omega);rw [if_pos (by omega),w64 (n:=(v:Int) - 1) (by omega) (by omega),show ((v:Int) - 1)=((v - 1:Nat):Int) by omega,aN hg,WA,cc,pf];cases rl (l[v - 1]'(by omega)) x.Target with
   | true=>exact ⟨v,cr _,by simp⟩
   | false=>
    obtain ⟨w,g1,g2⟩:=J9 N l hl x k n (v - 1) (by omega) (by omega);refine ⟨w,by omega,?_⟩;rw [if_pos (by simp),w64 (n:=(v:Int) - 1) (by omega) (by omega),show ((v:Int) - 1)=((v - 1:Nat):Int) by omega];exact g2
  ·exact ⟨v,cr _,by rw [if_neg (by omega),pf,if_neg (by simp)]⟩
def ER (N:Nat) (hN:2000<=N):∀ (xs:List ah) (v:Nat) (l:List Ref),l.length+xs.length<=1000->∃ r,fq N xs v l=some r
 | [],v,l,_=>⟨l,rfl⟩
 | x::xs,v,l,hl=>by
  simp only [cG] at hl;rw [fq];obtain ⟨w,g1,g2⟩:=J9 N l (by omega) x (tj l (fq N xs (v+1)) x) N l.length (by omega) (cr _);rw [g2,tj];have hJ3:∃ r,kV l (w:Int) x (fq N xs (v+1))=some r:=by
   rw [kV];unfold slx slt;rw [if_pos ⟨by omega,by omega,by omega,by omega⟩];dsimp only;rw [vn (by simp; omega),if_pos ⟨by omega,by omega⟩];try dsimp only
   rw [qK (by simp; omega),qK (by simp; omega)];exact ER N hN xs (v+1) _ (by simp; omega)
  have hJ2:∀ b,∃ r,o8 (fq N xs (v+1)) l (kV l (w:Int) x (fq N xs (v+1))) b=some r:=fun b=>by
   rw [o8];cases b with
   | true=>exact ER N hN xs (v+1) l (by omega)
   | false=>exact hJ3
  by_cases q:w < l.length
  ·rw [if_pos (by omega),aN (cq q)]; exact hJ2 _
  ·rw [if_neg (by omega)]; exact hJ2 _
theorem Nn (N:Nat) (hN:2000<=N) {t:ae} (h:∀ x∈t.Txns,XV x) (n:Int) {w:Int} (h0:0<=w) (h1:w<=255):∃ r,kr N t n w=some r:=by
 obtain ⟨x,b,e,hl⟩:=R7 N h n;obtain ⟨ps,p⟩:=ER N hN x.Calls 0 [] (by simp; omega);obtain ⟨r,hr,_⟩:=U8 N h0 h1;rw [kr,e,cc,lB,ua];dsimp only;rw [p,cc,cc];by_cases q:ps.length=0
 ·rw [if_pos (by omega),hr]; exact ⟨r,rfl⟩
 ·rw [if_neg (by omega),w64 (by omega) (by omega),Jr h0 (by omega)];have h2:=Int.emod_nonneg w (b:=(ps.length:Int)) (by omega);have h3:=aes w (b:=(ps.length:Int)) (by omega);have hk:(w % (ps.length:Int)).toNat < ps.length:=by omega
  simp only [dvx];rw [if_neg (by omega),show w % (ps.length:Int)=(((w % (ps.length:Int)).toNat:Nat):Int) by omega,aN (cq hk)];exact ⟨_,rfl⟩
def Cu:lM ⟨0,0,⟨#[]⟩,[],[]⟩=true:=by
 simp [lM,I6,Gb];decide
def DV (n:Int):lM ⟨1,n,⟨#[]⟩,[],[]⟩=true:=by
 simp [lM,I6,Gb];decide
def Qm {t:ae} {i:Nat} {x:Txn} {c:ah} {L:List ai} (hx:Nx t i x c) {k:ai} (hk:k∈L) (ha:k.Actor=c.Target) (ho:k.Owner=x.ID):Exe ⟨t.Txns,L,t.Stacks⟩ i x c k:=⟨hx.hi,hx.dn,hx.hc,hk,ha,ho⟩
def Ym (N:Nat) (hN:100002<=N) {t:ae} (h:TV t) {v:Nat} (hv:v<=1000) {a:Gt} (ha:U8C a):∃ t' cs,vX N t (v:Int) a=some (t',cs)/\TV t'/\(cs=[]∨Res N t t' cs):=by
 have hl:=h.tx.len;obtain ⟨⟨k0,k1⟩,⟨w0,w1⟩,a0,a1⟩:=id ha;obtain ⟨n,hn,_⟩:=YB N t (by omega) w0 w1;have J1:∀ b,∃ t' cs,tX N t n a b=some (t',cs)/\TV t'/\(cs=[]∨Res N t t' cs):=fun b=>by
  rw [tX];cases b with
  | true=>
   obtain ⟨r,hr⟩:=Nn N (by omega) (fun x hx=>(h.tx.x x hx).1) n a0 a1;rw [if_pos rfl,hr,cc];cases FZ N (by omega) h n r with
   | no e he _ q=>rw [q,cc,if_neg he]; exact ⟨t,[],rfl,h,.inl rfl⟩
   | ok _ _ _ _ _ _ _ _ _ q hT=>rw [q,cc,if_pos rfl]; exact ⟨_,[],rfl,hT,.inl rfl⟩
  | false=>
   rw [if_neg (by simp)];split
   ·obtain ⟨t',cs,e,h1,h2⟩:=Gm N hN h;rw [e]; exact ⟨t',cs,rfl,h1,.inr h2⟩
   ·by_cases q:n∈ids t
    ·obtain ⟨D,e,h1,_⟩:=KR N (by omega) h q;rw [e,cc,if_pos rfl]; exact ⟨_,[],rfl,h1,.inl rfl⟩
    ·rw [WD N (by omega) h q,cc,if_neg (by simp)]; exact ⟨t,[],rfl,h,.inl rfl⟩
 have J2:∀ b,∃ t' cs,pU N t n a b=some (t',cs)/\TV t'/\(cs=[]∨Res N t t' cs):=fun b=>by
  rw [pU];cases b with
  | true=>
   rw [if_pos rfl];cases Li N (by omega) h n with
   | no e he _ q=>rw [q,cc,if_neg he]; exact ⟨t,[],rfl,h,.inl rfl⟩
   | @got i x c L o hx hn' ho hac q=>
    obtain ⟨hT,hown⟩:=Qd h hx (hn' ▸ hac);rw [q,cc,if_pos rfl];rcases ho with rfl|rfl
    ·obtain ⟨k,hk,hka,hko⟩:=hown rfl;obtain ⟨S,e1,e2,_⟩:=SL N (by omega) hT (Qm hx hk hka hko) (f:=[⟨1,a.N,⟨#[]⟩,[],[]⟩]) (r:=⟨1,a.N,⟨#[]⟩,[],[]⟩) (by simp [sU,DV]) (DV _);rw [if_pos rfl];simp only [lj,cc];rw [<-hn',e1,cc,if_pos rfl];exact ⟨_,[],rfl,e2,.inl rfl⟩
    ·rw [if_neg (by simp)]; exact ⟨_,[],rfl,hT,.inl rfl⟩
   | died hx hn' hk hka ho q hT hD=>rw [q,cc,if_pos rfl,if_neg (by simp)]; exact ⟨_,[],rfl,hT,.inl rfl⟩
  | false=>
   rw [if_neg (by simp)];split
   ·exact J1 _
   ·exact J1 _
 have J3:∀ b,∃ t' cs,uk N a t (v:Int) n b=some (t',cs)/\TV t'/\(cs=[]∨Res N t t' cs):=fun b=>by
  rw [uk];cases b with
  | true=>
   obtain ⟨cl,e,c1,c2,c3⟩:=Xi N (by omega) ha;rw [if_pos rfl,e,cc,w64 (n:=(v:Int)+1) (by omega) (by omega)];have hx:XV ⟨(v:Int)+1,v,⟨#[99]⟩,(v:Int)+1,cl,0,⟨0,0,⟨#[]⟩,[],[]⟩⟩/\zh ⟨(v:Int)+1,v,⟨#[99]⟩,(v:Int)+1,cl,0,⟨0,0,⟨#[]⟩,[],[]⟩⟩:=
    ⟨⟨by simp only; omega,by simp only; omega,c1,c2,by simp,by simp,Cu,c3⟩,by simp only; omega,by simp only; omega,by show 1<=(⟨#[99]⟩:ByteArray).size; decide,by show (⟨#[99]⟩:ByteArray).size<=32; decide,by simp only; omega,by simp only; omega,fun _=>rfl⟩
   rcases EF N (by omega) h hx with ⟨e2,he,_,q⟩|⟨q,hT⟩
   ·rw [q,cc,if_neg he]; exact ⟨t,[],rfl,h,.inl rfl⟩
   ·rw [q,cc,if_pos rfl]; exact ⟨_,[],rfl,hT,.inl rfl⟩
  | false=>
   rw [if_neg (by simp)];split
   ·exact J2 _
   ·split
    ·exact J2 _
    ·exact J2 _
 rw [vX,hn,cc];split
 ·exact J3 _
 ·exact J3 _
def TV.nil:TV ⟨[],[],[]⟩:=⟨⟨by simp,by simp,by simp⟩,VT.nil,by simp,by simp,by simp,by simp,⟨fun _=>0,by simp⟩⟩
end Go.Proofs.YtmacaidmhchpgaaGreat
namespace Go.Proofs.YtmacaidmhchpgaaGreat
open Go Go.Proofs Go.Abs
def WB (N:Nat) (hN:1001<=N) {t:ae} (h:TV t) {i:Nat} {x:Txn} {c:ah} (hx:Nx t i x c) (hno:∀ k∈t.Locks,k.Actor≠c.Target) (hl:t.Locks.length < 128) :
  ∃ L,gN N t x.ID=some (⟨t.Txns,L,t.Stacks⟩,1,[],0)/\TV ⟨t.Txns,L,t.Stacks⟩/\(∀ l,l∈L↔l=⟨c.Target,x.ID,[]⟩∨l∈t.Locks)/\L.length<=t.Locks.length+1:=by
 have hu:∀ {j:Nat} {y:Txn} {d:ah},Nx t j y d->y.ID=x.ID->y=x/\d=c:=fun hy e=>by
  have:=h.tx.uniq (cg hy.hi) (cg hx.hi) e;subst this;have:=hy.hc;rw [hx.hc] at this;simp only [cb] at this;exact ⟨rfl,this.symm⟩
 have hacq:acq t.Locks c.Target x.ID=(t.Locks.take (pa t.Locks c.Target)++[⟨c.Target,x.ID,[]⟩]++t.Locks.drop (pa t.Locks c.Target),1,0):=by
  have hh:¬ vl t.Locks c.Target=true:=fun q=>by
   obtain ⟨k,hk,ha⟩:=za q;exact hno k (cg hk) ha
  rw [acq,if_neg hh,if_neg (by omega)]
 cases Li N hN h x.ID with
 | no e he hq g=>
  exfalso;rcases hq with hq|⟨j,y,d,hy,hyi,hq⟩
  ·have:=hq x (cg hx.hi) rfl; have:=hx.dn; omega
  ·obtain ⟨_,rfl⟩:=hu hy hyi;rw [hacq] at hq;simp at hq
 | @got j y d L o hy hyi ho ha g=>
  obtain ⟨rfl,rfl⟩:=hu hy hyi;rw [hacq] at ha;simp only [cz,and_true] at ha;obtain ⟨rfl,rfl⟩:=ha;refine ⟨_,g,(Qd h hx hacq).1,fun l=>?_,by simp; omega⟩;have e:(l∈t.Locks)↔(l∈t.Locks.take (pa t.Locks d.Target)∨l∈t.Locks.drop (pa t.Locks d.Target)):=by
   rw [<-cH,xD]
  rw [e];simp only [cH,cO];constructor
  ·rintro ((q|q)|q)
   ·exact .inr (.inl q)
   ·exact .inl q
   ·exact .inr (.inr q)
  ·rintro (q|q|q)
   ·exact .inl (.inr q)
   ·exact .inl (.inl q)
   ·exact .inr q
 | died hy hyi hk hka ho g hT hD=>
  exfalso;obtain ⟨_,rfl⟩:=hu hy hyi;exact hno _ hk hka
def zI {t:ae} (h:TV t) {l:ai} (hl:l∈t.Locks) {x:Txn} (hx:x∈t.Txns) (e:x.ID=l.Owner) (hd:x.Done=x.Calls.length):¬ dF t l.Actor x.ID:=by
 rintro ⟨s',g1,g2,y',g3,g4,g5⟩;obtain ⟨s,hs,ha,y,hy,hn,hp⟩:=(h.lp l hl).dn x hx e hd;have h1:=o6 0 h.ss h.ac hs ha hy hn;rw [o6 0 h.ss h.ac g1 g2 g3 g4] at h1;simp only [cb,cz,and_true] at h1;rw [h1,hp] at g5; cases g5
def Yv {t:ae} (h:TV t) {x:Txn} (hx:x∈t.Txns) (hd:x.Done=x.Calls.length) {c:ah} (hc:c∈x.Calls) (hno:∀ l∈t.Locks,l.Actor=c.Target->l.Owner≠x.ID):dF t c.Target x.ID:=by
 obtain ⟨s,hs,ha,y,hy,hn⟩:=h.pr x hx c (by rw [nj (by omega)]; exact hc);cases hp:y.Prepared with
 | true=>exact ⟨s,hs,ha,y,hy,hn,hp⟩
 | false=>
  obtain ⟨j,hj⟩:=cC hy;obtain ⟨_,k,hk,hka,hko⟩:=(h.st s hs).up j y hj hp;exact absurd (hko.trans hn) (hno k hk (hka.trans ha))
def rA:Ref:=⟨⟨#[65]⟩,⟨#[97]⟩⟩
def rB:Ref:=⟨⟨#[65]⟩,⟨#[98]⟩⟩
def cA:ah:=⟨rA,⟨#[109]⟩,[]⟩
def cB:ah:=⟨rB,⟨#[109]⟩,[]⟩
def rAB:rA≠rB:=fun e=>by have:=congrArg Ref.Key e; simp [rA,rB] at this
def XD:qE cA=true:=Ip (r:=rA) (by simp [EM,rA])
def aaf:qE cB=true:=Ip (r:=rB) (by simp [EM,rB])
def x3 (d:Int) (v:Value):Txn:=⟨3,0,⟨#[99]⟩,1,[cA,cB],d,v⟩
def x5 (d:Int) (v:Value):Txn:=⟨5,0,⟨#[99]⟩,2,[cA],d,v⟩
def v0:Value:=⟨0,0,⟨#[]⟩,[],[]⟩
def vN (n:Int):Value:=⟨1,n,⟨#[]⟩,[],[]⟩
def HK (N:Nat) (hN:1001<=N) {t:ae} (h:TV t) {i:Nat} {x:Txn} {c:ah} (hx:Nx t i x c) (hno:∀ k∈t.Locks,k.Actor≠c.Target) (hl:t.Locks.length < 128) (n:Int) :
  ∃ L S,gN N t x.ID=some (⟨t.Txns,L,t.Stacks⟩,1,[],0)/\jm N ⟨t.Txns,L,t.Stacks⟩ x.ID [vN n] (vN n)=some (tn ⟨t.Txns,L,t.Stacks⟩ i x (vN n) S,0)/\TV (tn ⟨t.Txns,L,t.Stacks⟩ i x (vN n) S)/\CH S c.Target x.ID [vN n]/\(∀ l,l∈L↔l=⟨c.Target,x.ID,[]⟩∨l∈t.Locks)/\L.length<=t.Locks.length+1:=by
 obtain ⟨L,h1,h2,h3,h4⟩:=WB N hN h hx hno hl;obtain ⟨S,e1,e2,e3⟩:=SL N (by omega) h2 (Qm hx ((h3 _).2 (.inl rfl)) rfl rfl) (f:=[vN n]) (r:=vN n) (by simp [sU,vN,DV]) (DV n);exact ⟨L,S,h1,e1,e2,e3,h3,h4⟩
def Vk {S:List aa} {j:Nat} {s:aa} {y:al} {a:Ref} {n:Int} {f:List Value} (h:CH S a n f) (hj:S[j]?=some s) (hne:s.Actor≠a):CH (zk S j s y) a n f:=by
 obtain ⟨s',hs,ha,g⟩:=h;obtain ⟨i,hi⟩:=cC hs;have:j≠i:=fun e=>by rw [<-e,hj] at hi; simp only [cb] at hi; exact hne (hi ▸ ha)
 exact ⟨s',cg (i:=i) (by unfold zk; rw [nW this]; exact hi),ha,g⟩
def W4 {S:List aa} {D:List Int} {a:Ref} {n:Int} {f:List Value} (h:CH S a n f) (hn:n∉D):CH (C9 D S) a n f:=by
 obtain ⟨s,hs,ha,y,hy,hyn,hyf⟩:=h;have hst:mB D y.Txn_=true:=ve.2 (hyn ▸ hn);have e:=congrArg (List.filter fun z=>mB D z.Txn_) (NR hy);rw [xB,show [y].filter (fun z=>mB D z.Txn_)=[y] by simp [hst]] at e;have e2:(zP D s).Layers=(s.Layers.take (s.Layers.length - 1)).filter (fun z=>mB D z.Txn_)++[y]:=e;exact ⟨zP D s,AP.2 ⟨s,hs,rfl,by rw [e2]; simp⟩,ha,y,by rw [e2]; simp,hyn,hyf⟩
def QM (N:Nat) (hN:200<=N) {t:ae} (h:TV t) {x:Txn} (hx:x∈t.Txns) (hd:x.Done=x.Calls.length) {c:ah} (hc:c∈x.Calls) (hk:(⟨c.Target,x.ID,[]⟩:ai)∈t.Locks) :
  ∃ L S,fu N t x.ID c.Target=some (⟨t.Txns,L,S⟩,0)/\TV ⟨t.Txns,L,S⟩/\(∀ l,l∈L↔l∈t.Locks/\l.Actor≠c.Target)/\L.length<=t.Locks.length/\(∀ a n f,a≠c.Target->CH t.Stacks a n f->CH S a n f):=by
 cases FZ N hN h x.ID c.Target with
 | no e he hq g=>
  exfalso;rcases hq x hx rfl with q|q|q
  ·omega
  ·exact q ⟨c,hc,rfl⟩
  ·exact zI h hk hx rfl hd q
 | ok hx' hn hd' ha hj hsa hy hyn hp g hT=>
  have hm:=Q8 h.lk hk;simp only at hm;refine ⟨_,_,g,hT,fun l=>⟨fun hl=>?_,fun ⟨h1,h2⟩=>hm.2 l h1 h2⟩,?_,fun a n f hne hl=>Vk hl hj (by rw [hsa]; exact hne.symm)⟩
  ·rcases hm.1 l hl with q|⟨_,q,_⟩
   ·exact q
   ·cases q
  ·unfold ml;split
   ·split
    ·simp; omega
    ·simp
   ·simp
def Yi (N:Nat) (hN:100002<=N):uD N=some true:=by
 have hXV3:XV (x3 0 v0)/\zh (x3 0 v0):=⟨⟨by decide,by decide,by decide,by decide,by decide,by decide,Cu,fun c hc=>by
  simp only [x3,cF,nM,or_false] at hc;rcases hc with rfl|rfl
  ·exact XD
  ·exact aaf⟩,by decide,by decide,by decide,by decide,by decide,by decide,fun _=>rfl⟩
 have hXV5:XV (x5 0 v0)/\zh (x5 0 v0):=⟨⟨by decide,by decide,by decide,by decide,by decide,by decide,Cu,fun c hc=>by
  simp only [x5,cF,nM,or_false] at hc;rw [hc]; exact XD⟩,by decide,by decide,by decide,by decide,by decide,by decide,fun _=>rfl⟩
 obtain ⟨b1,T1⟩:jI N ⟨[],[],[]⟩ 3 0 ⟨#[99]⟩ 1 [cA,cB]=some (⟨[x3 0 v0],[],[]⟩,0)/\TV ⟨[x3 0 v0],[],[]⟩:=by
  rcases EF N (by omega) TV.nil hXV3 with ⟨e,_,q,_⟩|q
  ·rcases q with q|⟨y,hy,_⟩
   ·cases q
   ·cases hy
  ·exact q
 obtain ⟨b2,T2⟩:jI N ⟨[x3 0 v0],[],[]⟩ 5 0 ⟨#[99]⟩ 2 [cA]=some (⟨[x3 0 v0,x5 0 v0],[],[]⟩,0)/\TV ⟨[x3 0 v0,x5 0 v0],[],[]⟩:=by
  rcases EF N (by omega) T1 hXV5 with ⟨e,_,q,_⟩|q
  ·rcases q with q|⟨y,hy,q⟩
   ·cases q
   ·simp only [cO] at hy;rw [hy] at q;exact absurd q (by decide)
  ·exact q
 obtain ⟨L1,S1,l1,e1,T3,_,m1,n1⟩:=HK N (by omega) T2 (i:=0) (x:=x3 0 v0) (c:=cA) ⟨rfl,by decide,rfl⟩ (by simp) (by simp) 0;have T3':TV ⟨[x3 1 (vN 0),x5 0 v0],L1,S1⟩:=T3;obtain ⟨L2,S2,l2,e2,T4,_,m2,n2⟩:=HK N (by omega) T3' (i:=0) (x:=x3 1 (vN 0)) (c:=cB) ⟨rfl,by decide,rfl⟩ (fun k hk=>by
  rcases (m1 k).1 hk with rfl|q
  ·exact rAB
  ·cases q) (by simp only [cY] at n1; simp only; omega) 1
 have T4':TV ⟨[x3 2 (vN 1),x5 0 v0],L2,S2⟩:=T4;simp only [cY] at n1 n2;obtain ⟨L3,S3,p3,T5,m3,n3,_⟩:=QM N (by omega) T4' (x:=x3 2 (vN 1)) (by simp) rfl (c:=cA) (by simp [x3]) ((m2 _).2 (.inr ((m1 _).2 (.inl rfl))));simp only at n3 m3;have c3:∀ l∈L3,l=⟨rB,3,[]⟩:=fun l hl=>by
  obtain ⟨g1,g2⟩:=(m3 l).1 hl;rcases (m2 l).1 g1 with q|q
  ·exact q
  ·rcases (m1 l).1 q with rfl|q
   ·exact absurd rfl g2
   ·cases q
 obtain ⟨L4,S4,l4,e4,T6,f6,m4,n4⟩:=HK N (by omega) T5 (i:=1) (x:=x5 0 v0) (c:=cA) ⟨rfl,by decide,rfl⟩ (fun k hk=>by rw [c3 k hk]; exact fun q=>rAB q.symm) (by simp only; omega) 9;have T6':TV ⟨[x3 2 (vN 1),x5 1 (vN 9)],L4,S4⟩:=T6;have hA5:(⟨rA,5,[]⟩:ai)∈L4:=(m4 _).2 (.inl rfl);have hB3:(⟨rB,3,[]⟩:ai)∈L4:=(m4 _).2 (.inr ((m3 _).2 ⟨(m2 _).2 (.inl rfl),fun q=>rAB q.symm⟩));have c4:∀ l∈L4,l=⟨rA,5,[]⟩∨l=⟨rB,3,[]⟩:=fun l hl=>((m4 l).1 hl).imp id (c3 l);have hids:ids ⟨[x3 2 (vN 1),x5 1 (vN 9)],L4,S4⟩=[3,5]:=rfl;obtain ⟨u5,hu5,ha5,y5,hy5,hn5,hp5⟩:=(T6'.lp _ hA5).dn (x5 1 (vN 9)) (by simp) rfl rfl;simp only at ha5;obtain ⟨u3,hu3,ha3,y3,hy3,hn3⟩:=T6'.pr (x3 2 (vN 1)) (by simp) cA (by show cA∈[cA,cB].take 2; simp);obtain ⟨iu,hiu⟩:=cC hu5;have hu:u3=u5:=CL T6'.ss hiu hu3 (ha3.trans ha5.symm);subst hu;obtain ⟨i3,hi3⟩:=cC hy3;obtain ⟨i5,hi5⟩:=cC hy5;have hlast:=((T6'.st u3 hu3).up i5 y5 hi5 hp5).1;have hi35:i3 < i5:=by
  have:=(cd.1 hi3).1;rcases nP i3 i5 with q|q
  ·exact q
  ·have:i3=i5:=by omega
   subst this;rw [hi3] at hi5;simp only [cb] at hi5;rw [hi5,hn5] at hn3;exact absurd hn3 (by decide)
 have hlay:ta N ⟨[x3 2 (vN 1),x5 1 (vN 9)],L4,S4⟩ rA=some u3.Layers:=by
  obtain ⟨j,hj1,hj2⟩:=GV N T6'.ss hu3;rw [ha5] at hj1;rw [ta,hj1,cc,if_pos (by omega),aN hj2,E5 (T6'.bdL hu3)];rfl
 have hlen:u3.Layers.length=2:=by
  obtain ⟨r,hr⟩:=T6'.ac;have hnd:(u3.Layers.map al.Txn_).Nodup:=by
   unfold List.Nodup;rw [nZ];exact (hr u3 hu3).imp fun q e=>by rw [e] at q; omega
  have g1:=m7 (l:=[3,5]) hnd fun n hn=>by
   obtain ⟨y,hy,rfl⟩:=cE.1 hn;exact (T6'.st u3 hu3).id y hy
  simp only [cy,cG,cY] at g1;omega
 obtain ⟨D,a1,_,dD,cD,_⟩:=KR N (by omega) T6' (id:=3) (by simp [hids]);have hD:D.length=2:=by
  have h5:(5:Int)∈D:=by
   have:=cD u3 hu3 i3 i5 y3 y5 hi35 hi3 hi5 (by rw [hn3]; exact dD.me)
   rwa [hn5] at this
  have g1:=m7 (l:=[3,5]) dD.nd dD.sub;have g2:=m7 (l:=D) (k:=[3,5]) (by decide) fun n hn=>by
   simp only [cF,nM,or_false] at hn;rcases hn with rfl|rfl
   ·exact dD.me
   ·exact h5
  simp only [cG,cY] at g1 g2;omega
 obtain ⟨L5,S5,p5,T7,m5,n5',k5⟩:=QM N (by omega) T6' (x:=x3 2 (vN 1)) (by simp) rfl (c:=cB) (by simp [x3]) hB3;have hA5':(⟨rA,5,[]⟩:ai)∈L5:=(m5 _).2 ⟨hA5,rAB⟩;have c5:∀ l∈L5,l=⟨rA,5,[]⟩:=fun l hl=>by
  obtain ⟨g1,g2⟩:=(m5 l).1 hl;rcases c4 l g1 with q|q
  ·exact q
  ·rw [q] at g2; exact absurd rfl g2
 have f7:CH S5 rA 5 [vN 9]:=k5 rA 5 _ rAB f6;have hpr3:∀ c∈(x3 2 (vN 1)).Calls,dF ⟨[x3 2 (vN 1),x5 1 (vN 9)],L5,S5⟩ c.Target 3:=fun c hc=>
  Yv T7 (x:=x3 2 (vN 1)) (by simp) rfl hc fun l hl _=>by rw [c5 l hl]; decide
 have hnr5:¬ zz ⟨[x3 2 (vN 1),x5 1 (vN 9)],L5,S5⟩ (x5 1 (vN 9)):=fun q=>
  zI T7 hA5' (x:=x5 1 (vN 9)) (by simp) rfl rfl (q.pr cA (by simp [x5]))
 have hr3:zz ⟨[x3 2 (vN 1),x5 1 (vN 9)],L5,S5⟩ (x3 2 (vN 1)):=by
  refine ⟨rfl,hpr3,cn.2 fun s hs=>Ew (by simp) fun i y hi hyn z hz=>?_⟩;exfalso;obtain ⟨j,hj⟩:=cC hz;rw [cW] at hj;split at hj
  case isFalse=>cases hj
  rename_i hji;have hzm:=cg hj;have hz5:z.Txn_=5:=by
   have:z.Txn_∈[3,5]:=(T7.st s hs).id z hzm;simp only [cF,nM,or_false] at this;rcases this with q|q
   ·obtain ⟨r,hr⟩:=T7.ac;have:=I7 (hr s hs) hj hi (q.trans hyn.symm);omega
   ·exact q
  obtain ⟨⟨c,hc,hca⟩,_⟩:=(T7.st s hs).ex z hzm (x5 1 (vN 9)) (by simp) hz5.symm;have hca':s.Actor=rA:=by
   have:=nB hc;simp only [x5,cO] at this;rw [<-hca,this]; rfl
  have hzp:z.Prepared=false:=by
   cases hp:z.Prepared with
   | false=>rfl
   | true=>exact absurd ⟨s,hs,hca',z,hzm,hz5,hp⟩ (zI T7 hA5' (x:=x5 1 (vN 9)) (by simp) rfl rfl)
  have:=((T7.st s hs).up j z hj hzp).1;have:=(cd.1 hi).1;omega
 obtain ⟨t',cs,r1,T8,hres⟩:=Gm N hN T7;have hcs:(∃ ws,cs=[⟨3,⟨#[99]⟩,1,vN 1,ws⟩]/\ws.length=2)/\t'=yP ⟨[x3 2 (vN 1),x5 1 (vN 9)],L5,S5⟩ [3]:=by
  cases hres with
  | nil hno=>exact absurd hr3 (hno _ (by simp))
  | @cons _ _ cs x ps ws hx hr hp hw hT rest=>
   have hx3:x=x3 2 (vN 1):=by
    simp only [cF,nM,or_false] at hx;rcases hx with rfl|rfl
    ·rfl
    ·exact absurd hr hnr5
   subst hx3;have hrem:(yP ⟨[x3 2 (vN 1),x5 1 (vN 9)],L5,S5⟩ [(x3 2 (vN 1)).ID]).Txns=[x5 1 (vN 9)]:=rfl;have hdone:∀ {u u':ae} {cs:List aD},Res N u u' cs->u.Txns=[x5 1 (vN 9)]->(⟨rA,5,[]⟩:ai)∈u.Locks->TV u->cs=[]/\u'=u:=fun h1 h2 h3 h4=>by
    cases h1 with
    | nil=>exact ⟨rfl,rfl⟩
    | @cons _ _ _ y _ _ hy hry=>
     exfalso;rw [h2] at hy;simp only [cO] at hy;subst hy;exact zI h4 h3 (x:=x5 1 (vN 9)) (by rw [h2]; simp) rfl rfl (hry.pr cA (by simp [x5]))
   obtain ⟨q1,q2⟩:=hdone rest hrem hA5' hT;subst q1;have hps:ps.length=2:=by
    obtain ⟨r,g1,g2,g3⟩:=uT N hN (x:=x3 2 (vN 1)) (by decide) (by decide);rw [g1] at hp;simp only [cb] at hp;subst hp;have hnd:r.Nodup:=g2.imp fun {a b} g e=>by rw [e,lpR,iC] at g; cases g
    have u1:=wm (l:=[rA,rB]) hnd fun a hm=>by
     obtain ⟨c,hc,q⟩:=(g3 a).1 hm;simp only [x3,cF,nM,or_false] at hc;rcases hc with rfl|rfl<;>rw [<-q]<;>simp [cA,cB]
    have u2:=wm (l:=r) (k:=[rA,rB]) (by simp [rAB]) fun a hm=>by
     simp only [cF,nM,or_false] at hm;rcases hm with rfl|rfl
     ·exact (g3 _).2 ⟨cA,by simp [x3],rfl⟩
     ·exact (g3 _).2 ⟨cB,by simp [x3],rfl⟩
    simp only [cG,cY] at u1 u2;omega
   have hwl:∀ {ps:List Ref} {ws:List aR},Wr ⟨[x3 2 (vN 1),x5 1 (vN 9)],L5,S5⟩ 3 ps ws->ws.length=ps.length:=by
    intro ps
    induction ps with
    | nil=>intro ws h; cases ws with
     | nil=>rfl
     | cons=>exact h.elim
    | cons a ps ih=>intro ws h; cases ws with
     | nil=>exact h.elim
     | cons w ws=>simp [ih h.2.2]
   exact ⟨⟨ws,rfl,(hwl hw).trans hps⟩,q2⟩
 obtain ⟨⟨ws,rfl,hws⟩,rfl⟩:=hcs;have hT8:(yP ⟨[x3 2 (vN 1),x5 1 (vN 9)],L5,S5⟩ [3]).Txns=[x5 1 (vN 9)]:=rfl;have hfind:tG N (yP ⟨[x3 2 (vN 1),x5 1 (vN 9)],L5,S5⟩ [3]) 5=some (x5 1 (vN 9),true):=by
  obtain ⟨i,x,g1,g2,g3⟩:=qT (N:=N) (t:=yP ⟨[x3 2 (vN 1),x5 1 (vN 9)],L5,S5⟩ [3]) (n:=5) (by unfold ids; rw [hT8]; simp [x5]);have hxm:=cg g2;rw [hT8] at hxm;simp only [cO] at hxm;subst hxm;rw [tG,g1,cc,if_pos (by omega),aN g2,AX (T8.tx.x _ (cg g2)).1.bd];rfl
 obtain ⟨r,g1,g2,g3⟩:=uT N hN (x:=x5 1 (vN 9)) (by decide) (by decide);have hrl:r.length=1:=by
  have hnd:r.Nodup:=g2.imp fun {a b} g e=>by rw [e,lpR,iC] at g; cases g
  have u1:=wm (l:=[rA]) hnd fun a hm=>by
   obtain ⟨c,hc,q⟩:=(g3 a).1 hm;simp only [x5,cF,nM,or_false] at hc;rw [<-q,hc]; simp [cA]
  have u2:0 < r.length:=aeo ((g3 rA).2 ⟨cA,by simp [x5],rfl⟩);simp only [cG,cY] at u1;omega
 have hfields:∃ l,tz N (yP ⟨[x3 2 (vN 1),x5 1 (vN 9)],L5,S5⟩ [3]) rA []=some l/\l.length=1:=by
  obtain ⟨s,hs,ha,y,hy,hyn,hyf⟩:=W4 (D:=[3]) f7 (by decide);obtain ⟨j,hj1,hj2⟩:=GV N T8.ss hs;rw [ha] at hj1;have hyl:=(cd.1 hy).1;have hbd:=T8.bdL hs;refine ⟨[vN 9],?_,rfl⟩;rw [tz,hj1,cc];simp only [yr,yw];rw [if_pos (by omega),aN hj2,if_pos (by simp; omega),aN hj2,w64 (by have:=hbd.1; omega) (by have:=hbd.1; omega),show ((s.Layers.length:Int) - 1)=((s.Layers.length - 1:Nat):Int) by omega,aN hy,se (hbd.2 y (cg hy)),hyf];rfl
 obtain ⟨fl,hf1,hf2⟩:=hfields;have loop:∀ fuel:Nat,3<=fuel->fL N (qL N) fuel ([x3 0 v0,x5 0 v0],[],[],0)=qL N [x3 2 (vN 1),x5 0 v0] L2 S2:=by
  intro fuel hf;obtain ⟨m,rfl⟩:∃ m,fuel=m+1+1+1:=⟨fuel - 3,by omega⟩;rw [fL,if_pos (by decide)];show (gN N ⟨[x3 0 v0,x5 0 v0],[],[]⟩ (x3 0 v0).ID).bind _=_;rw [l1,cc,if_pos rfl,sv,if_neg (by simp),sH];simp only [lj,cc];show (jm N ⟨[x3 0 v0,x5 0 v0],L1,[]⟩ (x3 0 v0).ID [vN 0] (vN 0)).bind _=_;rw [e1,cc,if_pos rfl,show IntKind.i64.wrap (0+1)=1 from rfl];show fL N _ (m+1+1) ([x3 1 (vN 0),x5 0 v0],L1,S1,1)=_;rw [fL,if_pos (by decide)];show (gN N ⟨[x3 1 (vN 0),x5 0 v0],L1,S1⟩ (x3 1 (vN 0)).ID).bind _=_;rw [l2,cc,if_pos rfl,sv,if_neg (by simp),sH];simp only [lj,cc];show (jm N ⟨[x3 1 (vN 0),x5 0 v0],L2,S1⟩ (x3 1 (vN 0)).ID [vN 1] (vN 1)).bind _=_;rw [e2,cc,if_pos rfl,show IntKind.i64.wrap (1+1)=2 from rfl];show fL N _ (m+1) ([x3 2 (vN 1),x5 0 v0],L2,S2,2)=_;rw [fL,if_neg (by decide)]
 unfold uD;show (jI N ⟨[],[],[]⟩ 3 0 ⟨#[99]⟩ 1 [cA,cB]).bind _=_;rw [b1,cc,if_pos rfl];show (jI N ⟨[x3 0 v0],[],[]⟩ 5 0 ⟨#[99]⟩ 2 [cA]).bind _=_;rw [b2,cc,if_pos rfl];refine (loop N (by omega)).trans ?_;rw [qL];show (fu N ⟨[x3 2 (vN 1),x5 0 v0],L2,S2⟩ (x3 2 (vN 1)).ID cA.Target).bind _=_;rw [p3,cc,if_pos rfl];show (gN N ⟨[x3 2 (vN 1),x5 0 v0],L3,S3⟩ (x5 0 v0).ID).bind _=_;rw [l4,cc,if_pos rfl,we,if_neg (by simp),uR];simp only [lj,cc];show (jm N ⟨[x3 2 (vN 1),x5 0 v0],L4,S3⟩ (x5 0 v0).ID [vN 9] (vN 9)).bind _=_;rw [e4,cc,if_pos rfl];show (ta N ⟨[x3 2 (vN 1),x5 1 (vN 9)],L4,S4⟩ rA).bind _=_;rw [hlay,cc,if_pos (by rw [hlen]; rfl)];show (jL N ⟨[x3 2 (vN 1),x5 1 (vN 9)],L4,S4⟩).bind _=_;rw [qY N (by omega) T6',cc,rV,if_neg (by simp),rR];show (ky N ⟨[x3 2 (vN 1),x5 1 (vN 9)],L4,S4⟩ 3).bind _=_;rw [a1,cc,if_pos rfl,vQ,if_neg (by simp [hD]),vY];show (fu N ⟨[x3 2 (vN 1),x5 1 (vN 9)],L4,S4⟩ (x3 2 (vN 1)).ID cB.Target).bind _=_;rw [p5,cc,if_pos rfl];show (lq N ⟨[x3 2 (vN 1),x5 1 (vN 9)],L5,S5⟩).bind _=_;rw [r1,cc,if_pos (by rfl)];refine (aN (i:=0) rfl).trans ?_;rw [if_pos (by rfl),sJ,if_neg (by simp [hws]),rS];dsimp only;rw [hfind,cc,if_pos rfl];dsimp only;rw [g1,cc,if_pos (by rw [hrl]; rfl)];show (tz N (yP ⟨[x3 2 (vN 1),x5 1 (vN 9)],L5,S5⟩ [3]) rA []).bind _=_;rw [hf1,cc];simp [hf2]
end Go.Proofs.YtmacaidmhchpgaaGreat
namespace Go.Proofs.YtmacaidmhchpgaaGreat
open Go Go.Proofs Go.Abs
def P0 (N:Nat) (hN:100002<=N):∀ (xs:List Gt) (v:Nat) {t:ae} (acc:List aD),v+xs.length<=60->acc.length<=v * 32->(∀ x∈xs,U8C x)->TV t->∃ t' c,k9 N xs v (t.Txns,t.Locks,t.Stacks,acc)=some (t',c)/\TV t'
 | [],v,t,acc,_,_,_,h=>⟨t,acc,by rw [k9],h⟩
 | x::xs,v,t,acc,hl,ha,hx,h=>by
  simp only [cG] at hl;obtain ⟨t',cs,e,h1,h2⟩:=Ym N hN h (v:=v) (by omega) (hx x (by simp));have hc:cs.length<=32:=by
   rcases h2 with rfl|h2
   ·simp
   ·have:=XJ h2; have:=h.tx.len; omega
  rw [k9,show (⟨t.Txns,t.Locks,t.Stacks⟩:ae)=t from rfl,e,cc];dsimp only;rw [qK (by omega)];exact P0 N hN xs (v+1) (t:=t') (acc++cs) (by omega) (by simp; omega) (fun y hy=>hx y (by simp [hy])) h1
def W3 (N:Nat) (hN:100002<=N) {l:List Gt} (hl:l.length<=60) (hw:∀ x∈l,U8C x):∃ t c,uB N l=some (t,c)/\TV t:=by
 rw [uB];exact P0 N hN l 0 (t:=⟨[],[],[]⟩) [] (by omega) (by simp) hw TV.nil
end Go.Proofs.YtmacaidmhchpgaaGreat
namespace Go.Proofs.YtmacaidmhchpgaaGreat
open Go Go.Proofs Go.Abs
theorem YC (N:Nat) {t:ae} (h:TV t) {x:Txn} (hx:x∈t.Txns):tG N t x.ID=some (x,true):=by
 obtain ⟨i,y,g1,g2,g3⟩:=qT (N:=N) (t:=t) (n:=x.ID) (cE.2 ⟨x,hx,rfl⟩);have:y=x:=h.tx.uniq (cg g2) hx g3;subst this;rw [tG,g1,cc,if_pos (by omega),aN g2,AX (h.tx.x y hx).1.bd];rfl
end Go.Proofs.YtmacaidmhchpgaaGreat
namespace Go.Proofs.YtmacaidmhchpgaaGreat
open Go Go.Proofs Go.Abs
end Go.Proofs.YtmacaidmhchpgaaGreat
namespace Go.Proofs.YtmacaidmhchpgaaGreat
open Go Go.Proofs Go.Abs
def Nt (t:ae):List Ref:=t.Txns.flatMap fun x=>x.Calls.map ah.Target
def V0 {t:ae} (h:TV t):(Nt t).length<=128:=by
 have:∀ l:List Txn,(∀ x∈l,x.Calls.length<=4)->(l.flatMap fun x=>x.Calls.map ah.Target).length<=l.length * 4:=by
  intro l
  induction l with
  | nil=>intro _; simp
  | cons x l ih=>
   intro hx;have h1:=ih fun y hy=>hx y (by simp [hy]);have h2:=hx x (by simp);simp only [ac0,ni,cy,cG];omega
 have:=this t.Txns fun x hx=>(h.tx.x x hx).1.c2;have:=h.tx.len;unfold Nt; omega
def KG {t:ae} {x:Txn} {c:ah} (hx:x∈t.Txns) (hc:c∈x.Calls):c.Target∈Nt t:=List.mem_flatMap.2 ⟨x,hx,cE.2 ⟨c,hc,rfl⟩⟩
def W8 {t:ae} (h:TV t) {k:ai} (hk:k∈t.Locks):k.Actor∈Nt t:=by
 have hp:=h.lp k hk;obtain ⟨x,hx,e⟩:=cE.1 hp.ow;have hl:BU t k.Actor x.ID->k.Actor∈Nt t:=by
  rintro ⟨s,hs,ha,y,hy,hn⟩;obtain ⟨c,hc,q⟩:=((h.st s hs).ex y hy x hx hn.symm).1;rw [<-ha,<-q];exact KG hx (nB hc)
 have hd:=(h.tx.x x hx).1.d2;by_cases q:x.Done=x.Calls.length
 ·obtain ⟨s,hs,ha,y,hy,hn,_⟩:=hp.dn x hx e q;exact hl ⟨s,hs,ha,y,hy,hn⟩
 ·rcases hp.op x hx e (by omega) with g|⟨c,hc,g⟩
  ·exact hl g
  ·rw [<-g]; exact KG hx (cg hc)
def Tx {t:ae} (h:TV t) {i:Nat} {x:Txn} {c:ah} (hx:Nx t i x c) (hn:∀ k∈t.Locks,k.Actor≠c.Target):t.Locks.length≠128:=by
 have hnd:(t.Locks.map ai.Actor).Nodup:=by
  refine (nZ.2 ?_:(t.Locks.map ai.Actor).Pairwise (·≠·));exact h.lk.so.imp fun q e=>by rw [e,iC] at q; cases q
 have:=wm (l:=Nt t) (k:=c.Target::t.Locks.map ai.Actor) (xZ.2 ⟨fun hm=>by
  obtain ⟨k,hk,e⟩:=cE.1 hm;exact hn k hk e,hnd⟩) fun a ha=>by
   rcases cF.1 ha with rfl|ha
   ·exact KG (cg hx.hi) (cg hx.hc)
   ·obtain ⟨k,hk,rfl⟩:=cE.1 ha;exact W8 h hk
 have:=V0 h;simp at *; omega
def VD {t:ae} (h:TV t) {n:Int} (hn:n∈ids t) {k:ai} (hk:k∈t.Locks) (hw:n∉k.Waiters):k.Waiters.length≠32:=by
 have hp:=h.lp k hk;have hnd:k.Waiters.Nodup:=(h.lk.l k hk).so.imp fun q=>by omega
 have:=m7 (l:=ids t) (k:=n::k.Waiters) (xZ.2 ⟨hw,hnd⟩) fun m hm=>by
  rcases cF.1 hm with rfl|hm
  ·exact hn
  ·exact hp.wa m hm
 have:=h.tx.len;simp [ids] at *; omega
end Go.Proofs.YtmacaidmhchpgaaGreat
namespace Go.Proofs.YtmacaidmhchpgaaGreat
open Go Go.Proofs Go.Abs
section
variable {α:Type} {f g:α->Nat}
def Nd:∀ {l:List α},(∀ x∈l,f x<=g x)->(l.map f).sum<=(l.map g).sum
 | [],_=>by simp
 | y::l,h=>by
  have:=h y (by simp);have:=Nd (l:=l) fun x hx=>h x (by simp [hx]);simp; omega
def Sp {x:α}:∀ {l:List α},(∀ y∈l,f y<=g y)->x∈l->f x < g x->(l.map f).sum < (l.map g).sum
 | [],_,hx,_=>by cases hx
 | y::l,h,hx,hlt=>by
  have h1:=h y (by simp);have h2:=Nd (l:=l) fun z hz=>h z (by simp [hz]);rcases cF.1 hx with rfl|hx
  ·simp; omega
  ·have:=Sp (l:=l) (fun z hz=>h z (by simp [hz])) hx hlt;simp; omega
def Pc {x x':α}:∀ {l:List α} {i:Nat},(∀ y∈l,f y<=g y)->l[i]?=some x->f x' < g x->((l.set i x').map f).sum < (l.map g).sum
 | [],i,_,hx,_=>by simp at hx
 | y::l,0,h,hx,hlt=>by
  simp only [cu,cb] at hx;subst hx;have h2:=Nd (l:=l) fun z hz=>h z (by simp [hz]);simp; omega
 | y::l,i+1,h,hx,hlt=>by
  have h1:=h y (by simp);have:=Pc (l:=l) (i:=i) (fun z hz=>h z (by simp [hz])) (by simpa using hx) hlt;simp only [List.set_cons_succ,nq,List.sum_cons]; omega
def EH {p:α->Bool}:∀ {l:List α},(∀ y∈l,p y=true->f y<=g y)->((l.filter p).map f).sum<=(l.map g).sum
 | [],_=>by simp
 | y::l,h=>by
  have h1:=h y (by simp);have h2:=EH (p:=p) (l:=l) fun z hz=>h z (by simp [hz]);rw [ac6];split
  ·rename_i q; have:=h1 q; simp; omega
  ·simp; omega
def FO {p:α->Bool} {x:α}:∀ {l:List α},(∀ y∈l,p y=true->f y<=g y)->x∈l->p x=false->0 < g x->((l.filter p).map f).sum < (l.map g).sum
 | [],_,hx,_,_=>by cases hx
 | y::l,h,hx,hp,hg=>by
  have h1:=h y (by simp);have h2:=EH (p:=p) (l:=l) fun z hz=>h z (by simp [hz]);rcases cF.1 hx with rfl|hx
  ·rw [ac6,if_neg (by simp [hp])]; simp; omega
  ·have:=FO (p:=p) (l:=l) (fun z hz=>h z (by simp [hz])) hx hp hg;rw [ac6];split
   ·rename_i q; have:=h1 q; simp; omega
   ·simp; omega
def JZ {p q:α->Bool} {x:α}:∀ {l:List α},(∀ y∈l,p y=true->q y=true)->x∈l->p x=false->q x=true->l.countP p < l.countP q
 | [],_,hx,_,_=>by cases hx
 | y::l,h,hx,h1,h2=>by
  have h3:=aet (l:=l) fun z hz=>h z (by simp [hz]);rcases cF.1 hx with rfl|hx
  ·simp [h1,h2]; omega
  ·have h4:=JZ (l:=l) (fun z hz=>h z (by simp [hz])) hx h1 h2;have h5:=h y (by simp);rw [List.countP_cons,List.countP_cons];cases hp:p y with
   | true=>simp [h5 hp]; omega
   | false=>cases q y<;>simp<;>omega
end
open Classical in
noncomputable def ED (t:ae) (x:Txn):Nat:=x.Calls.countP fun c=>decide (¬ dF t c.Target x.ID)
noncomputable def muX (t:ae) (x:Txn):Nat:=(x.Calls.length - x.Done.toNat)+ED t x
noncomputable def mu (t:ae):Nat:=(t.Txns.map (muX t)).sum
def Eb {t t':ae} {x x':Txn} (hc:x'.Calls=x.Calls) (hid:x'.ID=x.ID) (h:∀ a,dF t a x.ID->dF t' a x.ID):ED t' x'<=ED t x:=by
 unfold ED;rw [hc,hid];refine aet fun c _ q=>?_;simp only [decide_eq_true_eq] at q ⊢;exact fun g=>q (h _ g)
def UB {t t':ae} {x:Txn} (h:∀ a,dF t a x.ID->dF t' a x.ID) {c:ah} (hc:c∈x.Calls) (h1:¬ dF t c.Target x.ID) (h2:dF t' c.Target x.ID):ED t' x < ED t x:=by
 unfold ED;refine JZ (x:=c) (fun c _ q=>?_) hc (by simp [h2]) (by simp [h1]);simp only [decide_eq_true_eq] at q ⊢;exact fun g=>q (h _ g)
def ZV {t:ae} (h:TV t):mu t<=256:=by
 have:∀ l:List Txn,(∀ x∈l,x∈t.Txns)->(l.map (muX t)).sum<=l.length * 8:=by
  intro l
  induction l with
  | nil=>intro _; simp
  | cons x l ih=>
   intro hx;have h1:=ih fun y hy=>hx y (by simp [hy]);have h2:=(h.tx.x x (hx x (by simp))).1.c2;have h3:ED t x<=x.Calls.length:=List.countP_le_length;simp only [nq,List.sum_cons,cG,muX];omega
 have:=this t.Txns fun x hx=>hx;have:=h.tx.len;unfold mu; omega
def I2 (t t':ae):Prop:=∀ x∈t.Txns,∀ a,dF t a x.ID->dF t' a x.ID
def VH {t t':ae} {D:List Int} (ht:t'.Txns=t.Txns.filter fun x=>mB D x.ID) (hs:t'.Stacks=C9 D t.Stacks):mu t'<=mu t/\∀ x∈t.Txns,x.ID∈D->x.Done < x.Calls.length->0<=x.Done->mu t' < mu t:=by
 have hk:∀ y∈t.Txns,mB D y.ID=true->muX t' y<=muX t y:=by
  intro y hy q;have:ED t' y<=ED t y:=Eb rfl rfl fun a hp=>by
   obtain ⟨s,hs',ha,z,hz,hn,hzp⟩:=hp;have hm:z∈(zP D s).Layers:=nI.2 ⟨hz,by rw [hn]; exact q⟩;exact ⟨zP D s,by rw [hs]; exact AP.2 ⟨s,hs',rfl,adh hm⟩,ha,z,hm,hn,hzp⟩
  unfold muX; omega
 unfold mu;rw [ht];refine ⟨EH hk,fun x hx hD hd h0=>FO hk hx (by simp [mB,hD]) ?_⟩;unfold muX;omega
end Go.Proofs.YtmacaidmhchpgaaGreat
namespace Go.Proofs.YtmacaidmhchpgaaGreat
open Go Go.Proofs Go.Abs
theorem Tb (n:Int) (f:List Value) {l:List al} {y:al} (hy:y∈l):∃ y'∈gy n f l,y'.Txn_=y.Txn_/\y'.Prepared=y.Prepared:=by
 unfold gy;cases hz:l[l.length - 1]? with
 | none=>rw [xT] at hz; cases l with
  | nil=>cases hy
  | cons a l=>simp at hz; omega
 | some z=>
  dsimp only;split
  ·obtain ⟨j,hj⟩:=cC hy;by_cases q:j=l.length - 1
   ·subst q;rw [hz] at hj;cases hj;exact ⟨⟨y.Txn_,f,y.Prepared⟩,cg (xo (cd.1 hz).1),rfl,rfl⟩
   ·exact ⟨y,cg (i:=j) (by rw [nW (fun e=>q e.symm)]; exact hj),rfl,rfl⟩
  ·exact ⟨y,by simp [hy],rfl,rfl⟩
theorem VJ {S A B:List aa} {a:Ref} {lay:List al} {n:Int} {f:List Value} (hS:S=A++⟨a,lay⟩::B∨(S=A++B/\lay=[])) {s:aa} (hs:s∈S) {y:al} (hy:y∈s.Layers) :
  ∃ s'∈A++⟨a,gy n f lay⟩::B,s'.Actor=s.Actor/\∃ y'∈s'.Layers,y'.Txn_=y.Txn_/\y'.Prepared=y.Prepared:=by
 rcases hS with rfl|⟨rfl,rfl⟩
 ·rcases cH.1 hs with hs|hs
  ·exact ⟨s,by simp [hs],rfl,y,hy,rfl,rfl⟩
  ·rcases cF.1 hs with rfl|hs
   ·exact ⟨⟨a,gy n f lay⟩,by simp,rfl,Tb n f hy⟩
   ·exact ⟨s,by simp [hs],rfl,y,hy,rfl,rfl⟩
 ·rcases cH.1 hs with hs|hs<;>exact ⟨s,by simp [hs],rfl,y,hy,rfl,rfl⟩
def SY {S:List aa} {j:Nat} {s:aa} {y:al} (hj:S[j]?=some s) (hy:s.Layers[s.Layers.length - 1]?=some y) {a:Ref} {n:Int} (h:∃ s∈S,s.Actor=a/\∃ y∈s.Layers,y.Txn_=n/\y.Prepared=true) :
  ∃ s'∈zk S j s y,s'.Actor=a/\∃ y∈s'.Layers,y.Txn_=n/\y.Prepared=true:=by
 obtain ⟨s0,hs,ha,z,hz,hn,hp⟩:=h;obtain ⟨i,hi⟩:=cC hs;unfold zk;by_cases q:i=j
 ·subst q;rw [hj] at hi;cases hi;refine ⟨_,cg (xo (cd.1 hj).1),ha,?_⟩;obtain ⟨m,hm⟩:=cC hz;by_cases q2:m=s.Layers.length - 1
  ·subst q2;rw [hy] at hm;cases hm;exact ⟨⟨y.Txn_,y.Fields,true⟩,cg (xo (cd.1 hy).1),hn,rfl⟩
  ·exact ⟨z,cg (i:=m) (by rw [nW (fun e=>q2 e.symm)]; exact hm),hn,hp⟩
 ·exact ⟨s0,cg (i:=i) (by rw [nW (fun e=>q e.symm)]; exact hi),ha,z,hz,hn,hp⟩
def X6 {t:ae} (h:TV t) {i:Nat} {x:Txn} {c:ah} {k:ai} (e:Exe t i x c k) {A B:List aa} {lay:List al} {f:List Value} {r:Value} (hS:t.Stacks=A++⟨c.Target,lay⟩::B∨(t.Stacks=A++B/\lay=[])) :
  mu (tn t i x r (A++⟨c.Target,gy x.ID f lay⟩::B)) < mu t:=by
 have hk:∀ (n:Int) (a:Ref),dF t a n->dF (tn t i x r (A++⟨c.Target,gy x.ID f lay⟩::B)) a n:=by
  rintro n a ⟨s,hs,ha,y,hy,hn,hp⟩;obtain ⟨s',h1,h2,y',h3,h4,h5⟩:=VJ (n:=x.ID) (f:=f) hS hs hy;exact ⟨s',h1,h2.trans ha,y',h3,h4.trans hn,h5.trans hp⟩
 have hX:=(h.tx.x x (cg e.hi)).1;have hd:=e.dn; have hd1:=hX.d1;refine Pc (f:=muX (tn t i x r (A++⟨c.Target,gy x.ID f lay⟩::B))) (g:=muX t) (fun y hy=>?_) e.hi ?_
 ·have:=Eb (x:=y) (x':=y) rfl rfl fun a=>hk y.ID a;unfold muX; omega
 ·have:=Eb (t:=t) (t':=tn t i x r (A++⟨c.Target,gy x.ID f lay⟩::B)) (x:=x) (x':=⟨x.ID,x.Born,x.Client,x.Seq,x.Calls,x.Done+1,r⟩) rfl rfl fun a=>hk x.ID a;unfold muX;dsimp only;omega
def X2 {t:ae} {L:List ai} {x:Txn} {a:Ref} {j:Nat} {s:aa} {y:al} (hx:x∈t.Txns) (ha:∃ c∈x.Calls,c.Target=a) (hno:¬ dF t a x.ID) (hj:t.Stacks[j]?=some s) (hsa:s.Actor=a) (hy:s.Layers[s.Layers.length - 1]?=some y) (hyn:y.Txn_=x.ID) :
  mu ⟨t.Txns,L,zk t.Stacks j s y⟩ < mu t/\dF ⟨t.Txns,L,zk t.Stacks j s y⟩ a x.ID:=by
 have hk:∀ (n:Int) (b:Ref),dF t b n->dF ⟨t.Txns,L,zk t.Stacks j s y⟩ b n:=fun n b g=>SY hj hy g;have hnew:dF ⟨t.Txns,L,zk t.Stacks j s y⟩ a x.ID:=
  ⟨_,cg (xo (cd.1 hj).1),hsa,⟨y.Txn_,y.Fields,true⟩,cg (xo (cd.1 hy).1),hyn,rfl⟩
 refine ⟨Sp (x:=x) (fun z hz=>?_) hx ?_,hnew⟩
 ·have:=Eb (x:=z) (x':=z) rfl rfl fun b=>hk z.ID b;unfold muX; omega
 ·obtain ⟨c,hc,rfl⟩:=ha;have:=UB (x:=x) (fun b=>hk x.ID b) hc hno hnew;unfold muX; omega
def TU {t:ae} (h:TV t) {s:aa} (hs:s∈t.Stacks) {y z:al} (hy:y∈s.Layers) (hz:z∈s.Layers) (e:y.Txn_=z.Txn_):y=z:=by
 obtain ⟨r,hr⟩:=h.ac;have hp:=na.1 (hr s hs);obtain ⟨i,hi,rfl⟩:=acN hy;obtain ⟨j,hj,rfl⟩:=acN hz;rcases xi i j with q|q|q
 ·have:=hp i j hi hj q; rw [e] at this; omega
 ·subst q; rfl
 ·have:=hp j i hj hi q; rw [e] at this; omega
def Pk {t:ae} (h:TV t) {s:aa} (hs:s∈t.Stacks) {y:al} (hy:y∈s.Layers) (hp:y.Prepared=false):¬ dF t s.Actor y.Txn_:=by
 rintro ⟨s',hs',ha,z,hz,hn,hzp⟩;obtain ⟨j,hj⟩:=cC hs;have:=CL h.ss hj hs' ha;subst this;have:=TU h hs hy hz hn.symm;subst this;rw [hp] at hzp;cases hzp
end Go.Proofs.YtmacaidmhchpgaaGreat
