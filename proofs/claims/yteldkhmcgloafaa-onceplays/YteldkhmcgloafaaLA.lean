/- Plain facts on the models; no program in sight. -/
import Derived.Test.YteldkhmcgloafaaM
set_option linter.unusedSimpArgs false
set_option linter.unusedVariables false
namespace Go.Proofs.Yteldkhmcgloafaa
open Go Go.Proofs Go.Abs
theorem w64' {n:Int} (h1:-9223372036854775808<=n) (h2:n<=9223372036854775807):IntKind.i64.wrap n=n:=dY h1 h2
theorem BO {a b:ByteArray}:sEq a b=true↔a=b:=by
 unfold sEq;rw [beq_iff_eq,ByteArray.toList_eq,ByteArray.toList_eq];obtain ⟨⟨x⟩⟩:=a;obtain ⟨⟨y⟩⟩:=b;simp
theorem oO (a:ByteArray):sEq a a=true:=BO.2 rfl
theorem mO {c:Prop} [Decidable c] {a b:Bool}:(if c then some a else some b)=some (if c then a else b):=by split<;>rfl
theorem qi {c:Prop} [Decidable c] {a b:Bool}:((if c then a else b)=true)↔((c/\a=true)∨(¬ c/\b=true)):=by split<;>simp [*]
theorem oH {a b:Bool}:(some a=some b)↔(a=true↔b=true):=by cases a<;>cases b<;>simp
theorem Bw {a b:Bool}:(a=b)↔(a=true↔b=true):=by cases a<;>cases b<;>simp
theorem gx_of {α β:Type} {l:List α} {i:Nat} {x:α} {k:α->Option β} (h:l[i]?=some x):gx l (i:Int) k=k x:=gx_nat h
def findP {α:Type} (p:α->Bool):List α->Nat->Int
 | [],_=>-1
 | x::xs,v=>if p x=true then (v:Int) else findP p xs (v+1)
theorem vk {α:Type} (p:α->Bool):∀ (xs:List α) (v:Nat),decide (0<=findP p xs v)=xs.any p
 | [],v=>rfl
 | x::xs,v=>by
  simp only [findP,List.any_cons];by_cases h:p x=true
  ·have:(0:Int)<=(v:Int):=by omega
   simp [h,this]
  ·simpa [h] using vk p xs (v+1)
theorem w5 {α:Type} {l:List α} {i:Nat} {x:α} (h:l[i]?=some x):l.set i x=l:=by
 apply List.ext_getElem?;intro j;rw [List.getElem?_set];split
 ·rename_i e;subst e;have:=(List.getElem?_eq_some_iff.1 h).1;rw [if_pos this,h]
 ·rfl
theorem apn_of {α β:Type} {b:Nat} {l:List α} {k:Option β} (h:l.length * (b+1)<=140737488355328):apn b l k=k:=by simp only [apn]; rw [if_pos h]
end Go.Proofs.Yteldkhmcgloafaa

namespace Go.Proofs.Yteldkhmcgloafaa
open Go Go.Proofs Go.Abs
def strsB (l:List ByteArray):Bool:=l.all fun s=>decide (s.size<=64)
theorem tG:∀ (xs:List ByteArray) (v:Nat),fa xs v ()=some (strsB xs)
 | [],v=>rfl
 | x::xs,v=>by
  have ih:=tG xs (v+1);simp only [fa,ih,strsB,List.all_cons]
  grind
def valueB (v:Value):Bool:=
 decide (0<=v.Kind) && decide (v.Kind<=5) &&
 decide (v.N=0∨v.Kind=1∨(v.Kind=2/\v.N=1)) &&
 (sEq v.S ⟨#[]⟩ || decide (v.Kind=3)) && (decide (v.I.length=0) || decide (v.Kind=4)) && (decide (v.L.length=0) || decide (v.Kind=5)) &&
 decide (v.S.size<=64) && decide (v.I.length<=16) && decide (v.L.length<=16) && strsB v.L
theorem rK (N:Nat) (v:Value):gh N v=some (valueB v):=by
 simp only [gh,iE,iI,iD,iF,fh,fW,fY,fi,iV,tG,valueB];generalize strsB v.L=q;generalize sEq v.S ⟨#[]⟩=z;cases z<;>cases q<;>simp only [mO,oH,qi,if_true,if_false,Bool.false_eq_true,Bool.and_eq_true,Bool.or_eq_true,Bool.not_eq_true',decide_eq_true_eq,decide_eq_false_iff_not,Bool.and_false,Bool.and_true,Bool.or_true,Bool.or_false,Bool.true_or,Bool.false_or,Bool.not_true,Bool.not_false,and_false,false_and,or_false,false_or,Classical.not_not,true_and,and_true,iff_false,false_iff,not_false_eq_true,not_true_eq_false,true_or,or_true ]<;>omega
def nameB (s:ByteArray):Bool:=decide (1<=s.size) && decide (s.size<=32)
theorem kL (N:Nat) (s:ByteArray):gD N s=some (nameB s):=by
 simp only [gD,nameB,mO,oH,qi,if_true,if_false,Bool.false_eq_true,Bool.and_eq_true,Bool.or_eq_true,Bool.not_eq_true',decide_eq_true_eq,decide_eq_false_iff_not,Bool.and_false,Bool.and_true,Bool.or_true,Bool.or_false,Bool.true_or,Bool.false_or,Bool.not_true,Bool.not_false,and_false,false_and,or_false,false_or,Classical.not_not,true_and,and_true,iff_false,false_iff,not_false_eq_true,not_true_eq_false,true_or,or_true ]<;>omega
def numB (n:Int):Bool:=decide (1<=n) && decide (n<=1099511627776)
theorem lI (N:Nat) (n:Int):fX N n=some (numB n):=by
 simp only [fX,numB,mO,oH,qi,if_true,if_false,Bool.false_eq_true,Bool.and_eq_true,Bool.or_eq_true,Bool.not_eq_true',decide_eq_true_eq,decide_eq_false_iff_not,Bool.and_false,Bool.and_true,Bool.or_true,Bool.or_false,Bool.true_or,Bool.false_or,Bool.not_true,Bool.not_false,and_false,false_and,or_false,false_or,Classical.not_not,true_and,and_true,iff_false,false_iff,not_false_eq_true,not_true_eq_false,true_or,or_true ]<;>omega
def repB (r:Reply):Bool:=nameB r.Client_ && numB r.Seq && decide (r.Path.length=0) && decide (0<=r.Err) && decide (r.Err<=27) && valueB r.Value_ && (decide (r.Err=0) || decide (r.Value_.Kind=0))
theorem lX (N:Nat) (r:Reply):eW N r=some (repB r):=by
 simp only [eW,kL,lI,rK,Option.bind_some,repB];generalize nameB r.Client_=a;generalize numB r.Seq=b;generalize valueB r.Value_=c;cases a<;>cases b<;>cases c<;>simp only [mO,oH,qi,if_true,if_false,Bool.false_eq_true,Bool.and_eq_true,Bool.or_eq_true,Bool.not_eq_true',decide_eq_true_eq,decide_eq_false_iff_not,Bool.and_false,Bool.and_true,Bool.or_true,Bool.or_false,Bool.true_or,Bool.false_or,Bool.not_true,Bool.not_false,and_false,false_and,or_false,false_or,Classical.not_not,true_and,and_true,iff_false,false_iff,not_false_eq_true,not_true_eq_false,true_or,or_true ]<;>omega
def ascB:Int->List Int->Bool
 | _,[]=>true
 | last,x::xs=>decide (last < x) && (decide (x<=1099511627776) && ascB x xs)
def ansB (c:Client):Int->List Answer->Bool
 | _,[]=>true
 | last,a::as=>decide (last < a.Seq) && (!decide (a.Seq∈c.Open) && (repB a.Reply_ && (sEq a.Reply_.Client_ c.Name && (decide (a.Reply_.Seq=a.Seq) && ansB c a.Seq as))))
def cliB (c:Client):Bool:=nameB c.Name && (decide (0<=c.Low) && (decide (c.Low<=1099511627776) && (decide (c.Open.length+c.Done.length<=16) && (ascB c.Low c.Open && ansB c c.Low c.Done))))
theorem wu (n:Int):∀ (xs:List Int) (v:Nat),eL n xs v ()=some (findP (fun x=>decide (n=x)) xs v)
 | [],v=>rfl
 | x::xs,v=>by
  simp only [eL,findP,wu n xs (v+1),decide_eq_true_eq];split<;>rfl
theorem Cq (n:Int) (l:List Int):l.any (fun x=>decide (n=x))=decide (n∈l):=by
 rw [Bw]; simp
theorem yg (N:Nat) (l:List Int) (n:Int):eM N l n=some (decide (n∈l)):=by
 simp only [eM,gV,wu,Option.bind_some,vk,Cq]
theorem vc_L1 (kx:Option Bool):∀ (xs:List Int) (v:Nat) (last:Int),dN kx xs v last=if ascB last xs=true then kx else some false
 | [],v,last=>rfl
 | x::xs,v,last=>by
  have ih:=vc_L1 kx xs (v+1) x;simp only [dN,gI,gH,ih,ascB];by_cases h1:x<=last
  ·simp [h1,show ¬ last < x from by omega]
  ·by_cases h2:1099511627776 < x
   ·simp [h1,h2,show ¬ x<=1099511627776 from by omega]
   ·simp [h1,h2,show last < x from by omega,show x<=1099511627776 from by omega]
theorem vc_L2 (N:Nat) (c:Client):∀ (xs:List Answer) (v:Nat) (last:Int),bG N c xs v last=some (ansB c last xs)
 | [],v,last=>rfl
 | x::xs,v,last=>by
  have ih:=vc_L2 N c xs (v+1) x.Seq;simp only [bG,dR,dP,ih,ansB,yg,lX,Option.bind_some];by_cases h1:x.Seq<=last
  ·simp [h1,show ¬ last < x.Seq from by omega]
  ·by_cases h2:x.Seq∈c.Open
   ·simp [h1,h2,show last < x.Seq from by omega]
   ·cases h3:repB x.Reply_<;>cases h4:sEq x.Reply_.Client_ c.Name<;>by_cases h5:x.Reply_.Seq=x.Seq<;>simp [h1,h2,h5,show last < x.Seq from by omega]
def small1 (c:Client):Prop:=c.Open.length<=40/\c.Done.length<=40
theorem ug (N:Nat) (c:Client) (hs:small1 c):fC N c=some (cliB c):=by
 have e:IntKind.i64.wrap (((c.Open.length:Nat):Int)+((c.Done.length:Nat):Int))=((c.Open.length+c.Done.length:Nat):Int):=by
  rw [w64' (n:=((c.Open.length:Nat):Int)+((c.Done.length:Nat):Int)) (by have:=hs.1; have:=hs.2; omega) (by have:=hs.1; have:=hs.2; omega)]; omega
 simp only [fC,eC,jx,ew,kL,vc_L1,vc_L2,Option.bind_some,cliB,e];generalize nameB c.Name=a;generalize ascB c.Low c.Open=b;generalize ansB c c.Low c.Done=d;cases a<;>cases b<;>cases d<;>simp only [mO,oH,qi,if_true,if_false,Bool.false_eq_true,Bool.and_eq_true,Bool.or_eq_true,Bool.not_eq_true',decide_eq_true_eq,decide_eq_false_iff_not,Bool.and_false,Bool.and_true,Bool.or_true,Bool.or_false,Bool.true_or,Bool.false_or,Bool.not_true,Bool.not_false,and_false,false_and,or_false,false_or,Classical.not_not,true_and,and_true,iff_false,false_iff,not_false_eq_true,not_true_eq_false,true_or,or_true ]<;>omega
end Go.Proofs.Yteldkhmcgloafaa

namespace Go.Proofs.Yteldkhmcgloafaa
open Go Go.Proofs Go.Abs
theorem w64 {n:Int} (h1:-9223372036854775808<=n) (h2:n<=9223372036854775807):IntKind.i64.wrap n=n:=dY h1 h2
theorem vm:∀ x:List UInt8,Op.bytesLess x x=false
 | []=>rfl
 | a::x=>by simp [Op.bytesLess,vm x]
theorem wB:∀ {x y z:List UInt8},Op.bytesLess x y=true->Op.bytesLess y z=true->Op.bytesLess x z=true
 | _,[],_,h1,h2=>by simp [Op.bytesLess] at h1
 | _,_::_,[],h1,h2=>by simp [Op.bytesLess] at h2
 | [],_::_,_::_,h1,h2=>rfl
 | a::x,b::y,c::z,h1,h2=>by
  simp only [Op.bytesLess,Bool.or_eq_true,decide_eq_true_eq,Bool.and_eq_true,beq_iff_eq] at h1 h2 ⊢;rcases h1 with h1|⟨rfl,h1⟩
  ·rcases h2 with h2|⟨rfl,h2⟩
   ·exact .inl (UInt8.lt_trans h1 h2)
   ·exact .inl h1
  ·rcases h2 with h2|⟨rfl,h2⟩
   ·exact .inl h2
   ·exact .inr ⟨rfl,wB h1 h2⟩
theorem bl_tri:∀ x y:List UInt8,Op.bytesLess x y=true∨x=y∨Op.bytesLess y x=true
 | [],[]=>.inr (.inl rfl)
 | [],_::_=>.inl rfl
 | _::_,[]=>.inr (.inr rfl)
 | a::x,b::y=>by
  simp only [Op.bytesLess,Bool.or_eq_true,decide_eq_true_eq,Bool.and_eq_true,beq_iff_eq];rcases UInt8.lt_or_lt_of_ne (a:=a) (b:=b) |> fun h=>(Classical.em (a=b)).imp id h with rfl|h|h
  ·rcases bl_tri x y with h|rfl|h
   ·exact .inl (.inr ⟨rfl,h⟩)
   ·exact .inr (.inl rfl)
   ·exact .inr (.inr (.inr ⟨rfl,h⟩))
  ·exact .inl (.inl h)
  ·exact .inr (.inr (.inl h))
theorem p8 {a b:ByteArray}:sEq a b=true↔a=b:=by
 unfold sEq;rw [beq_iff_eq,ByteArray.toList_eq,ByteArray.toList_eq];obtain ⟨⟨x⟩⟩:=a;obtain ⟨⟨y⟩⟩:=b;simp
theorem zE {a b:ByteArray} (h:a.toList=b.toList):a=b:=p8.1 (by simpa [sEq] using h)
theorem jv (a:ByteArray):sLt a a=false:=vm _
theorem mI {a b c:ByteArray} (h1:sLt a b=true) (h2:sLt b c=true):sLt a c=true:=wB h1 h2
theorem y9 (a b:ByteArray):sLt a b=true∨a=b∨sLt b a=true:=by
 rcases bl_tri a.toList b.toList with h|h|h
 ·exact .inl h
 ·exact .inr (.inl (zE h))
 ·exact .inr (.inr h)
theorem mid_eq {i j:Nat} (h:i+j<=1000000):IntKind.i64.wrap (shrI .u64 (IntKind.u64.wrap (IntKind.i64.wrap ((i:Int)+(j:Int)))) 1)=(((i+j) / 2:Nat):Int):=by
 rw [w64 (n:=(i:Int)+(j:Int)) (by omega) (by omega)];have e:IntKind.u64.wrap ((i:Int)+(j:Int))=(i:Int)+(j:Int):=y5 ⟨by show (0:Int)<=_; omega,by show _<=(18446744073709551615:Int); omega⟩;rw [e];have e2:shrI .u64 ((i:Int)+(j:Int)) 1=(((i+j) / 2:Nat):Int):=by
  show ((i:Int)+(j:Int)).fdiv 2=_;rw [Int.fdiv_eq_ediv_of_nonneg _ (by omega)];omega
 rw [e2,w64 (by omega) (by omega)]
theorem Cd {α:Type} {l xs:List α} {v:Nat} {x:α} (h:l.drop v=x::xs):l[v]?=some x/\l.drop (v+1)=xs:=by
 constructor
 ·have:=congrArg (fun l=>l[0]?) h;simpa [List.getElem?_drop] using this
 ·have:=congrArg (List.drop 1) h;simpa [List.drop_drop,Nat.add_comm] using this
theorem u4 {a b:ByteArray} (h:sLt a b=true):sLt b a=false:=by
 cases h':sLt b a with
 | false=>rfl
 | true=>have:=mI h h'; rw [jv] at this; cases this
def tv:Option ByteArray->List Client->Bool
 | _,[]=>true
 | p,x::xs=>cliB x && ((match p with|none=>true|some q=>sLt q x.Name) && tv (some x.Name) xs)
def tabB (t:List Client):Bool:=decide (t.length<=32) && tv none t
def prevN (t:List Client) (v:Nat):Option ByteArray:=if v=0 then none else (t[v - 1]?).map (·.Name)
theorem zK {t:List Client} {v:Nat} {x:Client} (h:t[v]?=some x):prevN t (v+1)=some x.Name:=by
 simp [prevN,h]
theorem dv_L1 (N:Nat) (t:List Client) (hl:t.length<=40) (hs:∀ c∈t,small1 c):∀ (xs:List Client) (v:Nat),t.drop v=xs->ff N t xs v ()=some (tv (prevN t v) xs)
 | [],v,_=>rfl
 | x::xs,v,h=>by
  obtain ⟨hx,hd⟩:=Cd h;have hv:=(List.getElem?_eq_some_iff.1 hx).1;have ih:=dv_L1 N t hl hs xs (v+1) hd;rw [zK hx] at ih;simp only [ff,jl,ug N x (hs x (List.mem_of_getElem? hx)),Option.bind_some,tv,ih];by_cases g:0 < v
  ·have hw:IntKind.i64.wrap (((v:Nat):Int) - 1)=((v - 1:Nat):Int):=by
    rw [w64 (n:=((v:Nat):Int) - 1) (by omega) (by omega)]; omega
   obtain ⟨y,hp⟩:∃ y,t[v - 1]?=some y:=⟨_,List.getElem?_eq_getElem (by omega)⟩;have e:prevN t v=some y.Name:=by simp [prevN,show v≠0 from by omega,hp]
   rw [hw,gx_of hp,e,if_pos (show (0:Int) < ((v:Nat):Int) from by omega)];show _=some (cliB x && (sLt y.Name x.Name && tv (some x.Name) xs));cases cliB x<;>cases sLt y.Name x.Name<;>simp
  ·have:v=0:=by omega
   subst this;cases cliB x<;>simp [prevN]
theorem uI (N:Nat) {t:List Client} (hl:t.length<=40) (hs:∀ c∈t,small1 c):eP N t=some (tabB t):=by
 simp only [eP,tabB,dv_L1 N t hl hs t 0 (by simp)];by_cases h:t.length<=32
 ·rw [if_neg (by omega)]; simp [h,prevN]
 ·rw [if_pos (by omega)]; simp [h]
structure VC (c:Client):Prop where
 nm:nameB c.Name=true
 lo:0<=c.Low
 hi:c.Low<=1099511627776
 ln:c.Open.length+c.Done.length<=16
 op:ascB c.Low c.Open=true
 dn:ansB c c.Low c.Done=true
theorem BG {c:Client}:cliB c=true↔VC c:=by
 simp only [cliB,Bool.and_eq_true,decide_eq_true_eq];exact ⟨fun ⟨a,b,d,e,f,g⟩=>⟨a,b,d,e,f,g⟩,fun ⟨a,b,d,e,f,g⟩=>⟨a,b,d,e,f,g⟩⟩
def So (t:List Client):Prop:=t.Pairwise fun a b=>sLt a.Name b.Name=true
structure VT (t:List Client):Prop where
 len:t.length<=32
 cl:∀ c∈t,VC c
 so:So t
theorem tv_iff:∀ {t:List Client} {p:Option ByteArray},tv p t=true↔((∀ c∈t,VC c)/\So t/\∀ q,p=some q->∀ c∈t,sLt q c.Name=true)
 | [],p=>by simp [tv,So]
 | x::xs,p=>by
  have ih:=tv_iff (t:=xs) (p:=some x.Name);simp only [tv,Bool.and_eq_true,BG,ih];constructor
  ·rintro ⟨h1,h2,h3,h4,h5⟩;refine ⟨fun c hc=>?_,List.pairwise_cons.2 ⟨h5 x.Name rfl,h4⟩,fun q hq c hc=>?_⟩
   ·rcases List.mem_cons.1 hc with rfl|hc
    ·exact h1
    ·exact h3 c hc
   ·subst hq;rcases List.mem_cons.1 hc with rfl|hc
    ·exact h2
    ·exact mI h2 (h5 x.Name rfl c hc)
  ·rintro ⟨h1,h2,h3⟩;have h2':=List.pairwise_cons.1 h2;refine ⟨h1 x (by simp),?_,fun c hc=>h1 c (by simp [hc]),h2'.2,fun q hq c hc=>?_⟩
   ·cases p with
    | none=>rfl
    | some q=>exact h3 q rfl x (by simp)
   ·cases hq; exact h2'.1 c hc
theorem BN {t:List Client}:tabB t=true↔VT t:=by
 simp only [tabB,Bool.and_eq_true,decide_eq_true_eq,tv_iff];exact ⟨fun ⟨a,b,c,_⟩=>⟨a,b,c⟩,fun ⟨a,b,c⟩=>⟨a,b,c,fun q hq=>by cases hq⟩⟩
theorem VC.small {c:Client} (h:VC c):small1 c:=⟨by have:=h.ln; omega,by have:=h.ln; omega⟩
theorem VT.valid {t:List Client} (h:VT t) (N:Nat):eP N t=some true:=by
 rw [uI N (by have:=h.len; omega) (fun c hc=>(h.cl c hc).small),BN.2 h]
theorem th {c:Client}:∀ {l:List Answer} {last:Int},ansB c last l=true->∀ a∈l,last < a.Seq/\a.Seq∉c.Open/\repB a.Reply_=true/\a.Reply_.Client_=c.Name/\a.Reply_.Seq=a.Seq
 | [],_,_,a,ha=>by cases ha
 | x::xs,last,h,a,ha=>by
  simp only [ansB,Bool.and_eq_true,decide_eq_true_eq,Bool.not_eq_true',decide_eq_false_iff_not,p8] at h;obtain ⟨h1,h2,h3,h4,h5,h6⟩:=h;rcases List.mem_cons.1 ha with rfl|ha
  ·exact ⟨h1,h2,h3,h4,h5⟩
  ·obtain ⟨g1,g2⟩:=th h6 a ha;exact ⟨by omega,g2⟩
theorem rv {r:Reply} (h:repB r=true):r.Path=[]/\r.Value_.I.length<=16/\r.Value_.L.length<=16:=by
 simp only [repB,valueB,Bool.and_eq_true,decide_eq_true_eq] at h;exact ⟨List.length_eq_zero_iff.1 h.1.1.1.1.2,by omega,by omega⟩
theorem mZ (N:Nat) {r:Reply} (h:r.Path=[]) (hI:r.Value_.I.length<=1000) (hL:r.Value_.L.length<=1000):dO N r=some r:=by
 obtain ⟨a,b,c,d,e⟩:=r;simp only at h;subst h;simp only [dO,bY,da];rw [apn_of (by simp only at hI; omega),Option.bind_some,apn_of (by simp only at hL; omega),Option.bind_some]
theorem wk (N:Nat) (rec:List Client->Option (List Client)) (t:List Client) (v:Nat) (c:Client) (hc:t[v]?=some c) (h:VC c):∀ (m k:Nat),k+m=c.Done.length->fK rec t v c c.Open N m k c.Done=rec t
 | 0,k,_=>by
  simp only [fK];rw [show Client.mk c.Name c.Low c.Open c.Done=c from rfl,w5 hc]
 | m+1,k,hk=>by
  have hx:c.Done[k]?=some (c.Done[k]'(by omega)):=List.getElem?_eq_getElem _;have hr:=rv (th h.dn _ (List.mem_of_getElem? hx)).2.2.1;simp only [fK];rw [gx_of hc,gx_of hx,mZ N hr.1 (by omega) (by omega),Option.bind_some,show Answer.mk (c.Done[k]'(by omega)).Seq (c.Done[k]'(by omega)).Reply_=c.Done[k]'(by omega) from rfl,w5 hx];exact wk N rec t v c hc h m (k+1) (by omega)
theorem wb (N:Nat) (t:List Client) (h:∀ c∈t,VC c):∀ (m k:Nat),k+m=t.length->fO N m k t=some t
 | 0,k,hk=>by
  simp only [fO,lenG];rw [if_pos (by omega)]
 | m+1,k,hk=>by
  have hx:t[k]?=some (t[k]'(by omega)):=List.getElem?_eq_getElem _;have hv:=h _ (List.mem_of_getElem? hx);have hl:=hv.ln;simp only [fO,bY,dc];rw [gx_of hx,apn_of (by omega),Option.bind_some,apn_of (by omega),Option.bind_some,Nat.sub_zero,wk N _ t k _ hx hv _ 0 (by omega)];exact wb N t h m (k+1) (by omega)
theorem qT (N:Nat) {t:List Client} (h:VT t):fj N t=some t:=by
 have:=h.len;simp only [fj,db];rw [apn_of (by omega),Option.bind_some,Nat.sub_zero];exact wb N t h.cl t.length 0 (by omega)
def ltN (k:ByteArray) (r:Client):Bool:=sLt r.Name k
def plc (t:List Client) (k:ByteArray):Nat:=(t.takeWhile (ltN k)).length
theorem plc_le (t:List Client) (k:ByteArray):plc t k<=t.length:=(List.takeWhile_sublist (ltN k)).length_le
theorem plc_lt:∀ {t:List Client} {k:ByteArray},(t.Pairwise fun a b=>sLt a.Name b.Name=true)->∀ {i:Nat} {r:Client},t[i]?=some r->(sLt r.Name k=true↔i < plc t k)
 | [],k,hp,i,r,hr=>by simp at hr
 | x::xs,k,hp,i,r,hr=>by
  rw [List.pairwise_cons] at hp;by_cases h:sLt x.Name k=true
  ·have e:plc (x::xs) k=plc xs k+1:=by simp [plc,List.takeWhile_cons,ltN,h]
   rw [e];cases i with
   | zero=>simp only [List.getElem?_cons_zero,Option.some.injEq] at hr; subst hr; simp [h]
   | succ i=>
    rw [List.getElem?_cons_succ] at hr;rw [plc_lt hp.2 hr]; omega
  ·have e:plc (x::xs) k=0:=by simp [plc,List.takeWhile_cons,ltN,h]
   rw [e];constructor
   ·intro hlt;exfalso;cases i with
    | zero=>simp only [List.getElem?_cons_zero,Option.some.injEq] at hr; subst hr; exact h hlt
    | succ i=>
     rw [List.getElem?_cons_succ] at hr;exact h (mI (hp.1 r (List.mem_of_getElem? hr)) hlt)
   ·omega
def hasN (t:List Client) (k:ByteArray):Bool:=match t[plc t k]? with
 | some s=>sEq s.Name k
 | none=>false
theorem plc_ge {t:List Client} (hp:So t) {k:ByteArray} {i:Nat} {r:Client} (hr:t[i]?=some r) (hi:plc t k<=i):sLt r.Name k=false:=by
 have:=plc_lt hp hr (k:=k);cases h:sLt r.Name k with
 | false=>rfl
 | true=>have:=this.1 h; omega
theorem wO (N:Nat) (c:Client) (k:ByteArray):gW N c k=some (if sLt c.Name k=true then -1 else if sEq c.Name k=true then 0 else 1):=by
 simp only [gW];cases sLt c.Name k<;>cases sEq c.Name k<;>rfl
theorem bsN_L1 {t:List Client} (ht:t.length<=32) (hp:So t) (N:Nat) (k:ByteArray) (kx:Int->Option (Int × Bool)) :
  ∀ (n i j:Nat),j < i+n->i<=plc t k->plc t k<=j->j<=t.length->aB t N k kx n ((i:Int),(j:Int))=kx ((plc t k:Nat):Int)
 | 0,i,j,h1,h2,h3,h4=>by omega
 | n+1,i,j,h1,h2,h3,h4=>by
  rw [aB];by_cases h:i < j
  ·rw [if_pos (by omega),mid_eq (by omega)];have hm:(i+j) / 2 < t.length:=by omega
   have hx:t[(i+j) / 2]?=some t[(i+j) / 2]:=List.getElem?_eq_getElem hm;have hc:=plc_lt hp hx (k:=k);rw [gx_nat hx,wO];simp only [Option.bind_some];by_cases hs:sLt t[(i+j) / 2].Name k=true
   ·rw [if_pos hs,if_pos (by omega),w64 (by omega) (by omega)];have:=hc.1 hs;exact bsN_L1 ht hp N k kx n ((i+j) / 2+1) j (by omega) (by omega) h3 h4
   ·rw [if_neg hs,if_neg (by split<;>omega)]
    have:¬ (i+j) / 2 < plc t k:=fun q=>hs (hc.2 q);exact bsN_L1 ht hp N k kx n i ((i+j) / 2) (by omega) h2 (by omega) (by omega)
  ·rw [if_neg (by omega)];have:i=plc t k:=by omega
   rw [this]
theorem uE (N:Nat) (hN:100<=N) {t:List Client} (h:VT t) (k:ByteArray):iO N t k=some (((plc t k:Nat):Int),hasN t k):=by
 have hl:=h.len;have hp:=plc_le t k;have:=bsN_L1 hl h.so N k (bA t N k) N 0 t.length (by omega) (by omega) hp (by omega);simp only [iO,aZ];rw [show ((0:Int))=((0:Nat):Int) from rfl,this];unfold bA hasN;cases hq:t[plc t k]? with
 | none=>
  have:=List.getElem?_eq_none_iff.1 hq;rw [if_neg (by omega)]; rfl
 | some s=>
  have:=(List.getElem?_eq_some_iff.1 hq).1;have hge:=plc_ge h.so hq (Nat.le_refl _);rw [if_pos (by omega),gx_nat hq,wO,hge];show _=some (((plc t k:Nat):Int),sEq s.Name k);cases sEq s.Name k<;>rfl
end Go.Proofs.Yteldkhmcgloafaa

namespace Go.Proofs.Yteldkhmcgloafaa
open Go Go.Proofs Go.Abs
def cliOf (t:List Client) (k:ByteArray):Option Client:=t.find? fun c=>sEq c.Name k
def zR:Reply:=Reply.mk (⟨#[]⟩) 0 [] 0 (Value.mk 0 0 (⟨#[]⟩) [] [])
def ansOf (c:Client) (n:Int):Option Answer:=c.Done.find? fun a=>decide (a.Seq=n)
def statC (c:Client) (n:Int):Int:=if n<=c.Low then 3 else if n∈c.Open then 1 else if (ansOf c n).isSome=true then 2 else 0
def repC (c:Client) (n:Int):Reply:=if n<=c.Low then zR else if n∈c.Open then zR else match ansOf c n with|some a=>a.Reply_|none=>zR
def statT (t:List Client) (k:ByteArray) (n:Int):Int:=match cliOf t k with|some c=>statC c n|none=>0
def repT (t:List Client) (k:ByteArray) (n:Int):Reply:=match cliOf t k with|some c=>repC c n|none=>zR
theorem eV {t:List Client} {k:ByteArray} {c:Client} (h:cliOf t k=some c):c∈t/\c.Name=k:=by
 have h1:=List.find?_some h;exact ⟨List.mem_of_find?_eq_some h,p8.1 h1⟩
theorem so_at {t:List Client} (hp:So t) {c:Client} (hc:c∈t):t[plc t c.Name]?=some c:=by
 obtain ⟨i,hi⟩:=List.mem_iff_getElem?.1 hc;have h1:=plc_lt hp hi (k:=c.Name);rw [jv] at h1;have hle:plc t c.Name<=i:=by
  rcases Nat.lt_or_ge i (plc t c.Name) with h|h
  ·exact absurd (h1.2 h) (by simp)
  ·exact h
 have hil:=(List.getElem?_eq_some_iff.1 hi).1;have hpl:plc t c.Name < t.length:=by omega
 have e:plc t c.Name=i:=by
  rcases Nat.lt_or_ge (plc t c.Name) i with h|h
  ·exfalso;have h2:=plc_lt hp (List.getElem?_eq_getElem hpl) (k:=c.Name);have h3:=List.pairwise_iff_getElem.1 hp _ i hpl hil h;have h4:t[i]=c:=by rw [List.getElem?_eq_getElem hil] at hi; exact Option.some.inj hi
   rw [h4] at h3;have:=h2.1 h3;omega
  ·omega
 rw [e]; exact hi
theorem kT {t:List Client} (hp:So t) (k:ByteArray):cliOf t k=if hasN t k=true then t[plc t k]? else none:=by
 cases h:cliOf t k with
 | some c=>
  obtain ⟨h1,rfl⟩:=eV h;have h2:=so_at hp h1;have:hasN t c.Name=true:=by simp [hasN,h2,oO]
  rw [if_pos this,h2]
 | none=>
  cases h':hasN t k with
  | false=>simp
  | true=>
   exfalso;unfold hasN at h';split at h'
   ·rename_i s hs;have:=List.find?_eq_none.1 h s (List.mem_of_getElem? hs);exact this h'
   ·cases h'
theorem AR {t:List Client} (hp:So t) {c:Client} (hc:c∈t):cliOf t c.Name=some c:=by
 rw [kT hp,so_at hp hc];have:hasN t c.Name=true:=by simp [hasN,so_at hp hc,oO]
 rw [if_pos this]
theorem lk_L3 (N:Nat) (kx:Option (Int × Reply)) (n:Int):∀ (xs:List Answer) (v:Nat),(∀ a∈xs,repB a.Reply_=true)->gg kx n N xs v ()=match xs.find? (fun a=>decide (a.Seq=n)) with|some a=>some (2,a.Reply_)|none=>kx
 | [],v,_=>rfl
 | x::xs,v,h=>by
  simp only [gg,List.find?_cons];by_cases e:x.Seq=n
  ·have hr:=rv (h x (by simp));simp [e,mZ N hr.1 (by omega) (by omega)]
  ·simp [e,lk_L3 N kx n xs (v+1) (fun a ha=>h a (by simp [ha]))]
theorem lk_L2 (kx:Option (Int × Reply)) (n:Int):∀ (xs:List Int) (v:Nat),fu kx n xs v ()=if n∈xs then some (1,zR) else kx
 | [],v=>by simp [fu]
 | x::xs,v=>by
  simp only [fu,lk_L2 kx n xs (v+1)];by_cases e:x=n
  ·simp [e,zR]
  ·have:¬ n=x:=fun h=>e h.symm;simp [e,this]
theorem lk_L1 (N:Nat) (k:ByteArray) (n:Int):∀ (xs:List Client) (v:Nat),(∀ c∈xs,VC c)->gf k n N xs v ()=some (match xs.find? (fun c=>sEq c.Name k) with|some c=>(statC c n,repC c n)|none=>(0,zR))
 | [],v,_=>rfl
 | x::xs,v,h=>by
  simp only [gf,List.find?_cons];cases e:sEq x.Name k with
  | true=>
   have hv:=h x (by simp);simp only [if_true,lk_L2,lF,lH,lk_L3 N _ n x.Done 0 (fun a ha=>(th hv.dn a ha).2.2.1)];simp only [statC,repC,ansOf];by_cases h1:n<=x.Low
   ·simp [h1,zR]
   ·by_cases h2:n∈x.Open
    ·simp [h1,h2]
    ·simp only [h1,h2,if_false];rcases Option.eq_none_or_eq_some (x.Done.find? (fun a=>decide (a.Seq=n))) with h3|⟨a,h3⟩<;>simp [h3,zR]
  | false=>
   simp only [Bool.false_eq_true,if_false];exact lk_L1 N k n xs (v+1) (fun c hc=>h c (by simp [hc]))
theorem uZ (N:Nat) {t:List Client} (h:VT t) (k:ByteArray) (n:Int):fZ N t k n=some (statT t k n,repT t k n):=by
 simp only [fZ,h.valid,Option.bind_some,if_true,lk_L1 N k n t 0 h.cl,statT,repT];have:(t.find? fun c=>sEq c.Name k)=cliOf t k:=rfl;rw [this];cases cliOf t k<;>rfl
theorem rA (N:Nat) {t:List Client} (h:VT t) (k:ByteArray) (n:Int):dS N t k n=some (statT t k n):=by
 simp only [dS,uZ N h,Option.bind_some]
theorem BA (N:Nat) {t:List Client} (h:VT t) (k:ByteArray) (n:Int):iZ N t k n=some (repT t k n,decide (statT t k n=2)):=by
 simp only [iZ,uZ N h,Option.bind_some]
end Go.Proofs.Yteldkhmcgloafaa

namespace Go.Proofs.Yteldkhmcgloafaa
open Go Go.Proofs Go.Abs
def pz:List Int->Int->Nat
 | [],_=>0
 | x::xs,n=>if x < n then pz xs n+1 else 0
theorem pz_le:∀ (w:List Int) (n:Int),pz w n<=w.length
 | [],_=>Nat.le_refl _
 | x::xs,n=>by
  have:=pz_le xs n;simp only [pz]; split<;>simp<;>omega
theorem pz_lt:∀ {w:List Int},w.Pairwise (· < ·)->∀ {n:Int} {i:Nat} {x:Int},w[i]?=some x->(x < n↔i < pz w n)
 | [],_,n,i,x,hx=>by simp at hx
 | y::ys,hs,n,i,x,hx=>by
  rw [List.pairwise_cons] at hs;simp only [pz];cases i with
  | zero=>simp only [List.getElem?_cons_zero,Option.some.injEq] at hx; subst hx; split<;>simp<;>omega
  | succ i=>
   rw [List.getElem?_cons_succ] at hx;have ih:=pz_lt hs.2 hx (n:=n);have:=hs.1 x (List.mem_of_getElem? hx);split<;>omega
theorem BC (N:Nat) (a b:Int):jh N a b=some (decide (a < b)):=by
 simp [jh,iw]
theorem pz_mem {w:List Int} (hs:w.Pairwise (· < ·)) {n:Int}:n∈w↔w[pz w n]?=some n:=by
 constructor
 ·intro h;obtain ⟨i,hi⟩:=List.mem_iff_getElem?.1 h;have h1:=pz_lt hs hi (n:=n);have hle:pz w n<=i:=by omega
  have hil:=(List.getElem?_eq_some_iff.1 hi).1;have hpl:pz w n < w.length:=by omega
  rcases Nat.lt_or_ge (pz w n) i with q|q
  ·exfalso;have h2:=pz_lt hs (List.getElem?_eq_getElem hpl) (n:=n);have h3:=List.pairwise_iff_getElem.1 hs _ i hpl hil q;have h4:w[i]=n:=(List.getElem?_eq_some_iff.1 hi).2;omega
  ·have:pz w n=i:=by omega
   rw [this]; exact hi
 ·exact List.mem_of_getElem?
theorem bsI_L1 {w:List Int} (hl:w.length<=32) (hs:w.Pairwise (· < ·)) (N:Nat) (a:Int) (kx:Int->Option (Int × Bool)) :
  ∀ (n i j:Nat),j < i+n->i<=pz w a->pz w a<=j->j<=w.length->bO w N a kx n ((i:Int),(j:Int))=kx ((pz w a:Nat):Int)
 | 0,i,j,h1,h2,h3,h4=>by omega
 | n+1,i,j,h1,h2,h3,h4=>by
  rw [bO];by_cases hij:i < j
  ·rw [if_pos (by omega),mid_eq (by omega)];have hm:(i+j) / 2 < w.length:=by omega
   have hx:w[(i+j) / 2]?=some w[(i+j) / 2]:=List.getElem?_eq_getElem hm;have hc:=pz_lt hs hx (n:=a);rw [gx_nat hx,BC];simp only [Option.bind_some,decide_eq_true_eq];by_cases hlt:w[(i+j) / 2] < a
   ·rw [if_pos hlt,w64 (by omega) (by omega)];have:(i+j) / 2 < pz w a:=hc.1 hlt;exact bsI_L1 hl hs N a kx n ((i+j) / 2+1) j (by omega) (by omega) h3 h4
   ·rw [if_neg hlt];have:¬ (i+j) / 2 < pz w a:=fun q=>hlt (hc.2 q);exact bsI_L1 hl hs N a kx n i ((i+j) / 2) (by omega) h2 (by omega) (by omega)
  ·rw [if_neg (by omega)];have:i=pz w a:=by omega
   rw [this]
theorem bsI_eq (N:Nat) (hN:200<=N) {w:List Int} (hl:w.length<=32) (hs:w.Pairwise (· < ·)) (a:Int):dj N w a=some (((pz w a:Nat):Int),decide (a∈w)):=by
 have hp:=pz_le w a;have:=bsI_L1 hl hs N a (eU w a N) N 0 w.length (by omega) (by omega) hp (by omega);simp only [dj];rw [show ((0:Int))=((0:Nat):Int) from rfl,this];unfold eU;have hm:=pz_mem hs (n:=a);cases hq:w[pz w a]? with
 | none=>
  have:=List.getElem?_eq_none_iff.1 hq;rw [if_neg (by omega)];rw [hq] at hm;have:a∉w:=fun q=>by simpa using hm.1 q
  simp [this]
 | some s=>
  have:=(List.getElem?_eq_some_iff.1 hq).1;rw [if_pos (by omega),gx_nat hq];rw [hq] at hm;by_cases e:s=a
  ·subst e;have:s∈w:=hm.2 rfl;simp [this]
  ·have:a∉w:=fun q=>e (Option.some.inj (hm.1 q));simp [e,this,fL]
theorem ll:∀ {l:List Int} {last:Int},ascB last l=true↔(l.Pairwise (· < ·)/\∀ x∈l,last < x/\x<=1099511627776)
 | [],last=>by simp [ascB]
 | y::ys,last=>by
  simp only [ascB,Bool.and_eq_true,decide_eq_true_eq,ll (l:=ys) (last:=y),List.pairwise_cons];constructor
  ·rintro ⟨h1,h2,h3,h4⟩;refine ⟨⟨fun x hx=>(h4 x hx).1,h3⟩,fun x hx=>?_⟩;rcases List.mem_cons.1 hx with rfl|hx
   ·exact ⟨h1,h2⟩
   ·have:=h4 x hx; exact ⟨by omega,this.2⟩
  ·rintro ⟨⟨h1,h2⟩,h3⟩;have:=h3 y (by simp);exact ⟨this.1,this.2,h2,fun x hx=>⟨h1 x hx,(h3 x (by simp [hx])).2⟩⟩
def insI (l:List Int) (n:Int):List Int:=l.take (pz l n)++[n]++l.drop (pz l n)
theorem An (x:Int) (xs:List Int) (n:Int):insI (x::xs) n=if x < n then x::insI xs n else n::x::xs:=by
 simp only [insI,pz];split<;>simp
theorem Bl (n:Int):insI [] n=[n]:=rfl
theorem uN {α β:Type} {b:Nat} {l:List α} {n:Nat} {x:α} {k:List α->Option β} (h:n<=l.length) (hb:(l.length+1) * (b+1)<=140737488355328):insM b l ((n:Nat):Int) [x] k=k (l.take n++[x]++l.drop n):=by
 unfold insM;rw [if_pos ⟨by omega,by omega,rfl,hb⟩];simp
theorem tE (N:Nat) {l:List Int} (hl:l.length<=40) {i:Nat} (h:i<=l.length) (n:Int):eH N l ((i:Nat):Int) [n]=some (l.take i++[n]++l.drop i):=by
 simp only [eH];rw [uN h (by omega)]
def putT (t:List Client) (c:Client):List Client:=t.take (plc t c.Name)++[c]++t.drop (if hasN t c.Name=true then plc t c.Name+1 else plc t c.Name)
theorem qD (x:Client) (xs:List Client) (k:ByteArray):plc (x::xs) k=if sLt x.Name k=true then plc xs k+1 else 0:=by
 by_cases h:sLt x.Name k=true
 ·simp [plc,List.takeWhile_cons,ltN,h]
 ·simp [plc,List.takeWhile_cons,ltN,h]
theorem vo (x:Client) (xs:List Client) (c:Client):putT (x::xs) c=if sLt x.Name c.Name=true then x::putT xs c else if sEq x.Name c.Name=true then c::xs else c::x::xs:=by
 by_cases h:sLt x.Name c.Name=true
 ·have e:hasN (x::xs) c.Name=hasN xs c.Name:=by simp [hasN,qD,h]
  simp only [putT,qD,h,if_true,e];split<;>simp
 ·have e:hasN (x::xs) c.Name=sEq x.Name c.Name:=by simp [hasN,qD,h]
  simp only [putT,qD,h,if_false,e,Bool.false_eq_true];cases sEq x.Name c.Name<;>simp
theorem uy {t:List Client} (hp:So t) {c d:Client} (hc:cliOf t d.Name=some c):putT t d=t.set (plc t d.Name) d:=by
 rw [kT hp] at hc;split at hc
 ·rename_i h;have hl:=(List.getElem?_eq_some_iff.1 hc).1;rw [List.set_eq_take_append_cons_drop,if_pos hl,putT,if_pos h];simp
 ·cases hc
theorem CH {t:List Client} (hp:So t) {d:Client} (hc:cliOf t d.Name=none):putT t d=t.take (plc t d.Name)++[d]++t.drop (plc t d.Name)/\hasN t d.Name=false:=by
 rw [kT hp] at hc;cases h:hasN t d.Name with
 | false=>exact ⟨by simp [putT,h],rfl⟩
 | true=>
  rw [h,if_pos rfl] at hc;have:=List.getElem?_eq_none_iff.1 hc;unfold hasN at h;rw [hc] at h;cases h
end Go.Proofs.Yteldkhmcgloafaa

namespace Go.Proofs.Yteldkhmcgloafaa
open Go Go.Proofs Go.Abs
def openT (t:List Client) (k:ByteArray) (n:Int):List Client × Int:=
 if nameB k=true/\numB n=true then
  (if statT t k n=3 then ([],8) else if statT t k n=1∨statT t k n=2 then ([],7) else match cliOf t k with
   | some c=>if c.Open.length+c.Done.length=16 then ([],5) else (putT t (Client.mk c.Name c.Low (insI c.Open n) c.Done),0)
   | none=>if t.length=32 then ([],5) else (putT t (Client.mk k 0 [n] []),0))
 else ([],1)
theorem Bj {a b:Nat} (ha:a<=100) (hb:b<=100):IntKind.i64.wrap (((a:Nat):Int)+((b:Nat):Int))=((a+b:Nat):Int):=by
 rw [w64 (n:=((a:Nat):Int)+((b:Nat):Int)) (by omega) (by omega)]; omega
theorem VC.asc {c:Client} (h:VC c):c.Open.Pairwise (· < ·):=(ll.1 h.op).1
theorem Ci (N:Nat) (hN:1000<=N) {t:List Client} (h:VT t) (k:ByteArray) (n:Int):fR N t k n=some (openT t k n):=by
 simp only [fR,h.valid,kL,lI,Option.bind_some,if_true,openT];cases hk:nameB k with
 | false=>simp [gA]
 | true=>
 cases hn:numB n with
 | false=>simp [gA]
 | true=>
 simp only [if_true,gA,Bool.not_true,Bool.false_eq_true,if_false,jE,rA N h,Option.bind_some,and_self];by_cases h3:statT t k n=3
 ·simp [h3]
 ·by_cases h1:statT t k n=1
  ·simp [h1,iq]
  ·by_cases h2:statT t k n=2
   ·simp [h2,iq]
   ·simp only [h3,h1,h2,if_false,or_self,iq,decide_false,Bool.false_eq_true,kM,uE N (by omega) h,Option.bind_some];have hat:=kT h.so k;have hlen:=h.len;cases hh:hasN t k with
    | true=>
     rw [hh,if_pos rfl] at hat;simp only [if_true];cases hc:t[plc t k]? with
     | none=>unfold hasN at hh; rw [hc] at hh; cases hh
     | some c=>
      have hv:=h.cl c (List.mem_of_getElem? hc);have hl:=hv.ln;rw [hc] at hat;obtain ⟨_,hnm⟩:=eV hat;rw [gx_of hc,Bj (by omega) (by omega),hat];simp only [iy];by_cases h16:c.Open.length+c.Done.length=16
      ·simp [h16]
      ·rw [if_neg (by omega),if_neg (by simp),if_neg h16];simp only [iz,qT N h,Option.bind_some,if_true];rw [gx_of hc,bsI_eq N (by omega) (by omega) hv.asc];simp only [Option.bind_some];rw [tE N (by omega) (pz_le _ _)];simp only [Option.bind_some,Int.toNat_natCast];rw [uy (c:=c) (d:=Client.mk c.Name c.Low (insI c.Open n) c.Done) h.so (by rw [hnm]; exact hat)];simp only [insI,hnm]
    | false=>
     rw [hh,if_neg (by simp)] at hat;rw [hat];simp only [Bool.false_eq_true,if_false,iy];by_cases h32:t.length=32
     ·simp [h32]
     ·rw [if_neg (by simp; omega),if_neg h32];simp only [iz,qT N h,Option.bind_some,Bool.false_eq_true,if_false,bH];rw [uN (plc_le t k) (by omega)];simp only [Option.bind_some];have hg:(t.take (plc t k)++[Client.mk k 0 [] []]++t.drop (plc t k))[plc t k]?=some (Client.mk k 0 [] []):=by
       have:=plc_le t k;rw [List.append_assoc,List.getElem?_append_right (by simp; omega)];simp [Nat.min_eq_left this]
      rw [gx_of hg,bsI_eq N (by omega) (by simp) List.Pairwise.nil];simp only [Option.bind_some,pz];rw [tE N (l:=[]) (i:=0) (by simp) (Nat.le_refl _)];have hp:=CH (d:=Client.mk k 0 [n] []) h.so hat;rw [hp.1];have:=plc_le t k;simp only [Option.bind_some,Int.toNat_natCast,List.take_nil,List.nil_append,List.drop_nil,List.append_nil];rw [List.append_assoc,List.set_append_right _ _ (by simp; omega)];simp [Nat.min_eq_left this]
def ackT (t:List Client) (k:ByteArray) (u:Int):List Client × Int:=
 if nameB k=true/\numB u=true then
  (match cliOf t k with
   | some c=>if (∃ x,c.Open.head?=some x/\x<=u) then ([],12) else
     (putT t (Client.mk c.Name (if u > c.Low then u else c.Low) c.Open (c.Done.filter fun a=>decide ((if u > c.Low then u else c.Low) < a.Seq))),0)
   | none=>([],6))
 else ([],1)
theorem ack_eq (N:Nat) (hN:1000<=N) {t:List Client} (h:VT t) (k:ByteArray) (u:Int):dC N t k u=some (ackT t k u):=by
 simp only [dC,h.valid,kL,lI,Option.bind_some,if_true,ackT];cases hk:nameB k with
 | false=>simp [dQ]
 | true=>
 cases hn:numB u with
 | false=>simp [dQ]
 | true=>
 simp only [if_true,dQ,Bool.not_true,Bool.false_eq_true,if_false,fp,uE N (by omega) h,Option.bind_some,and_self];have hat:=kT h.so k;cases hh:hasN t k with
 | false=>
  rw [hh,if_neg (by simp)] at hat;simp [hat]
 | true=>
  rw [hh,if_pos rfl] at hat;simp only [if_true];cases hc:t[plc t k]? with
  | none=>unfold hasN at hh; rw [hc] at hh; cases hh
  | some c=>
   have hv:=h.cl c (List.mem_of_getElem? hc);have hl:=hv.ln;rw [hc] at hat;obtain ⟨_,hnm⟩:=eV hat;rw [gx_of hc,hat];have hJ3:fx N t (((plc t k:Nat):Int),true) u=some (putT t (Client.mk c.Name (if u > c.Low then u else c.Low) c.Open (c.Done.filter fun a=>decide ((if u > c.Low then u else c.Low) < a.Seq))),0):=by
    simp only [fx,qT N h,Option.bind_some];rw [gx_of hc];simp only [delAck];rw [if_pos ⟨by omega,by omega⟩,uy (c:=c) (d:=Client.mk c.Name (if u > c.Low then u else c.Low) c.Open (c.Done.filter fun a=>decide ((if u > c.Low then u else c.Low) < a.Seq))) h.so (by rw [hnm]; exact hat)];simp only [Option.bind_some,Int.toNat_natCast,hnm]
    congr 4
    apply List.filter_congr;intro a _;generalize (if u > c.Low then u else c.Low)=lo;by_cases hq:a.Seq<=lo
    ·simp [hq,show ¬ lo < a.Seq from by omega]
    ·simp [hq,show lo < a.Seq from by omega]
   rw [hJ3];cases ho:c.Open with
   | nil=>simp [eE,ho]
   | cons x xs=>
    rw [if_pos (by simp)];have hx:(x::xs)[(0:Nat)]?=some x:=rfl;rw [show (0:Int)=((0:Nat):Int) from rfl,gx_of hx];by_cases hle:x<=u
    ·simp [eE,hle,ho]
    ·simp [eE,hle,ho]
end Go.Proofs.Yteldkhmcgloafaa

namespace Go.Proofs.Yteldkhmcgloafaa
open Go Go.Proofs Go.Abs
def kn (lo:Int) (s:Int):Bool:=!decide (s=lo)
theorem tW (N:Nat) (k0:ByteArray) (lo:Int) (k2:List Int) (k3 k4 k5:Int) (k6:ByteArray) (k7:List Int) (k8:List ByteArray):∀ (xs:List Int) (k:Nat),aU N k0 lo k2 k3 k4 k5 k6 k7 k8 xs k ()=some (match xs.findIdx? (fun a=>!kn lo a) with|some i=>(((k+i:Nat)):Int)|none=>-1):=by
 intro xs
 induction xs with
 | nil=>intro k; rfl
 | cons x xs ih=>
  intro k;simp only [aU,fI,Option.bind_some,List.findIdx?_cons,kn,Bool.not_not];by_cases h:x=lo
  ·simp [h]
  ·simp only [h,decide_false,Bool.false_eq_true,if_false,ih];simp only [kn,Bool.not_not];cases xs.findIdx? (fun a=>decide (a=lo)) with
   | none=>rfl
   | some i=>
    have e:k+1+i=k+(i+1):=by omega
    simp only [Option.map_some,e]
theorem del_J1 (l:List Int) (i:Nat) (h:i<=l.length):bu l (i:Int)=some (l.take i):=by
 unfold bu slx;rw [if_pos ⟨by omega,by omega,by omega,by omega⟩,if_pos ⟨by omega,by omega,by omega,by rw [za (by omega)]; omega⟩];simp only [Int.toNat_natCast];rw [wD h]
theorem del_L1 (N:Nat) (k0:ByteArray) (lo:Int) (k2:List Int) (k3 k4 k5:Int) (k6:ByteArray) (k7:List Int) (k8:List ByteArray) (lv:List Int) (hb:lv.length<=4611686018427387904):∀ (n i j:Nat) (l4:List Int),j<=lv.length->l4.length=lv.length->l4.drop j=lv.drop j->i<=j->l4.take i=(lv.take j).filter (fun a=>kn lo a)->lv.length - j < n ->
  aM N k0 lo k2 k3 k4 k5 k6 k7 k8 bu n (l4,(i:Int),(j:Int))=some (lv.filter fun a=>kn lo a):=by
 intro n
 induction n with
 | zero=>intro i j l4 _ _ _ _ _ h; omega
 | succ n ih=>
  intro i j l4 hj hl hd hij ht hn;simp only [aM];by_cases hlt:j < lv.length
  ·have hx:l4[j]?=some lv[j]:=by
    have:=congrArg (fun l=>l[0]?) hd;simpa [List.getElem?_drop,hlt] using this
   have hw:∀ k:Nat,k < lv.length->IntKind.i64.wrap ((k:Int)+1)=((k+1:Nat):Int):=fun k hk=>by rw [dY (n:=(k:Int)+1) (by omega) (by omega)]; omega
   rw [if_pos (by omega),gx_nat hx];simp only [fI,Option.bind_some];have htk:(lv.take (j+1)).filter (fun a=>kn lo a)=(lv.take j).filter (fun a=>kn lo a)++(if kn lo lv[j] then [lv[j]] else []):=by
    rw [List.take_succ_eq_append_getElem hlt,List.filter_append];simp [List.filter_cons]
   have hd1:l4.drop (j+1)=lv.drop (j+1):=by
    have:=congrArg (List.drop 1) hd;simpa [List.drop_drop,Nat.add_comm] using this
   by_cases hq:lv[j]=lo
   ·simp only [hq,decide_true,if_true];rw [hw j hlt];exact ih i (j+1) l4 hlt hl hd1 (by omega) (by rw [htk,ht]; simp [kn,hq]) (by omega)
   ·simp only [hq,decide_false,Bool.false_eq_true,if_false];have hi:i < l4.length:=by omega
    rw [gx_nat (List.getElem?_eq_getElem hi),hw j hlt,hw i (by omega),Int.toNat_natCast];refine ih (i+1) (j+1) (l4.set i lv[j]) hlt (by simpa using hl) ?_ (by omega) ?_ (by omega)
    ·rw [List.drop_set_of_lt (by omega)]; exact hd1
    ·rw [htk,if_pos (by simp [kn,hq]),<-ht,List.take_succ_eq_append_getElem (by simpa using hi),List.take_set_of_le (Nat.le_refl i)];simp
  ·have hje:j=lv.length:=by omega
   subst hje;rw [if_neg (by omega),del_J1 l4 i (by omega),ht,List.take_length]
theorem del_V (N:Nat) (k0:ByteArray) (lo:Int) (k2:List Int) (k3 k4 k5:Int) (k6:ByteArray) (k7:List Int) (k8:List ByteArray) (lv:List Int) (hb:lv.length<=4611686018427387904) (hN:lv.length < N) :
  bf N lv k0 lo k2 k3 k4 k5 k6 k7 k8=some (lv.filter fun a=>kn lo a):=by
 unfold bf bN;rw [tW,Option.bind_some];cases h:lv.findIdx? (fun a=>!kn lo a) with
 | none=>
  simp only [if_true];rw [List.filter_eq_self.2];intro a ha;have:=List.findIdx?_eq_none_iff.1 h a ha;simpa using this
 | some i=>
  obtain ⟨hi,h1,h2⟩:=List.findIdx?_eq_some_iff_getElem.1 h;simp only [Nat.zero_add];rw [if_neg (by omega),dY (n:=(i:Int)+1) (by omega) (by omega),show (i:Int)+1=((i+1:Nat):Int) from by omega];refine del_L1 N k0 lo k2 k3 k4 k5 k6 k7 k8 lv hb N i (i+1) lv (by omega) rfl rfl (by omega) ?_ (by omega);rw [List.take_succ_eq_append_getElem hi,List.filter_append,List.filter_eq_self.2]
  ·simp only [Bool.not_eq_true',Bool.not_eq_eq_eq_not,Bool.not_true] at h1;simp [List.filter_cons,h1]
  ·intro a ha;obtain ⟨k,hk⟩:=List.mem_iff_getElem?.1 ha;have hki:k < i:=by
    have:=(List.getElem?_eq_some_iff.1 hk).1;simp at this; omega
   rw [List.getElem?_take_of_lt hki] at hk;have:=h2 k hki;rw [(List.getElem?_eq_some_iff.1 hk).2] at this;simpa using this
def pA:List Answer->Int->Nat
 | [],_=>0
 | x::xs,n=>if x.Seq < n then pA xs n+1 else 0
theorem pA_le:∀ (w:List Answer) (n:Int),pA w n<=w.length
 | [],_=>Nat.le_refl _
 | x::xs,n=>by
  have:=pA_le xs n;simp only [pA]; split<;>simp<;>omega
def insA (l:List Answer) (a:Answer):List Answer:=l.take (pA l a.Seq)++[a]++l.drop (pA l a.Seq)
theorem Am (x:Answer) (xs:List Answer) (a:Answer):insA (x::xs) a=if x.Seq < a.Seq then x::insA xs a else a::x::xs:=by
 simp only [insA,pA];split<;>simp
theorem fin_L1 (kx:Int->Option (List Client × Int)) (r:Reply):∀ (xs:List Answer) (v:Nat),gj kx r xs v ()=kx (((v+pA xs r.Seq:Nat)):Int)
 | [],v=>rfl
 | x::xs,v=>by
  simp only [gj,pA,fin_L1 kx r xs (v+1)];split
  ·congr 2; omega
  ·simp
theorem vK (N:Nat) {l:List Answer} (hl:l.length<=40) {i:Nat} (h:i<=l.length) (a:Answer):eB N l ((i:Nat):Int) [a]=some (l.take i++[a]++l.drop i):=by
 simp only [eB];rw [uN h (by omega)]
def finC (c:Client) (r:Reply):Client:=Client.mk c.Name c.Low (c.Open.filter fun a=>kn r.Seq a) (insA c.Done (Answer.mk r.Seq r))
def finT (t:List Client) (r:Reply):List Client × Int:=
 if repB r=true then
  (if statT t r.Client_ r.Seq=1 then (match cliOf t r.Client_ with
   | some c=>(putT t (finC c r),0)
   | none=>([],6)) else ([],6))
 else ([],1)
theorem fin_eq (N:Nat) (hN:1000<=N) {t:List Client} (h:VT t) (r:Reply):fw N t r=some (finT t r):=by
 simp only [fw,h.valid,lX,Option.bind_some,if_true,finT,jM];cases hr:repB r with
 | false=>simp
 | true=>
 simp only [Bool.not_true,Bool.false_eq_true,if_false,if_true,rA N h,Option.bind_some];by_cases h1:statT t r.Client_ r.Seq=1
 ·rw [if_pos h1,if_pos h1];have hat:=kT h.so r.Client_;simp only [jR,qT N h,uE N (by omega) h,Option.bind_some];cases hh:hasN t r.Client_ with
  | false=>
   rw [hh,if_neg (by simp)] at hat;simp [statT,hat] at h1
  | true=>
   rw [hh,if_pos rfl] at hat;cases hc:t[plc t r.Client_]? with
   | none=>unfold hasN at hh; rw [hc] at hh; cases hh
   | some c=>
    have hv:=h.cl c (List.mem_of_getElem? hc);have hl:=hv.ln;rw [hc] at hat;obtain ⟨_,hnm⟩:=eV hat;have hp:=rv hr;rw [gx_of hc,hat,del_V N _ _ _ _ _ _ _ _ _ c.Open (by omega) (by omega),Option.bind_some,fin_L1];simp only [lC,mZ N hp.1 (show r.Value_.I.length<=1000 by omega) (show r.Value_.L.length<=1000 by omega),Option.bind_some,Nat.zero_add];rw [vK N (by omega) (pA_le _ _)];simp only [Option.bind_some,Int.toNat_natCast];rw [uy (c:=c) (d:=finC c r) h.so (by show cliOf t c.Name=_; rw [hnm]; exact hat)];simp only [finC,insA,hnm]
 ·rw [if_neg h1,if_neg h1]
end Go.Proofs.Yteldkhmcgloafaa

namespace Go.Proofs.Yteldkhmcgloafaa
open Go Go.Proofs Go.Abs
theorem CB:kD 1000=some true:=by decide +kernel
end Go.Proofs.Yteldkhmcgloafaa

namespace Go.Proofs.Yteldkhmcgloafaa
open Go Go.Proofs Go.Abs
theorem sEq_ne {a b:ByteArray} (h:a≠b):sEq a b=false:=by
 cases e:sEq a b with
 | false=>rfl
 | true=>exact absurd (p8.1 e) h
theorem lt_ne {a b:ByteArray} (h:sLt a b=true):a≠b:=by rintro rfl; rw [jv] at h; cases h
theorem oE:∀ {t:List Client} (hp:So t) (c x:Client),x∈putT t c↔x=c∨(x∈t/\x.Name≠c.Name)
 | [],_,c,x=>by simp [putT,plc,hasN]
 | y::ys,hp,c,x=>by
  have hp':=List.pairwise_cons.1 hp;rw [vo];rcases y9 y.Name c.Name with h|h|h
  ·rw [if_pos h];have hne:=lt_ne h;simp only [List.mem_cons,oE hp'.2 c x];constructor
   ·rintro (rfl|rfl|⟨h1,h2⟩)
    ·exact .inr ⟨.inl rfl,hne⟩
    ·exact .inl rfl
    ·exact .inr ⟨.inr h1,h2⟩
   ·rintro (rfl|⟨rfl|h1,h2⟩)
    ·exact .inr (.inl rfl)
    ·exact .inl rfl
    ·exact .inr (.inr ⟨h1,h2⟩)
  ·rw [if_neg (by rw [h,jv]; simp),if_pos (by rw [h,oO])];simp only [List.mem_cons];constructor
   ·rintro (rfl|h1)
    ·exact .inl rfl
    ·exact .inr ⟨.inr h1,fun e=>by have:=hp'.1 x h1; rw [e,h,jv] at this; cases this⟩
   ·rintro (rfl|⟨rfl|h1,h2⟩)
    ·exact .inl rfl
    ·exact absurd h h2
    ·exact .inr h1
  ·rw [if_neg (by rw [u4 h]; simp),if_neg (by rw [sEq_ne (lt_ne h).symm]; simp)];simp only [List.mem_cons];constructor
   ·rintro (rfl|rfl|h1)
    ·exact .inl rfl
    ·exact .inr ⟨.inl rfl,(lt_ne h).symm⟩
    ·exact .inr ⟨.inr h1,fun e=>by have:=mI h (hp'.1 x h1); rw [e,jv] at this; cases this⟩
   ·rintro (rfl|⟨rfl|h1,h2⟩)
    ·exact .inl rfl
    ·exact .inr (.inl rfl)
    ·exact .inr (.inr h1)
theorem put_so:∀ {t:List Client} (hp:So t) (c:Client),So (putT t c)
 | [],_,c=>by simp [putT,plc,hasN,So]
 | y::ys,hp,c=>by
  have hp':=List.pairwise_cons.1 hp;rw [vo];rcases y9 y.Name c.Name with h|h|h
  ·rw [if_pos h];refine List.pairwise_cons.2 ⟨fun x hx=>?_,put_so hp'.2 c⟩;rcases (oE hp'.2 c x).1 hx with rfl|⟨h1,_⟩
   ·exact h
   ·exact hp'.1 x h1
  ·rw [if_neg (by rw [h,jv]; simp),if_pos (by rw [h,oO])];exact List.pairwise_cons.2 ⟨fun x hx=>by rw [<-h]; exact hp'.1 x hx,hp'.2⟩
  ·rw [if_neg (by rw [u4 h]; simp),if_neg (by rw [sEq_ne (lt_ne h).symm]; simp)];refine List.pairwise_cons.2 ⟨fun x hx=>?_,hp⟩;rcases List.mem_cons.1 hx with rfl|hx
   ·exact h
   ·exact mI h (hp'.1 x hx)
theorem CK {t:List Client} (hp:So t) (c:Client):(putT t c).length=if (cliOf t c.Name).isSome=true then t.length else t.length+1:=by
 rw [kT hp];have:=plc_le t c.Name;unfold putT;cases h:hasN t c.Name with
 | true=>
  have hl:plc t c.Name < t.length:=by
   rcases Nat.lt_or_ge (plc t c.Name) t.length with q|q
   ·exact q
   ·unfold hasN at h; rw [List.getElem?_eq_none_iff.2 q] at h; cases h
  rw [if_pos rfl,if_pos rfl,List.getElem?_eq_getElem hl];simp;omega
 | false=>
  simp;omega
theorem sn {t:List Client} (hp:So t) {k:ByteArray} {c:Client}:cliOf t k=some c↔c∈t/\c.Name=k:=by
 constructor
 ·exact eV
 ·rintro ⟨h,rfl⟩; exact AR hp h
theorem jr {t:List Client} (hp:So t) (c:Client) (k:ByteArray):cliOf (putT t c) k=if k=c.Name then some c else cliOf t k:=by
 by_cases e:k=c.Name
 ·rw [if_pos e,sn (put_so hp c)];exact ⟨(oE hp c c).2 (.inl rfl),e.symm⟩
 ·rw [if_neg e];cases h:cliOf t k with
  | some d=>
   obtain ⟨h1,h2⟩:=eV h;rw [sn (put_so hp c)];exact ⟨(oE hp c d).2 (.inr ⟨h1,by rw [h2]; exact e⟩),h2⟩
  | none=>
   cases h':cliOf (putT t c) k with
   | none=>rfl
   | some d=>
    exfalso;obtain ⟨h1,h2⟩:=eV h';rcases (oE hp c d).1 h1 with rfl|⟨h3,_⟩
    ·exact e h2.symm
    ·have:=(sn hp).2 ⟨h3,h2⟩;rw [h] at this; cases this
theorem VT.put {t:List Client} (h:VT t) {c:Client} (hc:VC c) (hl:(cliOf t c.Name).isSome=true∨t.length < 32):VT (putT t c):=by
 refine ⟨?_,fun x hx=>?_,put_so h.so c⟩
 ·rw [CK h.so];have:=h.len;split
  ·exact this
  ·rename_i q;rcases hl with hl|hl
   ·exact absurd hl q
   ·omega
 ·rcases (oE h.so c x).1 hx with rfl|⟨h1,_⟩
  ·exact hc
  ·exact h.cl x h1
theorem ld {c:Client}:∀ {l:List Answer} {last:Int},ansB c last l=true↔(l.Pairwise (fun a b=>a.Seq < b.Seq)/\∀ a∈l,last < a.Seq/\a.Seq∉c.Open/\repB a.Reply_=true/\a.Reply_.Client_=c.Name/\a.Reply_.Seq=a.Seq)
 | [],last=>by simp [ansB]
 | x::xs,last=>by
  simp only [ansB,Bool.and_eq_true,decide_eq_true_eq,Bool.not_eq_true',decide_eq_false_iff_not,p8,ld (l:=xs) (last:=x.Seq),List.pairwise_cons];constructor
  ·rintro ⟨h1,h2,h3,h4,h5,h6,h7⟩;refine ⟨⟨fun a ha=>(h7 a ha).1,h6⟩,fun a ha=>?_⟩;rcases List.mem_cons.1 ha with rfl|ha
   ·exact ⟨h1,h2,h3,h4,h5⟩
   ·have:=h7 a ha; exact ⟨by omega,this.2⟩
  ·rintro ⟨⟨h1,h2⟩,h3⟩;have:=h3 x (by simp);exact ⟨this.1,this.2.1,this.2.2.1,this.2.2.2.1,this.2.2.2.2,h2,fun a ha=>⟨h1 a ha,(h3 a (by simp [ha])).2⟩⟩
theorem oR {l:List Int} {n x:Int}:x∈insI l n↔x=n∨x∈l:=by
 have:x∈l↔x∈l.take (pz l n)∨x∈l.drop (pz l n):=by rw [<-List.mem_append,List.take_append_drop]
 simp only [insI,List.mem_append,List.mem_singleton,this];constructor
 ·rintro ((h|h)|h)
  ·exact .inr (.inl h)
  ·exact .inl h
  ·exact .inr (.inr h)
 ·rintro (h|h|h)
  ·exact .inl (.inr h)
  ·exact .inl (.inl h)
  ·exact .inr h
theorem sL:∀ {l:List Int} {n:Int},l.Pairwise (· < ·)->n∉l->(insI l n).Pairwise (· < ·)
 | [],n,_,_=>by simp [Bl]
 | x::xs,n,hs,hn=>by
  have hs':=List.pairwise_cons.1 hs;simp only [List.mem_cons,not_or] at hn;rw [An];split
  ·rename_i h;refine List.pairwise_cons.2 ⟨fun y hy=>?_,sL hs'.2 hn.2⟩;rcases oR.1 hy with rfl|hy
   ·exact h
   ·exact hs'.1 y hy
  ·rename_i h;refine List.pairwise_cons.2 ⟨fun y hy=>?_,hs⟩;rcases List.mem_cons.1 hy with rfl|hy
   ·omega
   ·have:=hs'.1 y hy; omega
theorem BH (l:List Int) (n:Int):(insI l n).length=l.length+1:=by
 have:=pz_le l n;simp only [insI,List.length_append,List.length_take,List.length_drop,List.length_cons,List.length_nil]; omega
theorem oG {n:Int}:numB n=true↔1<=n/\n<=1099511627776:=by simp [numB]
theorem tH {c:Client} {n:Int} (h3:statC c n≠3) (h1:statC c n≠1) (h2:statC c n≠2):c.Low < n/\n∉c.Open/\∀ a∈c.Done,a.Seq≠n:=by
 unfold statC at *;by_cases q1:n<=c.Low
 ·simp [q1] at h3
 ·by_cases q2:n∈c.Open
  ·simp [q1,q2] at h1
  ·simp only [q1,q2,if_false] at h2;refine ⟨by omega,q2,fun a ha e=>?_⟩;cases h:ansOf c n with
   | some b=>rw [h] at h2; simp at h2
   | none=>
    have:=List.find?_eq_none.1 h a ha;simp [e] at this
theorem VC.opened {c:Client} (h:VC c) {n:Int} (hn:numB n=true) (h3:statC c n≠3) (h1:statC c n≠1) (h2:statC c n≠2) (hl:c.Open.length+c.Done.length≠16):VC (Client.mk c.Name c.Low (insI c.Open n) c.Done):=by
 obtain ⟨q1,q2,q3⟩:=tH h3 h1 h2;have hn':=oG.1 hn;have ha:=ll.1 h.op;have hd:=ld.1 h.dn;refine ⟨h.nm,h.lo,h.hi,?_,ll.2 ⟨sL ha.1 q2,fun x hx=>?_⟩,ld.2 ⟨hd.1,fun a ha'=>?_⟩⟩
 ·have:=h.ln;show (insI c.Open n).length+c.Done.length<=16;rw [BH]; omega
 ·rcases oR.1 hx with rfl|hx
  ·exact ⟨q1,hn'.2⟩
  ·exact ha.2 x hx
 ·have:=hd.2 a ha';refine ⟨this.1,fun hm=>?_,this.2.2⟩;rcases oR.1 hm with e|hm
  ·exact q3 a ha' e
  ·exact this.2.1 hm
theorem VC.new {k:ByteArray} (hk:nameB k=true) {n:Int} (hn:numB n=true):VC (Client.mk k 0 [n] []):=by
 have:=oG.1 hn;refine ⟨hk,by simp,by simp,by simp,?_,rfl⟩;simp [ascB]; omega
theorem VC.acked {c:Client} (h:VC c) {u:Int} (hu:numB u=true) (ho:¬ ∃ x,c.Open.head?=some x/\x<=u) :
  VC (Client.mk c.Name (if u > c.Low then u else c.Low) c.Open (c.Done.filter fun a=>decide ((if u > c.Low then u else c.Low) < a.Seq))):=by
 have hu':=oG.1 hu;have ha:=ll.1 h.op;have hd:=ld.1 h.dn;have hlo:=h.lo;have hhi:=h.hi;have hgt:∀ x∈c.Open,u < x:=by
  intro x hx;cases hc:c.Open with
  | nil=>rw [hc] at hx; cases hx
  | cons y ys=>
   have hy:u < y:=by
    rcases Int.lt_or_le u y with q|q
    ·exact q
    ·exact absurd ⟨y,by rw [hc]; rfl,q⟩ ho
   rw [hc] at hx ha;rcases List.mem_cons.1 hx with rfl|hx
   ·exact hy
   ·have:=(List.pairwise_cons.1 ha.1).1 x hx; omega
 generalize hl:(if u > c.Low then u else c.Low)=lo;have hlo':c.Low<=lo/\lo<=1099511627776/\(lo=u∨lo=c.Low):=by
  by_cases q:u > c.Low
  ·rw [if_pos q] at hl; omega
  ·rw [if_neg q] at hl; omega
 refine ⟨h.nm,by show 0<=lo; omega,hlo'.2.1,?_,ll.2 ⟨ha.1,fun x hx=>?_⟩,ld.2 ⟨hd.1.sublist List.filter_sublist,fun a ha'=>?_⟩⟩
 ·have:=h.ln;have:=List.length_filter_le (fun a:Answer=>decide (lo < a.Seq)) c.Done;show c.Open.length+(c.Done.filter fun a=>decide (lo < a.Seq)).length<=16;omega
 ·have h1:=ha.2 x hx;have h2:=hgt x hx;exact ⟨by show lo < x; rcases hlo'.2.2 with e|e<;>omega,h1.2⟩
 ·obtain ⟨h1,h2⟩:=List.mem_filter.1 ha';have:=hd.2 a h1;exact ⟨by simpa using h2,this.2⟩
theorem rY {t:List Client} (hp:So t) {c:Client} {k:ByteArray} (h:k≠c.Name) (n:Int):statT (putT t c) k n=statT t k n/\repT (putT t c) k n=repT t k n:=by
 simp only [statT,repT,jr hp,if_neg h,and_self]
theorem tj {t:List Client} (h:VT t) (k b:ByteArray) (n o:Int) (hb:k≠b) (he:(openT t k n).2=0):VT (openT t k n).1/\statT (openT t k n).1 b o=statT t b o/\repT (openT t k n).1 b o=repT t b o:=by
 unfold openT at *;by_cases hq:nameB k=true/\numB n=true
 ·rw [if_pos hq] at he ⊢;by_cases h3:statT t k n=3
  ·rw [if_pos h3] at he; cases he
  ·rw [if_neg h3] at he ⊢;by_cases h12:statT t k n=1∨statT t k n=2
   ·rw [if_pos h12] at he; cases he
   ·rw [if_neg h12] at he ⊢;rw [not_or] at h12;cases hc:cliOf t k with
    | some c=>
     rw [hc] at he;obtain ⟨hm,rfl⟩:=eV hc;have hst:∀ n,statT t c.Name n=statC c n:=fun n=>by simp [statT,hc]
     rw [hst] at h3 h12;by_cases h16:c.Open.length+c.Done.length=16
     ·simp [h16] at he
     ·simp only [h16,if_false];have hv:=(h.cl c hm).opened hq.2 h3 h12.1 h12.2 h16;exact ⟨h.put hv (.inl (by show (cliOf t c.Name).isSome=true; rw [hc]; rfl)),rY h.so (c:=Client.mk c.Name c.Low (insI c.Open n) c.Done) (by exact hb.symm) o⟩
    | none=>
     rw [hc] at he;by_cases h32:t.length=32
     ·simp [h32] at he
     ·simp only [h32,if_false];have hlen:=h.len;exact ⟨h.put (VC.new hq.1 hq.2) (.inr (by omega)),rY h.so (c:=Client.mk k 0 [n] []) (by exact hb.symm) o⟩
 ·rw [if_neg hq] at he; cases he
theorem u7 {t:List Client} (h:VT t) (k b:ByteArray) (n o:Int) (hb:k≠b) (he:(ackT t k n).2=0):VT (ackT t k n).1/\statT (ackT t k n).1 b o=statT t b o/\repT (ackT t k n).1 b o=repT t b o:=by
 unfold ackT at *;by_cases hq:nameB k=true/\numB n=true
 ·rw [if_pos hq] at he ⊢;cases hc:cliOf t k with
  | some c=>
   rw [hc] at he;obtain ⟨hm,rfl⟩:=eV hc;by_cases ho:∃ x,c.Open.head?=some x/\x<=n
   ·simp only [if_pos ho] at he; cases he
   ·simp only [if_neg ho];have hv:=(h.cl c hm).acked hq.2 ho;exact ⟨h.put hv (.inl (by show (cliOf t c.Name).isSome=true; rw [hc]; rfl)),rY h.so (c:=Client.mk c.Name (if n > c.Low then n else c.Low) c.Open (c.Done.filter fun a=>decide ((if n > c.Low then n else c.Low) < a.Seq))) (by exact hb.symm) o⟩
  | none=>rw [hc] at he; cases he
 ·rw [if_neg hq] at he; cases he
end Go.Proofs.Yteldkhmcgloafaa

namespace Go.Proofs.Yteldkhmcgloafaa
open Go Go.Proofs Go.Abs
theorem qL {l:List Answer} {n x:Answer}:x∈insA l n↔x=n∨x∈l:=by
 have:x∈l↔x∈l.take (pA l n.Seq)∨x∈l.drop (pA l n.Seq):=by rw [<-List.mem_append,List.take_append_drop]
 simp only [insA,List.mem_append,List.mem_singleton,this];constructor
 ·rintro ((h|h)|h)
  ·exact .inr (.inl h)
  ·exact .inl h
  ·exact .inr (.inr h)
 ·rintro (h|h|h)
  ·exact .inl (.inr h)
  ·exact .inl (.inl h)
  ·exact .inr h
theorem sX:∀ {l:List Answer} {n:Answer},l.Pairwise (fun a b=>a.Seq < b.Seq)->(∀ a∈l,a.Seq≠n.Seq)->(insA l n).Pairwise (fun a b=>a.Seq < b.Seq)
 | [],n,_,_=>by simp [insA,pA]
 | x::xs,n,hs,hn=>by
  have hs':=List.pairwise_cons.1 hs;have hx:=hn x (by simp);rw [Am];split
  ·rename_i h;refine List.pairwise_cons.2 ⟨fun y hy=>?_,sX hs'.2 (fun a ha=>hn a (by simp [ha]))⟩;rcases qL.1 hy with rfl|hy
   ·exact h
   ·exact hs'.1 y hy
  ·rename_i h;refine List.pairwise_cons.2 ⟨fun y hy=>?_,hs⟩;rcases List.mem_cons.1 hy with rfl|hy
   ·omega
   ·have:=hs'.1 y hy; omega
theorem BV (l:List Answer) (a:Answer):(insA l a).length=l.length+1:=by
 have:=pA_le l a.Seq;simp only [insA,List.length_append,List.length_take,List.length_drop,List.length_cons,List.length_nil]; omega
theorem VC.finished {c:Client} (h:VC c) {r:Reply} (hr:repB r=true) (hn:r.Client_=c.Name) (ho:r.Seq∈c.Open):VC (finC c r):=by
 have ha:=ll.1 h.op;have hd:=ld.1 h.dn;have hne:∀ a∈c.Done,a.Seq≠r.Seq:=fun a ha' e=>(hd.2 a ha').2.1 (e ▸ ho);have hlt:(c.Open.filter fun a=>kn r.Seq a).length < c.Open.length:=List.length_filter_lt_length_iff_exists.2 ⟨r.Seq,ho,by simp [kn]⟩;refine ⟨h.nm,h.lo,h.hi,?_,ll.2 ⟨ha.1.sublist List.filter_sublist,fun x hx=>ha.2 x (List.mem_filter.1 hx).1⟩,ld.2 ⟨sX hd.1 hne,fun a ha'=>?_⟩⟩
 ·have:=h.ln;show (c.Open.filter fun a=>kn r.Seq a).length+(insA c.Done (Answer.mk r.Seq r)).length<=16;rw [BV]; omega
 ·rcases qL.1 ha' with rfl|ha'
  ·refine ⟨(ha.2 _ ho).1,fun hm=>?_,hr,hn,rfl⟩;have:=(List.mem_filter.1 hm).2;simp [kn] at this
  ·have:=hd.2 a ha';exact ⟨this.1,fun hm=>this.2.1 (List.mem_filter.1 hm).1,this.2.2⟩
theorem nil_vt:VT []:=⟨by simp,by simp,by simp [So]⟩
def Op (f:Int) (j m:Nat):List Int:=(List.range' j m).map fun (k:Nat)=>f+(k:Int)
end Go.Proofs.Yteldkhmcgloafaa

namespace Go.Proofs.Yteldkhmcgloafaa
open Go Go.Proofs Go.Abs
theorem yi (c:Client) (n:Int):statC c n=0∨statC c n=1∨statC c n=2∨statC c n=3:=by
 unfold statC; split
 ·simp
 ·split
  ·simp
  ·split<;>simp
theorem ya (t:List Client) (k:ByteArray) (n:Int):statT t k n=0∨statT t k n=1∨statT t k n=2∨statT t k n=3:=by
 unfold statT; split
 ·exact yi _ _
 ·simp
theorem zz {t:List Client} (h:VT t) {k:ByteArray} {n:Int} (he:(openT t k n).2=0) :
  statT t k n=0/\VT (openT t k n).1/\statT (openT t k n).1 k n=1/\∀ o,1<=o->o≠n->statT (openT t k n).1 k o=statT t k o/\repT (openT t k n).1 k o=repT t k o:=by
 unfold openT at *;by_cases hq:nameB k=true/\numB n=true
 ·rw [if_pos hq] at he ⊢;have hn:=oG.1 hq.2;by_cases h3:statT t k n=3
  ·rw [if_pos h3] at he; cases he
  ·rw [if_neg h3] at he ⊢;by_cases h12:statT t k n=1∨statT t k n=2
   ·rw [if_pos h12] at he; cases he
   ·rw [if_neg h12] at he ⊢;rw [not_or] at h12;refine ⟨by rcases ya t k n with e|e|e|e<;>simp_all,?_⟩
    cases hc:cliOf t k with
    | some c=>
     rw [hc] at he;obtain ⟨hm,rfl⟩:=eV hc;have hst:∀ n,statT t c.Name n=statC c n:=fun n=>by simp [statT,hc]
     have hrp:∀ n,repT t c.Name n=repC c n:=fun n=>by simp [repT,hc]
     rw [hst] at h3 h12;by_cases h16:c.Open.length+c.Done.length=16
     ·simp [h16] at he
     ·simp only [h16,if_false];have hv:=(h.cl c hm).opened hq.2 h3 h12.1 h12.2 h16;refine ⟨h.put hv (.inl (by show (cliOf t c.Name).isSome=true; rw [hc]; rfl)),?_,fun o ho hne=>?_⟩
      ·have:=tH h3 h12.1 h12.2;simp only [statT,jr h.so,if_true];unfold statC;rw [if_neg (by show ¬ n<=c.Low; omega),if_pos (oR.2 (.inl rfl))]
      ·have hin:o∈insI c.Open n↔o∈c.Open:=by rw [oR]; simp [hne]
       rw [hst,hrp];simp only [statT,repT,jr h.so,if_true,statC,repC,hin,ansOf];exact ⟨rfl,trivial⟩
    | none=>
     rw [hc] at he;by_cases h32:t.length=32
     ·simp [h32] at he
     ·simp only [h32,if_false];have hlen:=h.len;refine ⟨h.put (VC.new hq.1 hq.2) (.inr (by omega)),?_,fun o ho hne=>?_⟩
      ·simp only [statT,jr h.so,if_true,statC,List.mem_singleton];rw [if_neg (by omega)]
      ·have ho':¬ o<=0:=by omega
       simp only [statT,repT,jr h.so,if_true,hc,statC,repC,ansOf,List.mem_singleton,hne,if_false,List.find?_nil,ho'];simp
 ·rw [if_neg hq] at he; cases he
theorem A3 {l:List Answer} {a:Answer} {p:Answer->Bool} (h:p a=false):(insA l a).find? p=l.find? p:=by
 have:l.find? p=(l.take (pA l a.Seq)++l.drop (pA l a.Seq)).find? p:=by rw [List.take_append_drop]
 rw [this,insA,List.find?_append,List.find?_append,List.find?_append];simp [h]
theorem ve {t:List Client} (h:VT t) {r:Reply} (hr:repB r=true) :
  ((finT t r).2=0↔statT t r.Client_ r.Seq=1)/\(statT t r.Client_ r.Seq=1->VT (finT t r).1/\statT (finT t r).1 r.Client_ r.Seq=2/\repT (finT t r).1 r.Client_ r.Seq=r ∧
   (∀ o,o≠r.Seq->statT (finT t r).1 r.Client_ o=statT t r.Client_ o/\repT (finT t r).1 r.Client_ o=repT t r.Client_ o) ∧
   ∀ b o,b≠r.Client_->statT (finT t r).1 b o=statT t b o/\repT (finT t r).1 b o=repT t b o):=by
 unfold finT;rw [if_pos hr];by_cases h1:statT t r.Client_ r.Seq=1
 ·rw [if_pos h1];cases hc:cliOf t r.Client_ with
  | none=>simp [statT,hc] at h1
  | some c=>
   obtain ⟨hm,hnm⟩:=eV hc;have hst:∀ n,statT t r.Client_ n=statC c n:=fun n=>by simp [statT,hc]
   have hrp:∀ n,repT t r.Client_ n=repC c n:=fun n=>by simp [repT,hc]
   have hvc:=h.cl c hm;have hs1:=h1;rw [hst] at hs1;have hlow:¬ r.Seq<=c.Low:=fun q=>by rw [statC,if_pos q] at hs1; cases hs1
   have hop:r.Seq∈c.Open:=by
    rcases Classical.em (r.Seq∈c.Open) with q|q
    ·exact q
    ·rw [statC,if_neg hlow,if_neg q] at hs1; split at hs1<;>cases hs1
   have hd:=ld.1 hvc.dn;have hne:∀ a∈c.Done,a.Seq≠r.Seq:=fun a ha' e=>(hd.2 a ha').2.1 (e ▸ hop);have hvn:=hvc.finished hr hnm.symm hop;have hfn:(finC c r).Name=r.Client_:=hnm;have hcl:∀ k,cliOf (putT t (finC c r)) k=if k=r.Client_ then some (finC c r) else cliOf t k:=fun k=>by rw [jr h.so,hfn]
   have hans:ansOf (finC c r) r.Seq=some (Answer.mk r.Seq r):=by
    have hmem:Answer.mk r.Seq r∈(finC c r).Done:=qL.2 (.inl rfl);cases hf:ansOf (finC c r) r.Seq with
    | none=>have:=List.find?_eq_none.1 hf _ hmem; simp at this
    | some a=>
     have ha:=List.mem_of_find?_eq_some hf;have hp:=List.find?_some hf;simp only [decide_eq_true_eq] at hp;rcases qL.1 ha with rfl|ha
     ·rfl
     ·exact absurd hp (hne a ha)
   have hnin:r.Seq∉(finC c r).Open:=fun q=>by have:=(List.mem_filter.1 q).2; simp [kn] at this
   refine ⟨by simp [h1],fun _=>⟨h.put hvn (.inl (by rw [hfn,hc]; rfl)),?_,?_,fun o ho=>?_,fun b o hb=>?_⟩⟩
   ·simp only [statT,hcl,if_true,statC];rw [if_neg (show ¬ r.Seq<=(finC c r).Low from hlow),if_neg hnin,hans]; rfl
   ·simp only [repT,hcl,if_true,repC];rw [if_neg (show ¬ r.Seq<=(finC c r).Low from hlow),if_neg hnin,hans]
   ·have hin:o∈(finC c r).Open↔o∈c.Open:=by
     simp only [finC,List.mem_filter,kn]; simp [ho]
    have han:ansOf (finC c r) o=ansOf c o:=A3 (by simpa using fun q:r.Seq=o=>ho q.symm);rw [hst,hrp];simp only [statT,repT,hcl,if_true,statC,repC,hin,han];exact ⟨rfl,rfl⟩
   ·simp only [statT,repT,hcl,if_neg hb]; exact ⟨trivial,trivial⟩
 ·rw [if_neg h1]; simp [h1]
theorem Ac {t:List Client} (h:VT t) {k:ByteArray} {u:Int} (he:(ackT t k u).2=0) :
  VT (ackT t k u).1/\(∀ o,o<=u->statT (ackT t k u).1 k o=3)/\(∀ o,u < o->statT (ackT t k u).1 k o=statT t k o/\repT (ackT t k u).1 k o=repT t k o):=by
 unfold ackT at *;by_cases hq:nameB k=true/\numB u=true
 ·rw [if_pos hq] at he ⊢;cases hc:cliOf t k with
  | some c=>
   rw [hc] at he;obtain ⟨hm,rfl⟩:=eV hc;by_cases ho:∃ x,c.Open.head?=some x/\x<=u
   ·simp only [if_pos ho] at he; cases he
   ·simp only [if_neg ho];have hv:=(h.cl c hm).acked hq.2 ho;have hst:∀ n,statT t c.Name n=statC c n:=fun n=>by simp [statT,hc]
    have hrp:∀ n,repT t c.Name n=repC c n:=fun n=>by simp [repT,hc]
    refine ⟨h.put hv (.inl (by show (cliOf t c.Name).isSome=true; rw [hc]; rfl)),fun o hou=>?_,fun o hou=>?_⟩
    ·simp only [statT,jr h.so,if_true,statC];rw [if_pos (by split<;>omega)]
    ·have hlow:(o<=if u > c.Low then u else c.Low)↔o<=c.Low:=by split<;>omega
     rw [hst,hrp];simp only [statT,repT,jr h.so,if_true,statC,repC,hlow,ansOf];by_cases hl:o<=c.Low
     ·simp only [if_pos hl]; exact ⟨trivial,trivial⟩
     ·have:(c.Done.filter fun a=>decide ((if u > c.Low then u else c.Low) < a.Seq)).find? (fun a=>decide (a.Seq=o))=c.Done.find? (fun a=>decide (a.Seq=o)):=by
       rw [List.find?_filter]
       congr 1
       funext a
       by_cases e:a.Seq=o
       ·have:(if u > c.Low then u else c.Low) < a.Seq:=by split<;>omega
        simp [this]
       ·simp [e]
      simp only [if_neg hl,this];exact ⟨rfl,trivial⟩
  | none=>rw [hc] at he; cases he
 ·rw [if_neg hq] at he; cases he
theorem gN_at {α β:Type} {l:List α} {i:Nat} (d:α) {k:α->Option β} (h:i < l.length):gN l i k=k (l.getD i d):=by
 simp [gN,List.getElem?_eq_getElem h,List.getD]
theorem rng_in {β:Type} {v n:Int} {k:Option β} (h1:0<=v) (h2:v < n):rng v n k=k:=if_pos ⟨h1,h2⟩
theorem qo {α:Type} {l:List α} {i j:Nat} {x d:α} (h:i < l.length):(l.set i x).getD j d=if i=j then x else l.getD j d:=by
 simp only [List.getD,List.getElem?_set];by_cases e:i=j
 ·subst e; simp [h]
 ·simp [e]
def codeP (o f g:Bool):Int:=if g=true then 3 else if f=true then 2 else if o=true then 1 else 0
def nmC (c:Nat):ByteArray:=bstr [IntKind.u8.wrap (97+(IntKind.u8.wrap (c:Int)))]
theorem nmC_ok {c:Nat} (h:c < 3):nameB (nmC c)=true:=by
 rcases c with _|_|_|c
 ·decide
 ·decide
 ·decide
 ·omega
theorem oz {c d:Nat} (hc:c < 3) (hd:d < 3) (h:nmC c=nmC d):c=d:=by
 have:=congrArg (fun b=>b.data.toList) h;rcases c with _|_|_|c<;>rcases d with _|_|_|d<;>first|rfl|omega|(revert this; decide)
structure PI (l5 l6 l7:List Bool) (l8:List Int) (t:List Client):Prop where
 vt:VT t
 e5:l5.length=96
 e6:l6.length=96
 e7:l7.length=96
 e8:l8.length=96
 st:∀ c k:Nat,c < 3->1<=k->k<=31->statT t (nmC c) (k:Int)=codeP (l5.getD (c * 32+k) false) (l6.getD (c * 32+k) false) (l7.getD (c * 32+k) false)
 vl:∀ c k:Nat,c < 3->1<=k->k<=31->statT t (nmC c) (k:Int)=2->(repT t (nmC c) (k:Int)).Value_.N=l8.getD (c * 32+k) 0
structure ActW (x:aa) (c k:Nat):Prop where
 hc:IntKind.i64.wrap (Int.tmod x.Client_ 3)=(c:Int)
 c3:c < 3
 hk:IntKind.i64.wrap (1+(IntKind.i64.wrap (Int.tmod x.Seq 31)))=(k:Int)
 k1:1<=k
 k2:k<=31
theorem ActW.of {x:aa} (h:(0<=x.Client_/\x.Client_<=255)/\(0<=x.Seq/\x.Seq<=255)):∃ c k:Nat,ActW x c k:=by
 refine ⟨(x.Client_ % 3).toNat,(1+x.Seq % 31).toNat,?_,by omega,?_,by omega,by omega⟩
 ·rw [Int.tmod_eq_emod_of_nonneg h.1.1,w64 (by omega) (by omega)]; omega
 ·rw [Int.tmod_eq_emod_of_nonneg h.2.1,w64 (n:=x.Seq % 31) (by omega) (by omega),w64 (by omega) (by omega)]; omega
theorem ck_lt {c k:Nat} (h:c < 3) (hk:k<=31):c * 32+k < 96:=by omega
theorem J10_ok {x:aa} {c k:Nat} (hx:ActW x c k) {l5 l6 l7:List Bool} {l8:List Int} {t:List Client} (h:PI l5 l6 l7 l8 t) {rec:(List Bool × List Bool × List Bool × List Int × List Client)->Option Bool} (hr:rec (l5,l6,l7,l8,t)=some true) :
  eh 1000 x l6 l7 l8 rec l5 t=some true:=by
 have hlt:=ck_lt hx.c3 hx.k2;have hst:=h.st c k hx.c3 hx.k1 hx.k2;have hvl:=h.vl c k hx.c3 hx.k1 hx.k2;have r1:∀ {β:Type} (q:Option β),rng ((c:Nat):Int) 3 q=q:=fun q=>rng_in (by omega) (by have:=hx.c3; omega);have r2:∀ {β:Type} (q:Option β),rng ((k:Nat):Int) 32 q=q:=fun q=>rng_in (by omega) (by have:=hx.k2; omega);have g5:∀ q:Bool->Option Bool,gN l5 (c * 32+k) q=q (l5.getD (c * 32+k) false):=fun q=>gN_at false (by rw [h.e5]; exact hlt);have g6:∀ q:Bool->Option Bool,gN l6 (c * 32+k) q=q (l6.getD (c * 32+k) false):=fun q=>gN_at false (by rw [h.e6]; exact hlt);have g7:∀ q:Bool->Option Bool,gN l7 (c * 32+k) q=q (l7.getD (c * 32+k) false):=fun q=>gN_at false (by rw [h.e7]; exact hlt);have g8:∀ q:Int->Option Bool,gN l8 (c * 32+k) q=q (l8.getD (c * 32+k) 0):=fun q=>gN_at 0 (by rw [h.e8]; exact hlt);simp only [eh,dK,eY,dJ,hx.hc,hx.hk,Int.toNat_natCast,Nat.mul_one,r1,r2,g5,g6,g7,g8,h.vt.valid,Option.bind_some,if_true];rw [show bstr [IntKind.u8.wrap (97+(IntKind.u8.wrap (c:Int)))]=nmC c from rfl,BA 1000 h.vt,rA 1000 h.vt];simp only [Option.bind_some];revert hst hvl;generalize statT t (nmC c) (k:Int)=s;generalize (repT t (nmC c) (k:Int)).Value_.N=vv;generalize l5.getD (c * 32+k) false=o;generalize l6.getD (c * 32+k) false=f;generalize l7.getD (c * 32+k) false=g;generalize l8.getD (c * 32+k) 0=v;intro hst hvl;cases g<;>cases f<;>cases o<;>simp only [codeP,if_true,if_false,Bool.false_eq_true] at hst<;>subst hst<;>simp at hvl ⊢<;>first|exact hr|(rw [if_pos hvl]; exact hr)|(simp [hvl]; exact hr)
theorem qE {x:aa} {rec:(List Bool × List Bool × List Bool × List Int × List Client)->Option Bool} {t t':List Client} {l5 l6 l7:List Bool} {l8:List Int} {e:Int} :
  aR 1000 x rec t l5 l6 l7 l8 t' e=if e=0 then eh 1000 x l6 l7 l8 rec l5 t' else eh 1000 x l6 l7 l8 rec l5 t:=by
 rfl
theorem uw {c k d m:Nat} (h1:k<=31) (h2:m<=31):c * 32+k=d * 32+m↔c=d/\k=m:=by omega
theorem yY {c k:Nat} (hc:c < 3) (h1:1<=k) (h2:k<=31) (v:Int):repB (Reply.mk (nmC c) (k:Int) [] 0 (Value.mk 1 v (⟨#[]⟩) [] []))=true:=by
 have hv:valueB (Value.mk 1 v (⟨#[]⟩) [] [])=true:=by
  simp only [valueB];have:sEq (⟨#[]⟩:ByteArray) ⟨#[]⟩=true:=oO _;simp [this,strsB];decide
 simp only [repB,nmC_ok hc,hv,oG.2 (show 1<=(k:Int)/\(k:Int)<=1099511627776 by omega)];simp
theorem PI.opened {c k:Nat} (hc:c < 3) (h1:1<=k) (h2:k<=31) {l5 l6 l7:List Bool} {l8:List Int} {t:List Client} (h:PI l5 l6 l7 l8 t) (he:(openT t (nmC c) (k:Int)).2=0) :
  l5.getD (c * 32+k) false=false/\l7.getD (c * 32+k) false=false/\PI (l5.set (c * 32+k) true) l6 l7 l8 (openT t (nmC c) (k:Int)).1:=by
 obtain ⟨h0,hv,hs,ho⟩:=zz h.vt he;have hc0:=h.st c k hc h1 h2;rw [h0] at hc0;have hcells:l7.getD (c * 32+k) false=false/\l6.getD (c * 32+k) false=false/\l5.getD (c * 32+k) false=false:=by
  revert hc0;generalize l5.getD (c * 32+k) false=o;generalize l6.getD (c * 32+k) false=f;generalize l7.getD (c * 32+k) false=g;intro hc0;cases g<;>cases f<;>cases o<;>simp [codeP] at hc0 ⊢
 refine ⟨hcells.2.2,hcells.1,hv,by simp [h.e5],h.e6,h.e7,h.e8,fun d m hd m1 m2=>?_,fun d m hd m1 m2=>?_⟩
 ·rw [qo (by rw [h.e5]; exact ck_lt hc h2)];by_cases e:c * 32+k=d * 32+m
  ·obtain ⟨rfl,rfl⟩:=(uw h2 m2).1 e;rw [if_pos rfl,hs,hcells.1,hcells.2.1]; rfl
  ·rw [if_neg e];by_cases ed:d=c
   ·subst ed;rw [(ho (m:Int) (by omega) (fun q=>e (by omega))).1];exact h.st d m hd m1 m2
   ·rw [(tj h.vt (nmC c) (nmC d) (k:Int) (m:Int) (fun q=>ed (oz hc hd q).symm) he).2.1];exact h.st d m hd m1 m2
 ·by_cases ed:d=c
  ·subst ed;by_cases em:m=k
   ·subst em; rw [hs]; intro q; cases q
   ·rw [(ho (m:Int) (by omega) (by omega)).1,(ho (m:Int) (by omega) (by omega)).2];exact h.vl d m hd m1 m2
  ·have:=tj h.vt (nmC c) (nmC d) (k:Int) (m:Int) (fun q=>ed (oz hc hd q).symm) he;rw [this.2.1,this.2.2];exact h.vl d m hd m1 m2
theorem PI.finished {c k:Nat} (hc:c < 3) (h1:1<=k) (h2:k<=31) {l5 l6 l7:List Bool} {l8:List Int} {t:List Client} (h:PI l5 l6 l7 l8 t) (v:Int)
  (he:statT t (nmC c) (k:Int)=1):PI l5 (l6.set (c * 32+k) true) l7 (l8.set (c * 32+k) v) (finT t (Reply.mk (nmC c) (k:Int) [] 0 (Value.mk 1 v (⟨#[]⟩) [] []))).1:=by
 obtain ⟨hv,hs,hr,ho,hb⟩:=(ve h.vt (yY hc h1 h2 v)).2 he;have hc0:=h.st c k hc h1 h2;rw [he] at hc0;have hg:l7.getD (c * 32+k) false=false:=by
  revert hc0;generalize l7.getD (c * 32+k) false=g;intro hc0;cases g
  ·rfl
  ·simp [codeP] at hc0
 refine ⟨hv,h.e5,by simp [h.e6],h.e7,by simp [h.e8],fun d m hd m1 m2=>?_,fun d m hd m1 m2=>?_⟩
 ·rw [qo (by rw [h.e6]; exact ck_lt hc h2)];by_cases e:c * 32+k=d * 32+m
  ·obtain ⟨rfl,rfl⟩:=(uw h2 m2).1 e;rw [if_pos rfl,hg];exact hs
  ·rw [if_neg e];by_cases ed:d=c
   ·subst ed;have:=ho (m:Int) (show (m:Int)≠(k:Int) from fun q=>e (by omega));exact this.1.trans (h.st d m hd m1 m2)
   ·exact (hb (nmC d) (m:Int) (fun q=>ed (oz hd hc q))).1.trans (h.st d m hd m1 m2)
 ·rw [qo (by rw [h.e8]; exact ck_lt hc h2)];by_cases e:c * 32+k=d * 32+m
  ·obtain ⟨rfl,rfl⟩:=(uw h2 m2).1 e;rw [if_pos rfl];intro _;exact (congrArg (fun r:Reply=>r.Value_.N) hr)
  ·rw [if_neg e];by_cases ed:d=c
   ·subst ed;have:=ho (m:Int) (show (m:Int)≠(k:Int) from fun q=>e (by omega));intro q;have q':=this.1.symm.trans q;exact (congrArg (fun r:Reply=>r.Value_.N) this.2).trans (h.vl d m hd m1 m2 q')
   ·have:=hb (nmC d) (m:Int) (fun q=>ed (oz hd hc q));intro q;have q':=this.1.symm.trans q;exact (congrArg (fun r:Reply=>r.Value_.N) this.2).trans (h.vl d m hd m1 m2 q')
theorem PI.acked {c k:Nat} (hc:c < 3) (h1:1<=k) (h2:k<=31) {l5 l6 l7 l7':List Bool} {l8:List Int} {t:List Client} (h:PI l5 l6 l7 l8 t)
  (he:(ackT t (nmC c) (k:Int)).2=0) (hl:l7'.length=96) (hg:∀ j,l7'.getD j false=(l7.getD j false || decide (c * 32+1<=j/\j<=c * 32+k))):PI l5 l6 l7' l8 (ackT t (nmC c) (k:Int)).1:=by
 obtain ⟨hv,h3,ho⟩:=Ac h.vt he;refine ⟨hv,h.e5,h.e6,hl,h.e8,fun d m hd m1 m2=>?_,fun d m hd m1 m2=>?_⟩
 ·rw [hg];by_cases ed:d=c
  ·subst ed;by_cases em:m<=k
   ·rw [h3 (m:Int) (by omega)];have:decide (d * 32+1<=d * 32+m/\d * 32+m<=d * 32+k)=true:=by simp; omega
    rw [this,Bool.or_true]; rfl
   ·rw [(ho (m:Int) (by omega)).1];have:decide (d * 32+1<=d * 32+m/\d * 32+m<=d * 32+k)=false:=by simp; omega
    rw [this,Bool.or_false];exact h.st d m hd m1 m2
  ·rw [(u7 h.vt (nmC c) (nmC d) (k:Int) (m:Int) (fun q=>ed (oz hc hd q).symm) he).2.1];have:decide (c * 32+1<=d * 32+m/\d * 32+m<=c * 32+k)=false:=by simp; omega
   rw [this,Bool.or_false];exact h.st d m hd m1 m2
 ·by_cases ed:d=c
  ·subst ed;by_cases em:m<=k
   ·rw [h3 (m:Int) (by omega)]; intro q; cases q
   ·rw [(ho (m:Int) (by omega)).1,(ho (m:Int) (by omega)).2];exact h.vl d m hd m1 m2
  ·have:=u7 h.vt (nmC c) (nmC d) (k:Int) (m:Int) (fun q=>ed (oz hc hd q).symm) he;rw [this.2.1,this.2.2];exact h.vl d m hd m1 m2
theorem w4 {x:aa} {c k:Nat} (hx:ActW x c k) {l5 l6:List Bool} {l8:List Int} {r:List Client × Int} (he:r.2=0)
  (kx:(List Bool)->(List Bool)->(List Bool)->(List Int)->(List Client)->Int->Option (Bool)):∀ (n v:Nat) (l7:List Bool),l7.length=96->1<=v->v<=k+1->k+1 - v < n ->
  ∃ l7':List Bool,dt x kx l5 l6 l8 r n (l7,(v:Int))=kx l5 l6 l7' l8 r.1 r.2/\l7'.length=96/\∀ j,l7'.getD j false=(l7.getD j false || decide (c * 32+v<=j/\j<=c * 32+k))
 | 0,v,l7,_,_,_,h=>by omega
 | n+1,v,l7,hl,h1,hv,h=>by
  have hk:=hx.k2;have hc:=hx.c3;simp only [dt,fV,iS,hx.hk,hx.hc,Int.toNat_natCast,Nat.mul_one,he];by_cases hlt:v<=k
  ·rw [if_pos (by omega)];have hlt7:c * 32+v < l7.length:=by omega
   have hw:IntKind.i64.wrap ((v:Int)+1)=((v+1:Nat):Int):=by
    rw [w64 (n:=(v:Int)+1) (by omega) (by omega)]; omega
   simp only [decide_true,if_true];rw [rng_in (by omega) (by omega),rng_in (by omega) (by omega),gN_at false hlt7,hw];obtain ⟨l7',e1,e2,e3⟩:=w4 hx he kx n (v+1) (l7.set (c * 32+v) true) (by simp [hl]) (by omega) (by omega) (by omega);refine ⟨l7',by rw [e1,he],e2,fun j=>?_⟩;rw [e3,qo hlt7];by_cases ej:c * 32+v=j
   ·subst ej;have:decide (c * 32+v<=c * 32+v/\c * 32+v<=c * 32+k)=true:=by simp; omega
    rw [this]; simp
   ·rw [if_neg ej]
    congr 2
    simp only [eq_iff_iff]; omega
  ·rw [if_neg (by omega)];refine ⟨l7,by simp,hl,fun j=>?_⟩;have:decide (c * 32+v<=j/\j<=c * 32+k)=false:=by simp; omega
   rw [this,Bool.or_false]
theorem AA {x:aa} {l5 l6:List Bool} {l8:List Int} {r:List Client × Int} (he:¬ r.2=0)
  {kx:(List Bool)->(List Bool)->(List Bool)->(List Int)->(List Client)->Int->Option (Bool)} (n:Nat) {v:Int} {l7:List Bool} :
  dt x kx l5 l6 l8 r (n+1) (l7,v)=kx l5 l6 l7 l8 r.1 r.2:=by
 simp only [dt,fV,he,decide_false,Bool.false_eq_true,if_false,ite_self]
theorem As {l:List Bool} {i:Nat} (h:i < l.length):l.set i (l.getD i false)=l:=by
 rw [show l.getD i false=l[i] by simp [List.getD,h],List.set_getElem_self]
theorem wH:∀ (xs:List aa) (v:Nat) (l5 l6 l7:List Bool) (l8:List Int) (t:List Client),(∀ x∈xs,(0<=x.Client_/\x.Client_<=255)/\(0<=x.Seq/\x.Seq<=255))->PI l5 l6 l7 l8 t->aJ 1000 xs v (l5,l6,l7,l8,t)=some true
 | [],v,l5,l6,l7,l8,t,_,_=>rfl
 | x::xs,v,l5,l6,l7,l8,t,hw,h=>by
  obtain ⟨c,k,hx⟩:=ActW.of (hw x (by simp));have ih:=fun l5 l6 l7 l8 t=>wH xs (v+1) l5 l6 l7 l8 t (fun y hy=>hw y (by simp [hy]));have hlt:=ck_lt hx.c3 hx.k2;have r1:∀ {β:Type} (q:Option β),rng ((c:Nat):Int) 3 q=q:=fun q=>rng_in (by omega) (by have:=hx.c3; omega);have r2:∀ {β:Type} (q:Option β),rng ((k:Nat):Int) 32 q=q:=fun q=>rng_in (by omega) (by have:=hx.k2; omega);have g5:∀ q:Bool->Option Bool,gN l5 (c * 32+k) q=q (l5.getD (c * 32+k) false):=fun q=>gN_at false (by rw [h.e5]; exact hlt);have g6:∀ q:Bool->Option Bool,gN l6 (c * 32+k) q=q (l6.getD (c * 32+k) false):=fun q=>gN_at false (by rw [h.e6]; exact hlt);have g7:∀ q:Bool->Option Bool,gN l7 (c * 32+k) q=q (l7.getD (c * 32+k) false):=fun q=>gN_at false (by rw [h.e7]; exact hlt);have g8:∀ q:Int->Option Bool,gN l8 (c * 32+k) q=q (l8.getD (c * 32+k) 0):=fun q=>gN_at 0 (by rw [h.e8]; exact hlt);have hback:∀ {e:Int} {t'},e≠0->aR 1000 x (aJ 1000 xs (v+1)) t l5 l6 l7 l8 t' e=some true:=fun {e t'} he=>by
   rw [qE,if_neg he]; exact J10_ok hx h (ih l5 l6 l7 l8 t h)
  have hstk:=h.st c k hx.c3 hx.k1 hx.k2;have hnm:bstr [IntKind.u8.wrap (97+(IntKind.u8.wrap (c:Int)))]=nmC c:=rfl;have hop:fR 1000 t (nmC c) (k:Int)=some (openT t (nmC c) (k:Int)):=Ci 1000 (Nat.le_refl _) h.vt _ _;have hack:dC 1000 t (nmC c) (k:Int)=some (ackT t (nmC c) (k:Int)):=ack_eq 1000 (Nat.le_refl _) h.vt _ _;have hfin:∀ r,fw 1000 t r=some (finT t r):=fun r=>fin_eq 1000 (Nat.le_refl _) h.vt r;simp only [aJ,hx.hc,hx.hk,hnm,hop,hack,hfin,Option.bind_some,Int.toNat_natCast,Nat.mul_one,r1,r2,g5,g6,g7,g8];by_cases hk0:Int.tmod x.Kind 3=0
  ·rw [if_pos hk0];have hJ2:fb x l5 (aR 1000 x (aJ 1000 xs (v+1)) t) l6 l7 l8 (openT t (nmC c) (k:Int))=some true:=by
    simp only [fb,hx.hc,hx.hk,Int.toNat_natCast,Nat.mul_one,r1,r2,g5];by_cases he:(openT t (nmC c) (k:Int)).2=0
    ·obtain ⟨q1,q2,q3⟩:=h.opened hx.c3 hx.k1 hx.k2 he;rw [q1,if_neg (by simp),he,qE,if_pos rfl];exact J10_ok hx q3 (ih _ _ _ _ _ q3)
    ·have hs:∀ b,l5.getD (c * 32+k) false=b->l5.set (c * 32+k) b=l5:=fun b hb=>by rw [<-hb]; exact As (by rw [h.e5]; exact hlt)
     cases hb:l5.getD (c * 32+k) false with
     | true=>rw [if_pos rfl,hs true hb]; exact hback he
     | false=>
      have:decide ((openT t (nmC c) (k:Int)).2=0)=false:=by simp [he]
      rw [if_neg (by simp),this,hs false hb]; exact hback he
   by_cases he:(openT t (nmC c) (k:Int)).2=0
   ·obtain ⟨q1,q2,q3⟩:=h.opened hx.c3 hx.k1 hx.k2 he;rw [if_pos he,q1,if_neg (by simp),q2];simp only [eZ,Bool.false_eq_true,if_false];exact hJ2
   ·rw [if_neg he];simp only [eZ,Bool.false_eq_true,if_false];exact hJ2
  ·rw [if_neg hk0];by_cases hk1:Int.tmod x.Kind 3=1
   ·rw [if_pos hk1];generalize hrr:finT t (Reply.mk (nmC c) (k:Int) [] 0 (Value.mk 1 x.Value_ (⟨#[]⟩) [] []))=rr;have hz:=(ve h.vt (yY hx.c3 hx.k1 hx.k2 x.Value_)).1;have hf:=fun e=>h.finished hx.c3 hx.k1 hx.k2 x.Value_ e;rw [hrr] at hz hf;have hz':rr.2=0↔statT t (nmC c) (k:Int)=1:=hz;have hJ4:eo rr x l6 l8 (aR 1000 x (aJ 1000 xs (v+1)) t) l5 l7=some true:=by
     simp only [eo,hx.hc,hx.hk,Int.toNat_natCast,Nat.mul_one,r1,r2,g6,g8];by_cases he:rr.2=0
     ·have q3:=hf (hz'.1 he);rw [if_pos he,qE,if_pos he];exact J10_ok hx q3 (ih _ _ _ _ _ q3)
     ·rw [if_neg he]; exact hback he
    have hgoal:∀ b,b=false->fg (eo rr x l6 l8 (aR 1000 x (aJ 1000 xs (v+1)) t) l5 l7) b=some true:=fun b hb=>by
     subst hb;simp only [fg,Bool.false_eq_true,if_false]; exact hJ4
    rw [hstk] at hz';revert hz';generalize l5.getD (c * 32+k) false=o;generalize l6.getD (c * 32+k) false=f;generalize l7.getD (c * 32+k) false=g;intro hz';cases g<;>cases f<;>cases o<;>simp [codeP] at hz'<;>simp only [if_true,if_false,Bool.false_eq_true]<;>exact hgoal _ (by simp [hz'])
   ·rw [if_neg hk1];generalize hrr:ackT t (nmC c) (k:Int)=rr;by_cases he:rr.2=0
    ·obtain ⟨l7',e1,e2,e3⟩:=w4 hx (l5:=l5) (l6:=l6) (l8:=l8) he (aR 1000 x (aJ 1000 xs (v+1)) t) 1000 1 l7 h.e7 (by omega) (by omega) (by have:=hx.k2; omega);have q3:PI l5 l6 l7' l8 rr.1:=by rw [<-hrr]; exact h.acked hx.c3 hx.k1 hx.k2 (by rw [hrr]; exact he) e2 e3
     rw [show (1:Int)=((1:Nat):Int) from rfl,e1,he,qE,if_pos rfl];exact J10_ok hx q3 (ih _ _ _ _ _ q3)
    ·rw [AA he 999];exact hback he
theorem PI.start:PI (List.replicate 96 false) (List.replicate 96 false) (List.replicate 96 false) (List.replicate 96 (0:Int)) []:=by
 refine ⟨nil_vt,by simp,by simp,by simp,by simp,fun c k hc h1 h2=>?_,fun c k hc h1 h2 q=>?_⟩
 ·have:(List.replicate 96 false).getD (c * 32+k) false=false:=by
   simp only [List.getD,List.getElem?_replicate]; split<;>rfl
  rw [this]; rfl
 ·simp [statT,cliOf] at q
theorem tI (l:List aa) (hw:∀ x∈l,(0<=x.Client_/\x.Client_<=255)/\(0<=x.Seq/\x.Seq<=255)):gl 1000 l=some true:=by
 simp only [gl,CB,Option.bind_some,if_true];split
 ·rfl
 ·exact wH l 0 _ _ _ _ _ hw PI.start
end Go.Proofs.Yteldkhmcgloafaa
