/- Plain facts on the models; no program in sight. -/
import Derived.Test.YteldkhmcgloafaaM
set_option linter.unusedSimpArgs false
set_option linter.unusedVariables false
namespace Go.Proofs.Yteldkhmcgloafaa
open Go Go.Proofs Go.Abs
theorem w64' {n:Int} (h1:-9223372036854775808<=n) (h2:n<=9223372036854775807):IntKind.i64.wrap n=n:=dN h1 h2
theorem sG {a b:ByteArray}:sEq a b=true↔a=b:=by
 unfold sEq;rw [beq_iff_eq,ByteArray.toList_eq,ByteArray.toList_eq];obtain ⟨⟨x⟩⟩:=a;obtain ⟨⟨y⟩⟩:=b;simp
theorem lU (a:ByteArray):sEq a a=true:=sG.2 rfl
theorem jI {c:Prop} [Decidable c] {a b:Bool}:(if c then some a else some b)=some (if c then a else b):=by split<;>rfl
theorem l5 {c:Prop} [Decidable c] {a b:Bool}:((if c then a else b)=true)↔((c/\a=true)∨(¬ c/\b=true)):=by split<;>simp [*]
theorem kB {a b:Bool}:(some a=some b)↔(a=true↔b=true):=by cases a<;>cases b<;>simp
theorem uV {a b:Bool}:(a=b)↔(a=true↔b=true):=by cases a<;>cases b<;>simp
theorem gx_of {α β:Type} {l:List α} {i:Nat} {x:α} {k:α->Option β} (h:l[i]?=some x):gx l (i:Int) k=k x:=gx_nat h
def all2 {α:Type} (e:α->α->Bool):List α->List α->Bool
 | [],_=>true
 | x::xs,y::ys=>e x y && all2 e xs ys
 | _::_,[]=>false
theorem vk {α:Type} {e:α->α->Bool} (he:∀ x y,e x y=true↔x=y):∀ {a b:List α},a.length=b.length->(all2 e a b=true↔a=b)
 | [],[],_=>by simp [all2]
 | [],_::_,h=>by simp at h
 | _::_,[],h=>by simp at h
 | x::a,y::b,h=>by
  simp only [all2,Bool.and_eq_true,he,List.cons.injEq];rw [vk he (by simpa using h)]
theorem wO {α:Type} {L:List α->Nat->Unit->Option Bool} (a1:List α) (e:α->α->Bool) (h0:∀ v,L [] v ()=some true)
  (h1:∀ x xs v,L (x::xs) v ()=gx a1 (v:Int) fun y=>if e x y=true then L xs (v+1) () else some false) :
  ∀ (xs:List α) (v:Nat),v+xs.length<=a1.length->L xs v ()=some (all2 e xs (a1.drop v))
 | [],v,_=>by rw [h0]; rfl
 | x::xs,v,h=>by
  simp only [List.length_cons] at h;have hv:v < a1.length:=by omega
  rw [h1,gx_of (List.getElem?_eq_getElem hv),List.drop_eq_getElem_cons hv,wO a1 e h0 h1 xs (v+1) (by omega)];simp only [all2];cases e x a1[v]<;>simp
def eqL {α:Type} (e:α->α->Bool) (a b:List α):Bool:=decide (a.length=b.length) && all2 e a b
theorem wQ {α:Type} {e:α->α->Bool} (he:∀ x y,e x y=true↔x=y) {a b:List α}:eqL e a b=true↔a=b:=by
 unfold eqL;by_cases h:a.length=b.length
 ·simp [h,vk he h]
 ·have:¬ a=b:=fun e=>h (by rw [e]);simp [h,this]
theorem eq_fun {α:Type} {L:List α->Nat->Unit->Option Bool} (a0 a1:List α) (e:α->α->Bool) (h0:∀ v,L [] v ()=some true)
  (h1:∀ x xs v,L (x::xs) v ()=gx a1 (v:Int) fun y=>if e x y=true then L xs (v+1) () else some false) :
  (if ((a0.length:Nat):Int)=((a1.length:Nat):Int) then L a0 0 () else some false)=some (eqL e a0 a1):=by
 unfold eqL;by_cases h:a0.length=a1.length
 ·rw [if_pos (by omega),wO a1 e h0 h1 a0 0 (by omega),List.drop_zero];simp [h]
 ·rw [if_neg (by omega)];simp [h]
def findP {α:Type} (p:α->Bool):List α->Nat->Int
 | [],_=>-1
 | x::xs,v=>if p x=true then (v:Int) else findP p xs (v+1)
theorem uz {α:Type} (p:α->Bool):∀ (xs:List α) (v:Nat),decide (0<=findP p xs v)=xs.any p
 | [],v=>rfl
 | x::xs,v=>by
  simp only [findP,List.any_cons];by_cases h:p x=true
  ·have:(0:Int)<=(v:Int):=by omega
   simp [h,this]
  ·simpa [h] using uz p xs (v+1)
theorem uZ {α:Type} {l:List α} {i:Nat} {x:α} (h:l[i]?=some x):l.set i x=l:=by
 apply List.ext_getElem?;intro j;rw [List.getElem?_set];split
 ·rename_i e;subst e;have:=(List.getElem?_eq_some_iff.1 h).1;rw [if_pos this,h]
 ·rfl
theorem apn_of {α β:Type} {b:Nat} {l:List α} {k:Option β} (h:l.length * (b+1)<=140737488355328):apn b l k=k:=by simp only [apn]; rw [if_pos h]
end Go.Proofs.Yteldkhmcgloafaa

namespace Go.Proofs.Yteldkhmcgloafaa
open Go Go.Proofs Go.Abs
def strsB (l:List ByteArray):Bool:=l.all fun s=>decide (s.size<=64)
theorem sN:∀ (xs:List ByteArray) (v:Nat),eJ xs v ()=some (strsB xs)
 | [],v=>rfl
 | x::xs,v=>by
  have ih:=sN xs (v+1);simp only [eJ,ih,strsB,List.all_cons]
  grind
def valueB (v:Value):Bool:=
 decide (0<=v.Kind) && decide (v.Kind<=5) &&
 decide (v.N=0∨v.Kind=1∨(v.Kind=2/\v.N=1)) &&
 (sEq v.S ⟨#[]⟩ || decide (v.Kind=3)) && (decide (v.I.length=0) || decide (v.Kind=4)) && (decide (v.L.length=0) || decide (v.Kind=5)) &&
 decide (v.S.size<=64) && decide (v.I.length<=16) && decide (v.L.length<=16) && strsB v.L
theorem rm (N:Nat) (v:Value):fJ N v=some (valueB v):=by
 simp only [fJ,iz,ij,iy,iB,eP,fC,fE,eN,iw,sN,valueB];generalize strsB v.L=q;generalize sEq v.S ⟨#[]⟩=z;cases z<;>cases q<;>simp only [jI,kB,l5,if_true,if_false,Bool.false_eq_true,Bool.and_eq_true,Bool.or_eq_true,Bool.not_eq_true',decide_eq_true_eq,decide_eq_false_iff_not,Bool.and_false,Bool.and_true,Bool.or_true,Bool.or_false,Bool.true_or,Bool.false_or,Bool.not_true,Bool.not_false,and_false,false_and,or_false,false_or,Classical.not_not,true_and,and_true,iff_false,false_iff,not_false_eq_true,not_true_eq_false,true_or,or_true ]<;>omega
def intsE (a b:List Int):Bool:=eqL (fun x y=>decide (x=y)) a b
def strsE (a b:List ByteArray):Bool:=eqL sEq a b
theorem tN {a b:List Int}:intsE a b=true↔a=b:=wQ (by simp)
theorem zD {a b:List ByteArray}:strsE a b=true↔a=b:=wQ (fun _ _=>sG)
theorem oh (N:Nat) (a b:List Int):gU N a b=some (intsE a b):=
 eq_fun (L:=fg b) a b _ (fun _=>rfl) (fun x xs v=>by simp [fg])
theorem qC (N:Nat) (a b:List ByteArray):gE N a b=some (strsE a b):=
 eq_fun (L:=en b) a b _ (fun _=>rfl) (fun x xs v=>by simp [en])
def valE (a b:Value):Bool:=decide (a.Kind=b.Kind) && decide (a.N=b.N) && sEq a.S b.S && intsE a.I b.I && strsE a.L b.L
theorem AY (a b:Value):valE a b=true↔a=b:=by
 obtain ⟨a1,a2,a3,a4,a5⟩:=a;obtain ⟨b1,b2,b3,b4,b5⟩:=b;simp [valE,sG,tN,zD,and_assoc]
theorem rN (N:Nat) (a b:Value):gm N a b=some (valE a b):=by
 simp only [gm,oh,qC,Option.bind_some,valE,jI,kB,l5,if_true,if_false,Bool.false_eq_true,Bool.and_eq_true,Bool.or_eq_true,Bool.not_eq_true',decide_eq_true_eq,decide_eq_false_iff_not,Bool.and_false,Bool.and_true,Bool.or_true,Bool.or_false,Bool.true_or,Bool.false_or,Bool.not_true,Bool.not_false,and_false,false_and,or_false,false_or,Classical.not_not,true_and,and_true,iff_false,false_iff,not_false_eq_true,not_true_eq_false,true_or,or_true ];all_goals grind
theorem pI (N:Nat) (r:Reply):eU N r r=some true:=by
 have e1:intsE r.Path r.Path=true:=tN.2 rfl;have e2:valE r.Value_ r.Value_=true:=(AY _ _).2 rfl;simp [eU,oh,rN,lU,e1,e2]
def nameB (s:ByteArray):Bool:=decide (1<=s.size) && decide (s.size<=32)
theorem kr (N:Nat) (s:ByteArray):gb N s=some (nameB s):=by
 simp only [gb,nameB,jI,kB,l5,if_true,if_false,Bool.false_eq_true,Bool.and_eq_true,Bool.or_eq_true,Bool.not_eq_true',decide_eq_true_eq,decide_eq_false_iff_not,Bool.and_false,Bool.and_true,Bool.or_true,Bool.or_false,Bool.true_or,Bool.false_or,Bool.not_true,Bool.not_false,and_false,false_and,or_false,false_or,Classical.not_not,true_and,and_true,iff_false,false_iff,not_false_eq_true,not_true_eq_false,true_or,or_true ]<;>omega
def numB (n:Int):Bool:=decide (1<=n) && decide (n<=1099511627776)
theorem ld (N:Nat) (n:Int):fB N n=some (numB n):=by
 simp only [fB,numB,jI,kB,l5,if_true,if_false,Bool.false_eq_true,Bool.and_eq_true,Bool.or_eq_true,Bool.not_eq_true',decide_eq_true_eq,decide_eq_false_iff_not,Bool.and_false,Bool.and_true,Bool.or_true,Bool.or_false,Bool.true_or,Bool.false_or,Bool.not_true,Bool.not_false,and_false,false_and,or_false,false_or,Classical.not_not,true_and,and_true,iff_false,false_iff,not_false_eq_true,not_true_eq_false,true_or,or_true ]<;>omega
def repB (r:Reply):Bool:=nameB r.Client_ && numB r.Seq && decide (r.Path.length=0) && decide (0<=r.Err) && decide (r.Err<=27) && valueB r.Value_ && (decide (r.Err=0) || decide (r.Value_.Kind=0))
theorem qB (N:Nat) (r:Reply):eF N r=some (repB r):=by
 simp only [eF,kr,ld,rm,Option.bind_some,repB];generalize nameB r.Client_=a;generalize numB r.Seq=b;generalize valueB r.Value_=c;cases a<;>cases b<;>cases c<;>simp only [jI,kB,l5,if_true,if_false,Bool.false_eq_true,Bool.and_eq_true,Bool.or_eq_true,Bool.not_eq_true',decide_eq_true_eq,decide_eq_false_iff_not,Bool.and_false,Bool.and_true,Bool.or_true,Bool.or_false,Bool.true_or,Bool.false_or,Bool.not_true,Bool.not_false,and_false,false_and,or_false,false_or,Classical.not_not,true_and,and_true,iff_false,false_iff,not_false_eq_true,not_true_eq_false,true_or,or_true ]<;>omega
def ascB:Int->List Int->Bool
 | _,[]=>true
 | last,x::xs=>decide (last < x) && (decide (x<=1099511627776) && ascB x xs)
def ansB (c:Client):Int->List Answer->Bool
 | _,[]=>true
 | last,a::as=>decide (last < a.Seq) && (!decide (a.Seq∈c.Open) && (repB a.Reply_ && (sEq a.Reply_.Client_ c.Name && (decide (a.Reply_.Seq=a.Seq) && ansB c a.Seq as))))
def cliB (c:Client):Bool:=nameB c.Name && (decide (0<=c.Low) && (decide (c.Low<=1099511627776) && (decide (c.Open.length+c.Done.length<=16) && (ascB c.Low c.Open && ansB c c.Low c.Done))))
theorem vS (n:Int):∀ (xs:List Int) (v:Nat),eu n xs v ()=some (findP (fun x=>decide (n=x)) xs v)
 | [],v=>rfl
 | x::xs,v=>by
  simp only [eu,findP,vS n xs (v+1),decide_eq_true_eq];split<;>rfl
theorem Bh (n:Int) (l:List Int):l.any (fun x=>decide (n=x))=decide (n∈l):=by
 rw [uV]; simp
theorem wx (N:Nat) (l:List Int) (n:Int):et N l n=some (decide (n∈l)):=by
 simp only [et,gC,vS,Option.bind_some,uz,Bh]
theorem vc_L1 (kx:Option Bool):∀ (xs:List Int) (v:Nat) (last:Int),dD kx xs v last=if ascB last xs=true then kx else some false
 | [],v,last=>rfl
 | x::xs,v,last=>by
  have ih:=vc_L1 kx xs (v+1) x;simp only [dD,gf,fW,ih,ascB];by_cases h1:x<=last
  ·simp [h1,show ¬ last < x from by omega]
  ·by_cases h2:1099511627776 < x
   ·simp [h1,h2,show ¬ x<=1099511627776 from by omega]
   ·simp [h1,h2,show last < x from by omega,show x<=1099511627776 from by omega]
theorem vc_L2 (N:Nat) (c:Client):∀ (xs:List Answer) (v:Nat) (last:Int),bA N c xs v last=some (ansB c last xs)
 | [],v,last=>rfl
 | x::xs,v,last=>by
  have ih:=vc_L2 N c xs (v+1) x.Seq;simp only [bA,dK,dF,ih,ansB,wx,qB,Option.bind_some];by_cases h1:x.Seq<=last
  ·simp [h1,show ¬ last < x.Seq from by omega]
  ·by_cases h2:x.Seq∈c.Open
   ·simp [h1,h2,show last < x.Seq from by omega]
   ·cases h3:repB x.Reply_<;>cases h4:sEq x.Reply_.Client_ c.Name<;>by_cases h5:x.Reply_.Seq=x.Seq<;>simp [h1,h2,h5,show last < x.Seq from by omega]
def small1 (c:Client):Prop:=c.Open.length<=40/\c.Done.length<=40
theorem s9 (N:Nat) (c:Client) (hs:small1 c):fb N c=some (cliB c):=by
 have e:IntKind.i64.wrap (((c.Open.length:Nat):Int)+((c.Done.length:Nat):Int))=((c.Open.length+c.Done.length:Nat):Int):=by
  rw [w64' (n:=((c.Open.length:Nat):Int)+((c.Done.length:Nat):Int)) (by have:=hs.1; have:=hs.2; omega) (by have:=hs.1; have:=hs.2; omega)]; omega
 simp only [fb,eb,jf,ed,kr,vc_L1,vc_L2,Option.bind_some,cliB,e];generalize nameB c.Name=a;generalize ascB c.Low c.Open=b;generalize ansB c c.Low c.Done=d;cases a<;>cases b<;>cases d<;>simp only [jI,kB,l5,if_true,if_false,Bool.false_eq_true,Bool.and_eq_true,Bool.or_eq_true,Bool.not_eq_true',decide_eq_true_eq,decide_eq_false_iff_not,Bool.and_false,Bool.and_true,Bool.or_true,Bool.or_false,Bool.true_or,Bool.false_or,Bool.not_true,Bool.not_false,and_false,false_and,or_false,false_or,Classical.not_not,true_and,and_true,iff_false,false_iff,not_false_eq_true,not_true_eq_false,true_or,or_true ]<;>omega
end Go.Proofs.Yteldkhmcgloafaa

namespace Go.Proofs.Yteldkhmcgloafaa
open Go Go.Proofs Go.Abs
theorem w64 {n:Int} (h1:-9223372036854775808<=n) (h2:n<=9223372036854775807):IntKind.i64.wrap n=n:=dN h1 h2
theorem ub:∀ x:List UInt8,Op.bytesLess x x=false
 | []=>rfl
 | a::x=>by simp [Op.bytesLess,ub x]
theorem vi:∀ {x y z:List UInt8},Op.bytesLess x y=true->Op.bytesLess y z=true->Op.bytesLess x z=true
 | _,[],_,h1,h2=>by simp [Op.bytesLess] at h1
 | _,_::_,[],h1,h2=>by simp [Op.bytesLess] at h2
 | [],_::_,_::_,h1,h2=>rfl
 | a::x,b::y,c::z,h1,h2=>by
  simp only [Op.bytesLess,Bool.or_eq_true,decide_eq_true_eq,Bool.and_eq_true,beq_iff_eq] at h1 h2 ⊢;rcases h1 with h1|⟨rfl,h1⟩
  ·rcases h2 with h2|⟨rfl,h2⟩
   ·exact .inl (UInt8.lt_trans h1 h2)
   ·exact .inl h1
  ·rcases h2 with h2|⟨rfl,h2⟩
   ·exact .inl h2
   ·exact .inr ⟨rfl,vi h1 h2⟩
theorem bl_tri:∀ x y:List UInt8,Op.bytesLess x y=true∨x=y∨Op.bytesLess y x=true
 | [],[]=>.inr (.inl rfl)
 | [],_::_=>.inl rfl
 | _::_,[]=>.inr (.inr rfl)
 | a::x,b::y=>by
  simp only [Op.bytesLess,Bool.or_eq_true,decide_eq_true_eq,Bool.and_eq_true,beq_iff_eq];rcases UInt8.lt_or_lt_of_ne (a:=a) (b:=b) |> fun h=>(Classical.em (a=b)).imp id h with rfl|h|h
  ·rcases bl_tri x y with h|rfl|h
   ·exact .inl (.inr ⟨rfl,h⟩)
   ·exact .inr (.inl rfl)
   ·exact .inr (.inr (.inr ⟨rfl,h⟩))
  ·exact .inl (.inl h)
  ·exact .inr (.inr (.inl h))
theorem pL {a b:ByteArray}:sEq a b=true↔a=b:=by
 unfold sEq;rw [beq_iff_eq,ByteArray.toList_eq,ByteArray.toList_eq];obtain ⟨⟨x⟩⟩:=a;obtain ⟨⟨y⟩⟩:=b;simp
theorem y5 {a b:ByteArray} (h:a.toList=b.toList):a=b:=pL.1 (by simpa [sEq] using h)
theorem jb (a:ByteArray):sLt a a=false:=ub _
theorem mv {a b c:ByteArray} (h1:sLt a b=true) (h2:sLt b c=true):sLt a c=true:=vi h1 h2
theorem w7 (a b:ByteArray):sLt a b=true∨a=b∨sLt b a=true:=by
 rcases bl_tri a.toList b.toList with h|h|h
 ·exact .inl h
 ·exact .inr (.inl (y5 h))
 ·exact .inr (.inr h)
theorem mid_eq {i j:Nat} (h:i+j<=1000000):IntKind.i64.wrap (shrI .u64 (IntKind.u64.wrap (IntKind.i64.wrap ((i:Int)+(j:Int)))) 1)=(((i+j) / 2:Nat):Int):=by
 rw [w64 (n:=(i:Int)+(j:Int)) (by omega) (by omega)];have e:IntKind.u64.wrap ((i:Int)+(j:Int))=(i:Int)+(j:Int):=wY ⟨by show (0:Int)<=_; omega,by show _<=(18446744073709551615:Int); omega⟩;rw [e];have e2:shrI .u64 ((i:Int)+(j:Int)) 1=(((i+j) / 2:Nat):Int):=by
  show ((i:Int)+(j:Int)).fdiv 2=_;rw [Int.fdiv_eq_ediv_of_nonneg _ (by omega)];omega
 rw [e2,w64 (by omega) (by omega)]
theorem AU {α:Type} {l xs:List α} {v:Nat} {x:α} (h:l.drop v=x::xs):l[v]?=some x/\l.drop (v+1)=xs:=by
 constructor
 ·have:=congrArg (fun l=>l[0]?) h;simpa [List.getElem?_drop] using this
 ·have:=congrArg (List.drop 1) h;simpa [List.drop_drop,Nat.add_comm] using this
theorem ue {a b:ByteArray} (h:sLt a b=true):sLt b a=false:=by
 cases h':sLt b a with
 | false=>rfl
 | true=>have:=mv h h'; rw [jb] at this; cases this
def tv:Option ByteArray->List Client->Bool
 | _,[]=>true
 | p,x::xs=>cliB x && ((match p with|none=>true|some q=>sLt q x.Name) && tv (some x.Name) xs)
def tabB (t:List Client):Bool:=decide (t.length<=32) && tv none t
def prevN (t:List Client) (v:Nat):Option ByteArray:=if v=0 then none else (t[v - 1]?).map (·.Name)
theorem yD {t:List Client} {v:Nat} {x:Client} (h:t[v]?=some x):prevN t (v+1)=some x.Name:=by
 simp [prevN,h]
theorem dv_L1 (N:Nat) (t:List Client) (hl:t.length<=40) (hs:∀ c∈t,small1 c):∀ (xs:List Client) (v:Nat),t.drop v=xs->eI N t xs v ()=some (tv (prevN t v) xs)
 | [],v,_=>rfl
 | x::xs,v,h=>by
  obtain ⟨hx,hd⟩:=AU h;have hv:=(List.getElem?_eq_some_iff.1 hx).1;have ih:=dv_L1 N t hl hs xs (v+1) hd;rw [yD hx] at ih;simp only [eI,iW,s9 N x (hs x (List.mem_of_getElem? hx)),Option.bind_some,tv,ih];by_cases g:0 < v
  ·have hw:IntKind.i64.wrap (((v:Nat):Int) - 1)=((v - 1:Nat):Int):=by
    rw [w64 (n:=((v:Nat):Int) - 1) (by omega) (by omega)]; omega
   obtain ⟨y,hp⟩:∃ y,t[v - 1]?=some y:=⟨_,List.getElem?_eq_getElem (by omega)⟩;have e:prevN t v=some y.Name:=by simp [prevN,show v≠0 from by omega,hp]
   rw [hw,gx_of hp,e,if_pos (show (0:Int) < ((v:Nat):Int) from by omega)];show _=some (cliB x && (sLt y.Name x.Name && tv (some x.Name) xs));cases cliB x<;>cases sLt y.Name x.Name<;>simp
  ·have:v=0:=by omega
   subst this;cases cliB x<;>simp [prevN]
theorem pG (N:Nat) {t:List Client} (hl:t.length<=40) (hs:∀ c∈t,small1 c):ey N t=some (tabB t):=by
 simp only [ey,tabB,dv_L1 N t hl hs t 0 (by simp)];by_cases h:t.length<=32
 ·rw [if_neg (by omega)]; simp [h,prevN]
 ·rw [if_pos (by omega)]; simp [h]
structure VC (c:Client):Prop where
 nm:nameB c.Name=true
 lo:0<=c.Low
 hi:c.Low<=1099511627776
 ln:c.Open.length+c.Done.length<=16
 op:ascB c.Low c.Open=true
 dn:ansB c c.Low c.Done=true
theorem Bc {c:Client}:cliB c=true↔VC c:=by
 simp only [cliB,Bool.and_eq_true,decide_eq_true_eq];exact ⟨fun ⟨a,b,d,e,f,g⟩=>⟨a,b,d,e,f,g⟩,fun ⟨a,b,d,e,f,g⟩=>⟨a,b,d,e,f,g⟩⟩
def So (t:List Client):Prop:=t.Pairwise fun a b=>sLt a.Name b.Name=true
structure VT (t:List Client):Prop where
 len:t.length<=32
 cl:∀ c∈t,VC c
 so:So t
theorem tv_iff:∀ {t:List Client} {p:Option ByteArray},tv p t=true↔((∀ c∈t,VC c)/\So t/\∀ q,p=some q->∀ c∈t,sLt q c.Name=true)
 | [],p=>by simp [tv,So]
 | x::xs,p=>by
  have ih:=tv_iff (t:=xs) (p:=some x.Name);simp only [tv,Bool.and_eq_true,Bc,ih];constructor
  ·rintro ⟨h1,h2,h3,h4,h5⟩;refine ⟨fun c hc=>?_,List.pairwise_cons.2 ⟨h5 x.Name rfl,h4⟩,fun q hq c hc=>?_⟩
   ·rcases List.mem_cons.1 hc with rfl|hc
    ·exact h1
    ·exact h3 c hc
   ·subst hq;rcases List.mem_cons.1 hc with rfl|hc
    ·exact h2
    ·exact mv h2 (h5 x.Name rfl c hc)
  ·rintro ⟨h1,h2,h3⟩;have h2':=List.pairwise_cons.1 h2;refine ⟨h1 x (by simp),?_,fun c hc=>h1 c (by simp [hc]),h2'.2,fun q hq c hc=>?_⟩
   ·cases p with
    | none=>rfl
    | some q=>exact h3 q rfl x (by simp)
   ·cases hq; exact h2'.1 c hc
theorem sH {t:List Client}:tabB t=true↔VT t:=by
 simp only [tabB,Bool.and_eq_true,decide_eq_true_eq,tv_iff];exact ⟨fun ⟨a,b,c,_⟩=>⟨a,b,c⟩,fun ⟨a,b,c⟩=>⟨a,b,c,fun q hq=>by cases hq⟩⟩
theorem VC.small {c:Client} (h:VC c):small1 c:=⟨by have:=h.ln; omega,by have:=h.ln; omega⟩
theorem VT.valid {t:List Client} (h:VT t) (N:Nat):ey N t=some true:=by
 rw [pG N (by have:=h.len; omega) (fun c hc=>(h.cl c hc).small),sH.2 h]
theorem sF {c:Client}:∀ {l:List Answer} {last:Int},ansB c last l=true->∀ a∈l,last < a.Seq/\a.Seq∉c.Open/\repB a.Reply_=true/\a.Reply_.Client_=c.Name/\a.Reply_.Seq=a.Seq
 | [],_,_,a,ha=>by cases ha
 | x::xs,last,h,a,ha=>by
  simp only [ansB,Bool.and_eq_true,decide_eq_true_eq,Bool.not_eq_true',decide_eq_false_iff_not,pL] at h;obtain ⟨h1,h2,h3,h4,h5,h6⟩:=h;rcases List.mem_cons.1 ha with rfl|ha
  ·exact ⟨h1,h2,h3,h4,h5⟩
  ·obtain ⟨g1,g2⟩:=sF h6 a ha;exact ⟨by omega,g2⟩
theorem tT {r:Reply} (h:repB r=true):r.Path=[]/\r.Value_.I.length<=16/\r.Value_.L.length<=16:=by
 simp only [repB,valueB,Bool.and_eq_true,decide_eq_true_eq] at h;exact ⟨List.length_eq_zero_iff.1 h.1.1.1.1.2,by omega,by omega⟩
theorem qp (N:Nat) {r:Reply} (h:r.Path=[]) (hI:r.Value_.I.length<=1000) (hL:r.Value_.L.length<=1000):dE N r=some r:=by
 obtain ⟨a,b,c,d,e⟩:=r;simp only at h;subst h;simp only [dE,bS,bV];rw [apn_of (by simp only at hI; omega),Option.bind_some,apn_of (by simp only at hL; omega),Option.bind_some]
theorem vm (N:Nat) (rec:List Client->Option (List Client)) (t:List Client) (v:Nat) (c:Client) (hc:t[v]?=some c) (h:VC c):∀ (m k:Nat),k+m=c.Done.length->fj rec t v c c.Open N m k c.Done=rec t
 | 0,k,_=>by
  simp only [fj];rw [show Client.mk c.Name c.Low c.Open c.Done=c from rfl,uZ hc]
 | m+1,k,hk=>by
  have hx:c.Done[k]?=some (c.Done[k]'(by omega)):=List.getElem?_eq_getElem _;have hr:=tT (sF h.dn _ (List.mem_of_getElem? hx)).2.2.1;simp only [fj];rw [gx_of hc,gx_of hx,qp N hr.1 (by omega) (by omega),Option.bind_some,show Answer.mk (c.Done[k]'(by omega)).Seq (c.Done[k]'(by omega)).Reply_=c.Done[k]'(by omega) from rfl,uZ hx];exact vm N rec t v c hc h m (k+1) (by omega)
theorem vj (N:Nat) (t:List Client) (h:∀ c∈t,VC c):∀ (m k:Nat),k+m=t.length->fq N m k t=some t
 | 0,k,hk=>by
  simp only [fq,lenG];rw [if_pos (by omega)]
 | m+1,k,hk=>by
  have hx:t[k]?=some (t[k]'(by omega)):=List.getElem?_eq_getElem _;have hv:=h _ (List.mem_of_getElem? hx);have hl:=hv.ln;simp only [fq,bS,bU];rw [gx_of hx,apn_of (by omega),Option.bind_some,apn_of (by omega),Option.bind_some,Nat.sub_zero,vm N _ t k _ hx hv _ 0 (by omega)];exact vj N t h m (k+1) (by omega)
theorem sx (N:Nat) {t:List Client} (h:VT t):eS N t=some t:=by
 have:=h.len;simp only [eS,bX];rw [apn_of (by omega),Option.bind_some,Nat.sub_zero];exact vj N t h.cl t.length 0 (by omega)
def ltN (k:ByteArray) (r:Client):Bool:=sLt r.Name k
def plc (t:List Client) (k:ByteArray):Nat:=(t.takeWhile (ltN k)).length
theorem plc_le (t:List Client) (k:ByteArray):plc t k<=t.length:=(List.takeWhile_sublist (ltN k)).length_le
theorem plc_lt:∀ {t:List Client} {k:ByteArray},(t.Pairwise fun a b=>sLt a.Name b.Name=true)->∀ {i:Nat} {r:Client},t[i]?=some r->(sLt r.Name k=true↔i < plc t k)
 | [],k,hp,i,r,hr=>by simp at hr
 | x::xs,k,hp,i,r,hr=>by
  rw [List.pairwise_cons] at hp;by_cases h:sLt x.Name k=true
  ·have e:plc (x::xs) k=plc xs k+1:=by simp [plc,List.takeWhile_cons,ltN,h]
   rw [e];cases i with
   | zero=>simp only [List.getElem?_cons_zero,Option.some.injEq] at hr; subst hr; simp [h]
   | succ i=>
    rw [List.getElem?_cons_succ] at hr;rw [plc_lt hp.2 hr]; omega
  ·have e:plc (x::xs) k=0:=by simp [plc,List.takeWhile_cons,ltN,h]
   rw [e];constructor
   ·intro hlt;exfalso;cases i with
    | zero=>simp only [List.getElem?_cons_zero,Option.some.injEq] at hr; subst hr; exact h hlt
    | succ i=>
     rw [List.getElem?_cons_succ] at hr;exact h (mv (hp.1 r (List.mem_of_getElem? hr)) hlt)
   ·omega
def hasN (t:List Client) (k:ByteArray):Bool:=match t[plc t k]? with
 | some s=>sEq s.Name k
 | none=>false
theorem plc_ge {t:List Client} (hp:So t) {k:ByteArray} {i:Nat} {r:Client} (hr:t[i]?=some r) (hi:plc t k<=i):sLt r.Name k=false:=by
 have:=plc_lt hp hr (k:=k);cases h:sLt r.Name k with
 | false=>rfl
 | true=>have:=this.1 h; omega
theorem vf (N:Nat) (c:Client) (k:ByteArray):gG N c k=some (if sLt c.Name k=true then -1 else if sEq c.Name k=true then 0 else 1):=by
 simp only [gG];cases sLt c.Name k<;>cases sEq c.Name k<;>rfl
theorem bsN_L1 {t:List Client} (ht:t.length<=32) (hp:So t) (N:Nat) (k:ByteArray) (kx:Int->Option (Int × Bool)) :
  ∀ (n i j:Nat),j < i+n->i<=plc t k->plc t k<=j->j<=t.length->aB t N k kx n ((i:Int),(j:Int))=kx ((plc t k:Nat):Int)
 | 0,i,j,h1,h2,h3,h4=>by omega
 | n+1,i,j,h1,h2,h3,h4=>by
  rw [aB];by_cases h:i < j
  ·rw [if_pos (by omega),mid_eq (by omega)];have hm:(i+j) / 2 < t.length:=by omega
   have hx:t[(i+j) / 2]?=some t[(i+j) / 2]:=List.getElem?_eq_getElem hm;have hc:=plc_lt hp hx (k:=k);rw [gx_nat hx,vf];simp only [Option.bind_some];by_cases hs:sLt t[(i+j) / 2].Name k=true
   ·rw [if_pos hs,if_pos (by omega),w64 (by omega) (by omega)];have:=hc.1 hs;exact bsN_L1 ht hp N k kx n ((i+j) / 2+1) j (by omega) (by omega) h3 h4
   ·rw [if_neg hs,if_neg (by split<;>omega)]
    have:¬ (i+j) / 2 < plc t k:=fun q=>hs (hc.2 q);exact bsN_L1 ht hp N k kx n i ((i+j) / 2) (by omega) h2 (by omega) (by omega)
  ·rw [if_neg (by omega)];have:i=plc t k:=by omega
   rw [this]
theorem yg (N:Nat) (hN:100<=N) {t:List Client} (h:VT t) (k:ByteArray):ia N t k=some (((plc t k:Nat):Int),hasN t k):=by
 have hl:=h.len;have hp:=plc_le t k;have:=bsN_L1 hl h.so N k (br t N k) N 0 t.length (by omega) (by omega) hp (by omega);simp only [ia,aV];rw [show ((0:Int))=((0:Nat):Int) from rfl,this];unfold br hasN;cases hq:t[plc t k]? with
 | none=>
  have:=List.getElem?_eq_none_iff.1 hq;rw [if_neg (by omega)]; rfl
 | some s=>
  have:=(List.getElem?_eq_some_iff.1 hq).1;have hge:=plc_ge h.so hq (Nat.le_refl _);rw [if_pos (by omega),gx_nat hq,vf,hge];show _=some (((plc t k:Nat):Int),sEq s.Name k);cases sEq s.Name k<;>rfl
end Go.Proofs.Yteldkhmcgloafaa

namespace Go.Proofs.Yteldkhmcgloafaa
open Go Go.Proofs Go.Abs
def cliOf (t:List Client) (k:ByteArray):Option Client:=t.find? fun c=>sEq c.Name k
def zR:Reply:=Reply.mk (⟨#[]⟩) 0 [] 0 (Value.mk 0 0 (⟨#[]⟩) [] [])
def ansOf (c:Client) (n:Int):Option Answer:=c.Done.find? fun a=>decide (a.Seq=n)
def statC (c:Client) (n:Int):Int:=if n<=c.Low then 3 else if n∈c.Open then 1 else if (ansOf c n).isSome=true then 2 else 0
def repC (c:Client) (n:Int):Reply:=if n<=c.Low then zR else if n∈c.Open then zR else match ansOf c n with|some a=>a.Reply_|none=>zR
def statT (t:List Client) (k:ByteArray) (n:Int):Int:=match cliOf t k with|some c=>statC c n|none=>0
def repT (t:List Client) (k:ByteArray) (n:Int):Reply:=match cliOf t k with|some c=>repC c n|none=>zR
theorem ig {t:List Client} {k:ByteArray} {c:Client} (h:cliOf t k=some c):c∈t/\c.Name=k:=by
 have h1:=List.find?_some h;exact ⟨List.mem_of_find?_eq_some h,pL.1 h1⟩
theorem so_at {t:List Client} (hp:So t) {c:Client} (hc:c∈t):t[plc t c.Name]?=some c:=by
 obtain ⟨i,hi⟩:=List.mem_iff_getElem?.1 hc;have h1:=plc_lt hp hi (k:=c.Name);rw [jb] at h1;have hle:plc t c.Name<=i:=by
  rcases Nat.lt_or_ge i (plc t c.Name) with h|h
  ·exact absurd (h1.2 h) (by simp)
  ·exact h
 have hil:=(List.getElem?_eq_some_iff.1 hi).1;have hpl:plc t c.Name < t.length:=by omega
 have e:plc t c.Name=i:=by
  rcases Nat.lt_or_ge (plc t c.Name) i with h|h
  ·exfalso;have h2:=plc_lt hp (List.getElem?_eq_getElem hpl) (k:=c.Name);have h3:=List.pairwise_iff_getElem.1 hp _ i hpl hil h;have h4:t[i]=c:=by rw [List.getElem?_eq_getElem hil] at hi; exact Option.some.inj hi
   rw [h4] at h3;have:=h2.1 h3;omega
  ·omega
 rw [e]; exact hi
theorem lY {t:List Client} (hp:So t) (k:ByteArray):cliOf t k=if hasN t k=true then t[plc t k]? else none:=by
 cases h:cliOf t k with
 | some c=>
  obtain ⟨h1,rfl⟩:=ig h;have h2:=so_at hp h1;have:hasN t c.Name=true:=by simp [hasN,h2,lU]
  rw [if_pos this,h2]
 | none=>
  cases h':hasN t k with
  | false=>simp
  | true=>
   exfalso;unfold hasN at h';split at h'
   ·rename_i s hs;have:=List.find?_eq_none.1 h s (List.mem_of_getElem? hs);exact this h'
   ·cases h'
theorem zj {t:List Client} (hp:So t) {c:Client} (hc:c∈t):cliOf t c.Name=some c:=by
 rw [lY hp,so_at hp hc];have:hasN t c.Name=true:=by simp [hasN,so_at hp hc,lU]
 rw [if_pos this]
theorem lk_L3 (N:Nat) (kx:Option (Int × Reply)) (n:Int):∀ (xs:List Answer) (v:Nat),(∀ a∈xs,repB a.Reply_=true)->fN kx n N xs v ()=match xs.find? (fun a=>decide (a.Seq=n)) with|some a=>some (2,a.Reply_)|none=>kx
 | [],v,_=>rfl
 | x::xs,v,h=>by
  simp only [fN,List.find?_cons];by_cases e:x.Seq=n
  ·have hr:=tT (h x (by simp));simp [e,qp N hr.1 (by omega) (by omega)]
  ·simp [e,lk_L3 N kx n xs (v+1) (fun a ha=>h a (by simp [ha]))]
theorem lk_L2 (kx:Option (Int × Reply)) (n:Int):∀ (xs:List Int) (v:Nat),eV kx n xs v ()=if n∈xs then some (1,zR) else kx
 | [],v=>by simp [eV]
 | x::xs,v=>by
  simp only [eV,lk_L2 kx n xs (v+1)];by_cases e:x=n
  ·simp [e,zR]
  ·have:¬ n=x:=fun h=>e h.symm;simp [e,this]
theorem lk_L1 (N:Nat) (k:ByteArray) (n:Int):∀ (xs:List Client) (v:Nat),(∀ c∈xs,VC c)->fL k n N xs v ()=some (match xs.find? (fun c=>sEq c.Name k) with|some c=>(statC c n,repC c n)|none=>(0,zR))
 | [],v,_=>rfl
 | x::xs,v,h=>by
  simp only [fL,List.find?_cons];cases e:sEq x.Name k with
  | true=>
   have hv:=h x (by simp);simp only [if_true,lk_L2,kU,lk,lk_L3 N _ n x.Done 0 (fun a ha=>(sF hv.dn a ha).2.2.1)];simp only [statC,repC,ansOf];by_cases h1:n<=x.Low
   ·simp [h1,zR]
   ·by_cases h2:n∈x.Open
    ·simp [h1,h2]
    ·simp only [h1,h2,if_false];rcases Option.eq_none_or_eq_some (x.Done.find? (fun a=>decide (a.Seq=n))) with h3|⟨a,h3⟩<;>simp [h3,zR]
  | false=>
   simp only [Bool.false_eq_true,if_false];exact lk_L1 N k n xs (v+1) (fun c hc=>h c (by simp [hc]))
theorem uB (N:Nat) {t:List Client} (h:VT t) (k:ByteArray) (n:Int):fF N t k n=some (statT t k n,repT t k n):=by
 simp only [fF,h.valid,Option.bind_some,if_true,lk_L1 N k n t 0 h.cl,statT,repT];have:(t.find? fun c=>sEq c.Name k)=cliOf t k:=rfl;rw [this];cases cliOf t k<;>rfl
theorem oM (N:Nat) {t:List Client} (h:VT t) (k:ByteArray) (n:Int):bR N t k n=some (statT t k n):=by
 simp only [bR,uB N h,Option.bind_some]
theorem sE (N:Nat) {t:List Client} (h:VT t) (k:ByteArray) (n:Int):eT N t k n=some (repT t k n,decide (statT t k n=2)):=by
 simp only [eT,uB N h,Option.bind_some]
def SmT (t:List Client):Prop:=t.length<=40/\∀ c∈t,small1 c
end Go.Proofs.Yteldkhmcgloafaa

namespace Go.Proofs.Yteldkhmcgloafaa
open Go Go.Proofs Go.Abs
def pz:List Int->Int->Nat
 | [],_=>0
 | x::xs,n=>if x < n then pz xs n+1 else 0
theorem pz_le:∀ (w:List Int) (n:Int),pz w n<=w.length
 | [],_=>Nat.le_refl _
 | x::xs,n=>by
  have:=pz_le xs n;simp only [pz]; split<;>simp<;>omega
theorem pz_lt:∀ {w:List Int},w.Pairwise (· < ·)->∀ {n:Int} {i:Nat} {x:Int},w[i]?=some x->(x < n↔i < pz w n)
 | [],_,n,i,x,hx=>by simp at hx
 | y::ys,hs,n,i,x,hx=>by
  rw [List.pairwise_cons] at hs;simp only [pz];cases i with
  | zero=>simp only [List.getElem?_cons_zero,Option.some.injEq] at hx; subst hx; split<;>simp<;>omega
  | succ i=>
   rw [List.getElem?_cons_succ] at hx;have ih:=pz_lt hs.2 hx (n:=n);have:=hs.1 x (List.mem_of_getElem? hx);split<;>omega
theorem Ae (N:Nat) (a b:Int):iT N a b=some (decide (a < b)):=by
 simp [iT,gT]
theorem pz_mem {w:List Int} (hs:w.Pairwise (· < ·)) {n:Int}:n∈w↔w[pz w n]?=some n:=by
 constructor
 ·intro h;obtain ⟨i,hi⟩:=List.mem_iff_getElem?.1 h;have h1:=pz_lt hs hi (n:=n);have hle:pz w n<=i:=by omega
  have hil:=(List.getElem?_eq_some_iff.1 hi).1;have hpl:pz w n < w.length:=by omega
  rcases Nat.lt_or_ge (pz w n) i with q|q
  ·exfalso;have h2:=pz_lt hs (List.getElem?_eq_getElem hpl) (n:=n);have h3:=List.pairwise_iff_getElem.1 hs _ i hpl hil q;have h4:w[i]=n:=(List.getElem?_eq_some_iff.1 hi).2;omega
  ·have:pz w n=i:=by omega
   rw [this]; exact hi
 ·exact List.mem_of_getElem?
theorem bsI_L1 {w:List Int} (hl:w.length<=32) (hs:w.Pairwise (· < ·)) (N:Nat) (a:Int) (kx:Int->Option (Int × Bool)) :
  ∀ (n i j:Nat),j < i+n->i<=pz w a->pz w a<=j->j<=w.length->bI w N a kx n ((i:Int),(j:Int))=kx ((pz w a:Nat):Int)
 | 0,i,j,h1,h2,h3,h4=>by omega
 | n+1,i,j,h1,h2,h3,h4=>by
  rw [bI];by_cases hij:i < j
  ·rw [if_pos (by omega),mid_eq (by omega)];have hm:(i+j) / 2 < w.length:=by omega
   have hx:w[(i+j) / 2]?=some w[(i+j) / 2]:=List.getElem?_eq_getElem hm;have hc:=pz_lt hs hx (n:=a);rw [gx_nat hx,Ae];simp only [Option.bind_some,decide_eq_true_eq];by_cases hlt:w[(i+j) / 2] < a
   ·rw [if_pos hlt,w64 (by omega) (by omega)];have:(i+j) / 2 < pz w a:=hc.1 hlt;exact bsI_L1 hl hs N a kx n ((i+j) / 2+1) j (by omega) (by omega) h3 h4
   ·rw [if_neg hlt];have:¬ (i+j) / 2 < pz w a:=fun q=>hlt (hc.2 q);exact bsI_L1 hl hs N a kx n i ((i+j) / 2) (by omega) h2 (by omega) (by omega)
  ·rw [if_neg (by omega)];have:i=pz w a:=by omega
   rw [this]
theorem bsI_eq (N:Nat) (hN:200<=N) {w:List Int} (hl:w.length<=32) (hs:w.Pairwise (· < ·)) (a:Int):b8 N w a=some (((pz w a:Nat):Int),decide (a∈w)):=by
 have hp:=pz_le w a;have:=bsI_L1 hl hs N a (eA w a N) N 0 w.length (by omega) (by omega) hp (by omega);simp only [b8];rw [show ((0:Int))=((0:Nat):Int) from rfl,this];unfold eA;have hm:=pz_mem hs (n:=a);cases hq:w[pz w a]? with
 | none=>
  have:=List.getElem?_eq_none_iff.1 hq;rw [if_neg (by omega)];rw [hq] at hm;have:a∉w:=fun q=>by simpa using hm.1 q
  simp [this]
 | some s=>
  have:=(List.getElem?_eq_some_iff.1 hq).1;rw [if_pos (by omega),gx_nat hq];rw [hq] at hm;by_cases e:s=a
  ·subst e;have:s∈w:=hm.2 rfl;simp [this]
  ·have:a∉w:=fun q=>e (Option.some.inj (hm.1 q));simp [e,this,fv]
theorem m4:∀ {l:List Int} {last:Int},ascB last l=true↔(l.Pairwise (· < ·)/\∀ x∈l,last < x/\x<=1099511627776)
 | [],last=>by simp [ascB]
 | y::ys,last=>by
  simp only [ascB,Bool.and_eq_true,decide_eq_true_eq,m4 (l:=ys) (last:=y),List.pairwise_cons];constructor
  ·rintro ⟨h1,h2,h3,h4⟩;refine ⟨⟨fun x hx=>(h4 x hx).1,h3⟩,fun x hx=>?_⟩;rcases List.mem_cons.1 hx with rfl|hx
   ·exact ⟨h1,h2⟩
   ·have:=h4 x hx; exact ⟨by omega,this.2⟩
  ·rintro ⟨⟨h1,h2⟩,h3⟩;have:=h3 y (by simp);exact ⟨this.1,this.2,h2,fun x hx=>⟨h1 x hx,(h3 x (by simp [hx])).2⟩⟩
def insI (l:List Int) (n:Int):List Int:=l.take (pz l n)++[n]++l.drop (pz l n)
theorem zg (x:Int) (xs:List Int) (n:Int):insI (x::xs) n=if x < n then x::insI xs n else n::x::xs:=by
 simp only [insI,pz];split<;>simp
theorem z8 (n:Int):insI [] n=[n]:=rfl
theorem wS {α β:Type} {b:Nat} {l:List α} {n:Nat} {x:α} {k:List α->Option β} (h:n<=l.length) (hb:(l.length+1) * (b+1)<=140737488355328):insM b l ((n:Nat):Int) [x] k=k (l.take n++[x]++l.drop n):=by
 unfold insM;rw [if_pos ⟨by omega,by omega,rfl,hb⟩];simp
theorem sJ (N:Nat) {l:List Int} (hl:l.length<=40) {i:Nat} (h:i<=l.length) (n:Int):ef N l ((i:Nat):Int) [n]=some (l.take i++[n]++l.drop i):=by
 simp only [ef];rw [wS h (by omega)]
def putT (t:List Client) (c:Client):List Client:=t.take (plc t c.Name)++[c]++t.drop (if hasN t c.Name=true then plc t c.Name+1 else plc t c.Name)
theorem qf (x:Client) (xs:List Client) (k:ByteArray):plc (x::xs) k=if sLt x.Name k=true then plc xs k+1 else 0:=by
 by_cases h:sLt x.Name k=true
 ·simp [plc,List.takeWhile_cons,ltN,h]
 ·simp [plc,List.takeWhile_cons,ltN,h]
theorem tV (x:Client) (xs:List Client) (c:Client):putT (x::xs) c=if sLt x.Name c.Name=true then x::putT xs c else if sEq x.Name c.Name=true then c::xs else c::x::xs:=by
 by_cases h:sLt x.Name c.Name=true
 ·have e:hasN (x::xs) c.Name=hasN xs c.Name:=by simp [hasN,qf,h]
  simp only [putT,qf,h,if_true,e];split<;>simp
 ·have e:hasN (x::xs) c.Name=sEq x.Name c.Name:=by simp [hasN,qf,h]
  simp only [putT,qf,h,if_false,e,Bool.false_eq_true];cases sEq x.Name c.Name<;>simp
theorem yj {t:List Client} (hp:So t) {c d:Client} (hc:cliOf t d.Name=some c):putT t d=t.set (plc t d.Name) d:=by
 rw [lY hp] at hc;split at hc
 ·rename_i h;have hl:=(List.getElem?_eq_some_iff.1 hc).1;rw [List.set_eq_take_append_cons_drop,if_pos hl,putT,if_pos h];simp
 ·cases hc
theorem Bx {t:List Client} (hp:So t) {d:Client} (hc:cliOf t d.Name=none):putT t d=t.take (plc t d.Name)++[d]++t.drop (plc t d.Name)/\hasN t d.Name=false:=by
 rw [lY hp] at hc;cases h:hasN t d.Name with
 | false=>exact ⟨by simp [putT,h],rfl⟩
 | true=>
  rw [h,if_pos rfl] at hc;have:=List.getElem?_eq_none_iff.1 hc;unfold hasN at h;rw [hc] at h;cases h
end Go.Proofs.Yteldkhmcgloafaa

namespace Go.Proofs.Yteldkhmcgloafaa
open Go Go.Proofs Go.Abs
def openT (t:List Client) (k:ByteArray) (n:Int):List Client × Int:=
 if nameB k=true/\numB n=true then
  (if statT t k n=3 then ([],8) else if statT t k n=1∨statT t k n=2 then ([],7) else match cliOf t k with
   | some c=>if c.Open.length+c.Done.length=16 then ([],5) else (putT t (Client.mk c.Name c.Low (insI c.Open n) c.Done),0)
   | none=>if t.length=32 then ([],5) else (putT t (Client.mk k 0 [n] []),0))
 else ([],1)
theorem Bb {a b:Nat} (ha:a<=100) (hb:b<=100):IntKind.i64.wrap (((a:Nat):Int)+((b:Nat):Int))=((a+b:Nat):Int):=by
 rw [w64 (n:=((a:Nat):Int)+((b:Nat):Int)) (by omega) (by omega)]; omega
theorem VC.asc {c:Client} (h:VC c):c.Open.Pairwise (· < ·):=(m4.1 h.op).1
theorem Bv (N:Nat) (hN:1000<=N) {t:List Client} (h:VT t) (k:ByteArray) (n:Int):fZ N t k n=some (openT t k n):=by
 simp only [fZ,h.valid,kr,ld,Option.bind_some,if_true,openT];cases hk:nameB k with
 | false=>simp [fS]
 | true=>
 cases hn:numB n with
 | false=>simp [fS]
 | true=>
 simp only [if_true,fS,Bool.not_true,Bool.false_eq_true,if_false,jm,oM N h,Option.bind_some,and_self];by_cases h3:statT t k n=3
 ·simp [h3]
 ·by_cases h1:statT t k n=1
  ·simp [h1,gS]
  ·by_cases h2:statT t k n=2
   ·simp [h2,gS]
   ·simp only [h3,h1,h2,if_false,or_self,gS,decide_false,Bool.false_eq_true,kt,yg N (by omega) h,Option.bind_some];have hat:=lY h.so k;have hlen:=h.len;cases hh:hasN t k with
    | true=>
     rw [hh,if_pos rfl] at hat;simp only [if_true];cases hc:t[plc t k]? with
     | none=>unfold hasN at hh; rw [hc] at hh; cases hh
     | some c=>
      have hv:=h.cl c (List.mem_of_getElem? hc);have hl:=hv.ln;rw [hc] at hat;obtain ⟨_,hnm⟩:=ig hat;rw [gx_of hc,Bb (by omega) (by omega),hat];simp only [gR];by_cases h16:c.Open.length+c.Done.length=16
      ·simp [h16]
      ·rw [if_neg (by omega),if_neg (by simp),if_neg h16];simp only [gP,sx N h,Option.bind_some,if_true];rw [gx_of hc,bsI_eq N (by omega) (by omega) hv.asc];simp only [Option.bind_some];rw [sJ N (by omega) (pz_le _ _)];simp only [Option.bind_some,Int.toNat_natCast];rw [yj (c:=c) (d:=Client.mk c.Name c.Low (insI c.Open n) c.Done) h.so (by rw [hnm]; exact hat)];simp only [insI,hnm]
    | false=>
     rw [hh,if_neg (by simp)] at hat;rw [hat];simp only [Bool.false_eq_true,if_false,gR];by_cases h32:t.length=32
     ·simp [h32]
     ·rw [if_neg (by simp; omega),if_neg h32];simp only [gP,sx N h,Option.bind_some,Bool.false_eq_true,if_false,bB];rw [wS (plc_le t k) (by omega)];simp only [Option.bind_some];have hg:(t.take (plc t k)++[Client.mk k 0 [] []]++t.drop (plc t k))[plc t k]?=some (Client.mk k 0 [] []):=by
       have:=plc_le t k;rw [List.append_assoc,List.getElem?_append_right (by simp; omega)];simp [Nat.min_eq_left this]
      rw [gx_of hg,bsI_eq N (by omega) (by simp) List.Pairwise.nil];simp only [Option.bind_some,pz];rw [sJ N (l:=[]) (i:=0) (by simp) (Nat.le_refl _)];have hp:=Bx (d:=Client.mk k 0 [n] []) h.so hat;rw [hp.1];have:=plc_le t k;simp only [Option.bind_some,Int.toNat_natCast,List.take_nil,List.nil_append,List.drop_nil,List.append_nil];rw [List.append_assoc,List.set_append_right _ _ (by simp; omega)];simp [Nat.min_eq_left this]
theorem zL {t:List Client} (h:¬ VT t):tabB t=false:=by
 cases h':tabB t with
 | false=>rfl
 | true=>exact absurd (sH.1 h') h
def ackT (t:List Client) (k:ByteArray) (u:Int):List Client × Int:=
 if nameB k=true/\numB u=true then
  (match cliOf t k with
   | some c=>if (∃ x,c.Open.head?=some x/\x<=u) then ([],12) else
     (putT t (Client.mk c.Name (if u > c.Low then u else c.Low) c.Open (c.Done.filter fun a=>decide ((if u > c.Low then u else c.Low) < a.Seq))),0)
   | none=>([],6))
 else ([],1)
theorem ack_eq (N:Nat) (hN:1000<=N) {t:List Client} (h:VT t) (k:ByteArray) (u:Int):dO N t k u=some (ackT t k u):=by
 simp only [dO,h.valid,kr,ld,Option.bind_some,if_true,ackT];cases hk:nameB k with
 | false=>simp [dJ]
 | true=>
 cases hn:numB u with
 | false=>simp [dJ]
 | true=>
 simp only [if_true,dJ,Bool.not_true,Bool.false_eq_true,if_false,eX,yg N (by omega) h,Option.bind_some,and_self];have hat:=lY h.so k;cases hh:hasN t k with
 | false=>
  rw [hh,if_neg (by simp)] at hat;simp [hat]
 | true=>
  rw [hh,if_pos rfl] at hat;simp only [if_true];cases hc:t[plc t k]? with
  | none=>unfold hasN at hh; rw [hc] at hh; cases hh
  | some c=>
   have hv:=h.cl c (List.mem_of_getElem? hc);have hl:=hv.ln;rw [hc] at hat;obtain ⟨_,hnm⟩:=ig hat;rw [gx_of hc,hat];have hJ3:eW N t (((plc t k:Nat):Int),true) u=some (putT t (Client.mk c.Name (if u > c.Low then u else c.Low) c.Open (c.Done.filter fun a=>decide ((if u > c.Low then u else c.Low) < a.Seq))),0):=by
    simp only [eW,sx N h,Option.bind_some];rw [gx_of hc];simp only [delAck];rw [if_pos ⟨by omega,by omega⟩,yj (c:=c) (d:=Client.mk c.Name (if u > c.Low then u else c.Low) c.Open (c.Done.filter fun a=>decide ((if u > c.Low then u else c.Low) < a.Seq))) h.so (by rw [hnm]; exact hat)];simp only [Option.bind_some,Int.toNat_natCast,hnm]
    congr 4
    apply List.filter_congr;intro a _;generalize (if u > c.Low then u else c.Low)=lo;by_cases hq:a.Seq<=lo
    ·simp [hq,show ¬ lo < a.Seq from by omega]
    ·simp [hq,show lo < a.Seq from by omega]
   rw [hJ3];cases ho:c.Open with
   | nil=>simp [dZ,ho]
   | cons x xs=>
    rw [if_pos (by simp)];have hx:(x::xs)[(0:Nat)]?=some x:=rfl;rw [show (0:Int)=((0:Nat):Int) from rfl,gx_of hx];by_cases hle:x<=u
    ·simp [dZ,hle,ho]
    ·simp [dZ,hle,ho]
end Go.Proofs.Yteldkhmcgloafaa

namespace Go.Proofs.Yteldkhmcgloafaa
open Go Go.Proofs Go.Abs
def kn (lo:Int) (s:Int):Bool:=!decide (s=lo)
theorem tk (N:Nat) (k0:ByteArray) (lo:Int) (k2:List Int) (k3 k4 k5:Int) (k6:ByteArray) (k7:List Int) (k8:List ByteArray):∀ (xs:List Int) (k:Nat),aQ N k0 lo k2 k3 k4 k5 k6 k7 k8 xs k ()=some (match xs.findIdx? (fun a=>!kn lo a) with|some i=>(((k+i:Nat)):Int)|none=>-1):=by
 intro xs
 induction xs with
 | nil=>intro k; rfl
 | cons x xs ih=>
  intro k;simp only [aQ,fi,Option.bind_some,List.findIdx?_cons,kn,Bool.not_not];by_cases h:x=lo
  ·simp [h]
  ·simp only [h,decide_false,Bool.false_eq_true,if_false,ih];simp only [kn,Bool.not_not];cases xs.findIdx? (fun a=>decide (a=lo)) with
   | none=>rfl
   | some i=>
    have e:k+1+i=k+(i+1):=by omega
    simp only [Option.map_some,e]
theorem del_J1 (l:List Int) (i:Nat) (h:i<=l.length):bo l (i:Int)=some (l.take i):=by
 unfold bo slx;rw [if_pos ⟨by omega,by omega,by omega,by omega⟩,if_pos ⟨by omega,by omega,by omega,by rw [wR (by omega)]; omega⟩];simp only [Int.toNat_natCast];rw [vD h]
theorem del_L1 (N:Nat) (k0:ByteArray) (lo:Int) (k2:List Int) (k3 k4 k5:Int) (k6:ByteArray) (k7:List Int) (k8:List ByteArray) (lv:List Int) (hb:lv.length<=4611686018427387904):∀ (n i j:Nat) (l4:List Int),j<=lv.length->l4.length=lv.length->l4.drop j=lv.drop j->i<=j->l4.take i=(lv.take j).filter (fun a=>kn lo a)->lv.length - j < n ->
  aI N k0 lo k2 k3 k4 k5 k6 k7 k8 bo n (l4,(i:Int),(j:Int))=some (lv.filter fun a=>kn lo a):=by
 intro n
 induction n with
 | zero=>intro i j l4 _ _ _ _ _ h; omega
 | succ n ih=>
  intro i j l4 hj hl hd hij ht hn;simp only [aI];by_cases hlt:j < lv.length
  ·have hx:l4[j]?=some lv[j]:=by
    have:=congrArg (fun l=>l[0]?) hd;simpa [List.getElem?_drop,hlt] using this
   have hw:∀ k:Nat,k < lv.length->IntKind.i64.wrap ((k:Int)+1)=((k+1:Nat):Int):=fun k hk=>by rw [dN (n:=(k:Int)+1) (by omega) (by omega)]; omega
   rw [if_pos (by omega),gx_nat hx];simp only [fi,Option.bind_some];have htk:(lv.take (j+1)).filter (fun a=>kn lo a)=(lv.take j).filter (fun a=>kn lo a)++(if kn lo lv[j] then [lv[j]] else []):=by
    rw [List.take_succ_eq_append_getElem hlt,List.filter_append];simp [List.filter_cons]
   have hd1:l4.drop (j+1)=lv.drop (j+1):=by
    have:=congrArg (List.drop 1) hd;simpa [List.drop_drop,Nat.add_comm] using this
   by_cases hq:lv[j]=lo
   ·simp only [hq,decide_true,if_true];rw [hw j hlt];exact ih i (j+1) l4 hlt hl hd1 (by omega) (by rw [htk,ht]; simp [kn,hq]) (by omega)
   ·simp only [hq,decide_false,Bool.false_eq_true,if_false];have hi:i < l4.length:=by omega
    rw [gx_nat (List.getElem?_eq_getElem hi),hw j hlt,hw i (by omega),Int.toNat_natCast];refine ih (i+1) (j+1) (l4.set i lv[j]) hlt (by simpa using hl) ?_ (by omega) ?_ (by omega)
    ·rw [List.drop_set_of_lt (by omega)]; exact hd1
    ·rw [htk,if_pos (by simp [kn,hq]),<-ht,List.take_succ_eq_append_getElem (by simpa using hi),List.take_set_of_le (Nat.le_refl i)];simp
  ·have hje:j=lv.length:=by omega
   subst hje;rw [if_neg (by omega),del_J1 l4 i (by omega),ht,List.take_length]
theorem del_V (N:Nat) (k0:ByteArray) (lo:Int) (k2:List Int) (k3 k4 k5:Int) (k6:ByteArray) (k7:List Int) (k8:List ByteArray) (lv:List Int) (hb:lv.length<=4611686018427387904) (hN:lv.length < N) :
  aW N lv k0 lo k2 k3 k4 k5 k6 k7 k8=some (lv.filter fun a=>kn lo a):=by
 unfold aW bH;rw [tk,Option.bind_some];cases h:lv.findIdx? (fun a=>!kn lo a) with
 | none=>
  simp only [if_true];rw [List.filter_eq_self.2];intro a ha;have:=List.findIdx?_eq_none_iff.1 h a ha;simpa using this
 | some i=>
  obtain ⟨hi,h1,h2⟩:=List.findIdx?_eq_some_iff_getElem.1 h;simp only [Nat.zero_add];rw [if_neg (by omega),dN (n:=(i:Int)+1) (by omega) (by omega),show (i:Int)+1=((i+1:Nat):Int) from by omega];refine del_L1 N k0 lo k2 k3 k4 k5 k6 k7 k8 lv hb N i (i+1) lv (by omega) rfl rfl (by omega) ?_ (by omega);rw [List.take_succ_eq_append_getElem hi,List.filter_append,List.filter_eq_self.2]
  ·simp only [Bool.not_eq_true',Bool.not_eq_eq_eq_not,Bool.not_true] at h1;simp [List.filter_cons,h1]
  ·intro a ha;obtain ⟨k,hk⟩:=List.mem_iff_getElem?.1 ha;have hki:k < i:=by
    have:=(List.getElem?_eq_some_iff.1 hk).1;simp at this; omega
   rw [List.getElem?_take_of_lt hki] at hk;have:=h2 k hki;rw [(List.getElem?_eq_some_iff.1 hk).2] at this;simpa using this
end Go.Proofs.Yteldkhmcgloafaa

namespace Go.Proofs.Yteldkhmcgloafaa
open Go Go.Proofs Go.Abs
theorem B8:ko 1000=some true:=by decide +kernel
def repS (r:Reply):Bool:=(r.Value_.L.all fun s=>decide (s.size<=200)) && (decide (r.Client_.size<=100) && (decide (r.Path.length<=40) && (decide (r.Value_.S.size<=200) && (decide (r.Value_.I.length<=40) && decide (r.Value_.L.length<=40)))))
theorem vI (kx:Option Bool):∀ (xs:List ByteArray) (v:Nat),gu kx xs v ()=if (xs.all fun s=>decide (s.size<=200))=true then kx else some false
 | [],v=>rfl
 | x::xs,v=>by
  simp only [gu,vI kx xs (v+1),List.all_cons];by_cases h:x.size<=200
  ·rw [if_neg (by omega)]; simp [h]
  ·rw [if_pos (by omega)]; simp [h]
theorem yw (N:Nat) (r:Reply):js N r=some (repS r):=by
 simp only [js,vI,lO,repS];generalize (r.Value_.L.all fun s=>decide (s.size<=200))=q;cases q<;>simp only [jI,kB,l5,if_true,if_false,Bool.false_eq_true,Bool.and_eq_true,Bool.or_eq_true,Bool.not_eq_true',decide_eq_true_eq,decide_eq_false_iff_not,Bool.and_false,Bool.and_true,Bool.or_true,Bool.or_false,Bool.true_or,Bool.false_or,Bool.not_true,Bool.not_false,and_false,false_and,or_false,false_or,Classical.not_not,true_and,and_true,iff_false,false_iff,not_false_eq_true,not_true_eq_false,true_or,or_true ]<;>omega
def cliS (c:Client):Bool:=decide (c.Name.size<=100) && (decide (c.Open.length<=40) && (decide (c.Done.length<=40) && c.Done.all fun a=>repS a.Reply_))
theorem vn (N:Nat) (c:Client) (rec:Unit->Option Bool) (hl:c.Done.length<=40):∀ (n i:Nat),i<=c.Done.length->c.Done.length - i < n->gw c N rec n ((i:Nat):Int)=if ((c.Done.drop i).all fun a=>repS a.Reply_)=true then rec () else some false
 | 0,i,_,h=>by omega
 | n+1,i,hi,h=>by
  simp only [gw];by_cases hlt:i < c.Done.length
  ·have hx:c.Done[i]?=some c.Done[i]:=List.getElem?_eq_getElem hlt;rw [if_pos (by omega),gx_of hx,yw,Option.bind_some,List.drop_eq_getElem_cons hlt,List.all_cons];have hw:IntKind.i64.wrap (((i:Nat):Int)+1)=((i+1:Nat):Int):=by
    rw [w64 (n:=((i:Nat):Int)+1) (by omega) (by omega)]; omega
   rw [hw,vn N c rec hl n (i+1) (by omega) (by omega)];cases repS c.Done[i].Reply_<;>simp
  ·rw [if_neg (by omega),List.drop_of_length_le (by omega)];rfl
theorem vA (N:Nat) (hN:1000<=N) (t:List Client):∀ (xs:List Client) (v:Nat),eG t N xs v ()=if xs.all cliS=true then some (decide (((t.length:Nat):Int)<=40)) else some false
 | [],v=>rfl
 | x::xs,v=>by
  have ih:=vA N hN t xs (v+1);simp only [eG,iP,iQ,List.all_cons,cliS];by_cases h1:x.Name.size<=100
  ·by_cases h2:x.Open.length<=40
   ·by_cases h3:x.Done.length<=40
    ·rw [if_neg (by omega),if_neg (by omega),if_neg (by simp; omega),show (0:Int)=((0:Nat):Int) from rfl,vn N x _ h3 N 0 (by omega) (by omega),ih,List.drop_zero];simp only [h1,h2,h3,decide_true,Bool.true_and];have:(xs.all cliS)=xs.all cliS:=rfl;cases (x.Done.all fun a=>repS a.Reply_)<;>simp [cliS]
    ·rw [if_neg (by omega),if_neg (by omega),if_pos (by simp; omega)]; simp [h3]
   ·rw [if_neg (by omega),if_pos (by omega)]; simp [h2]
  ·rw [if_pos (by omega)]; simp [h1]
def smallB (t:List Client):Bool:=t.all cliS && decide (t.length<=40)
theorem A8 (N:Nat) (hN:1000<=N) (t:List Client):jr N t=some (smallB t):=by
 simp only [jr,vA N hN,smallB];cases t.all cliS with
 | false=>rfl
 | true=>simp only [if_true,Bool.true_and,Option.some.injEq]; rw [uV]; simp only [decide_eq_true_eq]; omega
theorem AH {t:List Client} (h:smallB t=true):SmT t:=by
 simp only [smallB,Bool.and_eq_true,decide_eq_true_eq,List.all_eq_true,cliS] at h;exact ⟨h.2,fun c hc=>⟨(h.1 c hc).2.1,(h.1 c hc).2.2.1⟩⟩
end Go.Proofs.Yteldkhmcgloafaa

namespace Go.Proofs.Yteldkhmcgloafaa
open Go Go.Proofs Go.Abs
theorem sEq_ne {a b:ByteArray} (h:a≠b):sEq a b=false:=by
 cases e:sEq a b with
 | false=>rfl
 | true=>exact absurd (pL.1 e) h
theorem lt_ne {a b:ByteArray} (h:sLt a b=true):a≠b:=by rintro rfl; rw [jb] at h; cases h
theorem m6:∀ {t:List Client} (hp:So t) (c x:Client),x∈putT t c↔x=c∨(x∈t/\x.Name≠c.Name)
 | [],_,c,x=>by simp [putT,plc,hasN]
 | y::ys,hp,c,x=>by
  have hp':=List.pairwise_cons.1 hp;rw [tV];rcases w7 y.Name c.Name with h|h|h
  ·rw [if_pos h];have hne:=lt_ne h;simp only [List.mem_cons,m6 hp'.2 c x];constructor
   ·rintro (rfl|rfl|⟨h1,h2⟩)
    ·exact .inr ⟨.inl rfl,hne⟩
    ·exact .inl rfl
    ·exact .inr ⟨.inr h1,h2⟩
   ·rintro (rfl|⟨rfl|h1,h2⟩)
    ·exact .inr (.inl rfl)
    ·exact .inl rfl
    ·exact .inr (.inr ⟨h1,h2⟩)
  ·rw [if_neg (by rw [h,jb]; simp),if_pos (by rw [h,lU])];simp only [List.mem_cons];constructor
   ·rintro (rfl|h1)
    ·exact .inl rfl
    ·exact .inr ⟨.inr h1,fun e=>by have:=hp'.1 x h1; rw [e,h,jb] at this; cases this⟩
   ·rintro (rfl|⟨rfl|h1,h2⟩)
    ·exact .inl rfl
    ·exact absurd h h2
    ·exact .inr h1
  ·rw [if_neg (by rw [ue h]; simp),if_neg (by rw [sEq_ne (lt_ne h).symm]; simp)];simp only [List.mem_cons];constructor
   ·rintro (rfl|rfl|h1)
    ·exact .inl rfl
    ·exact .inr ⟨.inl rfl,(lt_ne h).symm⟩
    ·exact .inr ⟨.inr h1,fun e=>by have:=mv h (hp'.1 x h1); rw [e,jb] at this; cases this⟩
   ·rintro (rfl|⟨rfl|h1,h2⟩)
    ·exact .inl rfl
    ·exact .inr (.inl rfl)
    ·exact .inr (.inr h1)
theorem put_so:∀ {t:List Client} (hp:So t) (c:Client),So (putT t c)
 | [],_,c=>by simp [putT,plc,hasN,So]
 | y::ys,hp,c=>by
  have hp':=List.pairwise_cons.1 hp;rw [tV];rcases w7 y.Name c.Name with h|h|h
  ·rw [if_pos h];refine List.pairwise_cons.2 ⟨fun x hx=>?_,put_so hp'.2 c⟩;rcases (m6 hp'.2 c x).1 hx with rfl|⟨h1,_⟩
   ·exact h
   ·exact hp'.1 x h1
  ·rw [if_neg (by rw [h,jb]; simp),if_pos (by rw [h,lU])];exact List.pairwise_cons.2 ⟨fun x hx=>by rw [<-h]; exact hp'.1 x hx,hp'.2⟩
  ·rw [if_neg (by rw [ue h]; simp),if_neg (by rw [sEq_ne (lt_ne h).symm]; simp)];refine List.pairwise_cons.2 ⟨fun x hx=>?_,hp⟩;rcases List.mem_cons.1 hx with rfl|hx
   ·exact h
   ·exact mv h (hp'.1 x hx)
theorem BR {t:List Client} (hp:So t) (c:Client):(putT t c).length=if (cliOf t c.Name).isSome=true then t.length else t.length+1:=by
 rw [lY hp];have:=plc_le t c.Name;unfold putT;cases h:hasN t c.Name with
 | true=>
  have hl:plc t c.Name < t.length:=by
   rcases Nat.lt_or_ge (plc t c.Name) t.length with q|q
   ·exact q
   ·unfold hasN at h; rw [List.getElem?_eq_none_iff.2 q] at h; cases h
  rw [if_pos rfl,if_pos rfl,List.getElem?_eq_getElem hl];simp;omega
 | false=>
  simp;omega
theorem qR {t:List Client} (hp:So t) {k:ByteArray} {c:Client}:cliOf t k=some c↔c∈t/\c.Name=k:=by
 constructor
 ·exact ig
 ·rintro ⟨h,rfl⟩; exact zj hp h
theorem zS {t:List Client} (hp:So t) (c:Client) (k:ByteArray):cliOf (putT t c) k=if k=c.Name then some c else cliOf t k:=by
 by_cases e:k=c.Name
 ·rw [if_pos e,qR (put_so hp c)];exact ⟨(m6 hp c c).2 (.inl rfl),e.symm⟩
 ·rw [if_neg e];cases h:cliOf t k with
  | some d=>
   obtain ⟨h1,h2⟩:=ig h;rw [qR (put_so hp c)];exact ⟨(m6 hp c d).2 (.inr ⟨h1,by rw [h2]; exact e⟩),h2⟩
  | none=>
   cases h':cliOf (putT t c) k with
   | none=>rfl
   | some d=>
    exfalso;obtain ⟨h1,h2⟩:=ig h';rcases (m6 hp c d).1 h1 with rfl|⟨h3,_⟩
    ·exact e h2.symm
    ·have:=(qR hp).2 ⟨h3,h2⟩;rw [h] at this; cases this
theorem VT.put {t:List Client} (h:VT t) {c:Client} (hc:VC c) (hl:(cliOf t c.Name).isSome=true∨t.length < 32):VT (putT t c):=by
 refine ⟨?_,fun x hx=>?_,put_so h.so c⟩
 ·rw [BR h.so];have:=h.len;split
  ·exact this
  ·rename_i q;rcases hl with hl|hl
   ·exact absurd hl q
   ·omega
 ·rcases (m6 h.so c x).1 hx with rfl|⟨h1,_⟩
  ·exact hc
  ·exact h.cl x h1
theorem pt {c:Client}:∀ {l:List Answer} {last:Int},ansB c last l=true↔(l.Pairwise (fun a b=>a.Seq < b.Seq)/\∀ a∈l,last < a.Seq/\a.Seq∉c.Open/\repB a.Reply_=true/\a.Reply_.Client_=c.Name/\a.Reply_.Seq=a.Seq)
 | [],last=>by simp [ansB]
 | x::xs,last=>by
  simp only [ansB,Bool.and_eq_true,decide_eq_true_eq,Bool.not_eq_true',decide_eq_false_iff_not,pL,pt (l:=xs) (last:=x.Seq),List.pairwise_cons];constructor
  ·rintro ⟨h1,h2,h3,h4,h5,h6,h7⟩;refine ⟨⟨fun a ha=>(h7 a ha).1,h6⟩,fun a ha=>?_⟩;rcases List.mem_cons.1 ha with rfl|ha
   ·exact ⟨h1,h2,h3,h4,h5⟩
   ·have:=h7 a ha; exact ⟨by omega,this.2⟩
  ·rintro ⟨⟨h1,h2⟩,h3⟩;have:=h3 x (by simp);exact ⟨this.1,this.2.1,this.2.2.1,this.2.2.2.1,this.2.2.2.2,h2,fun a ha=>⟨h1 a ha,(h3 a (by simp [ha])).2⟩⟩
theorem sA {l:List Int} {n x:Int}:x∈insI l n↔x=n∨x∈l:=by
 have:x∈l↔x∈l.take (pz l n)∨x∈l.drop (pz l n):=by rw [<-List.mem_append,List.take_append_drop]
 simp only [insI,List.mem_append,List.mem_singleton,this];constructor
 ·rintro ((h|h)|h)
  ·exact .inr (.inl h)
  ·exact .inl h
  ·exact .inr (.inr h)
 ·rintro (h|h|h)
  ·exact .inl (.inr h)
  ·exact .inl (.inl h)
  ·exact .inr h
theorem sd:∀ {l:List Int} {n:Int},l.Pairwise (· < ·)->n∉l->(insI l n).Pairwise (· < ·)
 | [],n,_,_=>by simp [z8]
 | x::xs,n,hs,hn=>by
  have hs':=List.pairwise_cons.1 hs;simp only [List.mem_cons,not_or] at hn;rw [zg];split
  ·rename_i h;refine List.pairwise_cons.2 ⟨fun y hy=>?_,sd hs'.2 hn.2⟩;rcases sA.1 hy with rfl|hy
   ·exact h
   ·exact hs'.1 y hy
  ·rename_i h;refine List.pairwise_cons.2 ⟨fun y hy=>?_,hs⟩;rcases List.mem_cons.1 hy with rfl|hy
   ·omega
   ·have:=hs'.1 y hy; omega
theorem AO (l:List Int) (n:Int):(insI l n).length=l.length+1:=by
 have:=pz_le l n;simp only [insI,List.length_append,List.length_take,List.length_drop,List.length_cons,List.length_nil]; omega
theorem sm {n:Int}:numB n=true↔1<=n/\n<=1099511627776:=by simp [numB]
theorem yX {c:Client} {n:Int} (h3:statC c n≠3) (h1:statC c n≠1) (h2:statC c n≠2):c.Low < n/\n∉c.Open/\∀ a∈c.Done,a.Seq≠n:=by
 unfold statC at *;by_cases q1:n<=c.Low
 ·simp [q1] at h3
 ·by_cases q2:n∈c.Open
  ·simp [q1,q2] at h1
  ·simp only [q1,q2,if_false] at h2;refine ⟨by omega,q2,fun a ha e=>?_⟩;cases h:ansOf c n with
   | some b=>rw [h] at h2; simp at h2
   | none=>
    have:=List.find?_eq_none.1 h a ha;simp [e] at this
theorem VC.opened {c:Client} (h:VC c) {n:Int} (hn:numB n=true) (h3:statC c n≠3) (h1:statC c n≠1) (h2:statC c n≠2) (hl:c.Open.length+c.Done.length≠16):VC (Client.mk c.Name c.Low (insI c.Open n) c.Done):=by
 obtain ⟨q1,q2,q3⟩:=yX h3 h1 h2;have hn':=sm.1 hn;have ha:=m4.1 h.op;have hd:=pt.1 h.dn;refine ⟨h.nm,h.lo,h.hi,?_,m4.2 ⟨sd ha.1 q2,fun x hx=>?_⟩,pt.2 ⟨hd.1,fun a ha'=>?_⟩⟩
 ·have:=h.ln;show (insI c.Open n).length+c.Done.length<=16;rw [AO]; omega
 ·rcases sA.1 hx with rfl|hx
  ·exact ⟨q1,hn'.2⟩
  ·exact ha.2 x hx
 ·have:=hd.2 a ha';refine ⟨this.1,fun hm=>?_,this.2.2⟩;rcases sA.1 hm with e|hm
  ·exact q3 a ha' e
  ·exact this.2.1 hm
theorem VC.new {k:ByteArray} (hk:nameB k=true) {n:Int} (hn:numB n=true):VC (Client.mk k 0 [n] []):=by
 have:=sm.1 hn;refine ⟨hk,by simp,by simp,by simp,?_,rfl⟩;simp [ascB]; omega
theorem VC.acked {c:Client} (h:VC c) {u:Int} (hu:numB u=true) (ho:¬ ∃ x,c.Open.head?=some x/\x<=u) :
  VC (Client.mk c.Name (if u > c.Low then u else c.Low) c.Open (c.Done.filter fun a=>decide ((if u > c.Low then u else c.Low) < a.Seq))):=by
 have hu':=sm.1 hu;have ha:=m4.1 h.op;have hd:=pt.1 h.dn;have hlo:=h.lo;have hhi:=h.hi;have hgt:∀ x∈c.Open,u < x:=by
  intro x hx;cases hc:c.Open with
  | nil=>rw [hc] at hx; cases hx
  | cons y ys=>
   have hy:u < y:=by
    rcases Int.lt_or_le u y with q|q
    ·exact q
    ·exact absurd ⟨y,by rw [hc]; rfl,q⟩ ho
   rw [hc] at hx ha;rcases List.mem_cons.1 hx with rfl|hx
   ·exact hy
   ·have:=(List.pairwise_cons.1 ha.1).1 x hx; omega
 generalize hl:(if u > c.Low then u else c.Low)=lo;have hlo':c.Low<=lo/\lo<=1099511627776/\(lo=u∨lo=c.Low):=by
  by_cases q:u > c.Low
  ·rw [if_pos q] at hl; omega
  ·rw [if_neg q] at hl; omega
 refine ⟨h.nm,by show 0<=lo; omega,hlo'.2.1,?_,m4.2 ⟨ha.1,fun x hx=>?_⟩,pt.2 ⟨hd.1.sublist List.filter_sublist,fun a ha'=>?_⟩⟩
 ·have:=h.ln;have:=List.length_filter_le (fun a:Answer=>decide (lo < a.Seq)) c.Done;show c.Open.length+(c.Done.filter fun a=>decide (lo < a.Seq)).length<=16;omega
 ·have h1:=ha.2 x hx;have h2:=hgt x hx;exact ⟨by show lo < x; rcases hlo'.2.2 with e|e<;>omega,h1.2⟩
 ·obtain ⟨h1,h2⟩:=List.mem_filter.1 ha';have:=hd.2 a h1;exact ⟨by simpa using h2,this.2⟩
theorem qX {t:List Client} (hp:So t) {c:Client} {k:ByteArray} (h:k≠c.Name) (n:Int):statT (putT t c) k n=statT t k n/\repT (putT t c) k n=repT t k n:=by
 simp only [statT,repT,zS hp,if_neg h,and_self]
theorem yJ {t:List Client} (h:VT t) (k b:ByteArray) (n o:Int) (hb:k≠b) (he:(openT t k n).2=0):VT (openT t k n).1/\statT (openT t k n).1 b o=statT t b o/\repT (openT t k n).1 b o=repT t b o:=by
 unfold openT at *;by_cases hq:nameB k=true/\numB n=true
 ·rw [if_pos hq] at he ⊢;by_cases h3:statT t k n=3
  ·rw [if_pos h3] at he; cases he
  ·rw [if_neg h3] at he ⊢;by_cases h12:statT t k n=1∨statT t k n=2
   ·rw [if_pos h12] at he; cases he
   ·rw [if_neg h12] at he ⊢;rw [not_or] at h12;cases hc:cliOf t k with
    | some c=>
     rw [hc] at he;obtain ⟨hm,rfl⟩:=ig hc;have hst:∀ n,statT t c.Name n=statC c n:=fun n=>by simp [statT,hc]
     rw [hst] at h3 h12;by_cases h16:c.Open.length+c.Done.length=16
     ·simp [h16] at he
     ·simp only [h16,if_false];have hv:=(h.cl c hm).opened hq.2 h3 h12.1 h12.2 h16;exact ⟨h.put hv (.inl (by show (cliOf t c.Name).isSome=true; rw [hc]; rfl)),qX h.so (c:=Client.mk c.Name c.Low (insI c.Open n) c.Done) (by exact hb.symm) o⟩
    | none=>
     rw [hc] at he;by_cases h32:t.length=32
     ·simp [h32] at he
     ·simp only [h32,if_false];have hlen:=h.len;exact ⟨h.put (VC.new hq.1 hq.2) (.inr (by omega)),qX h.so (c:=Client.mk k 0 [n] []) (by exact hb.symm) o⟩
 ·rw [if_neg hq] at he; cases he
theorem zF {t:List Client} (h:VT t) (k b:ByteArray) (n o:Int) (hb:k≠b) (he:(ackT t k n).2=0):VT (ackT t k n).1/\statT (ackT t k n).1 b o=statT t b o/\repT (ackT t k n).1 b o=repT t b o:=by
 unfold ackT at *;by_cases hq:nameB k=true/\numB n=true
 ·rw [if_pos hq] at he ⊢;cases hc:cliOf t k with
  | some c=>
   rw [hc] at he;obtain ⟨hm,rfl⟩:=ig hc;by_cases ho:∃ x,c.Open.head?=some x/\x<=n
   ·simp only [if_pos ho] at he; cases he
   ·simp only [if_neg ho];have hv:=(h.cl c hm).acked hq.2 ho;exact ⟨h.put hv (.inl (by show (cliOf t c.Name).isSome=true; rw [hc]; rfl)),qX h.so (c:=Client.mk c.Name (if n > c.Low then n else c.Low) c.Open (c.Done.filter fun a=>decide ((if n > c.Low then n else c.Low) < a.Seq))) (by exact hb.symm) o⟩
  | none=>rw [hc] at he; cases he
 ·rw [if_neg hq] at he; cases he
theorem AR (r:List Client × Int) (b:ByteArray) (o s:Int) (q:Reply × Bool) (hs:r.2=0->bR 1000 r.1 b o=some s/\eT 1000 r.1 b o=some q):dz r 1000 b o s q=some true:=by
 unfold dz;by_cases h:r.2=0
 ·obtain ⟨h1,h2⟩:=hs h;rw [if_pos h,h1,h2];simp only [Option.bind_some,if_true,pI]
 ·rw [if_neg h]
theorem sK (t:List Client) (a b:ByteArray) (n o:Int):fK 1000 t a b n o=some true:=by
 simp only [fK,B8,A8 1000 (Nat.le_refl _),Option.bind_some,if_true,dT];cases hsm:smallB t with
 | false=>simp
 | true=>
  have hs:=AH hsm;simp only [if_true,pG 1000 hs.1 hs.2,Option.bind_some];by_cases h:VT t
  ·by_cases hab:a=b
   ·simp only [hab,lU,if_true];repeat' (first|rfl|split)
   ·have hJ:dy 1000 t b o a n=some true:=by
     simp only [dy,oM 1000 h,sE 1000 h,Bv 1000 (Nat.le_refl _) h,ack_eq 1000 (Nat.le_refl _) h,Option.bind_some];have hJ3:dz (ackT t a n) 1000 b o (statT t b o) (repT t b o,decide (statT t b o=2))=some true:=by
      refine AR _ b o _ _ fun h0=>?_;obtain ⟨h1,h2,h3⟩:=zF h a b n o hab h0;rw [oM 1000 h1,sE 1000 h1,h2,h3];exact ⟨rfl,rfl⟩
     rw [hJ3];by_cases h0:(openT t a n).2=0
     ·obtain ⟨h1,h2,h3⟩:=yJ h a b n o hab h0;rw [if_pos h0,oM 1000 h1,sE 1000 h1,h2,h3];simp only [Option.bind_some,if_true,pI,fD,Bool.not_true,Bool.false_eq_true,if_false]
     ·rw [if_neg h0]
    simp only [sH.2 h,hJ,Bool.not_true,Bool.false_eq_true,if_false];repeat' (first|rfl|split)
  ·simp only [zL h,Bool.not_false,if_true];repeat' (first|rfl|split)
end Go.Proofs.Yteldkhmcgloafaa
