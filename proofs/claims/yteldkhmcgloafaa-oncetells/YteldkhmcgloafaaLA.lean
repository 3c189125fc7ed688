/- Plain facts on the models; no program in sight. -/
import Derived.Test.YteldkhmcgloafaaM
set_option linter.unusedSimpArgs false
set_option linter.unusedVariables false
namespace Go.Proofs.Yteldkhmcgloafaa
open Go Go.Proofs Go.Abs
theorem w64' {n:Int} (h1:-9223372036854775808<=n) (h2:n<=9223372036854775807):IntKind.i64.wrap n=n:=eB h1 h2
theorem wD {a b:ByteArray}:sEq a b=true↔a=b:=by
 unfold sEq;rw [beq_iff_eq,ByteArray.toList_eq,ByteArray.toList_eq];obtain ⟨⟨x⟩⟩:=a;obtain ⟨⟨y⟩⟩:=b;simp
theorem rb (a:ByteArray):sEq a a=true:=wD.2 rfl
theorem gK {c:Prop} [Decidable c] {a b:Bool}:(if c then some a else some b)=some (if c then a else b):=by split<;>rfl
theorem kP {c:Prop} [Decidable c] {a b:Bool}:((if c then a else b)=true)↔((c/\a=true)∨(¬ c/\b=true)):=by split<;>simp [*]
theorem jb {a b:Bool}:(some a=some b)↔(a=true↔b=true):=by cases a<;>cases b<;>simp
theorem AD {a b:Bool}:(a=b)↔(a=true↔b=true):=by cases a<;>cases b<;>simp
theorem gx_of {α β:Type} {l:List α} {i:Nat} {x:α} {k:α->Option β} (h:l[i]?=some x):gx l (i:Int) k=k x:=gx_nat h
def all2 {α:Type} (e:α->α->Bool):List α->List α->Bool
 | [],_=>true
 | x::xs,y::ys=>e x y && all2 e xs ys
 | _::_,[]=>false
theorem Al {α:Type} {e:α->α->Bool} (he:∀ x y,e x y=true↔x=y):∀ {a b:List α},a.length=b.length->(all2 e a b=true↔a=b)
 | [],[],_=>by simp [all2]
 | [],_::_,h=>by simp at h
 | _::_,[],h=>by simp at h
 | x::a,y::b,h=>by
  simp only [all2,Bool.and_eq_true,he,List.cons.injEq];rw [Al he (by simpa using h)]
theorem B3 {α:Type} {L:List α->Nat->Unit->Option Bool} (a1:List α) (e:α->α->Bool) (h0:∀ v,L [] v ()=some true)
  (h1:∀ x xs v,L (x::xs) v ()=gx a1 (v:Int) fun y=>if e x y=true then L xs (v+1) () else some false) :
  ∀ (xs:List α) (v:Nat),v+xs.length<=a1.length->L xs v ()=some (all2 e xs (a1.drop v))
 | [],v,_=>by rw [h0]; rfl
 | x::xs,v,h=>by
  simp only [List.length_cons] at h;have hv:v < a1.length:=by omega
  rw [h1,gx_of (List.getElem?_eq_getElem hv),List.drop_eq_getElem_cons hv,B3 a1 e h0 h1 xs (v+1) (by omega)];simp only [all2];cases e x a1[v]<;>simp
def eqL {α:Type} (e:α->α->Bool) (a b:List α):Bool:=decide (a.length=b.length) && all2 e a b
theorem Ct {α:Type} {e:α->α->Bool} (he:∀ x y,e x y=true↔x=y) {a b:List α}:eqL e a b=true↔a=b:=by
 unfold eqL;by_cases h:a.length=b.length
 ·simp [h,Al he h]
 ·have:¬ a=b:=fun e=>h (by rw [e]);simp [h,this]
theorem eq_fun {α:Type} {L:List α->Nat->Unit->Option Bool} (a0 a1:List α) (e:α->α->Bool) (h0:∀ v,L [] v ()=some true)
  (h1:∀ x xs v,L (x::xs) v ()=gx a1 (v:Int) fun y=>if e x y=true then L xs (v+1) () else some false) :
  (if ((a0.length:Nat):Int)=((a1.length:Nat):Int) then L a0 0 () else some false)=some (eqL e a0 a1):=by
 unfold eqL;by_cases h:a0.length=a1.length
 ·rw [if_pos (by omega),B3 a1 e h0 h1 a0 0 (by omega),List.drop_zero];simp [h]
 ·rw [if_neg (by omega)];simp [h]
def findP {α:Type} (p:α->Bool):List α->Nat->Int
 | [],_=>-1
 | x::xs,v=>if p x=true then (v:Int) else findP p xs (v+1)
theorem rY {α:Type} (p:α->Bool):∀ (xs:List α) (v:Nat),decide (0<=findP p xs v)=xs.any p
 | [],v=>rfl
 | x::xs,v=>by
  simp only [findP,List.any_cons];by_cases h:p x=true
  ·have:(0:Int)<=(v:Int):=by omega
   simp [h,this]
  ·simpa [h] using rY p xs (v+1)
theorem AH {α:Type} {l:List α} {i:Nat} {x:α} (h:l[i]?=some x):l.set i x=l:=by
 apply List.ext_getElem?;intro j;rw [List.getElem?_set];split
 ·rename_i e;subst e;have:=(List.getElem?_eq_some_iff.1 h).1;rw [if_pos this,h]
 ·rfl
theorem apn_of {α β:Type} {b:Nat} {l:List α} {k:Option β} (h:l.length * (b+1)<=140737488355328):apn b l k=k:=by simp only [apn]; rw [if_pos h]
theorem apx_of {α β:Type} {b:Nat} {l l':List α} {k:List α->Option β} (h:(l.length+l'.length) * (b+1)<=140737488355328):apx b l l' k=k (l++l'):=by simp only [apx]; rw [if_pos h]
end Go.Proofs.Yteldkhmcgloafaa

namespace Go.Proofs.Yteldkhmcgloafaa
open Go Go.Proofs Go.Abs
def strsB (l:List ByteArray):Bool:=l.all fun s=>decide (s.size<=64)
theorem ya:∀ (xs:List ByteArray) (v:Nat),fF xs v ()=some (strsB xs)
 | [],v=>rfl
 | x::xs,v=>by
  have ih:=ya xs (v+1);simp only [fF,ih,strsB,List.all_cons]
  grind
theorem yl:∀ (xs:List ByteArray) (v:Nat),fI xs v ()=some (strsB xs)
 | [],v=>rfl
 | x::xs,v=>by
  have ih:=yl xs (v+1);simp only [fI,ih,strsB,List.all_cons]
  grind
def valueB (v:Value):Bool:=
 decide (0<=v.Kind) && decide (v.Kind<=5) &&
 decide (v.N=0∨v.Kind=1∨(v.Kind=2/\v.N=1)) &&
 (sEq v.S ⟨#[]⟩ || decide (v.Kind=3)) && (decide (v.I.length=0) || decide (v.Kind=4)) && (decide (v.L.length=0) || decide (v.Kind=5)) &&
 decide (v.S.size<=64) && decide (v.I.length<=16) && decide (v.L.length<=16) && strsB v.L
theorem vk (N:Nat) (v:Value):gP N v=some (valueB v):=by
 simp only [gP,jM,jY,jS,jE,fA,gI,gL,fG,jL,ya,valueB];generalize strsB v.L=q;generalize sEq v.S ⟨#[]⟩=z;cases z<;>cases q<;>simp only [gK,jb,kP,if_true,if_false,Bool.false_eq_true,Bool.and_eq_true,Bool.or_eq_true,Bool.not_eq_true',decide_eq_true_eq,decide_eq_false_iff_not,Bool.and_false,Bool.and_true,Bool.or_true,Bool.or_false,Bool.true_or,Bool.false_or,Bool.not_true,Bool.not_false,and_false,false_and,or_false,false_or,Classical.not_not,true_and,and_true,iff_false,false_iff,not_false_eq_true,not_true_eq_false,true_or,or_true ]<;>omega
theorem uM (N:Nat) (v:Value):gU N v=some (valueB v):=by
 simp only [gU,ai,bg,bj,aj,yl,valueB];generalize strsB v.L=q;generalize sEq v.S ⟨#[]⟩=z;cases z<;>cases q<;>simp only [gK,jb,kP,if_true,if_false,Bool.false_eq_true,Bool.and_eq_true,Bool.or_eq_true,Bool.not_eq_true',decide_eq_true_eq,decide_eq_false_iff_not,Bool.and_false,Bool.and_true,Bool.or_true,Bool.or_false,Bool.true_or,Bool.false_or,Bool.not_true,Bool.not_false,and_false,false_and,or_false,false_or,Classical.not_not,true_and,and_true,iff_false,false_iff,not_false_eq_true,not_true_eq_false,true_or,or_true ]<;>omega
def intsE (a b:List Int):Bool:=eqL (fun x y=>decide (x=y)) a b
def strsE (a b:List ByteArray):Bool:=eqL sEq a b
theorem uS {a b:List Int}:intsE a b=true↔a=b:=Ct (by simp)
theorem D0 {a b:List ByteArray}:strsE a b=true↔a=b:=Ct (fun _ _=>wD)
theorem od (N:Nat) (a b:List Int):ia N a b=some (intsE a b):=
 eq_fun (L:=gB b) a b _ (fun _=>rfl) (fun x xs v=>by simp [gB])
theorem uJ (N:Nat) (a b:List ByteArray):jd N a b=some (strsE a b):=
 eq_fun (L:=fe b) a b _ (fun _=>rfl) (fun x xs v=>by simp [fe])
def valE (a b:Value):Bool:=decide (a.Kind=b.Kind) && decide (a.N=b.N) && sEq a.S b.S && intsE a.I b.I && strsE a.L b.L
theorem E9 (a b:Value):valE a b=true↔a=b:=by
 obtain ⟨a1,a2,a3,a4,a5⟩:=a;obtain ⟨b1,b2,b3,b4,b5⟩:=b;simp [valE,wD,uS,D0,and_assoc]
theorem vX (N:Nat) (a b:Value):iS N a b=some (valE a b):=by
 simp only [iS,od,uJ,Option.bind_some,valE,gK,jb,kP,if_true,if_false,Bool.false_eq_true,Bool.and_eq_true,Bool.or_eq_true,Bool.not_eq_true',decide_eq_true_eq,decide_eq_false_iff_not,Bool.and_false,Bool.and_true,Bool.or_true,Bool.or_false,Bool.true_or,Bool.false_or,Bool.not_true,Bool.not_false,and_false,false_and,or_false,false_or,Classical.not_not,true_and,and_true,iff_false,false_iff,not_false_eq_true,not_true_eq_false,true_or,or_true ];all_goals grind
theorem px (N:Nat) (r:Reply):fM N r r=some true:=by
 have e1:intsE r.Path r.Path=true:=uS.2 rfl;have e2:valE r.Value_ r.Value_=true:=(E9 _ _).2 rfl;simp [fM,od,vX,rb,e1,e2]
theorem B1 (N:Nat) (rec:Unit->Option Bool) (c:Client):∀ (xs:List Answer) (v:Nat),c.Done.drop v=xs->ic rec c N xs v ()=rec ()
 | [],v,_=>rfl
 | x::xs,v,h=>by
  have hx:c.Done[v]?=some x:=by
   have:=congrArg (fun l=>l[0]?) h;simpa [List.getElem?_drop] using this
  have hd:c.Done.drop (v+1)=xs:=by
   have:=congrArg (List.drop 1) h;simpa [List.drop_drop,Nat.add_comm] using this
  simp only [ic];rw [gx_of hx];simp only [if_true,px,Option.bind_some,mU,Bool.not_true,Bool.false_eq_true,if_false];exact B1 N rec c xs (v+1) hd
theorem B8 (N:Nat) (t:List Client):∀ (xs:List Client) (v:Nat),t.drop v=xs->fu t N xs v ()=some true
 | [],v,_=>rfl
 | x::xs,v,h=>by
  have hx:t[v]?=some x:=by
   have:=congrArg (fun l=>l[0]?) h;simpa [List.getElem?_drop] using this
  have hd:t.drop (v+1)=xs:=by
   have:=congrArg (List.drop 1) h;simpa [List.drop_drop,Nat.add_comm] using this
  have e1:intsE x.Open x.Open=true:=uS.2 rfl;simp only [fu];rw [gx_of hx];simp only [rb,if_true,od,Option.bind_some,e1,jw,decide_true,Bool.not_true,Bool.false_eq_true,if_false,jz];rw [B1 N _ x x.Done 0 (by simp)];exact B8 N t xs (v+1) hd
theorem zn (N:Nat) (t:List Client):j8 N t t=some true:=by
 simp only [j8,if_true];exact B8 N t t 0 (by simp)
def nameB (s:ByteArray):Bool:=decide (1<=s.size) && decide (s.size<=32)
theorem mV (N:Nat) (s:ByteArray):iv N s=some (nameB s):=by
 simp only [iv,nameB,gK,jb,kP,if_true,if_false,Bool.false_eq_true,Bool.and_eq_true,Bool.or_eq_true,Bool.not_eq_true',decide_eq_true_eq,decide_eq_false_iff_not,Bool.and_false,Bool.and_true,Bool.or_true,Bool.or_false,Bool.true_or,Bool.false_or,Bool.not_true,Bool.not_false,and_false,false_and,or_false,false_or,Classical.not_not,true_and,and_true,iff_false,false_iff,not_false_eq_true,not_true_eq_false,true_or,or_true ]<;>omega
theorem j9 (N:Nat) (s:ByteArray):eH N s=some (nameB s):=by
 simp only [eH,nameB,gK,jb,kP,if_true,if_false,Bool.false_eq_true,Bool.and_eq_true,Bool.or_eq_true,Bool.not_eq_true',decide_eq_true_eq,decide_eq_false_iff_not,Bool.and_false,Bool.and_true,Bool.or_true,Bool.or_false,Bool.true_or,Bool.false_or,Bool.not_true,Bool.not_false,and_false,false_and,or_false,false_or,Classical.not_not,true_and,and_true,iff_false,false_iff,not_false_eq_true,not_true_eq_false,true_or,or_true ]<;>omega
def numB (n:Int):Bool:=decide (1<=n) && decide (n<=1099511627776)
theorem oS (N:Nat) (n:Int):gM N n=some (numB n):=by
 simp only [gM,numB,gK,jb,kP,if_true,if_false,Bool.false_eq_true,Bool.and_eq_true,Bool.or_eq_true,Bool.not_eq_true',decide_eq_true_eq,decide_eq_false_iff_not,Bool.and_false,Bool.and_true,Bool.or_true,Bool.or_false,Bool.true_or,Bool.false_or,Bool.not_true,Bool.not_false,and_false,false_and,or_false,false_or,Classical.not_not,true_and,and_true,iff_false,false_iff,not_false_eq_true,not_true_eq_false,true_or,or_true ]<;>omega
def repB (r:Reply):Bool:=nameB r.Client_ && numB r.Seq && decide (r.Path.length=0) && decide (0<=r.Err) && decide (r.Err<=27) && valueB r.Value_ && (decide (r.Err=0) || decide (r.Value_.Kind=0))
theorem jf (N:Nat) (r:Reply):eI N r=some (repB r):=by
 simp only [eI,mV,oS,vk,Option.bind_some,repB];generalize nameB r.Client_=a;generalize numB r.Seq=b;generalize valueB r.Value_=c;cases a<;>cases b<;>cases c<;>simp only [gK,jb,kP,if_true,if_false,Bool.false_eq_true,Bool.and_eq_true,Bool.or_eq_true,Bool.not_eq_true',decide_eq_true_eq,decide_eq_false_iff_not,Bool.and_false,Bool.and_true,Bool.or_true,Bool.or_false,Bool.true_or,Bool.false_or,Bool.not_true,Bool.not_false,and_false,false_and,or_false,false_or,Classical.not_not,true_and,and_true,iff_false,false_iff,not_false_eq_true,not_true_eq_false,true_or,or_true ]<;>omega
theorem je (N:Nat) (r:Reply):eg N r=some (repB r):=by
 simp only [eg,j9,uM,Option.bind_some,repB,numB];generalize nameB r.Client_=a;generalize valueB r.Value_=c;cases a<;>cases c<;>simp only [gK,jb,kP,if_true,if_false,Bool.false_eq_true,Bool.and_eq_true,Bool.or_eq_true,Bool.not_eq_true',decide_eq_true_eq,decide_eq_false_iff_not,Bool.and_false,Bool.and_true,Bool.or_true,Bool.or_false,Bool.true_or,Bool.false_or,Bool.not_true,Bool.not_false,and_false,false_and,or_false,false_or,Classical.not_not,true_and,and_true,iff_false,false_iff,not_false_eq_true,not_true_eq_false,true_or,or_true ]<;>omega
def ascB:Int->List Int->Bool
 | _,[]=>true
 | last,x::xs=>decide (last < x) && (decide (x<=1099511627776) && ascB x xs)
def ansB (c:Client):Int->List Answer->Bool
 | _,[]=>true
 | last,a::as=>decide (last < a.Seq) && (!decide (a.Seq∈c.Open) && (repB a.Reply_ && (sEq a.Reply_.Client_ c.Name && (decide (a.Reply_.Seq=a.Seq) && ansB c a.Seq as))))
def cliB (c:Client):Bool:=nameB c.Name && (decide (0<=c.Low) && (decide (c.Low<=1099511627776) && (decide (c.Open.length+c.Done.length<=16) && (ascB c.Low c.Open && ansB c c.Low c.Done))))
theorem z9 (n:Int):∀ (xs:List Int) (v:Nat),fb n xs v ()=some (findP (fun x=>decide (n=x)) xs v)
 | [],v=>rfl
 | x::xs,v=>by
  simp only [fb,findP,z9 n xs (v+1),decide_eq_true_eq];split<;>rfl
theorem BZ (n:Int) (l:List Int):l.any (fun x=>decide (n=x))=decide (n∈l):=by
 rw [AD]; simp
theorem Bq (N:Nat) (l:List Int) (n:Int):ff N l n=some (decide (n∈l)):=by
 simp only [ff,iZ,z9,Option.bind_some,rY,BZ]
theorem AZ (n:Int):∀ (xs:List Int) (v:Nat),jy n xs v ()=some (findP (fun x=>decide (n=x)) xs v)
 | [],v=>rfl
 | x::xs,v=>by
  simp only [jy,findP,AZ n xs (v+1),decide_eq_true_eq,eq_comm (a:=x)];split<;>rfl
theorem rl (N:Nat) (l:List Int) (n:Int):fq N l n=some (decide (n∈l)):=by
 simp only [fq,oP,AZ,Option.bind_some,rY,BZ]
theorem vc_L1 (kx:Option Bool):∀ (xs:List Int) (v:Nat) (last:Int),ef kx xs v last=if ascB last xs=true then kx else some false
 | [],v,last=>rfl
 | x::xs,v,last=>by
  have ih:=vc_L1 kx xs (v+1) x;simp only [ef,iA,iw,ih,ascB];by_cases h1:x<=last
  ·simp [h1,show ¬ last < x from by omega]
  ·by_cases h2:1099511627776 < x
   ·simp [h1,h2,show ¬ x<=1099511627776 from by omega]
   ·simp [h1,h2,show last < x from by omega,show x<=1099511627776 from by omega]
theorem vc_L2 (N:Nat) (c:Client):∀ (xs:List Answer) (v:Nat) (last:Int),bW N c xs v last=some (ansB c last xs)
 | [],v,last=>rfl
 | x::xs,v,last=>by
  have ih:=vc_L2 N c xs (v+1) x.Seq;simp only [bW,ed,ek,ih,ansB,Bq,jf,Option.bind_some];by_cases h1:x.Seq<=last
  ·simp [h1,show ¬ last < x.Seq from by omega]
  ·by_cases h2:x.Seq∈c.Open
   ·simp [h1,h2,show last < x.Seq from by omega]
   ·cases h3:repB x.Reply_<;>cases h4:sEq x.Reply_.Client_ c.Name<;>by_cases h5:x.Reply_.Seq=x.Seq<;>simp [h1,h2,h5,show last < x.Seq from by omega]
def small1 (c:Client):Prop:=c.Open.length<=40/\c.Done.length<=40
theorem yM (N:Nat) (c:Client) (hs:small1 c):fW N c=some (cliB c):=by
 have e:IntKind.i64.wrap (((c.Open.length:Nat):Int)+((c.Done.length:Nat):Int))=((c.Open.length+c.Done.length:Nat):Int):=by
  rw [w64' (n:=((c.Open.length:Nat):Int)+((c.Done.length:Nat):Int)) (by have:=hs.1; have:=hs.2; omega) (by have:=hs.1; have:=hs.2; omega)]; omega
 simp only [fW,eP,kW,eT,mV,vc_L1,vc_L2,Option.bind_some,cliB,e];generalize nameB c.Name=a;generalize ascB c.Low c.Open=b;generalize ansB c c.Low c.Done=d;cases a<;>cases b<;>cases d<;>simp only [gK,jb,kP,if_true,if_false,Bool.false_eq_true,Bool.and_eq_true,Bool.or_eq_true,Bool.not_eq_true',decide_eq_true_eq,decide_eq_false_iff_not,Bool.and_false,Bool.and_true,Bool.or_true,Bool.or_false,Bool.true_or,Bool.false_or,Bool.not_true,Bool.not_false,and_false,false_and,or_false,false_or,Classical.not_not,true_and,and_true,iff_false,false_iff,not_false_eq_true,not_true_eq_false,true_or,or_true ]<;>omega
theorem rv_L1 (kx:Option Bool) (c:Client) (hl:c.Open.length<=40):∀ (xs:List Int) (v:Nat) (last:Int),c.Open.drop v=xs->c.Low<=last->(v=0->last=c.Low)->(0 < v->c.Open[v - 1]?=some last) ->
  eA kx c xs v ()=if ascB last xs=true then kx else some false
 | [],v,last,_,_,_,_=>rfl
 | x::xs,v,last,h,hlo,h0,h1=>by
  have hx:c.Open[v]?=some x:=by
   have:=congrArg (fun l=>l[0]?) h;simpa [List.getElem?_drop] using this
  have hv:v < c.Open.length:=(List.getElem?_eq_some_iff.1 hx).1;have hd:c.Open.drop (v+1)=xs:=by
   have:=congrArg (List.drop 1) h;simpa [List.drop_drop,Nat.add_comm] using this
  simp only [eA,iO,ascB];by_cases g1:x<=c.Low
  ·simp [g1,show ¬ last < x from by omega]
  ·by_cases g2:1099511627776 < x
   ·simp [g1,g2,show ¬ x<=1099511627776 from by omega]
   ·have ih:last < x->eA kx c xs (v+1) ()=if ascB x xs=true then kx else some false:=fun hlt=>
     rv_L1 kx c hl xs (v+1) x hd (by omega) (fun h=>by omega) (fun _=>by simpa using hx)
    by_cases g3:0 < v
    ·have hw:IntKind.i64.wrap (((v:Nat):Int) - 1)=((v - 1:Nat):Int):=by
      rw [w64' (n:=((v:Nat):Int) - 1) (by omega) (by omega)]; omega
     rw [if_neg g1,if_neg g2,if_pos (by omega),hw,gx_of (h1 g3)];by_cases g4:x<=last
     ·simp [g4,show ¬ last < x from by omega]
     ·simp [g4,show last < x from by omega,ih (by omega),show x<=1099511627776 from by omega]
    ·have:=h0 (by omega);rw [if_neg g1,if_neg g2,if_neg (by omega)];simp [ih (by omega),show last < x from by omega,show x<=1099511627776 from by omega]
theorem rv_L2 (N:Nat) (c:Client) (hl:c.Done.length<=40):∀ (xs:List Answer) (v:Nat) (last:Int),c.Done.drop v=xs->c.Low<=last->(v=0->last=c.Low)->(0 < v->(c.Done[v - 1]?).map (·.Seq)=some last) ->
  bK c N xs v ()=some (ansB c last xs)
 | [],v,last,_,_,_,_=>rfl
 | x::xs,v,last,h,hlo,h0,h1=>by
  have hx:c.Done[v]?=some x:=by
   have:=congrArg (fun l=>l[0]?) h;simpa [List.getElem?_drop] using this
  have hv:v < c.Done.length:=(List.getElem?_eq_some_iff.1 hx).1;have hd:c.Done.drop (v+1)=xs:=by
   have:=congrArg (List.drop 1) h;simpa [List.drop_drop,Nat.add_comm] using this
  simp only [bK,dP,ansB,rl,je,Option.bind_some];by_cases g1:x.Seq<=c.Low
  ·simp [g1,show ¬ last < x.Seq from by omega]
  ·have ih:last < x.Seq->bK c N xs (v+1) ()=some (ansB c x.Seq xs):=fun hlt=>
    rv_L2 N c hl xs (v+1) x.Seq hd (by omega) (fun h=>by omega) (fun _=>by simp [hx])
   by_cases g3:0 < v
   ·have hw:IntKind.i64.wrap (((v:Nat):Int) - 1)=((v - 1:Nat):Int):=by
     rw [w64' (n:=((v:Nat):Int) - 1) (by omega) (by omega)]; omega
    obtain ⟨y,hy,hys⟩:=Option.map_eq_some_iff.1 (h1 g3);rw [if_neg g1,if_pos (by omega),hw,gx_of hy,hys];by_cases g4:x.Seq<=last
    ·simp [g4,show ¬ last < x.Seq from by omega]
    ·by_cases g5:x.Seq∈c.Open
     ·simp [g4,g5,show last < x.Seq from by omega]
     ·cases g6:repB x.Reply_<;>cases g7:sEq x.Reply_.Client_ c.Name<;>by_cases g8:x.Reply_.Seq=x.Seq<;>simp [g4,g5,g8,show last < x.Seq from by omega,ih (by omega)]
   ·have:=h0 (by omega);rw [if_neg g1,if_neg (by omega)];by_cases g5:x.Seq∈c.Open
    ·simp [g5,show last < x.Seq from by omega]
    ·cases g6:repB x.Reply_<;>cases g7:sEq x.Reply_.Client_ c.Name<;>by_cases g8:x.Reply_.Seq=x.Seq<;>simp [g5,g8,show last < x.Seq from by omega,ih (by omega)]
theorem DN (N:Nat) (c:Client) (hs:small1 c):lA N c=some (cliB c):=by
 have e:IntKind.i64.wrap (((c.Open.length:Nat):Int)+((c.Done.length:Nat):Int))=((c.Open.length+c.Done.length:Nat):Int):=by
  rw [w64' (n:=((c.Open.length:Nat):Int)+((c.Done.length:Nat):Int)) (by have:=hs.1; have:=hs.2; omega) (by have:=hs.1; have:=hs.2; omega)]; omega
 simp only [lA,iT,pB,iK,j9,Option.bind_some,cliB,e,
  rv_L1 _ c hs.1 c.Open 0 c.Low (by simp) (Int.le_refl _) (fun _=>rfl) (fun h=>by omega),rv_L2 N c hs.2 c.Done 0 c.Low (by simp) (Int.le_refl _) (fun _=>rfl) (fun h=>by omega)]
 generalize nameB c.Name=a;generalize ascB c.Low c.Open=b;generalize ansB c c.Low c.Done=d;cases a<;>cases b<;>cases d<;>simp only [gK,jb,kP,if_true,if_false,Bool.false_eq_true,Bool.and_eq_true,Bool.or_eq_true,Bool.not_eq_true',decide_eq_true_eq,decide_eq_false_iff_not,Bool.and_false,Bool.and_true,Bool.or_true,Bool.or_false,Bool.true_or,Bool.false_or,Bool.not_true,Bool.not_false,and_false,false_and,or_false,false_or,Classical.not_not,true_and,and_true,iff_false,false_iff,not_false_eq_true,not_true_eq_false,true_or,or_true ]<;>omega
end Go.Proofs.Yteldkhmcgloafaa

namespace Go.Proofs.Yteldkhmcgloafaa
open Go Go.Proofs Go.Abs
theorem w64 {n:Int} (h1:-9223372036854775808<=n) (h2:n<=9223372036854775807):IntKind.i64.wrap n=n:=eB h1 h2
theorem y8:∀ x:List UInt8,Op.bytesLess x x=false
 | []=>rfl
 | a::x=>by simp [Op.bytesLess,y8 x]
theorem Ac:∀ {x y z:List UInt8},Op.bytesLess x y=true->Op.bytesLess y z=true->Op.bytesLess x z=true
 | _,[],_,h1,h2=>by simp [Op.bytesLess] at h1
 | _,_::_,[],h1,h2=>by simp [Op.bytesLess] at h2
 | [],_::_,_::_,h1,h2=>rfl
 | a::x,b::y,c::z,h1,h2=>by
  simp only [Op.bytesLess,Bool.or_eq_true,decide_eq_true_eq,Bool.and_eq_true,beq_iff_eq] at h1 h2 ⊢;rcases h1 with h1|⟨rfl,h1⟩
  ·rcases h2 with h2|⟨rfl,h2⟩
   ·exact .inl (UInt8.lt_trans h1 h2)
   ·exact .inl h1
  ·rcases h2 with h2|⟨rfl,h2⟩
   ·exact .inl h2
   ·exact .inr ⟨rfl,Ac h1 h2⟩
theorem bl_tri:∀ x y:List UInt8,Op.bytesLess x y=true∨x=y∨Op.bytesLess y x=true
 | [],[]=>.inr (.inl rfl)
 | [],_::_=>.inl rfl
 | _::_,[]=>.inr (.inr rfl)
 | a::x,b::y=>by
  simp only [Op.bytesLess,Bool.or_eq_true,decide_eq_true_eq,Bool.and_eq_true,beq_iff_eq];rcases UInt8.lt_or_lt_of_ne (a:=a) (b:=b) |> fun h=>(Classical.em (a=b)).imp id h with rfl|h|h
  ·rcases bl_tri x y with h|rfl|h
   ·exact .inl (.inr ⟨rfl,h⟩)
   ·exact .inr (.inl rfl)
   ·exact .inr (.inr (.inr ⟨rfl,h⟩))
  ·exact .inl (.inl h)
  ·exact .inr (.inr (.inl h))
theorem pO {a b:ByteArray}:sEq a b=true↔a=b:=by
 unfold sEq;rw [beq_iff_eq,ByteArray.toList_eq,ByteArray.toList_eq];obtain ⟨⟨x⟩⟩:=a;obtain ⟨⟨y⟩⟩:=b;simp
theorem Cz {a b:ByteArray} (h:a.toList=b.toList):a=b:=pO.1 (by simpa [sEq] using h)
theorem jI (a:ByteArray):sLt a a=false:=y8 _
theorem sj {a b c:ByteArray} (h1:sLt a b=true) (h2:sLt b c=true):sLt a c=true:=Ac h1 h2
theorem Ce (a b:ByteArray):sLt a b=true∨a=b∨sLt b a=true:=by
 rcases bl_tri a.toList b.toList with h|h|h
 ·exact .inl h
 ·exact .inr (.inl (Cz h))
 ·exact .inr (.inr h)
theorem mid_eq {i j:Nat} (h:i+j<=1000000):IntKind.i64.wrap (shrI .u64 (IntKind.u64.wrap (IntKind.i64.wrap ((i:Int)+(j:Int)))) 1)=(((i+j) / 2:Nat):Int):=by
 rw [w64 (n:=(i:Int)+(j:Int)) (by omega) (by omega)];have e:IntKind.u64.wrap ((i:Int)+(j:Int))=(i:Int)+(j:Int):=Ca ⟨by show (0:Int)<=_; omega,by show _<=(18446744073709551615:Int); omega⟩;rw [e];have e2:shrI .u64 ((i:Int)+(j:Int)) 1=(((i+j) / 2:Nat):Int):=by
  show ((i:Int)+(j:Int)).fdiv 2=_;rw [Int.fdiv_eq_ediv_of_nonneg _ (by omega)];omega
 rw [e2,w64 (by omega) (by omega)]
theorem Ad {α:Type} {l xs:List α} {v:Nat} {x:α} (h:l.drop v=x::xs):l[v]?=some x/\l.drop (v+1)=xs:=by
 constructor
 ·have:=congrArg (fun l=>l[0]?) h;simpa [List.getElem?_drop] using this
 ·have:=congrArg (List.drop 1) h;simpa [List.drop_drop,Nat.add_comm] using this
theorem uQ {a b:ByteArray} (h:sLt a b=true):sLt b a=false:=by
 cases h':sLt b a with
 | false=>rfl
 | true=>have:=sj h h'; rw [jI] at this; cases this
theorem F6 (a b:ByteArray):(sLt b a || sEq b a)=!(sLt a b):=by
 rcases Ce a b with h|h|h
 ·rw [h,uQ h];have:sEq b a=false:=by
   cases e:sEq b a with
   | false=>rfl
   | true=>rw [pO.1 e,jI] at h; cases h
  rw [this]; rfl
 ·subst h; rw [jI,rb]; rfl
 ·rw [h,uQ h]; rfl
def tv:Option ByteArray->List Client->Bool
 | _,[]=>true
 | p,x::xs=>cliB x && ((match p with|none=>true|some q=>sLt q x.Name) && tv (some x.Name) xs)
def tabB (t:List Client):Bool:=decide (t.length<=32) && tv none t
def prevN (t:List Client) (v:Nat):Option ByteArray:=if v=0 then none else (t[v - 1]?).map (·.Name)
theorem ye {t:List Client} {v:Nat} {x:Client} (h:t[v]?=some x):prevN t (v+1)=some x.Name:=by
 simp [prevN,h]
theorem dv_L1 (N:Nat) (t:List Client) (hl:t.length<=40) (hs:∀ c∈t,small1 c):∀ (xs:List Client) (v:Nat),t.drop v=xs->fC N t xs v ()=some (tv (prevN t v) xs)
 | [],v,_=>rfl
 | x::xs,v,h=>by
  obtain ⟨hx,hd⟩:=Ad h;have hv:=(List.getElem?_eq_some_iff.1 hx).1;have ih:=dv_L1 N t hl hs xs (v+1) hd;rw [ye hx] at ih;simp only [fC,kG,yM N x (hs x (List.mem_of_getElem? hx)),Option.bind_some,tv,ih];by_cases g:0 < v
  ·have hw:IntKind.i64.wrap (((v:Nat):Int) - 1)=((v - 1:Nat):Int):=by
    rw [w64 (n:=((v:Nat):Int) - 1) (by omega) (by omega)]; omega
   obtain ⟨y,hp⟩:∃ y,t[v - 1]?=some y:=⟨_,List.getElem?_eq_getElem (by omega)⟩;have e:prevN t v=some y.Name:=by simp [prevN,show v≠0 from by omega,hp]
   rw [hw,gx_of hp,e,if_pos (show (0:Int) < ((v:Nat):Int) from by omega)];show _=some (cliB x && (sLt y.Name x.Name && tv (some x.Name) xs));cases cliB x<;>cases sLt y.Name x.Name<;>simp
  ·have:v=0:=by omega
   subst this;cases cliB x<;>simp [prevN]
theorem gu (N:Nat) {t:List Client} (hl:t.length<=40) (hs:∀ c∈t,small1 c):fg N t=some (tabB t):=by
 simp only [fg,tabB,dv_L1 N t hl hs t 0 (by simp)];by_cases h:t.length<=32
 ·rw [if_neg (by omega)]; simp [h,prevN]
 ·rw [if_pos (by omega)]; simp [h]
theorem rvt_L1 (N:Nat) (t:List Client) (hl:t.length<=40) (hs:∀ c∈t,small1 c):∀ (xs:List Client) (v:Nat),t.drop v=xs->fD N t xs v ()=some (tv (prevN t v) xs)
 | [],v,_=>rfl
 | x::xs,v,h=>by
  obtain ⟨hx,hd⟩:=Ad h;have hv:=(List.getElem?_eq_some_iff.1 hx).1;have ih:=rvt_L1 N t hl hs xs (v+1) hd;rw [ye hx] at ih;simp only [fD,kB,DN N x (hs x (List.mem_of_getElem? hx)),Option.bind_some,tv,ih,F6];by_cases g:0 < v
  ·have hw:IntKind.i64.wrap (((v:Nat):Int) - 1)=((v - 1:Nat):Int):=by
    rw [w64 (n:=((v:Nat):Int) - 1) (by omega) (by omega)]; omega
   obtain ⟨y,hp⟩:∃ y,t[v - 1]?=some y:=⟨_,List.getElem?_eq_getElem (by omega)⟩;have e:prevN t v=some y.Name:=by simp [prevN,show v≠0 from by omega,hp]
   rw [hw,gx_of hp,e,if_pos (show (0:Int) < ((v:Nat):Int) from by omega)];show _=some (cliB x && (sLt y.Name x.Name && tv (some x.Name) xs));cases cliB x<;>cases sLt y.Name x.Name<;>simp
  ·have:v=0:=by omega
   subst this;cases cliB x<;>simp [prevN]
theorem gv (N:Nat) {t:List Client} (hl:t.length<=40) (hs:∀ c∈t,small1 c):fi N t=some (tabB t):=by
 simp only [fi,tabB,rvt_L1 N t hl hs t 0 (by simp)];by_cases h:t.length<=32
 ·rw [if_neg (by omega)]; simp [h,prevN]
 ·rw [if_pos (by omega)]; simp [h]
structure VC (c:Client):Prop where
 nm:nameB c.Name=true
 lo:0<=c.Low
 hi:c.Low<=1099511627776
 ln:c.Open.length+c.Done.length<=16
 op:ascB c.Low c.Open=true
 dn:ansB c c.Low c.Done=true
theorem E6 {c:Client}:cliB c=true↔VC c:=by
 simp only [cliB,Bool.and_eq_true,decide_eq_true_eq];exact ⟨fun ⟨a,b,d,e,f,g⟩=>⟨a,b,d,e,f,g⟩,fun ⟨a,b,d,e,f,g⟩=>⟨a,b,d,e,f,g⟩⟩
def So (t:List Client):Prop:=t.Pairwise fun a b=>sLt a.Name b.Name=true
structure VT (t:List Client):Prop where
 len:t.length<=32
 cl:∀ c∈t,VC c
 so:So t
theorem tv_iff:∀ {t:List Client} {p:Option ByteArray},tv p t=true↔((∀ c∈t,VC c)/\So t/\∀ q,p=some q->∀ c∈t,sLt q c.Name=true)
 | [],p=>by simp [tv,So]
 | x::xs,p=>by
  have ih:=tv_iff (t:=xs) (p:=some x.Name);simp only [tv,Bool.and_eq_true,E6,ih];constructor
  ·rintro ⟨h1,h2,h3,h4,h5⟩;refine ⟨fun c hc=>?_,List.pairwise_cons.2 ⟨h5 x.Name rfl,h4⟩,fun q hq c hc=>?_⟩
   ·rcases List.mem_cons.1 hc with rfl|hc
    ·exact h1
    ·exact h3 c hc
   ·subst hq;rcases List.mem_cons.1 hc with rfl|hc
    ·exact h2
    ·exact sj h2 (h5 x.Name rfl c hc)
  ·rintro ⟨h1,h2,h3⟩;have h2':=List.pairwise_cons.1 h2;refine ⟨h1 x (by simp),?_,fun c hc=>h1 c (by simp [hc]),h2'.2,fun q hq c hc=>?_⟩
   ·cases p with
    | none=>rfl
    | some q=>exact h3 q rfl x (by simp)
   ·cases hq; exact h2'.1 c hc
theorem oc {t:List Client}:tabB t=true↔VT t:=by
 simp only [tabB,Bool.and_eq_true,decide_eq_true_eq,tv_iff];exact ⟨fun ⟨a,b,c,_⟩=>⟨a,b,c⟩,fun ⟨a,b,c⟩=>⟨a,b,c,fun q hq=>by cases hq⟩⟩
theorem VC.small {c:Client} (h:VC c):small1 c:=⟨by have:=h.ln; omega,by have:=h.ln; omega⟩
theorem VT.valid {t:List Client} (h:VT t) (N:Nat):fg N t=some true:=by
 rw [gu N (by have:=h.len; omega) (fun c hc=>(h.cl c hc).small),oc.2 h]
theorem VT.rvalid {t:List Client} (h:VT t) (N:Nat):fi N t=some true:=by
 rw [gv N (by have:=h.len; omega) (fun c hc=>(h.cl c hc).small),oc.2 h]
theorem tO {c:Client}:∀ {l:List Answer} {last:Int},ansB c last l=true->∀ a∈l,last < a.Seq/\a.Seq∉c.Open/\repB a.Reply_=true/\a.Reply_.Client_=c.Name/\a.Reply_.Seq=a.Seq
 | [],_,_,a,ha=>by cases ha
 | x::xs,last,h,a,ha=>by
  simp only [ansB,Bool.and_eq_true,decide_eq_true_eq,Bool.not_eq_true',decide_eq_false_iff_not,pO] at h;obtain ⟨h1,h2,h3,h4,h5,h6⟩:=h;rcases List.mem_cons.1 ha with rfl|ha
  ·exact ⟨h1,h2,h3,h4,h5⟩
  ·obtain ⟨g1,g2⟩:=tO h6 a ha;exact ⟨by omega,g2⟩
theorem vf {r:Reply} (h:repB r=true):r.Path=[]/\r.Value_.I.length<=16/\r.Value_.L.length<=16:=by
 simp only [repB,valueB,Bool.and_eq_true,decide_eq_true_eq] at h;exact ⟨List.length_eq_zero_iff.1 h.1.1.1.1.2,by omega,by omega⟩
theorem qj (N:Nat) {r:Reply} (h:r.Path=[]) (hI:r.Value_.I.length<=1000) (hL:r.Value_.L.length<=1000):ei N r=some r:=by
 obtain ⟨a,b,c,d,e⟩:=r;simp only at h;subst h;simp only [ei,dD,dE];rw [apn_of (by simp only at hI; omega),Option.bind_some,apn_of (by simp only at hL; omega),Option.bind_some]
theorem Ba (N:Nat) (rec:List Client->Option (List Client)) (t:List Client) (v:Nat) (c:Client) (hc:t[v]?=some c) (h:VC c):∀ (m k:Nat),k+m=c.Done.length->gi rec t v c c.Open N m k c.Done=rec t
 | 0,k,_=>by
  simp only [gi];rw [show Client.mk c.Name c.Low c.Open c.Done=c from rfl,AH hc]
 | m+1,k,hk=>by
  have hx:c.Done[k]?=some (c.Done[k]'(by omega)):=List.getElem?_eq_getElem _;have hr:=vf (tO h.dn _ (List.mem_of_getElem? hx)).2.2.1;simp only [gi];rw [gx_of hc,gx_of hx,qj N hr.1 (by omega) (by omega),Option.bind_some,show Answer.mk (c.Done[k]'(by omega)).Seq (c.Done[k]'(by omega)).Reply_=c.Done[k]'(by omega) from rfl,AH hx];exact Ba N rec t v c hc h m (k+1) (by omega)
theorem A8 (N:Nat) (t:List Client) (h:∀ c∈t,VC c):∀ (m k:Nat),k+m=t.length->gh N m k t=some t
 | 0,k,hk=>by
  simp only [gh,lenG];rw [if_pos (by omega)]
 | m+1,k,hk=>by
  have hx:t[k]?=some (t[k]'(by omega)):=List.getElem?_eq_getElem _;have hv:=h _ (List.mem_of_getElem? hx);have hl:=hv.ln;simp only [gh,dD,dI];rw [gx_of hx,apn_of (by omega),Option.bind_some,apn_of (by omega),Option.bind_some,Nat.sub_zero,Ba N _ t k _ hx hv _ 0 (by omega)];exact A8 N t h m (k+1) (by omega)
theorem tY (N:Nat) {t:List Client} (h:VT t):fK N t=some t:=by
 have:=h.len;simp only [fK,dG];rw [apn_of (by omega),Option.bind_some,Nat.sub_zero];exact A8 N t h.cl t.length 0 (by omega)
def ltN (k:ByteArray) (r:Client):Bool:=sLt r.Name k
def plc (t:List Client) (k:ByteArray):Nat:=(t.takeWhile (ltN k)).length
theorem plc_le (t:List Client) (k:ByteArray):plc t k<=t.length:=(List.takeWhile_sublist (ltN k)).length_le
theorem plc_lt:∀ {t:List Client} {k:ByteArray},(t.Pairwise fun a b=>sLt a.Name b.Name=true)->∀ {i:Nat} {r:Client},t[i]?=some r->(sLt r.Name k=true↔i < plc t k)
 | [],k,hp,i,r,hr=>by simp at hr
 | x::xs,k,hp,i,r,hr=>by
  rw [List.pairwise_cons] at hp;by_cases h:sLt x.Name k=true
  ·have e:plc (x::xs) k=plc xs k+1:=by simp [plc,List.takeWhile_cons,ltN,h]
   rw [e];cases i with
   | zero=>simp only [List.getElem?_cons_zero,Option.some.injEq] at hr; subst hr; simp [h]
   | succ i=>
    rw [List.getElem?_cons_succ] at hr;rw [plc_lt hp.2 hr]; omega
  ·have e:plc (x::xs) k=0:=by simp [plc,List.takeWhile_cons,ltN,h]
   rw [e];constructor
   ·intro hlt;exfalso;cases i with
    | zero=>simp only [List.getElem?_cons_zero,Option.some.injEq] at hr; subst hr; exact h hlt
    | succ i=>
     rw [List.getElem?_cons_succ] at hr;exact h (sj (hp.1 r (List.mem_of_getElem? hr)) hlt)
   ·omega
def hasN (t:List Client) (k:ByteArray):Bool:=match t[plc t k]? with
 | some s=>sEq s.Name k
 | none=>false
theorem plc_ge {t:List Client} (hp:So t) {k:ByteArray} {i:Nat} {r:Client} (hr:t[i]?=some r) (hi:plc t k<=i):sLt r.Name k=false:=by
 have:=plc_lt hp hr (k:=k);cases h:sLt r.Name k with
 | false=>rfl
 | true=>have:=this.1 h; omega
theorem Ai (N:Nat) (c:Client) (k:ByteArray):iY N c k=some (if sLt c.Name k=true then -1 else if sEq c.Name k=true then 0 else 1):=by
 simp only [iY];cases sLt c.Name k<;>cases sEq c.Name k<;>rfl
theorem bsN_L1 {t:List Client} (ht:t.length<=32) (hp:So t) (N:Nat) (k:ByteArray) (kx:Int->Option (Int × Bool)) :
  ∀ (n i j:Nat),j < i+n->i<=plc t k->plc t k<=j->j<=t.length->aH t N k kx n ((i:Int),(j:Int))=kx ((plc t k:Nat):Int)
 | 0,i,j,h1,h2,h3,h4=>by omega
 | n+1,i,j,h1,h2,h3,h4=>by
  rw [aH];by_cases h:i < j
  ·rw [if_pos (by omega),mid_eq (by omega)];have hm:(i+j) / 2 < t.length:=by omega
   have hx:t[(i+j) / 2]?=some t[(i+j) / 2]:=List.getElem?_eq_getElem hm;have hc:=plc_lt hp hx (k:=k);rw [gx_nat hx,Ai];simp only [Option.bind_some];by_cases hs:sLt t[(i+j) / 2].Name k=true
   ·rw [if_pos hs,if_pos (by omega),w64 (by omega) (by omega)];have:=hc.1 hs;exact bsN_L1 ht hp N k kx n ((i+j) / 2+1) j (by omega) (by omega) h3 h4
   ·rw [if_neg hs,if_neg (by split<;>omega)]
    have:¬ (i+j) / 2 < plc t k:=fun q=>hs (hc.2 q);exact bsN_L1 ht hp N k kx n i ((i+j) / 2) (by omega) h2 (by omega) (by omega)
  ·rw [if_neg (by omega)];have:i=plc t k:=by omega
   rw [this]
theorem yy (N:Nat) (hN:100<=N) {t:List Client} (h:VT t) (k:ByteArray):jG N t k=some (((plc t k:Nat):Int),hasN t k):=by
 have hl:=h.len;have hp:=plc_le t k;have:=bsN_L1 hl h.so N k (bQ t N k) N 0 t.length (by omega) (by omega) hp (by omega);simp only [jG,bq];rw [show ((0:Int))=((0:Nat):Int) from rfl,this];unfold bQ hasN;cases hq:t[plc t k]? with
 | none=>
  have:=List.getElem?_eq_none_iff.1 hq;rw [if_neg (by omega)]; rfl
 | some s=>
  have:=(List.getElem?_eq_some_iff.1 hq).1;have hge:=plc_ge h.so hq (Nat.le_refl _);rw [if_pos (by omega),gx_nat hq,Ai,hge];show _=some (((plc t k:Nat):Int),sEq s.Name k);cases sEq s.Name k<;>rfl
end Go.Proofs.Yteldkhmcgloafaa

namespace Go.Proofs.Yteldkhmcgloafaa
open Go Go.Proofs Go.Abs
def cliOf (t:List Client) (k:ByteArray):Option Client:=t.find? fun c=>sEq c.Name k
def zR:Reply:=Reply.mk (⟨#[]⟩) 0 [] 0 (Value.mk 0 0 (⟨#[]⟩) [] [])
def ansOf (c:Client) (n:Int):Option Answer:=c.Done.find? fun a=>decide (a.Seq=n)
def statC (c:Client) (n:Int):Int:=if n<=c.Low then 3 else if n∈c.Open then 1 else if (ansOf c n).isSome=true then 2 else 0
def repC (c:Client) (n:Int):Reply:=if n<=c.Low then zR else if n∈c.Open then zR else match ansOf c n with|some a=>a.Reply_|none=>zR
def statT (t:List Client) (k:ByteArray) (n:Int):Int:=match cliOf t k with|some c=>statC c n|none=>0
def repT (t:List Client) (k:ByteArray) (n:Int):Reply:=match cliOf t k with|some c=>repC c n|none=>zR
theorem kT {t:List Client} {k:ByteArray} {c:Client} (h:cliOf t k=some c):c∈t/\c.Name=k:=by
 have h1:=List.find?_some h;exact ⟨List.mem_of_find?_eq_some h,pO.1 h1⟩
theorem so_at {t:List Client} (hp:So t) {c:Client} (hc:c∈t):t[plc t c.Name]?=some c:=by
 obtain ⟨i,hi⟩:=List.mem_iff_getElem?.1 hc;have h1:=plc_lt hp hi (k:=c.Name);rw [jI] at h1;have hle:plc t c.Name<=i:=by
  rcases Nat.lt_or_ge i (plc t c.Name) with h|h
  ·exact absurd (h1.2 h) (by simp)
  ·exact h
 have hil:=(List.getElem?_eq_some_iff.1 hi).1;have hpl:plc t c.Name < t.length:=by omega
 have e:plc t c.Name=i:=by
  rcases Nat.lt_or_ge (plc t c.Name) i with h|h
  ·exfalso;have h2:=plc_lt hp (List.getElem?_eq_getElem hpl) (k:=c.Name);have h3:=List.pairwise_iff_getElem.1 hp _ i hpl hil h;have h4:t[i]=c:=by rw [List.getElem?_eq_getElem hil] at hi; exact Option.some.inj hi
   rw [h4] at h3;have:=h2.1 h3;omega
  ·omega
 rw [e]; exact hi
theorem qZ {t:List Client} (hp:So t) (k:ByteArray):cliOf t k=if hasN t k=true then t[plc t k]? else none:=by
 cases h:cliOf t k with
 | some c=>
  obtain ⟨h1,rfl⟩:=kT h;have h2:=so_at hp h1;have:hasN t c.Name=true:=by simp [hasN,h2,rb]
  rw [if_pos this,h2]
 | none=>
  cases h':hasN t k with
  | false=>simp
  | true=>
   exfalso;unfold hasN at h';split at h'
   ·rename_i s hs;have:=List.find?_eq_none.1 h s (List.mem_of_getElem? hs);exact this h'
   ·cases h'
theorem lk_L3 (N:Nat) (kx:Option (Int × Reply)) (n:Int):∀ (xs:List Answer) (v:Nat),(∀ a∈xs,repB a.Reply_=true)->gV kx n N xs v ()=match xs.find? (fun a=>decide (a.Seq=n)) with|some a=>some (2,a.Reply_)|none=>kx
 | [],v,_=>rfl
 | x::xs,v,h=>by
  simp only [gV,List.find?_cons];by_cases e:x.Seq=n
  ·have hr:=vf (h x (by simp));simp [e,qj N hr.1 (by omega) (by omega)]
  ·simp [e,lk_L3 N kx n xs (v+1) (fun a ha=>h a (by simp [ha]))]
theorem lk_L2 (kx:Option (Int × Reply)) (n:Int):∀ (xs:List Int) (v:Nat),fL kx n xs v ()=if n∈xs then some (1,zR) else kx
 | [],v=>by simp [fL]
 | x::xs,v=>by
  simp only [fL,lk_L2 kx n xs (v+1)];by_cases e:x=n
  ·simp [e,zR]
  ·have:¬ n=x:=fun h=>e h.symm;simp [e,this]
theorem lk_L1 (N:Nat) (k:ByteArray) (n:Int):∀ (xs:List Client) (v:Nat),(∀ c∈xs,VC c)->gQ k n N xs v ()=some (match xs.find? (fun c=>sEq c.Name k) with|some c=>(statC c n,repC c n)|none=>(0,zR))
 | [],v,_=>rfl
 | x::xs,v,h=>by
  simp only [gQ,List.find?_cons];cases e:sEq x.Name k with
  | true=>
   have hv:=h x (by simp);simp only [if_true,lk_L2,oI,oO,lk_L3 N _ n x.Done 0 (fun a ha=>(tO hv.dn a ha).2.2.1)];simp only [statC,repC,ansOf];by_cases h1:n<=x.Low
   ·simp [h1,zR]
   ·by_cases h2:n∈x.Open
    ·simp [h1,h2]
    ·simp only [h1,h2,if_false];rcases Option.eq_none_or_eq_some (x.Done.find? (fun a=>decide (a.Seq=n))) with h3|⟨a,h3⟩<;>simp [h3,zR]
  | false=>
   simp only [Bool.false_eq_true,if_false];exact lk_L1 N k n xs (v+1) (fun c hc=>h c (by simp [hc]))
theorem zp (N:Nat) {t:List Client} (h:VT t) (k:ByteArray) (n:Int):fm N t k n=some (statT t k n,repT t k n):=by
 simp only [fm,h.valid,Option.bind_some,if_true,lk_L1 N k n t 0 h.cl,statT,repT];have:(t.find? fun c=>sEq c.Name k)=cliOf t k:=rfl;rw [this];cases cliOf t k<;>rfl
theorem vx (N:Nat) {t:List Client} (h:VT t) (k:ByteArray) (n:Int):dV N t k n=some (statT t k n):=by
 simp only [dV,zp N h,Option.bind_some]
theorem ED (N:Nat) {t:List Client} (h:VT t) (k:ByteArray) (n:Int):iI N t k n=some (repT t k n,decide (statT t k n=2)):=by
 simp only [iI,zp N h,Option.bind_some]
def SmT (t:List Client):Prop:=t.length<=40/\∀ c∈t,small1 c
theorem VT.sm {t:List Client} (h:VT t):SmT t:=⟨by have:=h.len; omega,fun c hc=>(h.cl c hc).small⟩
theorem CH (N:Nat) {t:List Client} (hs:SmT t) (h:¬ VT t) (k:ByteArray) (n:Int):fm N t k n=some (0,zR):=by
 have e:tabB t=false:=by
  cases h':tabB t with
  | false=>rfl
  | true=>exact absurd (oc.1 h') h
 simp only [fm,gu N hs.1 hs.2,e,Option.bind_some,Bool.false_eq_true,if_false,zR]
theorem of_eq (N:Nat) (t:List Client) (k:ByteArray):kV N t k=some (match cliOf t k with|some c=>(c,true)|none=>(Client.mk k 0 [] [],false)):=by
 have:∀ (xs:List Client) (v:Nat),lz k xs v ()=some (match xs.find? (fun c=>sEq c.Name k) with|some c=>(c,true)|none=>(Client.mk k 0 [] [],false)):=by
  intro xs
  induction xs with
  | nil=>intro v; rfl
  | cons x xs ih=>
   intro v;simp only [lz,List.find?_cons,ih];cases sEq x.Name k<;>simp
 exact this t 0
theorem BS (N:Nat) (c:Client) (n:Int):mA N c n=some (findP (fun a=>decide (a.Seq=n)) c.Done 0):=by
 have:∀ (xs:List Answer) (v:Nat),jB n xs v ()=some (findP (fun a=>decide (a.Seq=n)) xs v):=by
  intro xs
  induction xs with
  | nil=>intro v; rfl
  | cons x xs ih=>
   intro v;simp only [jB,findP,ih,decide_eq_true_eq];split<;>rfl
 exact this _ 0
theorem Bn {α:Type} (p:α->Bool) (l:List α):(l.find? p).isSome=l.any p:=by
 induction l with
 | nil=>rfl
 | cons x xs ih=>simp only [List.find?_cons,List.any_cons]; cases p x<;>simp [ih]
theorem Eo {α:Type} (p:α->Bool) (l:List α):(0<=findP p l 0)↔(l.find? p).isSome=true:=by
 rw [Bn,<-rY p l 0,decide_eq_true_eq]
theorem Bc {α:Type} (p:α->Bool):∀ (l:List α) (v:Nat) (a:α),l.find? p=some a->∃ i:Nat,findP p l v=((v+i:Nat):Int)/\l[i]?=some a
 | [],v,a,h=>by cases h
 | x::xs,v,a,h=>by
  simp only [List.find?_cons] at h;simp only [findP];cases e:p x with
  | true=>
   rw [e] at h;cases h;exact ⟨0,by simp,rfl⟩
  | false=>
   rw [e] at h;obtain ⟨i,h1,h2⟩:=Bc p xs (v+1) a h;exact ⟨i+1,by simp only [Bool.false_eq_true,if_false,h1]; omega,by simpa using h2⟩
theorem oV (N:Nat) {t:List Client} (hs:SmT t) (k:ByteArray) (n:Int):fR N t k n=some (if tabB t=true then statT t k n else 0):=by
 simp only [fR,of_eq,gv N hs.1 hs.2,Option.bind_some,lQ,rl,BS,Eo];cases tabB t with
 | false=>simp
 | true=>
  simp only [if_true,statT];cases cliOf t k with
  | none=>simp
  | some c=>
   simp only [Bool.not_true,Bool.false_eq_true,if_false,statC,ansOf];by_cases h1:n<=c.Low
   ·simp [h1]
   ·by_cases h2:n∈c.Open
    ·simp [h1,h2]
    ·simp only [h1,h2,if_false,decide_false,Bool.false_eq_true];by_cases h3:(c.Done.find? fun a=>decide (a.Seq=n)).isSome=true<;>simp [h3]
theorem zt {c:Client} {n:Int}:statC c n=2↔∃ a,¬ n<=c.Low/\n∉c.Open/\ansOf c n=some a:=by
 unfold statC;by_cases h1:n<=c.Low
 ·simp [h1]
 ·by_cases h2:n∈c.Open
  ·simp [h1,h2]
  ·cases h3:ansOf c n<;>simp [h1,h2]
theorem zu (N:Nat) {t:List Client} (hs:SmT t) (k:ByteArray) (n:Int):lu N t k n=some (if tabB t=true then (repT t k n,decide (statT t k n=2)) else (zR,false)):=by
 simp only [lu,oV N hs,Option.bind_some];cases tabB t with
 | false=>simp [zR]
 | true=>
  simp only [if_true];by_cases h:statT t k n=2
  ·rw [if_pos h];unfold statT at h;cases hc:cliOf t k with
   | none=>rw [hc] at h; simp at h
   | some c=>
    rw [hc] at h;obtain ⟨a,h1,h2,h3⟩:=zt.1 h;obtain ⟨i,e1,e2⟩:=Bc _ c.Done 0 a h3;simp only [of_eq,hc,Option.bind_some,BS,e1,Nat.zero_add];rw [gx_of e2];have:statT t k n=2:=by unfold statT; rw [hc]; exact h
    simp [this,repT,hc,repC,h1,h2,h3]
  ·rw [if_neg h];have e:repT t k n=zR:=by
    unfold repT;unfold statT at h;cases hc:cliOf t k with
    | none=>rfl
    | some c=>
     rw [hc] at h;simp only at h ⊢;unfold repC;by_cases h1:n<=c.Low
     ·rw [if_pos h1]
     ·by_cases h2:n∈c.Open
      ·rw [if_neg h1,if_pos h2]
      ·rw [if_neg h1,if_neg h2];cases h3:ansOf c n with
       | none=>rfl
       | some a=>exact absurd (zt.2 ⟨a,h1,h2,h3⟩) h
   simp [h,e,zR]
end Go.Proofs.Yteldkhmcgloafaa

namespace Go.Proofs.Yteldkhmcgloafaa
open Go Go.Proofs Go.Abs
def pz:List Int->Int->Nat
 | [],_=>0
 | x::xs,n=>if x < n then pz xs n+1 else 0
theorem pz_le:∀ (w:List Int) (n:Int),pz w n<=w.length
 | [],_=>Nat.le_refl _
 | x::xs,n=>by
  have:=pz_le xs n;simp only [pz]; split<;>simp<;>omega
theorem pz_lt:∀ {w:List Int},w.Pairwise (· < ·)->∀ {n:Int} {i:Nat} {x:Int},w[i]?=some x->(x < n↔i < pz w n)
 | [],_,n,i,x,hx=>by simp at hx
 | y::ys,hs,n,i,x,hx=>by
  rw [List.pairwise_cons] at hs;simp only [pz];cases i with
  | zero=>simp only [List.getElem?_cons_zero,Option.some.injEq] at hx; subst hx; split<;>simp<;>omega
  | succ i=>
   rw [List.getElem?_cons_succ] at hx;have ih:=pz_lt hs.2 hx (n:=n);have:=hs.1 x (List.mem_of_getElem? hx);split<;>omega
theorem Fk (N:Nat) (a b:Int):kO N a b=some (decide (a < b)):=by
 simp [kO,jt]
theorem pz_mem {w:List Int} (hs:w.Pairwise (· < ·)) {n:Int}:n∈w↔w[pz w n]?=some n:=by
 constructor
 ·intro h;obtain ⟨i,hi⟩:=List.mem_iff_getElem?.1 h;have h1:=pz_lt hs hi (n:=n);have hle:pz w n<=i:=by omega
  have hil:=(List.getElem?_eq_some_iff.1 hi).1;have hpl:pz w n < w.length:=by omega
  rcases Nat.lt_or_ge (pz w n) i with q|q
  ·exfalso;have h2:=pz_lt hs (List.getElem?_eq_getElem hpl) (n:=n);have h3:=List.pairwise_iff_getElem.1 hs _ i hpl hil q;have h4:w[i]=n:=(List.getElem?_eq_some_iff.1 hi).2;omega
  ·have:pz w n=i:=by omega
   rw [this]; exact hi
 ·exact List.mem_of_getElem?
theorem bsI_L1 {w:List Int} (hl:w.length<=32) (hs:w.Pairwise (· < ·)) (N:Nat) (a:Int) (kx:Int->Option (Int × Bool)) :
  ∀ (n i j:Nat),j < i+n->i<=pz w a->pz w a<=j->j<=w.length->dh w N a kx n ((i:Int),(j:Int))=kx ((pz w a:Nat):Int)
 | 0,i,j,h1,h2,h3,h4=>by omega
 | n+1,i,j,h1,h2,h3,h4=>by
  rw [dh];by_cases hij:i < j
  ·rw [if_pos (by omega),mid_eq (by omega)];have hm:(i+j) / 2 < w.length:=by omega
   have hx:w[(i+j) / 2]?=some w[(i+j) / 2]:=List.getElem?_eq_getElem hm;have hc:=pz_lt hs hx (n:=a);rw [gx_nat hx,Fk];simp only [Option.bind_some,decide_eq_true_eq];by_cases hlt:w[(i+j) / 2] < a
   ·rw [if_pos hlt,w64 (by omega) (by omega)];have:(i+j) / 2 < pz w a:=hc.1 hlt;exact bsI_L1 hl hs N a kx n ((i+j) / 2+1) j (by omega) (by omega) h3 h4
   ·rw [if_neg hlt];have:¬ (i+j) / 2 < pz w a:=fun q=>hlt (hc.2 q);exact bsI_L1 hl hs N a kx n i ((i+j) / 2) (by omega) h2 (by omega) (by omega)
  ·rw [if_neg (by omega)];have:i=pz w a:=by omega
   rw [this]
theorem bsI_eq (N:Nat) (hN:200<=N) {w:List Int} (hl:w.length<=32) (hs:w.Pairwise (· < ·)) (a:Int):dN N w a=some (((pz w a:Nat):Int),decide (a∈w)):=by
 have hp:=pz_le w a;have:=bsI_L1 hl hs N a (fw w a N) N 0 w.length (by omega) (by omega) hp (by omega);simp only [dN];rw [show ((0:Int))=((0:Nat):Int) from rfl,this];unfold fw;have hm:=pz_mem hs (n:=a);cases hq:w[pz w a]? with
 | none=>
  have:=List.getElem?_eq_none_iff.1 hq;rw [if_neg (by omega)];rw [hq] at hm;have:a∉w:=fun q=>by simpa using hm.1 q
  simp [this]
 | some s=>
  have:=(List.getElem?_eq_some_iff.1 hq).1;rw [if_pos (by omega),gx_nat hq];rw [hq] at hm;by_cases e:s=a
  ·subst e;have:s∈w:=hm.2 rfl;simp [this]
  ·have:a∉w:=fun q=>e (Option.some.inj (hm.1 q));simp [e,this,gm]
theorem B5:∀ {l:List Int} {last:Int},ascB last l=true↔(l.Pairwise (· < ·)/\∀ x∈l,last < x/\x<=1099511627776)
 | [],last=>by simp [ascB]
 | y::ys,last=>by
  simp only [ascB,Bool.and_eq_true,decide_eq_true_eq,B5 (l:=ys) (last:=y),List.pairwise_cons];constructor
  ·rintro ⟨h1,h2,h3,h4⟩;refine ⟨⟨fun x hx=>(h4 x hx).1,h3⟩,fun x hx=>?_⟩;rcases List.mem_cons.1 hx with rfl|hx
   ·exact ⟨h1,h2⟩
   ·have:=h4 x hx; exact ⟨by omega,this.2⟩
  ·rintro ⟨⟨h1,h2⟩,h3⟩;have:=h3 y (by simp);exact ⟨this.1,this.2,h2,fun x hx=>⟨h1 x hx,(h3 x (by simp [hx])).2⟩⟩
def insI (l:List Int) (n:Int):List Int:=l.take (pz l n)++[n]++l.drop (pz l n)
theorem DM (x:Int) (xs:List Int) (n:Int):insI (x::xs) n=if x < n then x::insI xs n else n::x::xs:=by
 simp only [insI,pz];split<;>simp
theorem Fi (n:Int):insI [] n=[n]:=rfl
theorem yV {α β:Type} {b:Nat} {l:List α} {n:Nat} {x:α} {k:List α->Option β} (h:n<=l.length) (hb:(l.length+1) * (b+1)<=140737488355328):insM b l ((n:Nat):Int) [x] k=k (l.take n++[x]++l.drop n):=by
 unfold insM;rw [if_pos ⟨by omega,by omega,rfl,hb⟩];simp
theorem wV (N:Nat) {l:List Int} (hl:l.length<=40) {i:Nat} (h:i<=l.length) (n:Int):eW N l ((i:Nat):Int) [n]=some (l.take i++[n]++l.drop i):=by
 simp only [eW];rw [yV h (by omega)]
theorem ri_L1 (kx:List Int->Bool->Option (List Int)) (n:Int):∀ (xs:List Int) (v:Nat) (l:List Int),l.length+xs.length<=1001->xs.Pairwise (· < ·)->n∉xs->et kx n xs v (l,true)=kx (l++xs) true ∧
  (l.length+xs.length<=1000->et kx n xs v (l,false)=if pz xs n < xs.length then kx (l++insI xs n) true else kx (l++xs) false)
 | [],v,l,_,_,_=>by simp [et,pz]
 | x::xs,v,l,hl,hs,hn=>by
  simp only [List.length_cons] at hl;rw [List.pairwise_cons] at hs;simp only [List.mem_cons,not_or] at hn;have i1:=fun l h=>(ri_L1 kx n xs (v+1) l h hs.2 hn.2).1;have i2:=fun l h=>(ri_L1 kx n xs (v+1) l (by omega) hs.2 hn.2).2 h;constructor
  ·simp only [et,kN,kE,if_true,Bool.false_eq_true,if_false];rw [apx_of (by simp; omega),i1 _ (by simp; omega)];simp
  ·intro hl;simp only [List.length_cons] at hl;simp only [et,kN,kE,Bool.false_eq_true,if_false,DM,pz];by_cases h:n < x
   ·rw [if_pos (by simpa using h),apx_of (by simp; omega),apx_of (by simp; omega),i1 (l++[n]++[x]) (by simp; omega)];simp [show ¬ x < n from by omega]
   ·have:x < n:=by omega
    rw [if_neg (by simpa using h),apx_of (by simp; omega),i2 _ (by simp; omega)];simp [this]
theorem ri_end {l:List Int} {n:Int} (h:¬ pz l n < l.length):insI l n=l++[n]:=by
 have:=pz_le l n;have e:pz l n=l.length:=by omega
 simp [insI,e]
theorem yf (N:Nat) {l:List Int} (hl:l.length<=100) (hs:l.Pairwise (· < ·)) {n:Int} (hn:n∉l):kh N l n=some (insI l n):=by
 simp only [kh,(ri_L1 _ n l 0 [] (by simp; omega) hs hn).2 (by simp; omega),List.nil_append,pL,if_true,Bool.false_eq_true,if_false];split
 ·rfl
 ·rename_i h;rw [apx_of (by simp; omega),ri_end h]
def putT (t:List Client) (c:Client):List Client:=t.take (plc t c.Name)++[c]++t.drop (if hasN t c.Name=true then plc t c.Name+1 else plc t c.Name)
theorem rq (x:Client) (xs:List Client) (k:ByteArray):plc (x::xs) k=if sLt x.Name k=true then plc xs k+1 else 0:=by
 by_cases h:sLt x.Name k=true
 ·simp [plc,List.takeWhile_cons,ltN,h]
 ·simp [plc,List.takeWhile_cons,ltN,h]
theorem D4 (x:Client) (xs:List Client) (c:Client):putT (x::xs) c=if sLt x.Name c.Name=true then x::putT xs c else if sEq x.Name c.Name=true then c::xs else c::x::xs:=by
 by_cases h:sLt x.Name c.Name=true
 ·have e:hasN (x::xs) c.Name=hasN xs c.Name:=by simp [hasN,rq,h]
  simp only [putT,rq,h,if_true,e];split<;>simp
 ·have e:hasN (x::xs) c.Name=sEq x.Name c.Name:=by simp [hasN,rq,h]
  simp only [putT,rq,h,if_false,e,Bool.false_eq_true];cases sEq x.Name c.Name<;>simp
theorem rp_L1 (kx:List Client->Bool->Option (List Client)) (c:Client):∀ (xs:List Client) (v:Nat) (l:List Client),l.length+xs.length<=1001->So xs ->
  ((∀ x∈xs,sLt c.Name x.Name=true)->fh kx c xs v (l,true)=kx (l++xs) true) ∧
  (l.length+xs.length<=1000->fh kx c xs v (l,false)=if plc xs c.Name < xs.length then kx (l++putT xs c) true else kx (l++xs) false)
 | [],v,l,_,_=>by simp [fh,plc]
 | x::xs,v,l,hl,hs=>by
  simp only [List.length_cons] at hl;have hs':=List.pairwise_cons.1 hs;have i1:=fun l h=>(rp_L1 kx c xs (v+1) l h hs'.2).1;have i2:=fun l h=>(rp_L1 kx c xs (v+1) l (by omega) hs'.2).2 h;constructor
  ·intro hg;have hx:=hg x (by simp);have hne:sEq x.Name c.Name=false:=by
    cases e:sEq x.Name c.Name with
    | false=>rfl
    | true=>rw [pO.1 e,jI] at hx; cases hx
   simp only [fh,l5,mh,if_true,Bool.false_eq_true,if_false,hne];rw [apx_of (by simp; omega),i1 _ (by simp; omega) (fun y hy=>hg y (by simp [hy]))];simp
  ·intro hl;simp only [List.length_cons] at hl;simp only [fh,l5,mh,Bool.false_eq_true,if_false,D4,rq];rcases Ce x.Name c.Name with h|h|h
   ·have hne:sEq x.Name c.Name=false:=by
     cases e:sEq x.Name c.Name with
     | false=>rfl
     | true=>rw [pO.1 e,jI] at h; cases h
    simp only [h,Bool.not_true,Bool.false_eq_true,if_false,hne,if_true];rw [apx_of (by simp; omega),i2 _ (by simp; omega)];simp
   ·have h0:sLt x.Name c.Name=false:=by rw [h,jI]
    have h1:sEq x.Name c.Name=true:=by rw [h,rb]
    simp only [h0,Bool.not_false,if_true,h1,Bool.false_eq_true,if_false];rw [apx_of (by simp; omega),i1 _ (by simp; omega) (fun y hy=>by rw [<-h]; exact hs'.1 y hy)];simp
   ·have h0:sLt x.Name c.Name=false:=uQ h;have hne:sEq x.Name c.Name=false:=by
     cases e:sEq x.Name c.Name with
     | false=>rfl
     | true=>rw [pO.1 e,jI] at h; cases h
    simp only [h0,Bool.not_false,if_true,hne,Bool.false_eq_true,if_false];rw [apx_of (by simp; omega),apx_of (by simp; omega),i1 (l++[c]++[x]) (by simp; omega) (fun y hy=>sj h (hs'.1 y hy))];simp
theorem FZ {t:List Client} {c:Client} (h:¬ plc t c.Name < t.length):putT t c=t++[c]:=by
 have:=plc_le t c.Name;have e:plc t c.Name=t.length:=by omega
 have e2:hasN t c.Name=false:=by simp [hasN,e]
 simp [putT,e,e2]
theorem tc (N:Nat) {t:List Client} (hl:t.length<=100) (hs:So t) (c:Client):jZ N t c=some (putT t c):=by
 simp only [jZ,(rp_L1 _ c t 0 [] (by simp; omega) hs).2 (by simp; omega),List.nil_append,qY,if_true,Bool.false_eq_true,if_false];split
 ·rfl
 ·rename_i h;rw [apx_of (by simp; omega),FZ h]
theorem yU {t:List Client} (hp:So t) {c d:Client} (hc:cliOf t d.Name=some c):putT t d=t.set (plc t d.Name) d:=by
 rw [qZ hp] at hc;split at hc
 ·rename_i h;have hl:=(List.getElem?_eq_some_iff.1 hc).1;rw [List.set_eq_take_append_cons_drop,if_pos hl,putT,if_pos h];simp
 ·cases hc
theorem FJ {t:List Client} (hp:So t) {d:Client} (hc:cliOf t d.Name=none):putT t d=t.take (plc t d.Name)++[d]++t.drop (plc t d.Name)/\hasN t d.Name=false:=by
 rw [qZ hp] at hc;cases h:hasN t d.Name with
 | false=>exact ⟨by simp [putT,h],rfl⟩
 | true=>
  rw [h,if_pos rfl] at hc;have:=List.getElem?_eq_none_iff.1 hc;unfold hasN at h;rw [hc] at h;cases h
end Go.Proofs.Yteldkhmcgloafaa

namespace Go.Proofs.Yteldkhmcgloafaa
open Go Go.Proofs Go.Abs
def openT (t:List Client) (k:ByteArray) (n:Int):List Client × Int:=
 if nameB k=true/\numB n=true then
  (if statT t k n=3 then ([],8) else if statT t k n=1∨statT t k n=2 then ([],7) else match cliOf t k with
   | some c=>if c.Open.length+c.Done.length=16 then ([],5) else (putT t (Client.mk c.Name c.Low (insI c.Open n) c.Done),0)
   | none=>if t.length=32 then ([],5) else (putT t (Client.mk k 0 [n] []),0))
 else ([],1)
theorem A7 {a b:Nat} (ha:a<=100) (hb:b<=100):IntKind.i64.wrap (((a:Nat):Int)+((b:Nat):Int))=((a+b:Nat):Int):=by
 rw [w64 (n:=((a:Nat):Int)+((b:Nat):Int)) (by omega) (by omega)]; omega
theorem VC.asc {c:Client} (h:VC c):c.Open.Pairwise (· < ·):=(B5.1 h.op).1
theorem Gh (N:Nat) (hN:1000<=N) {t:List Client} (h:VT t) (k:ByteArray) (n:Int):fQ N t k n=some (openT t k n):=by
 simp only [fQ,h.valid,mV,oS,Option.bind_some,if_true,openT];cases hk:nameB k with
 | false=>simp [fX]
 | true=>
 cases hn:numB n with
 | false=>simp [fX]
 | true=>
 simp only [if_true,fX,Bool.not_true,Bool.false_eq_true,if_false,lh,vx N h,Option.bind_some,and_self];by_cases h3:statT t k n=3
 ·simp [h3]
 ·by_cases h1:statT t k n=1
  ·simp [h1,jv]
  ·by_cases h2:statT t k n=2
   ·simp [h2,jv]
   ·simp only [h3,h1,h2,if_false,or_self,jv,decide_false,Bool.false_eq_true,mX,yy N (by omega) h,Option.bind_some];have hat:=qZ h.so k;have hlen:=h.len;cases hh:hasN t k with
    | true=>
     rw [hh,if_pos rfl] at hat;simp only [if_true];cases hc:t[plc t k]? with
     | none=>unfold hasN at hh; rw [hc] at hh; cases hh
     | some c=>
      have hv:=h.cl c (List.mem_of_getElem? hc);have hl:=hv.ln;rw [hc] at hat;obtain ⟨_,hnm⟩:=kT hat;rw [gx_of hc,A7 (by omega) (by omega),hat];simp only [jq];by_cases h16:c.Open.length+c.Done.length=16
      ·simp [h16]
      ·rw [if_neg (by omega),if_neg (by simp),if_neg h16];simp only [jx,tY N h,Option.bind_some,if_true];rw [gx_of hc,bsI_eq N (by omega) (by omega) hv.asc];simp only [Option.bind_some];rw [wV N (by omega) (pz_le _ _)];simp only [Option.bind_some,Int.toNat_natCast];rw [yU (c:=c) (d:=Client.mk c.Name c.Low (insI c.Open n) c.Done) h.so (by rw [hnm]; exact hat)];simp only [insI,hnm]
    | false=>
     rw [hh,if_neg (by simp)] at hat;rw [hat];simp only [Bool.false_eq_true,if_false,jq];by_cases h32:t.length=32
     ·simp [h32]
     ·rw [if_neg (by simp; omega),if_neg h32];simp only [jx,tY N h,Option.bind_some,Bool.false_eq_true,if_false,bX];rw [yV (plc_le t k) (by omega)];simp only [Option.bind_some];have hg:(t.take (plc t k)++[Client.mk k 0 [] []]++t.drop (plc t k))[plc t k]?=some (Client.mk k 0 [] []):=by
       have:=plc_le t k;rw [List.append_assoc,List.getElem?_append_right (by simp; omega)];simp [Nat.min_eq_left this]
      rw [gx_of hg,bsI_eq N (by omega) (by simp) List.Pairwise.nil];simp only [Option.bind_some,pz];rw [wV N (l:=[]) (i:=0) (by simp) (Nat.le_refl _)];have hp:=FJ (d:=Client.mk k 0 [n] []) h.so hat;rw [hp.1];have:=plc_le t k;simp only [Option.bind_some,Int.toNat_natCast,List.take_nil,List.nil_append,List.drop_nil,List.append_nil];rw [List.append_assoc,List.set_append_right _ _ (by simp; omega)];simp [Nat.min_eq_left this]
theorem El (N:Nat) {t:List Client} (h:VT t) (k:ByteArray) (n:Int):gF N t k n=some (openT t k n):=by
 have hb:tabB t=true:=oc.2 h;have hnum:gF N t k n=if nameB k=true/\numB n=true then ib N t k n else some ([],1):=by
  simp only [gF,h.rvalid,j9,Option.bind_some,if_true,gZ,numB];cases nameB k with
  | false=>simp
  | true=>
   by_cases h1:n < 1
   ·simp [h1,show ¬ 1<=n from by omega]
   ·by_cases h2:1099511627776 < n
    ·simp [h1,h2,show ¬ n<=1099511627776 from by omega]
    ·simp [h1,h2,show 1<=n from by omega,show n<=1099511627776 from by omega]
 rw [hnum,openT];by_cases hq:nameB k=true/\numB n=true
 ·rw [if_pos hq,if_pos hq];simp only [ib,oV N h.sm,hb,if_true,Option.bind_some];by_cases h3:statT t k n=3
  ·simp [h3]
  ·by_cases h1:statT t k n=1
   ·simp [h1,ju]
   ·by_cases h2:statT t k n=2
    ·simp [h2,ju]
    ·simp only [h3,h1,h2,if_false,or_self,ju,decide_false,Bool.false_eq_true,mY,of_eq,Option.bind_some];have hlen:=h.len;cases hc:cliOf t k with
     | some c=>
      obtain ⟨hm,hnm⟩:=kT hc;have hv:=h.cl c hm;have hl:=hv.ln;simp only [A7 (show c.Open.length<=100 from by omega) (show c.Done.length<=100 from by omega),jr];have hst:statT t k n=statC c n:=by simp [statT,hc]
      by_cases h16:c.Open.length+c.Done.length=16
      ·rw [if_pos (by omega)]; simp [h16]
      ·rw [if_neg (by omega)];have hnin:n∉c.Open:=by
        intro hmem;rw [hst,statC] at h1 h3;by_cases hlo:n<=c.Low
        ·rw [if_pos hlo] at h3; exact h3 rfl
        ·rw [if_neg hlo,if_pos hmem] at h1; exact h1 rfl
       simp only [if_true,Bool.false_eq_true,if_false,h16,jn];rw [yf N (by omega) hv.asc hnin];simp only [Option.bind_some];rw [tc N (by omega) h.so];simp
     | none=>
      simp only [List.length_nil,jr];rw [show (IntKind.i64.wrap (((0:Nat):Int)+((0:Nat):Int)))=0 from rfl,if_neg (by omega)];simp only [Bool.false_eq_true,if_false];by_cases h32:t.length=32
      ·rw [if_pos (by simp; omega)]; simp [h32]
      ·rw [if_neg (by simp; omega),if_neg h32];simp only [jn];rw [yf N (by simp) List.Pairwise.nil (by simp)];simp only [Option.bind_some,Fi];rw [tc N (by omega) h.so];simp
 ·rw [if_neg hq,if_neg hq]
theorem l8 {t:List Client} (h:¬ VT t):tabB t=false:=by
 cases h':tabB t with
 | false=>rfl
 | true=>exact absurd (oc.1 h') h
theorem AL (N:Nat) {t:List Client} (hs:SmT t) (h:¬ VT t) (k:ByteArray) (n:Int):fQ N t k n=some ([],1)/\gF N t k n=some ([],1):=by
 constructor
 ·simp [fQ,gu N hs.1 hs.2,l8 h,fX]
 ·simp [gF,gv N hs.1 hs.2,l8 h,gZ]
def ackT (t:List Client) (k:ByteArray) (u:Int):List Client × Int:=
 if nameB k=true/\numB u=true then
  (match cliOf t k with
   | some c=>if (∃ x,c.Open.head?=some x/\x<=u) then ([],12) else
     (putT t (Client.mk c.Name (if u > c.Low then u else c.Low) c.Open (c.Done.filter fun a=>decide ((if u > c.Low then u else c.Low) < a.Seq))),0)
   | none=>([],6))
 else ([],1)
theorem ack_eq (N:Nat) (hN:1000<=N) {t:List Client} (h:VT t) (k:ByteArray) (u:Int):dL N t k u=some (ackT t k u):=by
 simp only [dL,h.valid,mV,oS,Option.bind_some,if_true,ackT];cases hk:nameB k with
 | false=>simp [dQ]
 | true=>
 cases hn:numB u with
 | false=>simp [dQ]
 | true=>
 simp only [if_true,dQ,Bool.not_true,Bool.false_eq_true,if_false,fN,yy N (by omega) h,Option.bind_some,and_self];have hat:=qZ h.so k;cases hh:hasN t k with
 | false=>
  rw [hh,if_neg (by simp)] at hat;simp [hat]
 | true=>
  rw [hh,if_pos rfl] at hat;simp only [if_true];cases hc:t[plc t k]? with
  | none=>unfold hasN at hh; rw [hc] at hh; cases hh
  | some c=>
   have hv:=h.cl c (List.mem_of_getElem? hc);have hl:=hv.ln;rw [hc] at hat;obtain ⟨_,hnm⟩:=kT hat;rw [gx_of hc,hat];have hJ3:fO N t (((plc t k:Nat):Int),true) u=some (putT t (Client.mk c.Name (if u > c.Low then u else c.Low) c.Open (c.Done.filter fun a=>decide ((if u > c.Low then u else c.Low) < a.Seq))),0):=by
    simp only [fO,tY N h,Option.bind_some];rw [gx_of hc];simp only [delAck];rw [if_pos ⟨by omega,by omega⟩,yU (c:=c) (d:=Client.mk c.Name (if u > c.Low then u else c.Low) c.Open (c.Done.filter fun a=>decide ((if u > c.Low then u else c.Low) < a.Seq))) h.so (by rw [hnm]; exact hat)];simp only [Option.bind_some,Int.toNat_natCast,hnm]
    congr 4
    apply List.filter_congr;intro a _;generalize (if u > c.Low then u else c.Low)=lo;by_cases hq:a.Seq<=lo
    ·simp [hq,show ¬ lo < a.Seq from by omega]
    ·simp [hq,show lo < a.Seq from by omega]
   rw [hJ3];cases ho:c.Open with
   | nil=>simp [eS,ho]
   | cons x xs=>
    rw [if_pos (by simp)];have hx:(x::xs)[(0:Nat)]?=some x:=rfl;rw [show (0:Int)=((0:Nat):Int) from rfl,gx_of hx];by_cases hle:x<=u
    ·simp [eS,hle,ho]
    ·simp [eS,hle,ho]
theorem Cc (kx:List Answer->Option (List Client × Int)) (u:Int) (r:Client × Bool):∀ (xs:List Answer) (v:Nat) (l:List Answer),l.length+xs.length<=1000->dR kx u r xs v l=kx (l++xs.filter fun a=>decide ((if u > r.1.Low then u else r.1.Low) < a.Seq))
 | [],v,l,_=>by simp [dR]
 | x::xs,v,l,h=>by
  simp only [List.length_cons] at h;have ih:=fun l h=>Cc kx u r xs (v+1) l h;simp only [dR,List.filter_cons,decide_eq_true_eq];generalize (if u > r.1.Low then u else r.1.Low)=lo at ih ⊢;by_cases hq:lo < x.Seq
  ·rw [if_pos hq,if_pos hq,apx_of (by simp; omega),ih (l++[x]) (by simp; omega)];simp
  ·rw [if_neg hq,if_neg hq,ih l (by omega)]
theorem Gn (N:Nat) {t:List Client} (h:VT t) (k:ByteArray) (u:Int):dM N t k u=some (ackT t k u):=by
 have hnum:dM N t k u=if nameB k=true/\numB u=true then eh N t k u else some ([],1):=by
  simp only [dM,h.rvalid,j9,Option.bind_some,if_true,ej,numB];cases nameB k with
  | false=>simp
  | true=>
   by_cases h1:u < 1
   ·simp [h1,show ¬ 1<=u from by omega]
   ·by_cases h2:1099511627776 < u
    ·simp [h1,h2,show ¬ u<=1099511627776 from by omega]
    ·simp [h1,h2,show 1<=u from by omega,show u<=1099511627776 from by omega]
 rw [hnum,ackT];by_cases hq:nameB k=true/\numB u=true
 ·rw [if_pos hq,if_pos hq];have hlen:=h.len;simp only [eh,of_eq,Option.bind_some];cases hc:cliOf t k with
  | none=>simp
  | some c=>
   obtain ⟨hm,hnm⟩:=kT hc;have hl:=(h.cl c hm).ln;have hJ4:fP N t (c,true) u=some (putT t (Client.mk c.Name (if u > c.Low then u else c.Low) c.Open (c.Done.filter fun a=>decide ((if u > c.Low then u else c.Low) < a.Seq))),0):=by
    simp only [fP];rw [Cc _ u (c,true) c.Done 0 [] (by simp; omega)];simp only [ld,List.nil_append];rw [tc N (by omega) h.so];rfl
   simp only [if_true,hJ4];cases ho:c.Open with
   | nil=>simp [eQ,ho]
   | cons x xs=>
    rw [if_pos (by simp)];have hx:(x::xs)[(0:Nat)]?=some x:=rfl;rw [show (0:Int)=((0:Nat):Int) from rfl,gx_of hx];by_cases hle:x<=u
    ·simp [eQ,hle,ho]
    ·simp [eQ,hle,ho]
 ·rw [if_neg hq,if_neg hq]
theorem Cd (N:Nat) {t:List Client} (hs:SmT t) (h:¬ VT t) (k:ByteArray) (n:Int):dL N t k n=some ([],1)/\dM N t k n=some ([],1):=by
 constructor
 ·simp [dL,gu N hs.1 hs.2,l8 h,dQ]
 ·simp [dM,gv N hs.1 hs.2,l8 h,ej]
end Go.Proofs.Yteldkhmcgloafaa

namespace Go.Proofs.Yteldkhmcgloafaa
open Go Go.Proofs Go.Abs
def kn (lo:Int) (s:Int):Bool:=!decide (s=lo)
theorem yD (N:Nat) (k0:ByteArray) (lo:Int) (k2:List Int) (k3 k4 k5:Int) (k6:ByteArray) (k7:List Int) (k8:List ByteArray):∀ (xs:List Int) (k:Nat),bk N k0 lo k2 k3 k4 k5 k6 k7 k8 xs k ()=some (match xs.findIdx? (fun a=>!kn lo a) with|some i=>(((k+i:Nat)):Int)|none=>-1):=by
 intro xs
 induction xs with
 | nil=>intro k; rfl
 | cons x xs ih=>
  intro k;simp only [bk,gw,Option.bind_some,List.findIdx?_cons,kn,Bool.not_not];by_cases h:x=lo
  ·simp [h]
  ·simp only [h,decide_false,Bool.false_eq_true,if_false,ih];simp only [kn,Bool.not_not];cases xs.findIdx? (fun a=>decide (a=lo)) with
   | none=>rfl
   | some i=>
    have e:k+1+i=k+(i+1):=by omega
    simp only [Option.map_some,e]
theorem del_J1 (l:List Int) (i:Nat) (h:i<=l.length):bL l (i:Int)=some (l.take i):=by
 unfold bL slx;rw [if_pos ⟨by omega,by omega,by omega,by omega⟩,if_pos ⟨by omega,by omega,by omega,by rw [Ci (by omega)]; omega⟩];simp only [Int.toNat_natCast];rw [At h]
theorem del_L1 (N:Nat) (k0:ByteArray) (lo:Int) (k2:List Int) (k3 k4 k5:Int) (k6:ByteArray) (k7:List Int) (k8:List ByteArray) (lv:List Int) (hb:lv.length<=4611686018427387904):∀ (n i j:Nat) (l4:List Int),j<=lv.length->l4.length=lv.length->l4.drop j=lv.drop j->i<=j->l4.take i=(lv.take j).filter (fun a=>kn lo a)->lv.length - j < n ->
  aS N k0 lo k2 k3 k4 k5 k6 k7 k8 bL n (l4,(i:Int),(j:Int))=some (lv.filter fun a=>kn lo a):=by
 intro n
 induction n with
 | zero=>intro i j l4 _ _ _ _ _ h; omega
 | succ n ih=>
  intro i j l4 hj hl hd hij ht hn;simp only [aS];by_cases hlt:j < lv.length
  ·have hx:l4[j]?=some lv[j]:=by
    have:=congrArg (fun l=>l[0]?) hd;simpa [List.getElem?_drop,hlt] using this
   have hw:∀ k:Nat,k < lv.length->IntKind.i64.wrap ((k:Int)+1)=((k+1:Nat):Int):=fun k hk=>by rw [eB (n:=(k:Int)+1) (by omega) (by omega)]; omega
   rw [if_pos (by omega),gx_nat hx];simp only [gw,Option.bind_some];have htk:(lv.take (j+1)).filter (fun a=>kn lo a)=(lv.take j).filter (fun a=>kn lo a)++(if kn lo lv[j] then [lv[j]] else []):=by
    rw [List.take_succ_eq_append_getElem hlt,List.filter_append];simp [List.filter_cons]
   have hd1:l4.drop (j+1)=lv.drop (j+1):=by
    have:=congrArg (List.drop 1) hd;simpa [List.drop_drop,Nat.add_comm] using this
   by_cases hq:lv[j]=lo
   ·simp only [hq,decide_true,if_true];rw [hw j hlt];exact ih i (j+1) l4 hlt hl hd1 (by omega) (by rw [htk,ht]; simp [kn,hq]) (by omega)
   ·simp only [hq,decide_false,Bool.false_eq_true,if_false];have hi:i < l4.length:=by omega
    rw [gx_nat (List.getElem?_eq_getElem hi),hw j hlt,hw i (by omega),Int.toNat_natCast];refine ih (i+1) (j+1) (l4.set i lv[j]) hlt (by simpa using hl) ?_ (by omega) ?_ (by omega)
    ·rw [List.drop_set_of_lt (by omega)]; exact hd1
    ·rw [htk,if_pos (by simp [kn,hq]),<-ht,List.take_succ_eq_append_getElem (by simpa using hi),List.take_set_of_le (Nat.le_refl i)];simp
  ·have hje:j=lv.length:=by omega
   subst hje;rw [if_neg (by omega),del_J1 l4 i (by omega),ht,List.take_length]
theorem del_V (N:Nat) (k0:ByteArray) (lo:Int) (k2:List Int) (k3 k4 k5:Int) (k6:ByteArray) (k7:List Int) (k8:List ByteArray) (lv:List Int) (hb:lv.length<=4611686018427387904) (hN:lv.length < N) :
  bu N lv k0 lo k2 k3 k4 k5 k6 k7 k8=some (lv.filter fun a=>kn lo a):=by
 unfold bu bZ;rw [yD,Option.bind_some];cases h:lv.findIdx? (fun a=>!kn lo a) with
 | none=>
  simp only [if_true];rw [List.filter_eq_self.2];intro a ha;have:=List.findIdx?_eq_none_iff.1 h a ha;simpa using this
 | some i=>
  obtain ⟨hi,h1,h2⟩:=List.findIdx?_eq_some_iff_getElem.1 h;simp only [Nat.zero_add];rw [if_neg (by omega),eB (n:=(i:Int)+1) (by omega) (by omega),show (i:Int)+1=((i+1:Nat):Int) from by omega];refine del_L1 N k0 lo k2 k3 k4 k5 k6 k7 k8 lv hb N i (i+1) lv (by omega) rfl rfl (by omega) ?_ (by omega);rw [List.take_succ_eq_append_getElem hi,List.filter_append,List.filter_eq_self.2]
  ·simp only [Bool.not_eq_true',Bool.not_eq_eq_eq_not,Bool.not_true] at h1;simp [List.filter_cons,h1]
  ·intro a ha;obtain ⟨k,hk⟩:=List.mem_iff_getElem?.1 ha;have hki:k < i:=by
    have:=(List.getElem?_eq_some_iff.1 hk).1;simp at this; omega
   rw [List.getElem?_take_of_lt hki] at hk;have:=h2 k hki;rw [(List.getElem?_eq_some_iff.1 hk).2] at this;simpa using this
theorem AJ (N:Nat) (n:Int):∀ (xs:List Int) (v:Nat) (l:List Int),l.length+xs.length<=1000->fY N [n] false xs v l=some (l++xs.filter fun a=>kn n a)
 | [],v,l,_=>by simp [fY]
 | x::xs,v,l,h=>by
  simp only [List.length_cons] at h;have ih:=fun l h=>AJ N n xs (v+1) l h;simp only [fY,rl,Option.bind_some,List.filter_cons,kn,List.mem_singleton];by_cases e:x=n
  ·simp only [e,decide_true,Bool.true_eq_false,if_false,Bool.not_true,Bool.false_eq_true];rw [ih l (by omega)];rfl
  ·simp only [e,decide_false,if_true,Bool.not_false];rw [apx_of (by simp; omega),ih (l++[x]) (by simp; omega)];simp [kn]
def pA:List Answer->Int->Nat
 | [],_=>0
 | x::xs,n=>if x.Seq < n then pA xs n+1 else 0
theorem pA_le:∀ (w:List Answer) (n:Int),pA w n<=w.length
 | [],_=>Nat.le_refl _
 | x::xs,n=>by
  have:=pA_le xs n;simp only [pA]; split<;>simp<;>omega
def insA (l:List Answer) (a:Answer):List Answer:=l.take (pA l a.Seq)++[a]++l.drop (pA l a.Seq)
theorem DG (x:Answer) (xs:List Answer) (a:Answer):insA (x::xs) a=if x.Seq < a.Seq then x::insA xs a else a::x::xs:=by
 simp only [insA,pA];split<;>simp
theorem fin_L1 (kx:Int->Option (List Client × Int)) (r:Reply):∀ (xs:List Answer) (v:Nat),gS kx r xs v ()=kx (((v+pA xs r.Seq:Nat)):Int)
 | [],v=>rfl
 | x::xs,v=>by
  simp only [gS,pA,fin_L1 kx r xs (v+1)];split
  ·congr 2; omega
  ·simp
theorem zJ (N:Nat) {l:List Answer} (hl:l.length<=40) {i:Nat} (h:i<=l.length) (a:Answer):eN N l ((i:Nat):Int) [a]=some (l.take i++[a]++l.drop i):=by
 simp only [eN];rw [yV h (by omega)]
def finC (c:Client) (r:Reply):Client:=Client.mk c.Name c.Low (c.Open.filter fun a=>kn r.Seq a) (insA c.Done (Answer.mk r.Seq r))
def finT (t:List Client) (r:Reply):List Client × Int:=
 if repB r=true then
  (if statT t r.Client_ r.Seq=1 then (match cliOf t r.Client_ with
   | some c=>(putT t (finC c r),0)
   | none=>([],6)) else ([],6))
 else ([],1)
theorem fin_eq (N:Nat) (hN:1000<=N) {t:List Client} (h:VT t) (r:Reply):fj N t r=some (finT t r):=by
 simp only [fj,h.valid,jf,Option.bind_some,if_true,finT,j4];cases hr:repB r with
 | false=>simp
 | true=>
 simp only [Bool.not_true,Bool.false_eq_true,if_false,if_true,vx N h,Option.bind_some];by_cases h1:statT t r.Client_ r.Seq=1
 ·rw [if_pos h1,if_pos h1];have hat:=qZ h.so r.Client_;simp only [lS,tY N h,yy N (by omega) h,Option.bind_some];cases hh:hasN t r.Client_ with
  | false=>
   rw [hh,if_neg (by simp)] at hat;simp [statT,hat] at h1
  | true=>
   rw [hh,if_pos rfl] at hat;cases hc:t[plc t r.Client_]? with
   | none=>unfold hasN at hh; rw [hc] at hh; cases hh
   | some c=>
    have hv:=h.cl c (List.mem_of_getElem? hc);have hl:=hv.ln;rw [hc] at hat;obtain ⟨_,hnm⟩:=kT hat;have hp:=vf hr;rw [gx_of hc,hat,del_V N _ _ _ _ _ _ _ _ _ c.Open (by omega) (by omega),Option.bind_some,fin_L1];simp only [oU,qj N hp.1 (show r.Value_.I.length<=1000 by omega) (show r.Value_.L.length<=1000 by omega),Option.bind_some,Nat.zero_add];rw [zJ N (by omega) (pA_le _ _)];simp only [Option.bind_some,Int.toNat_natCast];rw [yU (c:=c) (d:=finC c r) h.so (by show cliOf t c.Name=_; rw [hnm]; exact hat)];simp only [finC,insA,hnm]
 ·rw [if_neg h1,if_neg h1]
theorem yR (kx:List Answer->Bool->Option (List Client × Int)) (r:Reply):∀ (xs:List Answer) (v:Nat) (l:List Answer),l.length+xs.length<=1001->(∀ a∈xs,a.Seq≠r.Seq)->dY kx r xs v (l,true)=kx (l++xs) true ∧
  (l.length+xs.length<=1000->dY kx r xs v (l,false)=if pA xs r.Seq < xs.length then kx (l++insA xs (Answer.mk r.Seq r)) true else kx (l++xs) false)
 | [],v,l,_,_=>by simp [dY,pA]
 | x::xs,v,l,hl,hn=>by
  simp only [List.length_cons] at hl;have hx:=hn x (by simp);have hn':∀ a∈xs,a.Seq≠r.Seq:=fun a ha=>hn a (by simp [ha]);have i1:=fun l h=>(yR kx r xs (v+1) l h hn').1;have i2:=fun l h=>(yR kx r xs (v+1) l (by omega) hn').2 h;constructor
  ·simp only [dY,jO,jR,if_true,Bool.false_eq_true,if_false];rw [apx_of (by simp; omega),i1 _ (by simp; omega)];simp
  ·intro hl;simp only [List.length_cons] at hl;simp only [dY,jO,jR,Bool.false_eq_true,if_false,DG,pA];by_cases h:r.Seq < x.Seq
   ·rw [if_pos (by simpa using h),apx_of (by simp; omega),apx_of (by simp; omega),i1 (l++[Answer.mk r.Seq r]++[x]) (by simp; omega)];simp [show ¬ x.Seq < r.Seq from by omega]
   ·have:x.Seq < r.Seq:=by omega
    rw [if_neg (by simpa using h),apx_of (by simp; omega),i2 _ (by simp; omega)];simp [this]
theorem EN {l:List Answer} {a:Answer} (h:¬ pA l a.Seq < l.length):insA l a=l++[a]:=by
 have:=pA_le l a.Seq;have e:pA l a.Seq=l.length:=by omega
 simp [insA,e]
theorem FP (N:Nat) {t:List Client} (h:VT t) (r:Reply):fT N t r=some (finT t r):=by
 simp only [fT,h.rvalid,je,Option.bind_some,if_true,finT,jX];cases hr:repB r with
 | false=>simp
 | true=>
 simp only [Bool.not_true,Bool.false_eq_true,if_false,if_true,lL,oV N h.sm,oc.2 h,Option.bind_some];by_cases h1:statT t r.Client_ r.Seq=1
 ·rw [if_pos h1,if_pos h1];simp only [of_eq,Option.bind_some];cases hc:cliOf t r.Client_ with
  | none=>simp [statT,hc] at h1
  | some c=>
   obtain ⟨hm,hnm⟩:=kT hc;have hv:=h.cl c hm;have hl:=hv.ln;have hlen:=h.len;have hopen:r.Seq∈c.Open:=by
    simp only [statT,hc,statC] at h1;by_cases q1:r.Seq<=c.Low
    ·rw [if_pos q1] at h1; cases h1
    ·rw [if_neg q1] at h1;by_cases q2:r.Seq∈c.Open
     ·exact q2
     ·rw [if_neg q2] at h1; split at h1<;>cases h1
   have hne:∀ a∈c.Done,a.Seq≠r.Seq:=fun a ha e=>(tO hv.dn a ha).2.1 (e ▸ hopen);simp only [my];rw [AJ N r.Seq c.Open 0 [] (by simp; omega),Option.bind_some,List.nil_append,(yR _ r c.Done 0 [] (by simp; omega) hne).2 (by simp; omega)];simp only [oR,lK,if_true,Bool.false_eq_true,if_false,List.nil_append];split
   ·rw [tc N (by omega) h.so]; rfl
   ·rename_i hlt;rw [apx_of (by simp; omega),tc N (by omega) h.so];simp only [Option.bind_some,finC];rw [EN hlt]
 ·rw [if_neg h1,if_neg h1]
theorem B9 (N:Nat) {t:List Client} (hs:SmT t) (h:¬ VT t) (r:Reply):fj N t r=some ([],1)/\fT N t r=some ([],1):=by
 constructor
 ·simp [fj,gu N hs.1 hs.2,l8 h,j4]
 ·simp [fT,gv N hs.1 hs.2,l8 h,jX]
end Go.Proofs.Yteldkhmcgloafaa

namespace Go.Proofs.Yteldkhmcgloafaa
open Go Go.Proofs Go.Abs
theorem FH:mO 1000=some true:=by decide +kernel
def repS (r:Reply):Bool:=(r.Value_.L.all fun s=>decide (s.size<=200)) && (decide (r.Client_.size<=100) && (decide (r.Path.length<=40) && (decide (r.Value_.S.size<=200) && (decide (r.Value_.I.length<=40) && decide (r.Value_.L.length<=40)))))
theorem AN (kx:Option Bool):∀ (xs:List ByteArray) (v:Nat),iQ kx xs v ()=if (xs.all fun s=>decide (s.size<=200))=true then kx else some false
 | [],v=>rfl
 | x::xs,v=>by
  simp only [iQ,AN kx xs (v+1),List.all_cons];by_cases h:x.size<=200
  ·rw [if_neg (by omega)]; simp [h]
  ·rw [if_pos (by omega)]; simp [h]
theorem w8 (N:Nat) (r:Reply):kj N r=some (repS r):=by
 simp only [kj,AN,pP,repS];generalize (r.Value_.L.all fun s=>decide (s.size<=200))=q;cases q<;>simp only [gK,jb,kP,if_true,if_false,Bool.false_eq_true,Bool.and_eq_true,Bool.or_eq_true,Bool.not_eq_true',decide_eq_true_eq,decide_eq_false_iff_not,Bool.and_false,Bool.and_true,Bool.or_true,Bool.or_false,Bool.true_or,Bool.false_or,Bool.not_true,Bool.not_false,and_false,false_and,or_false,false_or,Classical.not_not,true_and,and_true,iff_false,false_iff,not_false_eq_true,not_true_eq_false,true_or,or_true ]<;>omega
def cliS (c:Client):Bool:=decide (c.Name.size<=100) && (decide (c.Open.length<=40) && (decide (c.Done.length<=40) && c.Done.all fun a=>repS a.Reply_))
theorem A4 (N:Nat) (c:Client) (rec:Unit->Option Bool) (hl:c.Done.length<=40):∀ (n i:Nat),i<=c.Done.length->c.Done.length - i < n->iJ c N rec n ((i:Nat):Int)=if ((c.Done.drop i).all fun a=>repS a.Reply_)=true then rec () else some false
 | 0,i,_,h=>by omega
 | n+1,i,hi,h=>by
  simp only [iJ];by_cases hlt:i < c.Done.length
  ·have hx:c.Done[i]?=some c.Done[i]:=List.getElem?_eq_getElem hlt;rw [if_pos (by omega),gx_of hx,w8,Option.bind_some,List.drop_eq_getElem_cons hlt,List.all_cons];have hw:IntKind.i64.wrap (((i:Nat):Int)+1)=((i+1:Nat):Int):=by
    rw [w64 (n:=((i:Nat):Int)+1) (by omega) (by omega)]; omega
   rw [hw,A4 N c rec hl n (i+1) (by omega) (by omega)];cases repS c.Done[i].Reply_<;>simp
  ·rw [if_neg (by omega),List.drop_of_length_le (by omega)];rfl
theorem AW (N:Nat) (hN:1000<=N) (t:List Client):∀ (xs:List Client) (v:Nat),fE t N xs v ()=if xs.all cliS=true then some (decide (((t.length:Nat):Int)<=40)) else some false
 | [],v=>rfl
 | x::xs,v=>by
  have ih:=AW N hN t xs (v+1);simp only [fE,kC,kH,List.all_cons,cliS];by_cases h1:x.Name.size<=100
  ·by_cases h2:x.Open.length<=40
   ·by_cases h3:x.Done.length<=40
    ·rw [if_neg (by omega),if_neg (by omega),if_neg (by simp; omega),show (0:Int)=((0:Nat):Int) from rfl,A4 N x _ h3 N 0 (by omega) (by omega),ih,List.drop_zero];simp only [h1,h2,h3,decide_true,Bool.true_and];have:(xs.all cliS)=xs.all cliS:=rfl;cases (x.Done.all fun a=>repS a.Reply_)<;>simp [cliS]
    ·rw [if_neg (by omega),if_neg (by omega),if_pos (by simp; omega)]; simp [h3]
   ·rw [if_neg (by omega),if_pos (by omega)]; simp [h2]
  ·rw [if_pos (by omega)]; simp [h1]
def smallB (t:List Client):Bool:=t.all cliS && decide (t.length<=40)
theorem En (N:Nat) (hN:1000<=N) (t:List Client):lC N t=some (smallB t):=by
 simp only [lC,AW N hN,smallB];cases t.all cliS with
 | false=>rfl
 | true=>simp only [if_true,Bool.true_and,Option.some.injEq]; rw [AD]; simp only [decide_eq_true_eq]; omega
theorem Fj {t:List Client} (h:smallB t=true):SmT t:=by
 simp only [smallB,Bool.and_eq_true,decide_eq_true_eq,List.all_eq_true,cliS] at h;exact ⟨h.2,fun c hc=>⟨(h.1 c hc).2.1,(h.1 c hc).2.2.1⟩⟩
theorem wY (t:List Client) (k:ByteArray) (n:Int) (r:Reply):gR 1000 t k n r=some true:=by
 simp only [gR,FH,En 1000 (Nat.le_refl _),Option.bind_some,if_true,gJ,w8];cases hsm:smallB t with
 | false=>simp
 | true=>
  have hs:=Fj hsm;have hJ:eJ 1000 t k n r=some true:=by
   by_cases h:VT t
   ·simp only [eJ,Gh 1000 (Nat.le_refl _) h,El 1000 h,fin_eq 1000 (Nat.le_refl _) h,FP 1000 h,ack_eq 1000 (Nat.le_refl _) h,Gn 1000 h,ED 1000 h,zu 1000 hs,oc.2 h,vx 1000 h,oV 1000 hs,
     gu 1000 hs.1 hs.2,gv 1000 hs.1 hs.2,jf,je,Option.bind_some,if_true,zn,px,decide_true]
   ·simp only [eJ,(AL 1000 hs h k n).1,(AL 1000 hs h k n).2,(B9 1000 hs h r).1,(B9 1000 hs h r).2,(Cd 1000 hs h k n).1,(Cd 1000 hs h k n).2,iI,dV,CH 1000 hs h,zu 1000 hs,oV 1000 hs,l8 h,
     gu 1000 hs.1 hs.2,gv 1000 hs.1 hs.2,jf,je,Option.bind_some,if_true,zn,px,decide_true,Bool.false_eq_true,if_false]
    simp
  simp only [if_true,hJ];split
  ·rfl
  ·cases repS r<;>rfl
end Go.Proofs.Yteldkhmcgloafaa
