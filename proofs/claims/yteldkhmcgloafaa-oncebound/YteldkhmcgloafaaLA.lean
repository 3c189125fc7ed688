/- Plain facts on the models; no program in sight. -/
import Derived.Test.YteldkhmcgloafaaM
set_option linter.unusedSimpArgs false
set_option linter.unusedVariables false
namespace Go.Proofs.Yteldkhmcgloafaa
open Go Go.Proofs Go.Abs
theorem w64' {n:Int} (h1:-9223372036854775808<=n) (h2:n<=9223372036854775807):IntKind.i64.wrap n=n:=dD h1 h2
theorem zA {a b:ByteArray}:sEq a b=true↔a=b:=by
 unfold sEq;rw [beq_iff_eq,ByteArray.toList_eq,ByteArray.toList_eq];obtain ⟨⟨x⟩⟩:=a;obtain ⟨⟨y⟩⟩:=b;simp
theorem ru (a:ByteArray):sEq a a=true:=zA.2 rfl
theorem lO {c:Prop} [Decidable c] {a b:Bool}:(if c then some a else some b)=some (if c then a else b):=by split<;>rfl
theorem oK {c:Prop} [Decidable c] {a b:Bool}:((if c then a else b)=true)↔((c/\a=true)∨(¬ c/\b=true)):=by split<;>simp [*]
theorem mL {a b:Bool}:(some a=some b)↔(a=true↔b=true):=by cases a<;>cases b<;>simp
theorem zC {a b:Bool}:(a=b)↔(a=true↔b=true):=by cases a<;>cases b<;>simp
theorem gx_of {α β:Type} {l:List α} {i:Nat} {x:α} {k:α->Option β} (h:l[i]?=some x):gx l (i:Int) k=k x:=gx_nat h
def findP {α:Type} (p:α->Bool):List α->Nat->Int
 | [],_=>-1
 | x::xs,v=>if p x=true then (v:Int) else findP p xs (v+1)
theorem sZ {α:Type} (p:α->Bool):∀ (xs:List α) (v:Nat),decide (0<=findP p xs v)=xs.any p
 | [],v=>rfl
 | x::xs,v=>by
  simp only [findP,List.any_cons];by_cases h:p x=true
  ·have:(0:Int)<=(v:Int):=by omega
   simp [h,this]
  ·simpa [h] using sZ p xs (v+1)
theorem uC {α:Type} {l:List α} {i:Nat} {x:α} (h:l[i]?=some x):l.set i x=l:=by
 apply List.ext_getElem?;intro j;rw [List.getElem?_set];split
 ·rename_i e;subst e;have:=(List.getElem?_eq_some_iff.1 h).1;rw [if_pos this,h]
 ·rfl
theorem apn_of {α β:Type} {b:Nat} {l:List α} {k:Option β} (h:l.length * (b+1)<=140737488355328):apn b l k=k:=by simp only [apn]; rw [if_pos h]
end Go.Proofs.Yteldkhmcgloafaa

namespace Go.Proofs.Yteldkhmcgloafaa
open Go Go.Proofs Go.Abs
def strsB (l:List ByteArray):Bool:=l.all fun s=>decide (s.size<=64)
theorem rG:∀ (xs:List ByteArray) (v:Nat),ew xs v ()=some (strsB xs)
 | [],v=>rfl
 | x::xs,v=>by
  have ih:=rG xs (v+1);simp only [ew,ih,strsB,List.all_cons]
  grind
def valueB (v:Value):Bool:=
 decide (0<=v.Kind) && decide (v.Kind<=5) &&
 decide (v.N=0∨v.Kind=1∨(v.Kind=2/\v.N=1)) &&
 (sEq v.S ⟨#[]⟩ || decide (v.Kind=3)) && (decide (v.I.length=0) || decide (v.Kind=4)) && (decide (v.L.length=0) || decide (v.Kind=5)) &&
 decide (v.S.size<=64) && decide (v.I.length<=16) && decide (v.L.length<=16) && strsB v.L
theorem qk (N:Nat) (v:Value):fF N v=some (valueB v):=by
 simp only [fF,gV,gM,il,gN,eu,fu,fw,eE,ij,rG,valueB];generalize strsB v.L=q;generalize sEq v.S ⟨#[]⟩=z;cases z<;>cases q<;>simp only [lO,mL,oK,if_true,if_false,Bool.false_eq_true,Bool.and_eq_true,Bool.or_eq_true,Bool.not_eq_true',decide_eq_true_eq,decide_eq_false_iff_not,Bool.and_false,Bool.and_true,Bool.or_true,Bool.or_false,Bool.true_or,Bool.false_or,Bool.not_true,Bool.not_false,and_false,false_and,or_false,false_or,Classical.not_not,true_and,and_true,iff_false,false_iff,not_false_eq_true,not_true_eq_false,true_or,or_true ]<;>omega
def nameB (s:ByteArray):Bool:=decide (1<=s.size) && decide (s.size<=32)
theorem jX (N:Nat) (s:ByteArray):fS N s=some (nameB s):=by
 simp only [fS,nameB,lO,mL,oK,if_true,if_false,Bool.false_eq_true,Bool.and_eq_true,Bool.or_eq_true,Bool.not_eq_true',decide_eq_true_eq,decide_eq_false_iff_not,Bool.and_false,Bool.and_true,Bool.or_true,Bool.or_false,Bool.true_or,Bool.false_or,Bool.not_true,Bool.not_false,and_false,false_and,or_false,false_or,Classical.not_not,true_and,and_true,iff_false,false_iff,not_false_eq_true,not_true_eq_false,true_or,or_true ]<;>omega
def numB (n:Int):Bool:=decide (1<=n) && decide (n<=1099511627776)
theorem kv (N:Nat) (n:Int):fq N n=some (numB n):=by
 simp only [fq,numB,lO,mL,oK,if_true,if_false,Bool.false_eq_true,Bool.and_eq_true,Bool.or_eq_true,Bool.not_eq_true',decide_eq_true_eq,decide_eq_false_iff_not,Bool.and_false,Bool.and_true,Bool.or_true,Bool.or_false,Bool.true_or,Bool.false_or,Bool.not_true,Bool.not_false,and_false,false_and,or_false,false_or,Classical.not_not,true_and,and_true,iff_false,false_iff,not_false_eq_true,not_true_eq_false,true_or,or_true ]<;>omega
def repB (r:Reply):Bool:=nameB r.Client_ && numB r.Seq && decide (r.Path.length=0) && decide (0<=r.Err) && decide (r.Err<=27) && valueB r.Value_ && (decide (r.Err=0) || decide (r.Value_.Kind=0))
theorem kW (N:Nat) (r:Reply):ej N r=some (repB r):=by
 simp only [ej,jX,kv,qk,Option.bind_some,repB];generalize nameB r.Client_=a;generalize numB r.Seq=b;generalize valueB r.Value_=c;cases a<;>cases b<;>cases c<;>simp only [lO,mL,oK,if_true,if_false,Bool.false_eq_true,Bool.and_eq_true,Bool.or_eq_true,Bool.not_eq_true',decide_eq_true_eq,decide_eq_false_iff_not,Bool.and_false,Bool.and_true,Bool.or_true,Bool.or_false,Bool.true_or,Bool.false_or,Bool.not_true,Bool.not_false,and_false,false_and,or_false,false_or,Classical.not_not,true_and,and_true,iff_false,false_iff,not_false_eq_true,not_true_eq_false,true_or,or_true ]<;>omega
def ascB:Int->List Int->Bool
 | _,[]=>true
 | last,x::xs=>decide (last < x) && (decide (x<=1099511627776) && ascB x xs)
def ansB (c:Client):Int->List Answer->Bool
 | _,[]=>true
 | last,a::as=>decide (last < a.Seq) && (!decide (a.Seq∈c.Open) && (repB a.Reply_ && (sEq a.Reply_.Client_ c.Name && (decide (a.Reply_.Seq=a.Seq) && ansB c a.Seq as))))
def cliB (c:Client):Bool:=nameB c.Name && (decide (0<=c.Low) && (decide (c.Low<=1099511627776) && (decide (c.Open.length+c.Done.length<=16) && (ascB c.Low c.Open && ansB c c.Low c.Done))))
theorem uB (n:Int):∀ (xs:List Int) (v:Nat),eb n xs v ()=some (findP (fun x=>decide (n=x)) xs v)
 | [],v=>rfl
 | x::xs,v=>by
  simp only [eb,findP,uB n xs (v+1),decide_eq_true_eq];split<;>rfl
theorem AR (n:Int) (l:List Int):l.any (fun x=>decide (n=x))=decide (n∈l):=by
 rw [zC]; simp
theorem vb (N:Nat) (l:List Int) (n:Int):ed N l n=some (decide (n∈l)):=by
 simp only [ed,gj,uB,Option.bind_some,sZ,AR]
theorem vc_L1 (kx:Option Bool):∀ (xs:List Int) (v:Nat) (last:Int),dw kx xs v last=if ascB last xs=true then kx else some false
 | [],v,last=>rfl
 | x::xs,v,last=>by
  have ih:=vc_L1 kx xs (v+1) x;simp only [dw,fR,fT,ih,ascB];by_cases h1:x<=last
  ·simp [h1,show ¬ last < x from by omega]
  ·by_cases h2:1099511627776 < x
   ·simp [h1,h2,show ¬ x<=1099511627776 from by omega]
   ·simp [h1,h2,show last < x from by omega,show x<=1099511627776 from by omega]
theorem vc_L2 (N:Nat) (c:Client):∀ (xs:List Answer) (v:Nat) (last:Int),bz N c xs v last=some (ansB c last xs)
 | [],v,last=>rfl
 | x::xs,v,last=>by
  have ih:=vc_L2 N c xs (v+1) x.Seq;simp only [bz,du,dz,ih,ansB,vb,kW,Option.bind_some];by_cases h1:x.Seq<=last
  ·simp [h1,show ¬ last < x.Seq from by omega]
  ·by_cases h2:x.Seq∈c.Open
   ·simp [h1,h2,show last < x.Seq from by omega]
   ·cases h3:repB x.Reply_<;>cases h4:sEq x.Reply_.Client_ c.Name<;>by_cases h5:x.Reply_.Seq=x.Seq<;>simp [h1,h2,h5,show last < x.Seq from by omega]
def small1 (c:Client):Prop:=c.Open.length<=40/\c.Done.length<=40
theorem sM (N:Nat) (c:Client) (hs:small1 c):eQ N c=some (cliB c):=by
 have e:IntKind.i64.wrap (((c.Open.length:Nat):Int)+((c.Done.length:Nat):Int))=((c.Open.length+c.Done.length:Nat):Int):=by
  rw [w64' (n:=((c.Open.length:Nat):Int)+((c.Done.length:Nat):Int)) (by have:=hs.1; have:=hs.2; omega) (by have:=hs.1; have:=hs.2; omega)]; omega
 simp only [eQ,dR,iQ,dT,jX,vc_L1,vc_L2,Option.bind_some,cliB,e];generalize nameB c.Name=a;generalize ascB c.Low c.Open=b;generalize ansB c c.Low c.Done=d;cases a<;>cases b<;>cases d<;>simp only [lO,mL,oK,if_true,if_false,Bool.false_eq_true,Bool.and_eq_true,Bool.or_eq_true,Bool.not_eq_true',decide_eq_true_eq,decide_eq_false_iff_not,Bool.and_false,Bool.and_true,Bool.or_true,Bool.or_false,Bool.true_or,Bool.false_or,Bool.not_true,Bool.not_false,and_false,false_and,or_false,false_or,Classical.not_not,true_and,and_true,iff_false,false_iff,not_false_eq_true,not_true_eq_false,true_or,or_true ]<;>omega
end Go.Proofs.Yteldkhmcgloafaa

namespace Go.Proofs.Yteldkhmcgloafaa
open Go Go.Proofs Go.Abs
theorem w64 {n:Int} (h1:-9223372036854775808<=n) (h2:n<=9223372036854775807):IntKind.i64.wrap n=n:=dD h1 h2
theorem tu:∀ x:List UInt8,Op.bytesLess x x=false
 | []=>rfl
 | a::x=>by simp [Op.bytesLess,tu x]
theorem uL:∀ {x y z:List UInt8},Op.bytesLess x y=true->Op.bytesLess y z=true->Op.bytesLess x z=true
 | _,[],_,h1,h2=>by simp [Op.bytesLess] at h1
 | _,_::_,[],h1,h2=>by simp [Op.bytesLess] at h2
 | [],_::_,_::_,h1,h2=>rfl
 | a::x,b::y,c::z,h1,h2=>by
  simp only [Op.bytesLess,Bool.or_eq_true,decide_eq_true_eq,Bool.and_eq_true,beq_iff_eq] at h1 h2 ⊢;rcases h1 with h1|⟨rfl,h1⟩
  ·rcases h2 with h2|⟨rfl,h2⟩
   ·exact .inl (UInt8.lt_trans h1 h2)
   ·exact .inl h1
  ·rcases h2 with h2|⟨rfl,h2⟩
   ·exact .inl h2
   ·exact .inr ⟨rfl,uL h1 h2⟩
theorem sj {a b:ByteArray}:sEq a b=true↔a=b:=by
 unfold sEq;rw [beq_iff_eq,ByteArray.toList_eq,ByteArray.toList_eq];obtain ⟨⟨x⟩⟩:=a;obtain ⟨⟨y⟩⟩:=b;simp
theorem rQ (a:ByteArray):sLt a a=false:=tu _
theorem sQ {a b c:ByteArray} (h1:sLt a b=true) (h2:sLt b c=true):sLt a c=true:=uL h1 h2
theorem mid_eq {i j:Nat} (h:i+j<=1000000):IntKind.i64.wrap (shrI .u64 (IntKind.u64.wrap (IntKind.i64.wrap ((i:Int)+(j:Int)))) 1)=(((i+j) / 2:Nat):Int):=by
 rw [w64 (n:=(i:Int)+(j:Int)) (by omega) (by omega)];have e:IntKind.u64.wrap ((i:Int)+(j:Int))=(i:Int)+(j:Int):=vK ⟨by show (0:Int)<=_; omega,by show _<=(18446744073709551615:Int); omega⟩;rw [e];have e2:shrI .u64 ((i:Int)+(j:Int)) 1=(((i+j) / 2:Nat):Int):=by
  show ((i:Int)+(j:Int)).fdiv 2=_;rw [Int.fdiv_eq_ediv_of_nonneg _ (by omega)];omega
 rw [e2,w64 (by omega) (by omega)]
theorem zT {α:Type} {l xs:List α} {v:Nat} {x:α} (h:l.drop v=x::xs):l[v]?=some x/\l.drop (v+1)=xs:=by
 constructor
 ·have:=congrArg (fun l=>l[0]?) h;simpa [List.getElem?_drop] using this
 ·have:=congrArg (List.drop 1) h;simpa [List.drop_drop,Nat.add_comm] using this
def tv:Option ByteArray->List Client->Bool
 | _,[]=>true
 | p,x::xs=>cliB x && ((match p with|none=>true|some q=>sLt q x.Name) && tv (some x.Name) xs)
def tabB (t:List Client):Bool:=decide (t.length<=32) && tv none t
def prevN (t:List Client) (v:Nat):Option ByteArray:=if v=0 then none else (t[v - 1]?).map (·.Name)
theorem wC {t:List Client} {v:Nat} {x:Client} (h:t[v]?=some x):prevN t (v+1)=some x.Name:=by
 simp [prevN,h]
theorem dv_L1 (N:Nat) (t:List Client) (hl:t.length<=40) (hs:∀ c∈t,small1 c):∀ (xs:List Client) (v:Nat),t.drop v=xs->eo N t xs v ()=some (tv (prevN t v) xs)
 | [],v,_=>rfl
 | x::xs,v,h=>by
  obtain ⟨hx,hd⟩:=zT h;have hv:=(List.getElem?_eq_some_iff.1 hx).1;have ih:=dv_L1 N t hl hs xs (v+1) hd;rw [wC hx] at ih;simp only [eo,iJ,sM N x (hs x (List.mem_of_getElem? hx)),Option.bind_some,tv,ih];by_cases g:0 < v
  ·have hw:IntKind.i64.wrap (((v:Nat):Int) - 1)=((v - 1:Nat):Int):=by
    rw [w64 (n:=((v:Nat):Int) - 1) (by omega) (by omega)]; omega
   obtain ⟨y,hp⟩:∃ y,t[v - 1]?=some y:=⟨_,List.getElem?_eq_getElem (by omega)⟩;have e:prevN t v=some y.Name:=by simp [prevN,show v≠0 from by omega,hp]
   rw [hw,gx_of hp,e,if_pos (show (0:Int) < ((v:Nat):Int) from by omega)];show _=some (cliB x && (sLt y.Name x.Name && tv (some x.Name) xs));cases cliB x<;>cases sLt y.Name x.Name<;>simp
  ·have:v=0:=by omega
   subst this;cases cliB x<;>simp [prevN]
theorem sx (N:Nat) {t:List Client} (hl:t.length<=40) (hs:∀ c∈t,small1 c):eG N t=some (tabB t):=by
 simp only [eG,tabB,dv_L1 N t hl hs t 0 (by simp)];by_cases h:t.length<=32
 ·rw [if_neg (by omega)]; simp [h,prevN]
 ·rw [if_pos (by omega)]; simp [h]
structure VC (c:Client):Prop where
 nm:nameB c.Name=true
 lo:0<=c.Low
 hi:c.Low<=1099511627776
 ln:c.Open.length+c.Done.length<=16
 op:ascB c.Low c.Open=true
 dn:ansB c c.Low c.Done=true
theorem zK {c:Client}:cliB c=true↔VC c:=by
 simp only [cliB,Bool.and_eq_true,decide_eq_true_eq];exact ⟨fun ⟨a,b,d,e,f,g⟩=>⟨a,b,d,e,f,g⟩,fun ⟨a,b,d,e,f,g⟩=>⟨a,b,d,e,f,g⟩⟩
def So (t:List Client):Prop:=t.Pairwise fun a b=>sLt a.Name b.Name=true
structure VT (t:List Client):Prop where
 len:t.length<=32
 cl:∀ c∈t,VC c
 so:So t
theorem tv_iff:∀ {t:List Client} {p:Option ByteArray},tv p t=true↔((∀ c∈t,VC c)/\So t/\∀ q,p=some q->∀ c∈t,sLt q c.Name=true)
 | [],p=>by simp [tv,So]
 | x::xs,p=>by
  have ih:=tv_iff (t:=xs) (p:=some x.Name);simp only [tv,Bool.and_eq_true,zK,ih];constructor
  ·rintro ⟨h1,h2,h3,h4,h5⟩;refine ⟨fun c hc=>?_,List.pairwise_cons.2 ⟨h5 x.Name rfl,h4⟩,fun q hq c hc=>?_⟩
   ·rcases List.mem_cons.1 hc with rfl|hc
    ·exact h1
    ·exact h3 c hc
   ·subst hq;rcases List.mem_cons.1 hc with rfl|hc
    ·exact h2
    ·exact sQ h2 (h5 x.Name rfl c hc)
  ·rintro ⟨h1,h2,h3⟩;have h2':=List.pairwise_cons.1 h2;refine ⟨h1 x (by simp),?_,fun c hc=>h1 c (by simp [hc]),h2'.2,fun q hq c hc=>?_⟩
   ·cases p with
    | none=>rfl
    | some q=>exact h3 q rfl x (by simp)
   ·cases hq; exact h2'.1 c hc
theorem zf {t:List Client}:tabB t=true↔VT t:=by
 simp only [tabB,Bool.and_eq_true,decide_eq_true_eq,tv_iff];exact ⟨fun ⟨a,b,c,_⟩=>⟨a,b,c⟩,fun ⟨a,b,c⟩=>⟨a,b,c,fun q hq=>by cases hq⟩⟩
theorem VC.small {c:Client} (h:VC c):small1 c:=⟨by have:=h.ln; omega,by have:=h.ln; omega⟩
theorem VT.valid {t:List Client} (h:VT t) (N:Nat):eG N t=some true:=by
 rw [sx N (by have:=h.len; omega) (fun c hc=>(h.cl c hc).small),zf.2 h]
theorem rh {c:Client}:∀ {l:List Answer} {last:Int},ansB c last l=true->∀ a∈l,last < a.Seq/\a.Seq∉c.Open/\repB a.Reply_=true/\a.Reply_.Client_=c.Name/\a.Reply_.Seq=a.Seq
 | [],_,_,a,ha=>by cases ha
 | x::xs,last,h,a,ha=>by
  simp only [ansB,Bool.and_eq_true,decide_eq_true_eq,Bool.not_eq_true',decide_eq_false_iff_not,sj] at h;obtain ⟨h1,h2,h3,h4,h5,h6⟩:=h;rcases List.mem_cons.1 ha with rfl|ha
  ·exact ⟨h1,h2,h3,h4,h5⟩
  ·obtain ⟨g1,g2⟩:=rh h6 a ha;exact ⟨by omega,g2⟩
theorem qj {r:Reply} (h:repB r=true):r.Path=[]/\r.Value_.I.length<=16/\r.Value_.L.length<=16:=by
 simp only [repB,valueB,Bool.and_eq_true,decide_eq_true_eq] at h;exact ⟨List.length_eq_zero_iff.1 h.1.1.1.1.2,by omega,by omega⟩
theorem l5 (N:Nat) {r:Reply} (h:r.Path=[]) (hI:r.Value_.I.length<=1000) (hL:r.Value_.L.length<=1000):dt N r=some r:=by
 obtain ⟨a,b,c,d,e⟩:=r;simp only at h;subst h;simp only [dt,bQ,bR];rw [apn_of (by simp only at hI; omega),Option.bind_some,apn_of (by simp only at hL; omega),Option.bind_some]
theorem uj (N:Nat) (rec:List Client->Option (List Client)) (t:List Client) (v:Nat) (c:Client) (hc:t[v]?=some c) (h:VC c):∀ (m k:Nat),k+m=c.Done.length->fb rec t v c c.Open N m k c.Done=rec t
 | 0,k,_=>by
  simp only [fb];rw [show Client.mk c.Name c.Low c.Open c.Done=c from rfl,uC hc]
 | m+1,k,hk=>by
  have hx:c.Done[k]?=some (c.Done[k]'(by omega)):=List.getElem?_eq_getElem _;have hr:=qj (rh h.dn _ (List.mem_of_getElem? hx)).2.2.1;simp only [fb];rw [gx_of hc,gx_of hx,l5 N hr.1 (by omega) (by omega),Option.bind_some,show Answer.mk (c.Done[k]'(by omega)).Seq (c.Done[k]'(by omega)).Reply_=c.Done[k]'(by omega) from rfl,uC hx];exact uj N rec t v c hc h m (k+1) (by omega)
theorem uA (N:Nat) (t:List Client) (h:∀ c∈t,VC c):∀ (m k:Nat),k+m=t.length->fg N m k t=some t
 | 0,k,hk=>by
  simp only [fg,lenG];rw [if_pos (by omega)]
 | m+1,k,hk=>by
  have hx:t[k]?=some (t[k]'(by omega)):=List.getElem?_eq_getElem _;have hv:=h _ (List.mem_of_getElem? hx);have hl:=hv.ln;simp only [fg,bQ,bU];rw [gx_of hx,apn_of (by omega),Option.bind_some,apn_of (by omega),Option.bind_some,Nat.sub_zero,uj N _ t k _ hx hv _ 0 (by omega)];exact uA N t h m (k+1) (by omega)
theorem pC (N:Nat) {t:List Client} (h:VT t):eI N t=some t:=by
 have:=h.len;simp only [eI,bT];rw [apn_of (by omega),Option.bind_some,Nat.sub_zero];exact uA N t h.cl t.length 0 (by omega)
def ltN (k:ByteArray) (r:Client):Bool:=sLt r.Name k
def plc (t:List Client) (k:ByteArray):Nat:=(t.takeWhile (ltN k)).length
theorem plc_le (t:List Client) (k:ByteArray):plc t k<=t.length:=(List.takeWhile_sublist (ltN k)).length_le
theorem plc_lt:∀ {t:List Client} {k:ByteArray},(t.Pairwise fun a b=>sLt a.Name b.Name=true)->∀ {i:Nat} {r:Client},t[i]?=some r->(sLt r.Name k=true↔i < plc t k)
 | [],k,hp,i,r,hr=>by simp at hr
 | x::xs,k,hp,i,r,hr=>by
  rw [List.pairwise_cons] at hp;by_cases h:sLt x.Name k=true
  ·have e:plc (x::xs) k=plc xs k+1:=by simp [plc,List.takeWhile_cons,ltN,h]
   rw [e];cases i with
   | zero=>simp only [List.getElem?_cons_zero,Option.some.injEq] at hr; subst hr; simp [h]
   | succ i=>
    rw [List.getElem?_cons_succ] at hr;rw [plc_lt hp.2 hr]; omega
  ·have e:plc (x::xs) k=0:=by simp [plc,List.takeWhile_cons,ltN,h]
   rw [e];constructor
   ·intro hlt;exfalso;cases i with
    | zero=>simp only [List.getElem?_cons_zero,Option.some.injEq] at hr; subst hr; exact h hlt
    | succ i=>
     rw [List.getElem?_cons_succ] at hr;exact h (sQ (hp.1 r (List.mem_of_getElem? hr)) hlt)
   ·omega
def hasN (t:List Client) (k:ByteArray):Bool:=match t[plc t k]? with
 | some s=>sEq s.Name k
 | none=>false
theorem plc_ge {t:List Client} (hp:So t) {k:ByteArray} {i:Nat} {r:Client} (hr:t[i]?=some r) (hi:plc t k<=i):sLt r.Name k=false:=by
 have:=plc_lt hp hr (k:=k);cases h:sLt r.Name k with
 | false=>rfl
 | true=>have:=this.1 h; omega
theorem tQ (N:Nat) (c:Client) (k:ByteArray):gi N c k=some (if sLt c.Name k=true then -1 else if sEq c.Name k=true then 0 else 1):=by
 simp only [gi];cases sLt c.Name k<;>cases sEq c.Name k<;>rfl
theorem bsN_L1 {t:List Client} (ht:t.length<=32) (hp:So t) (N:Nat) (k:ByteArray) (kx:Int->Option (Int × Bool)) :
  ∀ (n i j:Nat),j < i+n->i<=plc t k->plc t k<=j->j<=t.length->aw t N k kx n ((i:Int),(j:Int))=kx ((plc t k:Nat):Int)
 | 0,i,j,h1,h2,h3,h4=>by omega
 | n+1,i,j,h1,h2,h3,h4=>by
  rw [aw];by_cases h:i < j
  ·rw [if_pos (by omega),mid_eq (by omega)];have hm:(i+j) / 2 < t.length:=by omega
   have hx:t[(i+j) / 2]?=some t[(i+j) / 2]:=List.getElem?_eq_getElem hm;have hc:=plc_lt hp hx (k:=k);rw [gx_nat hx,tQ];simp only [Option.bind_some];by_cases hs:sLt t[(i+j) / 2].Name k=true
   ·rw [if_pos hs,if_pos (by omega),w64 (by omega) (by omega)];have:=hc.1 hs;exact bsN_L1 ht hp N k kx n ((i+j) / 2+1) j (by omega) (by omega) h3 h4
   ·rw [if_neg hs,if_neg (by split<;>omega)]
    have:¬ (i+j) / 2 < plc t k:=fun q=>hs (hc.2 q);exact bsN_L1 ht hp N k kx n i ((i+j) / 2) (by omega) h2 (by omega) (by omega)
  ·rw [if_neg (by omega)];have:i=plc t k:=by omega
   rw [this]
theorem sd (N:Nat) (hN:100<=N) {t:List Client} (h:VT t) (k:ByteArray):iq N t k=some (((plc t k:Nat):Int),hasN t k):=by
 have hl:=h.len;have hp:=plc_le t k;have:=bsN_L1 hl h.so N k (bp t N k) N 0 t.length (by omega) (by omega) hp (by omega);simp only [iq,aS];rw [show ((0:Int))=((0:Nat):Int) from rfl,this];unfold bp hasN;cases hq:t[plc t k]? with
 | none=>
  have:=List.getElem?_eq_none_iff.1 hq;rw [if_neg (by omega)]; rfl
 | some s=>
  have:=(List.getElem?_eq_some_iff.1 hq).1;have hge:=plc_ge h.so hq (Nat.le_refl _);rw [if_pos (by omega),gx_nat hq,tQ,hge];show _=some (((plc t k:Nat):Int),sEq s.Name k);cases sEq s.Name k<;>rfl
end Go.Proofs.Yteldkhmcgloafaa

namespace Go.Proofs.Yteldkhmcgloafaa
open Go Go.Proofs Go.Abs
def cliOf (t:List Client) (k:ByteArray):Option Client:=t.find? fun c=>sEq c.Name k
def zR:Reply:=Reply.mk (⟨#[]⟩) 0 [] 0 (Value.mk 0 0 (⟨#[]⟩) [] [])
def ansOf (c:Client) (n:Int):Option Answer:=c.Done.find? fun a=>decide (a.Seq=n)
def statC (c:Client) (n:Int):Int:=if n<=c.Low then 3 else if n∈c.Open then 1 else if (ansOf c n).isSome=true then 2 else 0
def repC (c:Client) (n:Int):Reply:=if n<=c.Low then zR else if n∈c.Open then zR else match ansOf c n with|some a=>a.Reply_|none=>zR
def statT (t:List Client) (k:ByteArray) (n:Int):Int:=match cliOf t k with|some c=>statC c n|none=>0
def repT (t:List Client) (k:ByteArray) (n:Int):Reply:=match cliOf t k with|some c=>repC c n|none=>zR
theorem mq {t:List Client} {k:ByteArray} {c:Client} (h:cliOf t k=some c):c∈t/\c.Name=k:=by
 have h1:=List.find?_some h;exact ⟨List.mem_of_find?_eq_some h,sj.1 h1⟩
theorem so_at {t:List Client} (hp:So t) {c:Client} (hc:c∈t):t[plc t c.Name]?=some c:=by
 obtain ⟨i,hi⟩:=List.mem_iff_getElem?.1 hc;have h1:=plc_lt hp hi (k:=c.Name);rw [rQ] at h1;have hle:plc t c.Name<=i:=by
  rcases Nat.lt_or_ge i (plc t c.Name) with h|h
  ·exact absurd (h1.2 h) (by simp)
  ·exact h
 have hil:=(List.getElem?_eq_some_iff.1 hi).1;have hpl:plc t c.Name < t.length:=by omega
 have e:plc t c.Name=i:=by
  rcases Nat.lt_or_ge (plc t c.Name) i with h|h
  ·exfalso;have h2:=plc_lt hp (List.getElem?_eq_getElem hpl) (k:=c.Name);have h3:=List.pairwise_iff_getElem.1 hp _ i hpl hil h;have h4:t[i]=c:=by rw [List.getElem?_eq_getElem hil] at hi; exact Option.some.inj hi
   rw [h4] at h3;have:=h2.1 h3;omega
  ·omega
 rw [e]; exact hi
theorem mC {t:List Client} (hp:So t) (k:ByteArray):cliOf t k=if hasN t k=true then t[plc t k]? else none:=by
 cases h:cliOf t k with
 | some c=>
  obtain ⟨h1,rfl⟩:=mq h;have h2:=so_at hp h1;have:hasN t c.Name=true:=by simp [hasN,h2,ru]
  rw [if_pos this,h2]
 | none=>
  cases h':hasN t k with
  | false=>simp
  | true=>
   exfalso;unfold hasN at h';split at h'
   ·rename_i s hs;have:=List.find?_eq_none.1 h s (List.mem_of_getElem? hs);exact this h'
   ·cases h'
theorem lk_L3 (N:Nat) (kx:Option (Int × Reply)) (n:Int):∀ (xs:List Answer) (v:Nat),(∀ a∈xs,repB a.Reply_=true)->fG kx n N xs v ()=match xs.find? (fun a=>decide (a.Seq=n)) with|some a=>some (2,a.Reply_)|none=>kx
 | [],v,_=>rfl
 | x::xs,v,h=>by
  simp only [fG,List.find?_cons];by_cases e:x.Seq=n
  ·have hr:=qj (h x (by simp));simp [e,l5 N hr.1 (by omega) (by omega)]
  ·simp [e,lk_L3 N kx n xs (v+1) (fun a ha=>h a (by simp [ha]))]
theorem lk_L2 (kx:Option (Int × Reply)) (n:Int):∀ (xs:List Int) (v:Nat),eK kx n xs v ()=if n∈xs then some (1,zR) else kx
 | [],v=>by simp [eK]
 | x::xs,v=>by
  simp only [eK,lk_L2 kx n xs (v+1)];by_cases e:x=n
  ·simp [e,zR]
  ·have:¬ n=x:=fun h=>e h.symm;simp [e,this]
theorem lk_L1 (N:Nat) (k:ByteArray) (n:Int):∀ (xs:List Client) (v:Nat),(∀ c∈xs,VC c)->fC k n N xs v ()=some (match xs.find? (fun c=>sEq c.Name k) with|some c=>(statC c n,repC c n)|none=>(0,zR))
 | [],v,_=>rfl
 | x::xs,v,h=>by
  simp only [fC,List.find?_cons];cases e:sEq x.Name k with
  | true=>
   have hv:=h x (by simp);simp only [if_true,lk_L2,kF,ky,lk_L3 N _ n x.Done 0 (fun a ha=>(rh hv.dn a ha).2.2.1)];simp only [statC,repC,ansOf];by_cases h1:n<=x.Low
   ·simp [h1,zR]
   ·by_cases h2:n∈x.Open
    ·simp [h1,h2]
    ·simp only [h1,h2,if_false];rcases Option.eq_none_or_eq_some (x.Done.find? (fun a=>decide (a.Seq=n))) with h3|⟨a,h3⟩<;>simp [h3,zR]
  | false=>
   simp only [Bool.false_eq_true,if_false];exact lk_L1 N k n xs (v+1) (fun c hc=>h c (by simp [hc]))
theorem yu (N:Nat) {t:List Client} (h:VT t) (k:ByteArray) (n:Int):fx N t k n=some (statT t k n,repT t k n):=by
 simp only [fx,h.valid,Option.bind_some,if_true,lk_L1 N k n t 0 h.cl,statT,repT];have:(t.find? fun c=>sEq c.Name k)=cliOf t k:=rfl;rw [this];cases cliOf t k<;>rfl
theorem og (N:Nat) {t:List Client} (h:VT t) (k:ByteArray) (n:Int):bJ N t k n=some (statT t k n):=by
 simp only [bJ,yu N h,Option.bind_some]
end Go.Proofs.Yteldkhmcgloafaa

namespace Go.Proofs.Yteldkhmcgloafaa
open Go Go.Proofs Go.Abs
def pz:List Int->Int->Nat
 | [],_=>0
 | x::xs,n=>if x < n then pz xs n+1 else 0
theorem pz_le:∀ (w:List Int) (n:Int),pz w n<=w.length
 | [],_=>Nat.le_refl _
 | x::xs,n=>by
  have:=pz_le xs n;simp only [pz]; split<;>simp<;>omega
theorem pz_lt:∀ {w:List Int},w.Pairwise (· < ·)->∀ {n:Int} {i:Nat} {x:Int},w[i]?=some x->(x < n↔i < pz w n)
 | [],_,n,i,x,hx=>by simp at hx
 | y::ys,hs,n,i,x,hx=>by
  rw [List.pairwise_cons] at hs;simp only [pz];cases i with
  | zero=>simp only [List.getElem?_cons_zero,Option.some.injEq] at hx; subst hx; split<;>simp<;>omega
  | succ i=>
   rw [List.getElem?_cons_succ] at hx;have ih:=pz_lt hs.2 hx (n:=n);have:=hs.1 x (List.mem_of_getElem? hx);split<;>omega
theorem y6 (N:Nat) (a b:Int):iK N a b=some (decide (a < b)):=by
 simp [iK,gK]
theorem pz_mem {w:List Int} (hs:w.Pairwise (· < ·)) {n:Int}:n∈w↔w[pz w n]?=some n:=by
 constructor
 ·intro h;obtain ⟨i,hi⟩:=List.mem_iff_getElem?.1 h;have h1:=pz_lt hs hi (n:=n);have hle:pz w n<=i:=by omega
  have hil:=(List.getElem?_eq_some_iff.1 hi).1;have hpl:pz w n < w.length:=by omega
  rcases Nat.lt_or_ge (pz w n) i with q|q
  ·exfalso;have h2:=pz_lt hs (List.getElem?_eq_getElem hpl) (n:=n);have h3:=List.pairwise_iff_getElem.1 hs _ i hpl hil q;have h4:w[i]=n:=(List.getElem?_eq_some_iff.1 hi).2;omega
  ·have:pz w n=i:=by omega
   rw [this]; exact hi
 ·exact List.mem_of_getElem?
theorem bsI_L1 {w:List Int} (hl:w.length<=32) (hs:w.Pairwise (· < ·)) (N:Nat) (a:Int) (kx:Int->Option (Int × Bool)) :
  ∀ (n i j:Nat),j < i+n->i<=pz w a->pz w a<=j->j<=w.length->bH w N a kx n ((i:Int),(j:Int))=kx ((pz w a:Nat):Int)
 | 0,i,j,h1,h2,h3,h4=>by omega
 | n+1,i,j,h1,h2,h3,h4=>by
  rw [bH];by_cases hij:i < j
  ·rw [if_pos (by omega),mid_eq (by omega)];have hm:(i+j) / 2 < w.length:=by omega
   have hx:w[(i+j) / 2]?=some w[(i+j) / 2]:=List.getElem?_eq_getElem hm;have hc:=pz_lt hs hx (n:=a);rw [gx_nat hx,y6];simp only [Option.bind_some,decide_eq_true_eq];by_cases hlt:w[(i+j) / 2] < a
   ·rw [if_pos hlt,w64 (by omega) (by omega)];have:(i+j) / 2 < pz w a:=hc.1 hlt;exact bsI_L1 hl hs N a kx n ((i+j) / 2+1) j (by omega) (by omega) h3 h4
   ·rw [if_neg hlt];have:¬ (i+j) / 2 < pz w a:=fun q=>hlt (hc.2 q);exact bsI_L1 hl hs N a kx n i ((i+j) / 2) (by omega) h2 (by omega) (by omega)
  ·rw [if_neg (by omega)];have:i=pz w a:=by omega
   rw [this]
theorem bsI_eq (N:Nat) (hN:200<=N) {w:List Int} (hl:w.length<=32) (hs:w.Pairwise (· < ·)) (a:Int):bW N w a=some (((pz w a:Nat):Int),decide (a∈w)):=by
 have hp:=pz_le w a;have:=bsI_L1 hl hs N a (ei w a N) N 0 w.length (by omega) (by omega) hp (by omega);simp only [bW];rw [show ((0:Int))=((0:Nat):Int) from rfl,this];unfold ei;have hm:=pz_mem hs (n:=a);cases hq:w[pz w a]? with
 | none=>
  have:=List.getElem?_eq_none_iff.1 hq;rw [if_neg (by omega)];rw [hq] at hm;have:a∉w:=fun q=>by simpa using hm.1 q
  simp [this]
 | some s=>
  have:=(List.getElem?_eq_some_iff.1 hq).1;rw [if_pos (by omega),gx_nat hq];rw [hq] at hm;by_cases e:s=a
  ·subst e;have:s∈w:=hm.2 rfl;simp [this]
  ·have:a∉w:=fun q=>e (Option.some.inj (hm.1 q));simp [e,this,fh]
theorem lj:∀ {l:List Int} {last:Int},ascB last l=true↔(l.Pairwise (· < ·)/\∀ x∈l,last < x/\x<=1099511627776)
 | [],last=>by simp [ascB]
 | y::ys,last=>by
  simp only [ascB,Bool.and_eq_true,decide_eq_true_eq,lj (l:=ys) (last:=y),List.pairwise_cons];constructor
  ·rintro ⟨h1,h2,h3,h4⟩;refine ⟨⟨fun x hx=>(h4 x hx).1,h3⟩,fun x hx=>?_⟩;rcases List.mem_cons.1 hx with rfl|hx
   ·exact ⟨h1,h2⟩
   ·have:=h4 x hx; exact ⟨by omega,this.2⟩
  ·rintro ⟨⟨h1,h2⟩,h3⟩;have:=h3 y (by simp);exact ⟨this.1,this.2,h2,fun x hx=>⟨h1 x hx,(h3 x (by simp [hx])).2⟩⟩
def insI (l:List Int) (n:Int):List Int:=l.take (pz l n)++[n]++l.drop (pz l n)
theorem s6 (x:Int) (xs:List Int) (n:Int):insI (x::xs) n=if x < n then x::insI xs n else n::x::xs:=by
 simp only [insI,pz];split<;>simp
theorem zH (n:Int):insI [] n=[n]:=rfl
theorem sA {α β:Type} {b:Nat} {l:List α} {n:Nat} {x:α} {k:List α->Option β} (h:n<=l.length) (hb:(l.length+1) * (b+1)<=140737488355328):insM b l ((n:Nat):Int) [x] k=k (l.take n++[x]++l.drop n):=by
 unfold insM;rw [if_pos ⟨by omega,by omega,rfl,hb⟩];simp
theorem rX (N:Nat) {l:List Int} (hl:l.length<=40) {i:Nat} (h:i<=l.length) (n:Int):dV N l ((i:Nat):Int) [n]=some (l.take i++[n]++l.drop i):=by
 simp only [dV];rw [sA h (by omega)]
def putT (t:List Client) (c:Client):List Client:=t.take (plc t c.Name)++[c]++t.drop (if hasN t c.Name=true then plc t c.Name+1 else plc t c.Name)
theorem pg (x:Client) (xs:List Client) (k:ByteArray):plc (x::xs) k=if sLt x.Name k=true then plc xs k+1 else 0:=by
 by_cases h:sLt x.Name k=true
 ·simp [plc,List.takeWhile_cons,ltN,h]
 ·simp [plc,List.takeWhile_cons,ltN,h]
theorem yy (x:Client) (xs:List Client) (c:Client):putT (x::xs) c=if sLt x.Name c.Name=true then x::putT xs c else if sEq x.Name c.Name=true then c::xs else c::x::xs:=by
 by_cases h:sLt x.Name c.Name=true
 ·have e:hasN (x::xs) c.Name=hasN xs c.Name:=by simp [hasN,pg,h]
  simp only [putT,pg,h,if_true,e];split<;>simp
 ·have e:hasN (x::xs) c.Name=sEq x.Name c.Name:=by simp [hasN,pg,h]
  simp only [putT,pg,h,if_false,e,Bool.false_eq_true];cases sEq x.Name c.Name<;>simp
theorem sJ {t:List Client} (hp:So t) {c d:Client} (hc:cliOf t d.Name=some c):putT t d=t.set (plc t d.Name) d:=by
 rw [mC hp] at hc;split at hc
 ·rename_i h;have hl:=(List.getElem?_eq_some_iff.1 hc).1;rw [List.set_eq_take_append_cons_drop,if_pos hl,putT,if_pos h];simp
 ·cases hc
theorem AG {t:List Client} (hp:So t) {d:Client} (hc:cliOf t d.Name=none):putT t d=t.take (plc t d.Name)++[d]++t.drop (plc t d.Name)/\hasN t d.Name=false:=by
 rw [mC hp] at hc;cases h:hasN t d.Name with
 | false=>exact ⟨by simp [putT,h],rfl⟩
 | true=>
  rw [h,if_pos rfl] at hc;have:=List.getElem?_eq_none_iff.1 hc;unfold hasN at h;rw [hc] at h;cases h
end Go.Proofs.Yteldkhmcgloafaa

namespace Go.Proofs.Yteldkhmcgloafaa
open Go Go.Proofs Go.Abs
def openT (t:List Client) (k:ByteArray) (n:Int):List Client × Int:=
 if nameB k=true/\numB n=true then
  (if statT t k n=3 then ([],8) else if statT t k n=1∨statT t k n=2 then ([],7) else match cliOf t k with
   | some c=>if c.Open.length+c.Done.length=16 then ([],5) else (putT t (Client.mk c.Name c.Low (insI c.Open n) c.Done),0)
   | none=>if t.length=32 then ([],5) else (putT t (Client.mk k 0 [n] []),0))
 else ([],1)
theorem zt {a b:Nat} (ha:a<=100) (hb:b<=100):IntKind.i64.wrap (((a:Nat):Int)+((b:Nat):Int))=((a+b:Nat):Int):=by
 rw [w64 (n:=((a:Nat):Int)+((b:Nat):Int)) (by omega) (by omega)]; omega
theorem VC.asc {c:Client} (h:VC c):c.Open.Pairwise (· < ·):=(lj.1 h.op).1
theorem qE (N:Nat) (hN:1000<=N) {t:List Client} (h:VT t) (k:ByteArray) (n:Int):dJ N t k n=some (openT t k n):=by
 simp only [dJ,h.valid,jX,kv,Option.bind_some,if_true,openT];cases hk:nameB k with
 | false=>simp [fL]
 | true=>
 cases hn:numB n with
 | false=>simp [fL]
 | true=>
 simp only [if_true,fL,Bool.not_true,Bool.false_eq_true,if_false,iX,og N h,Option.bind_some,and_self];by_cases h3:statT t k n=3
 ·simp [h3]
 ·by_cases h1:statT t k n=1
  ·simp [h1,gH]
  ·by_cases h2:statT t k n=2
   ·simp [h2,gH]
   ·simp only [h3,h1,h2,if_false,or_self,gH,decide_false,Bool.false_eq_true,jZ,sd N (by omega) h,Option.bind_some];have hat:=mC h.so k;have hlen:=h.len;cases hh:hasN t k with
    | true=>
     rw [hh,if_pos rfl] at hat;simp only [if_true];cases hc:t[plc t k]? with
     | none=>unfold hasN at hh; rw [hc] at hh; cases hh
     | some c=>
      have hv:=h.cl c (List.mem_of_getElem? hc);have hl:=hv.ln;rw [hc] at hat;obtain ⟨_,hnm⟩:=mq hat;rw [gx_of hc,zt (by omega) (by omega),hat];simp only [gI];by_cases h16:c.Open.length+c.Done.length=16
      ·simp [h16]
      ·rw [if_neg (by omega),if_neg (by simp),if_neg h16];simp only [gG,pC N h,Option.bind_some,if_true];rw [gx_of hc,bsI_eq N (by omega) (by omega) hv.asc];simp only [Option.bind_some];rw [rX N (by omega) (pz_le _ _)];simp only [Option.bind_some,Int.toNat_natCast];rw [sJ (c:=c) (d:=Client.mk c.Name c.Low (insI c.Open n) c.Done) h.so (by rw [hnm]; exact hat)];simp only [insI,hnm]
    | false=>
     rw [hh,if_neg (by simp)] at hat;rw [hat];simp only [Bool.false_eq_true,if_false,gI];by_cases h32:t.length=32
     ·simp [h32]
     ·rw [if_neg (by simp; omega),if_neg h32];simp only [gG,pC N h,Option.bind_some,Bool.false_eq_true,if_false,bx];rw [sA (plc_le t k) (by omega)];simp only [Option.bind_some];have hg:(t.take (plc t k)++[Client.mk k 0 [] []]++t.drop (plc t k))[plc t k]?=some (Client.mk k 0 [] []):=by
       have:=plc_le t k;rw [List.append_assoc,List.getElem?_append_right (by simp; omega)];simp [Nat.min_eq_left this]
      rw [gx_of hg,bsI_eq N (by omega) (by simp) List.Pairwise.nil];simp only [Option.bind_some,pz];rw [rX N (l:=[]) (i:=0) (by simp) (Nat.le_refl _)];have hp:=AG (d:=Client.mk k 0 [n] []) h.so hat;rw [hp.1];have:=plc_le t k;simp only [Option.bind_some,Int.toNat_natCast,List.take_nil,List.nil_append,List.drop_nil,List.append_nil];rw [List.append_assoc,List.set_append_right _ _ (by simp; omega)];simp [Nat.min_eq_left this]
def ackT (t:List Client) (k:ByteArray) (u:Int):List Client × Int:=
 if nameB k=true/\numB u=true then
  (match cliOf t k with
   | some c=>if (∃ x,c.Open.head?=some x/\x<=u) then ([],12) else
     (putT t (Client.mk c.Name (if u > c.Low then u else c.Low) c.Open (c.Done.filter fun a=>decide ((if u > c.Low then u else c.Low) < a.Seq))),0)
   | none=>([],6))
 else ([],1)
theorem ack_eq (N:Nat) (hN:1000<=N) {t:List Client} (h:VT t) (k:ByteArray) (u:Int):b9 N t k u=some (ackT t k u):=by
 simp only [b9,h.valid,jX,kv,Option.bind_some,if_true,ackT];cases hk:nameB k with
 | false=>simp [dy]
 | true=>
 cases hn:numB u with
 | false=>simp [dy]
 | true=>
 simp only [if_true,dy,Bool.not_true,Bool.false_eq_true,if_false,eJ,sd N (by omega) h,Option.bind_some,and_self];have hat:=mC h.so k;cases hh:hasN t k with
 | false=>
  rw [hh,if_neg (by simp)] at hat;simp [hat]
 | true=>
  rw [hh,if_pos rfl] at hat;simp only [if_true];cases hc:t[plc t k]? with
  | none=>unfold hasN at hh; rw [hc] at hh; cases hh
  | some c=>
   have hv:=h.cl c (List.mem_of_getElem? hc);have hl:=hv.ln;rw [hc] at hat;obtain ⟨_,hnm⟩:=mq hat;rw [gx_of hc,hat];have hJ3:eN N t (((plc t k:Nat):Int),true) u=some (putT t (Client.mk c.Name (if u > c.Low then u else c.Low) c.Open (c.Done.filter fun a=>decide ((if u > c.Low then u else c.Low) < a.Seq))),0):=by
    simp only [eN,pC N h,Option.bind_some];rw [gx_of hc];simp only [delAck];rw [if_pos ⟨by omega,by omega⟩,sJ (c:=c) (d:=Client.mk c.Name (if u > c.Low then u else c.Low) c.Open (c.Done.filter fun a=>decide ((if u > c.Low then u else c.Low) < a.Seq))) h.so (by rw [hnm]; exact hat)];simp only [Option.bind_some,Int.toNat_natCast,hnm]
    congr 4
    apply List.filter_congr;intro a _;generalize (if u > c.Low then u else c.Low)=lo;by_cases hq:a.Seq<=lo
    ·simp [hq,show ¬ lo < a.Seq from by omega]
    ·simp [hq,show lo < a.Seq from by omega]
   rw [hJ3];cases ho:c.Open with
   | nil=>simp [dS,ho]
   | cons x xs=>
    rw [if_pos (by simp)];have hx:(x::xs)[(0:Nat)]?=some x:=rfl;rw [show (0:Int)=((0:Nat):Int) from rfl,gx_of hx];by_cases hle:x<=u
    ·simp [dS,hle,ho]
    ·simp [dS,hle,ho]
end Go.Proofs.Yteldkhmcgloafaa

namespace Go.Proofs.Yteldkhmcgloafaa
open Go Go.Proofs Go.Abs
def kn (lo:Int) (s:Int):Bool:=!decide (s=lo)
theorem sv (N:Nat) (k0:ByteArray) (lo:Int) (k2:List Int) (k3 k4 k5:Int) (k6:ByteArray) (k7:List Int) (k8:List ByteArray):∀ (xs:List Int) (k:Nat),aP N k0 lo k2 k3 k4 k5 k6 k7 k8 xs k ()=some (match xs.findIdx? (fun a=>!kn lo a) with|some i=>(((k+i:Nat)):Int)|none=>-1):=by
 intro xs
 induction xs with
 | nil=>intro k; rfl
 | cons x xs ih=>
  intro k;simp only [aP,ff,Option.bind_some,List.findIdx?_cons,kn,Bool.not_not];by_cases h:x=lo
  ·simp [h]
  ·simp only [h,decide_false,Bool.false_eq_true,if_false,ih];simp only [kn,Bool.not_not];cases xs.findIdx? (fun a=>decide (a=lo)) with
   | none=>rfl
   | some i=>
    have e:k+1+i=k+(i+1):=by omega
    simp only [Option.map_some,e]
theorem del_J1 (l:List Int) (i:Nat) (h:i<=l.length):bm l (i:Int)=some (l.take i):=by
 unfold bm slx;rw [if_pos ⟨by omega,by omega,by omega,by omega⟩,if_pos ⟨by omega,by omega,by omega,by rw [wa (by omega)]; omega⟩];simp only [Int.toNat_natCast];rw [uk h]
theorem del_L1 (N:Nat) (k0:ByteArray) (lo:Int) (k2:List Int) (k3 k4 k5:Int) (k6:ByteArray) (k7:List Int) (k8:List ByteArray) (lv:List Int) (hb:lv.length<=4611686018427387904):∀ (n i j:Nat) (l4:List Int),j<=lv.length->l4.length=lv.length->l4.drop j=lv.drop j->i<=j->l4.take i=(lv.take j).filter (fun a=>kn lo a)->lv.length - j < n ->
  aH N k0 lo k2 k3 k4 k5 k6 k7 k8 bm n (l4,(i:Int),(j:Int))=some (lv.filter fun a=>kn lo a):=by
 intro n
 induction n with
 | zero=>intro i j l4 _ _ _ _ _ h; omega
 | succ n ih=>
  intro i j l4 hj hl hd hij ht hn;simp only [aH];by_cases hlt:j < lv.length
  ·have hx:l4[j]?=some lv[j]:=by
    have:=congrArg (fun l=>l[0]?) hd;simpa [List.getElem?_drop,hlt] using this
   have hw:∀ k:Nat,k < lv.length->IntKind.i64.wrap ((k:Int)+1)=((k+1:Nat):Int):=fun k hk=>by rw [dD (n:=(k:Int)+1) (by omega) (by omega)]; omega
   rw [if_pos (by omega),gx_nat hx];simp only [ff,Option.bind_some];have htk:(lv.take (j+1)).filter (fun a=>kn lo a)=(lv.take j).filter (fun a=>kn lo a)++(if kn lo lv[j] then [lv[j]] else []):=by
    rw [List.take_succ_eq_append_getElem hlt,List.filter_append];simp [List.filter_cons]
   have hd1:l4.drop (j+1)=lv.drop (j+1):=by
    have:=congrArg (List.drop 1) hd;simpa [List.drop_drop,Nat.add_comm] using this
   by_cases hq:lv[j]=lo
   ·simp only [hq,decide_true,if_true];rw [hw j hlt];exact ih i (j+1) l4 hlt hl hd1 (by omega) (by rw [htk,ht]; simp [kn,hq]) (by omega)
   ·simp only [hq,decide_false,Bool.false_eq_true,if_false];have hi:i < l4.length:=by omega
    rw [gx_nat (List.getElem?_eq_getElem hi),hw j hlt,hw i (by omega),Int.toNat_natCast];refine ih (i+1) (j+1) (l4.set i lv[j]) hlt (by simpa using hl) ?_ (by omega) ?_ (by omega)
    ·rw [List.drop_set_of_lt (by omega)]; exact hd1
    ·rw [htk,if_pos (by simp [kn,hq]),<-ht,List.take_succ_eq_append_getElem (by simpa using hi),List.take_set_of_le (Nat.le_refl i)];simp
  ·have hje:j=lv.length:=by omega
   subst hje;rw [if_neg (by omega),del_J1 l4 i (by omega),ht,List.take_length]
theorem del_V (N:Nat) (k0:ByteArray) (lo:Int) (k2:List Int) (k3 k4 k5:Int) (k6:ByteArray) (k7:List Int) (k8:List ByteArray) (lv:List Int) (hb:lv.length<=4611686018427387904) (hN:lv.length < N) :
  aU N lv k0 lo k2 k3 k4 k5 k6 k7 k8=some (lv.filter fun a=>kn lo a):=by
 unfold aU bD;rw [sv,Option.bind_some];cases h:lv.findIdx? (fun a=>!kn lo a) with
 | none=>
  simp only [if_true];rw [List.filter_eq_self.2];intro a ha;have:=List.findIdx?_eq_none_iff.1 h a ha;simpa using this
 | some i=>
  obtain ⟨hi,h1,h2⟩:=List.findIdx?_eq_some_iff_getElem.1 h;simp only [Nat.zero_add];rw [if_neg (by omega),dD (n:=(i:Int)+1) (by omega) (by omega),show (i:Int)+1=((i+1:Nat):Int) from by omega];refine del_L1 N k0 lo k2 k3 k4 k5 k6 k7 k8 lv hb N i (i+1) lv (by omega) rfl rfl (by omega) ?_ (by omega);rw [List.take_succ_eq_append_getElem hi,List.filter_append,List.filter_eq_self.2]
  ·simp only [Bool.not_eq_true',Bool.not_eq_eq_eq_not,Bool.not_true] at h1;simp [List.filter_cons,h1]
  ·intro a ha;obtain ⟨k,hk⟩:=List.mem_iff_getElem?.1 ha;have hki:k < i:=by
    have:=(List.getElem?_eq_some_iff.1 hk).1;simp at this; omega
   rw [List.getElem?_take_of_lt hki] at hk;have:=h2 k hki;rw [(List.getElem?_eq_some_iff.1 hk).2] at this;simpa using this
def pA:List Answer->Int->Nat
 | [],_=>0
 | x::xs,n=>if x.Seq < n then pA xs n+1 else 0
theorem pA_le:∀ (w:List Answer) (n:Int),pA w n<=w.length
 | [],_=>Nat.le_refl _
 | x::xs,n=>by
  have:=pA_le xs n;simp only [pA]; split<;>simp<;>omega
def insA (l:List Answer) (a:Answer):List Answer:=l.take (pA l a.Seq)++[a]++l.drop (pA l a.Seq)
theorem yf (x:Answer) (xs:List Answer) (a:Answer):insA (x::xs) a=if x.Seq < a.Seq then x::insA xs a else a::x::xs:=by
 simp only [insA,pA];split<;>simp
theorem fin_L1 (kx:Int->Option (List Client × Int)) (r:Reply):∀ (xs:List Answer) (v:Nat),fE kx r xs v ()=kx (((v+pA xs r.Seq:Nat)):Int)
 | [],v=>rfl
 | x::xs,v=>by
  simp only [fE,pA,fin_L1 kx r xs (v+1)];split
  ·congr 2; omega
  ·simp
theorem tC (N:Nat) {l:List Answer} (hl:l.length<=40) {i:Nat} (h:i<=l.length) (a:Answer):dP N l ((i:Nat):Int) [a]=some (l.take i++[a]++l.drop i):=by
 simp only [dP];rw [sA h (by omega)]
def finC (c:Client) (r:Reply):Client:=Client.mk c.Name c.Low (c.Open.filter fun a=>kn r.Seq a) (insA c.Done (Answer.mk r.Seq r))
def finT (t:List Client) (r:Reply):List Client × Int:=
 if repB r=true then
  (if statT t r.Client_ r.Seq=1 then (match cliOf t r.Client_ with
   | some c=>(putT t (finC c r),0)
   | none=>([],6)) else ([],6))
 else ([],1)
theorem fin_eq (N:Nat) (hN:1000<=N) {t:List Client} (h:VT t) (r:Reply):fy N t r=some (finT t r):=by
 simp only [fy,h.valid,kW,Option.bind_some,if_true,finT,jf];cases hr:repB r with
 | false=>simp
 | true=>
 simp only [Bool.not_true,Bool.false_eq_true,if_false,if_true,og N h,Option.bind_some];by_cases h1:statT t r.Client_ r.Seq=1
 ·rw [if_pos h1,if_pos h1];have hat:=mC h.so r.Client_;simp only [jk,pC N h,sd N (by omega) h,Option.bind_some];cases hh:hasN t r.Client_ with
  | false=>
   rw [hh,if_neg (by simp)] at hat;simp [statT,hat] at h1
  | true=>
   rw [hh,if_pos rfl] at hat;cases hc:t[plc t r.Client_]? with
   | none=>unfold hasN at hh; rw [hc] at hh; cases hh
   | some c=>
    have hv:=h.cl c (List.mem_of_getElem? hc);have hl:=hv.ln;rw [hc] at hat;obtain ⟨_,hnm⟩:=mq hat;have hp:=qj hr;rw [gx_of hc,hat,del_V N _ _ _ _ _ _ _ _ _ c.Open (by omega) (by omega),Option.bind_some,fin_L1];simp only [kH,l5 N hp.1 (show r.Value_.I.length<=1000 by omega) (show r.Value_.L.length<=1000 by omega),Option.bind_some,Nat.zero_add];rw [tC N (by omega) (pA_le _ _)];simp only [Option.bind_some,Int.toNat_natCast];rw [sJ (c:=c) (d:=finC c r) h.so (by show cliOf t c.Name=_; rw [hnm]; exact hat)];simp only [finC,insA,hnm]
 ·rw [if_neg h1,if_neg h1]
end Go.Proofs.Yteldkhmcgloafaa

namespace Go.Proofs.Yteldkhmcgloafaa
open Go Go.Proofs Go.Abs
theorem Az:jS 1000=some true:=by decide +kernel
end Go.Proofs.Yteldkhmcgloafaa

namespace Go.Proofs.Yteldkhmcgloafaa
open Go Go.Proofs Go.Abs
theorem mA {c:Client}:∀ {l:List Answer} {last:Int},ansB c last l=true↔(l.Pairwise (fun a b=>a.Seq < b.Seq)/\∀ a∈l,last < a.Seq/\a.Seq∉c.Open/\repB a.Reply_=true/\a.Reply_.Client_=c.Name/\a.Reply_.Seq=a.Seq)
 | [],last=>by simp [ansB]
 | x::xs,last=>by
  simp only [ansB,Bool.and_eq_true,decide_eq_true_eq,Bool.not_eq_true',decide_eq_false_iff_not,sj,mA (l:=xs) (last:=x.Seq),List.pairwise_cons];constructor
  ·rintro ⟨h1,h2,h3,h4,h5,h6,h7⟩;refine ⟨⟨fun a ha=>(h7 a ha).1,h6⟩,fun a ha=>?_⟩;rcases List.mem_cons.1 ha with rfl|ha
   ·exact ⟨h1,h2,h3,h4,h5⟩
   ·have:=h7 a ha; exact ⟨by omega,this.2⟩
  ·rintro ⟨⟨h1,h2⟩,h3⟩;have:=h3 x (by simp);exact ⟨this.1,this.2.1,this.2.2.1,this.2.2.2.1,this.2.2.2.2,h2,fun a ha=>⟨h1 a ha,(h3 a (by simp [ha])).2⟩⟩
theorem pK {l:List Int} {n x:Int}:x∈insI l n↔x=n∨x∈l:=by
 have:x∈l↔x∈l.take (pz l n)∨x∈l.drop (pz l n):=by rw [<-List.mem_append,List.take_append_drop]
 simp only [insI,List.mem_append,List.mem_singleton,this];constructor
 ·rintro ((h|h)|h)
  ·exact .inr (.inl h)
  ·exact .inl h
  ·exact .inr (.inr h)
 ·rintro (h|h|h)
  ·exact .inl (.inr h)
  ·exact .inl (.inl h)
  ·exact .inr h
theorem qV:∀ {l:List Int} {n:Int},l.Pairwise (· < ·)->n∉l->(insI l n).Pairwise (· < ·)
 | [],n,_,_=>by simp [zH]
 | x::xs,n,hs,hn=>by
  have hs':=List.pairwise_cons.1 hs;simp only [List.mem_cons,not_or] at hn;rw [s6];split
  ·rename_i h;refine List.pairwise_cons.2 ⟨fun y hy=>?_,qV hs'.2 hn.2⟩;rcases pK.1 hy with rfl|hy
   ·exact h
   ·exact hs'.1 y hy
  ·rename_i h;refine List.pairwise_cons.2 ⟨fun y hy=>?_,hs⟩;rcases List.mem_cons.1 hy with rfl|hy
   ·omega
   ·have:=hs'.1 y hy; omega
theorem zc (l:List Int) (n:Int):(insI l n).length=l.length+1:=by
 have:=pz_le l n;simp only [insI,List.length_append,List.length_take,List.length_drop,List.length_cons,List.length_nil]; omega
theorem iy {n:Int}:numB n=true↔1<=n/\n<=1099511627776:=by simp [numB]
theorem wW {c:Client} {n:Int} (h3:statC c n≠3) (h1:statC c n≠1) (h2:statC c n≠2):c.Low < n/\n∉c.Open/\∀ a∈c.Done,a.Seq≠n:=by
 unfold statC at *;by_cases q1:n<=c.Low
 ·simp [q1] at h3
 ·by_cases q2:n∈c.Open
  ·simp [q1,q2] at h1
  ·simp only [q1,q2,if_false] at h2;refine ⟨by omega,q2,fun a ha e=>?_⟩;cases h:ansOf c n with
   | some b=>rw [h] at h2; simp at h2
   | none=>
    have:=List.find?_eq_none.1 h a ha;simp [e] at this
theorem VC.opened {c:Client} (h:VC c) {n:Int} (hn:numB n=true) (h3:statC c n≠3) (h1:statC c n≠1) (h2:statC c n≠2) (hl:c.Open.length+c.Done.length≠16):VC (Client.mk c.Name c.Low (insI c.Open n) c.Done):=by
 obtain ⟨q1,q2,q3⟩:=wW h3 h1 h2;have hn':=iy.1 hn;have ha:=lj.1 h.op;have hd:=mA.1 h.dn;refine ⟨h.nm,h.lo,h.hi,?_,lj.2 ⟨qV ha.1 q2,fun x hx=>?_⟩,mA.2 ⟨hd.1,fun a ha'=>?_⟩⟩
 ·have:=h.ln;show (insI c.Open n).length+c.Done.length<=16;rw [zc]; omega
 ·rcases pK.1 hx with rfl|hx
  ·exact ⟨q1,hn'.2⟩
  ·exact ha.2 x hx
 ·have:=hd.2 a ha';refine ⟨this.1,fun hm=>?_,this.2.2⟩;rcases pK.1 hm with e|hm
  ·exact q3 a ha' e
  ·exact this.2.1 hm
theorem VC.acked {c:Client} (h:VC c) {u:Int} (hu:numB u=true) (ho:¬ ∃ x,c.Open.head?=some x/\x<=u) :
  VC (Client.mk c.Name (if u > c.Low then u else c.Low) c.Open (c.Done.filter fun a=>decide ((if u > c.Low then u else c.Low) < a.Seq))):=by
 have hu':=iy.1 hu;have ha:=lj.1 h.op;have hd:=mA.1 h.dn;have hlo:=h.lo;have hhi:=h.hi;have hgt:∀ x∈c.Open,u < x:=by
  intro x hx;cases hc:c.Open with
  | nil=>rw [hc] at hx; cases hx
  | cons y ys=>
   have hy:u < y:=by
    rcases Int.lt_or_le u y with q|q
    ·exact q
    ·exact absurd ⟨y,by rw [hc]; rfl,q⟩ ho
   rw [hc] at hx ha;rcases List.mem_cons.1 hx with rfl|hx
   ·exact hy
   ·have:=(List.pairwise_cons.1 ha.1).1 x hx; omega
 generalize hl:(if u > c.Low then u else c.Low)=lo;have hlo':c.Low<=lo/\lo<=1099511627776/\(lo=u∨lo=c.Low):=by
  by_cases q:u > c.Low
  ·rw [if_pos q] at hl; omega
  ·rw [if_neg q] at hl; omega
 refine ⟨h.nm,by show 0<=lo; omega,hlo'.2.1,?_,lj.2 ⟨ha.1,fun x hx=>?_⟩,mA.2 ⟨hd.1.sublist List.filter_sublist,fun a ha'=>?_⟩⟩
 ·have:=h.ln;have:=List.length_filter_le (fun a:Answer=>decide (lo < a.Seq)) c.Done;show c.Open.length+(c.Done.filter fun a=>decide (lo < a.Seq)).length<=16;omega
 ·have h1:=ha.2 x hx;have h2:=hgt x hx;exact ⟨by show lo < x; rcases hlo'.2.2 with e|e<;>omega,h1.2⟩
 ·obtain ⟨h1,h2⟩:=List.mem_filter.1 ha';have:=hd.2 a h1;exact ⟨by simpa using h2,this.2⟩
end Go.Proofs.Yteldkhmcgloafaa

namespace Go.Proofs.Yteldkhmcgloafaa
open Go Go.Proofs Go.Abs
def kC:ByteArray:=⟨#[99]⟩
theorem kC_nm:nameB kC=true:=by decide
theorem oW {c:Client}:cliOf [c] c.Name=some c:=by simp [cliOf,ru]
theorem AX {c d:Client} (h:d.Name=c.Name):putT [c] d=[d]:=by
 rw [yy,h,rQ,ru]; simp
theorem pr (c d:Client):putT [c] d=if d.Name=c.Name then [d] else putT [c] d:=by
 split
 ·rename_i h; exact AX h
 ·rfl
theorem one_vt {c:Client} (h:VC c):VT [c]:=⟨by simp,fun x hx=>by simp at hx; rw [hx]; exact h,by simp [So]⟩
theorem mE (c:Client) (n:Int):statT [c] c.Name n=statC c n:=by simp [statT,oW]
theorem nil_vt:VT []:=⟨by simp,by simp,by simp [So]⟩
theorem yE {l:List Int} {n:Int} (h:∀ x∈l,x < n):insI l n=l++[n]:=by
 induction l with
 | nil=>rfl
 | cons x xs ih=>rw [s6,if_pos (h x (by simp)),ih (fun y hy=>h y (by simp [hy]))]; rfl
theorem yK {l:List Answer} {a:Answer} (h:∀ x∈l,x.Seq < a.Seq):insA l a=l++[a]:=by
 induction l with
 | nil=>rfl
 | cons x xs ih=>rw [yf,if_pos (h x (by simp)),ih (fun y hy=>h y (by simp [hy]))]; rfl
def Op (f:Int) (j m:Nat):List Int:=(List.range' j m).map fun (k:Nat)=>f+(k:Int)
theorem Op_mem {f:Int} {j m:Nat} {x:Int}:x∈Op f j m↔f+j<=x/\x < f+j+m:=by
 simp only [Op,List.mem_map,List.mem_range'_1];constructor
 ·rintro ⟨k,h,rfl⟩; omega
 ·rintro h; exact ⟨(x - f).toNat,by omega,by omega⟩
theorem Op_len (f:Int) (j m:Nat):(Op f j m).length=m:=by simp [Op]
theorem AF (f:Int) (j m:Nat):Op f j (m+1)=Op f j m++[f+((j+m:Nat):Int)]:=by
 simp only [Op,List.range'_concat,List.map_append,List.map_cons,List.map_nil,Nat.one_mul]
theorem wb (f:Int) (j m:Nat):Op f j (m+1)=(f+(j:Int))::Op f (j+1) m:=by
 simp only [Op,List.range'_succ,List.map_cons]
theorem w9 (f:Int) (j m:Nat):(Op f j (m+1)).filter (fun a=>kn (f+(j:Int)) a)=Op f (j+1) m:=by
 rw [wb,List.filter_cons];have:kn (f+(j:Int)) (f+(j:Int))=false:=by simp [kn]
 rw [this,if_neg (by simp)];refine List.filter_eq_self.2 fun x hx=>?_;have:=Op_mem.1 hx;simp [kn]; omega
def rC (f:Int) (k:Nat):Reply:=Reply.mk kC (f+(k:Int)) [] 0 (Value.mk 0 0 (⟨#[]⟩) [] [])
def Dn (f:Int) (j:Nat):List Answer:=(List.range' 0 j).map fun (k:Nat)=>Answer.mk (f+(k:Int)) (rC f k)
theorem AE (f:Int) (j:Nat):Dn f (j+1)=Dn f j++[Answer.mk (f+(j:Int)) (rC f j)]:=by
 simp only [Dn,List.range'_concat,List.map_append,List.map_cons,List.map_nil,Nat.one_mul,Nat.zero_add]
theorem Dn_mem {f:Int} {j:Nat} {a:Answer} (h:a∈Dn f j):∃ k:Nat,k < j/\a=Answer.mk (f+(k:Int)) (rC f k):=by
 simp only [Dn,List.mem_map,List.mem_range'_1] at h;obtain ⟨k,h1,rfl⟩:=h;exact ⟨k,by omega,rfl⟩
theorem Dn_len (f:Int) (j:Nat):(Dn f j).length=j:=by simp [Dn]
theorem rC_val:valueB (Value.mk 0 0 (⟨#[]⟩) [] [])=true:=by decide +kernel
theorem rC_ok {f:Int} {k:Nat} (h1:1<=f) (h2:f+k<=100000):repB (rC f k)=true:=by
 have hn:numB (f+(k:Int))=true:=iy.2 (by omega);simp only [repB,rC,kC_nm,hn,rC_val,List.length_nil,decide_true,Bool.and_true,Bool.true_and,Bool.true_or];simp
def St16 (f:Int) (j m:Nat):Client:=Client.mk kC 0 (Op f j m) (Dn f j)
theorem st_vc {f:Int} (h1:1<=f) (h2:f<=70000) {j m:Nat} (hj:j+m<=16):VC (St16 f j m):=by
 refine ⟨kC_nm,by simp [St16],by simp [St16],by show (Op f j m).length+(Dn f j).length<=16; rw [Op_len,Dn_len]; omega,lj.2 ⟨?_,fun x hx=>?_⟩,mA.2 ⟨?_,fun a ha=>?_⟩⟩
 ·show (Op f j m).Pairwise (· < ·);simp only [Op,List.pairwise_map];exact (List.pairwise_lt_range' 1).imp (fun h=>by omega)
 ·have:=Op_mem.1 hx;show 0 < x/\x<=1099511627776;omega
 ·show (Dn f j).Pairwise _;simp only [Dn,List.pairwise_map];exact (List.pairwise_lt_range' 1).imp (fun h=>by omega)
 ·obtain ⟨k,hk,rfl⟩:=Dn_mem ha;refine ⟨by show 0 < f+(k:Int); omega,fun hm=>?_,rC_ok h1 (by omega),rfl,rfl⟩;have:=Op_mem.1 hm;simp only at this;omega
theorem yg {f:Int} (h1:1<=f) {j m:Nat}:statC (St16 f j m) (f+((j+m:Nat):Int))=0:=by
 unfold statC;rw [if_neg (by show ¬ f+_<=0; omega),if_neg (fun h=>by have:=Op_mem.1 h; omega)];have:ansOf (St16 f j m) (f+((j+m:Nat):Int))=none:=by
  refine List.find?_eq_none.2 fun a ha=>?_;obtain ⟨k,hk,rfl⟩:=Dn_mem ha;simp only [decide_eq_true_eq]; omega
 rw [this]; simp
theorem tf {f:Int} (h1:1<=f) (h2:f<=70000) {j m:Nat} (hj:j+m<=16):openT [St16 f j m] kC (f+((j+m:Nat):Int))=if j+m=16 then ([],5) else ([St16 f j (m+1)],0):=by
 have hst:statT [St16 f j m] kC (f+((j+m:Nat):Int))=0:=by rw [<-yg (m:=m) (j:=j) h1]; exact mE (St16 f j m) _
 have hc:cliOf [St16 f j m] kC=some (St16 f j m):=oW;unfold openT;rw [if_pos ⟨kC_nm,iy.2 (by omega)⟩,hst,if_neg (by omega),if_neg (by omega),hc];have hl:(St16 f j m).Open.length+(St16 f j m).Done.length=j+m:=by show (Op f j m).length+(Dn f j).length=j+m; rw [Op_len,Dn_len]; omega
 simp only [hl];split
 ·rfl
 ·rw [pr,if_pos rfl];have:insI (St16 f j m).Open (f+((j+m:Nat):Int))=Op f j (m+1):=by
   rw [AF]; exact yE fun x hx=>by have:=Op_mem.1 hx; omega
  rw [this]; rfl
theorem zu {f:Int} (h1:1<=f) (h2:f<=70000) {j m:Nat} (hj:j+(m+1)<=16):finT [St16 f j (m+1)] (rC f j)=([St16 f (j+1) m],0):=by
 have hm:f+(j:Int)∈Op f j (m+1):=Op_mem.2 (by omega);have hst:statT [St16 f j (m+1)] kC (f+(j:Int))=1:=by
  have:statT [St16 f j (m+1)] kC (f+(j:Int))=statC (St16 f j (m+1)) (f+(j:Int)):=mE (St16 f j (m+1)) _;rw [this]; unfold statC;rw [if_neg (by show ¬ f+_<=0; omega),if_pos (show _∈(St16 f j (m+1)).Open from hm)]
 have hc:cliOf [St16 f j (m+1)] kC=some (St16 f j (m+1)):=oW;unfold finT;rw [if_pos (rC_ok h1 (by omega)),show (rC f j).Client_=kC from rfl,show (rC f j).Seq=f+(j:Int) from rfl,hst,if_pos rfl,hc];simp only;rw [pr,if_pos (show (finC (St16 f j (m+1)) (rC f j)).Name=(St16 f j (m+1)).Name from rfl)];have e1:(St16 f j (m+1)).Open.filter (fun a=>kn (f+(j:Int)) a)=Op f (j+1) m:=w9 f j m;have e2:insA (St16 f j (m+1)).Done (Answer.mk (f+(j:Int)) (rC f j))=Dn f (j+1):=by
  rw [AE];exact yK fun a ha=>by obtain ⟨k,hk,rfl⟩:=Dn_mem ha; show f+(k:Int) < f+(j:Int); omega
 simp only [finC,show (rC f j).Seq=f+(j:Int) from rfl,e1,e2];rfl
theorem wf_add {f:Int} (h1:0<=f) (h2:f<=65535) {v:Int} (hv:0<=v) (hv':v<=100):IntKind.i64.wrap ((IntKind.i64.wrap (1+(IntKind.i64.wrap f)))+v)=1+f+v:=by
 rw [w64 (n:=f) (by omega) (by omega),w64 (n:=1+f) (by omega) (by omega),w64 (n:=1+f+v) (by omega) (by omega)]
theorem uR {f:Int} (h1:0<=f) (h2:f<=65535) (kx:List Client->Option Bool):∀ (n i:Nat),i<=16->16 - i < n->eF 1000 f kx n ((if i=0 then [] else [St16 (1+f) 0 i]),((i:Nat):Int))=kx [St16 (1+f) 0 16]
 | 0,i,_,h=>by omega
 | n+1,i,hi,h=>by
  simp only [eF];by_cases hlt:i < 16
  ·rw [if_pos (by omega),wf_add h1 h2 (by omega) (by omega)];have hop:dJ 1000 (if i=0 then [] else [St16 (1+f) 0 i]) kC (1+f+((i:Nat):Int))=some ([St16 (1+f) 0 (i+1)],0):=by
    by_cases h0:i=0
    ·subst h0;rw [if_pos rfl,qE 1000 (Nat.le_refl _) nil_vt];have hn:numB (1+f+((0:Nat):Int))=true:=iy.2 (by omega);simp only [openT,kC_nm,hn,and_self,if_true,statT,show cliOf [] kC=none from rfl];rw [if_neg (by omega),if_neg (by omega),if_neg (by simp)];rfl
    ·rw [if_neg h0,qE 1000 (Nat.le_refl _) (one_vt (st_vc (by omega) (by omega) (by omega)))];have:=tf (f:=1+f) (by omega) (by omega) (j:=0) (m:=i) (by omega);rw [Nat.zero_add] at this;rw [this,if_neg (by omega)]
   rw [show (⟨#[99]⟩:ByteArray)=kC from rfl,hop];have hw:IntKind.i64.wrap (((i:Nat):Int)+1)=((i+1:Nat):Int):=by
    rw [w64 (n:=((i:Nat):Int)+1) (by omega) (by omega)]; omega
   simp only [Option.bind_some,if_true,hw];have:=uR h1 h2 kx n (i+1) (by omega) (by omega);rw [if_neg (by omega)] at this;exact this
  ·have:i=16:=by omega
   subst this;rw [if_neg (by omega)];rfl
theorem ug {f a1:Int} (h1:0<=f) (h2:f<=65535) {q:Nat} (hq:q<=16) (ha:Int.tmod (IntKind.i64.wrap a1) 17=(q:Int)) (kx:List Client->Option Bool):∀ (n j:Nat),j<=q->q - j < n->et a1 1000 f kx n ([St16 (1+f) j (16 - j)],((j:Nat):Int))=kx [St16 (1+f) q (16 - q)]
 | 0,i,_,h=>by omega
 | n+1,j,hj,h=>by
  simp only [et,ha];by_cases hlt:j < q
  ·rw [if_pos (by omega),wf_add h1 h2 (by omega) (by omega)];have e:16 - j=(16 - (j+1))+1:=by omega
   have hf:=zu (f:=1+f) (by omega) (by omega) (j:=j) (m:=16 - (j+1)) (by omega);rw [<-e] at hf;rw [show Reply.mk (⟨#[99]⟩) (1+f+((j:Nat):Int)) [] 0 (Value.mk 0 0 (⟨#[]⟩) [] [])=rC (1+f) j from rfl,fin_eq 1000 (Nat.le_refl _) (one_vt (st_vc (by omega) (by omega) (by omega))),hf];have hw:IntKind.i64.wrap (((j:Nat):Int)+1)=((j+1:Nat):Int):=by
    rw [w64 (n:=((j:Nat):Int)+1) (by omega) (by omega)]; omega
   simp only [Option.bind_some,if_true,hw];exact ug h1 h2 hq ha kx n (j+1) (by omega) (by omega)
  ·have:j=q:=by omega
   subst this;rw [if_neg (by omega)]
theorem rW (f a1:Int) (h1:0<=f) (h2:f<=65535) (h3:0<=a1) (h4:a1<=255):fH 1000 f a1=some true:=by
 obtain ⟨q,hq,ha⟩:∃ q:Nat,q<=16/\Int.tmod (IntKind.i64.wrap a1) 17=(q:Int):=by
  rw [w64 (by omega) (by omega),Int.tmod_eq_emod_of_nonneg h3];exact ⟨(a1 % 17).toNat,by omega,by omega⟩
 have hL1:=uR h1 h2 (gR 1000 f a1) 1000 0 (by omega) (by omega);rw [if_pos rfl] at hL1;have hL2:=ug h1 h2 hq ha (gU 1000 f ([],5) a1) 1000 0 (by omega) (by omega);have hv:∀ {j:Nat},j<=16->VT [St16 (1+f) j (16 - j)]:=fun {j} hj=>one_vt (st_vc (by omega) (by omega) (by omega));have hfull:∀ {j:Nat},j<=16->dJ 1000 [St16 (1+f) j (16 - j)] kC (1+f+16)=some ([],5):=fun {j} hj=>by
  rw [qE 1000 (Nat.le_refl _) (hv hj)];have:=tf (f:=1+f) (by omega) (by omega) (j:=j) (m:=16 - j) (by omega);rw [show j+(16 - j)=16 from by omega,if_pos rfl] at this;rw [<-this]; rfl
 have w16:IntKind.i64.wrap ((IntKind.i64.wrap (1+(IntKind.i64.wrap f)))+16)=1+f+16:=wf_add h1 h2 (by omega) (by omega);simp only [fH,Az,Option.bind_some,if_true];rw [show (0:Int)=((0:Nat):Int) from rfl,hL1];simp only [gR,w16,show (⟨#[99]⟩:ByteArray)=kC from rfl];have hf0:=hfull (j:=0) (by omega);rw [Nat.sub_zero] at hf0 hL2;rw [hf0,Option.bind_some,show (0:Int)=((0:Nat):Int) from rfl,hL2];simp only [gU,w16,show (⟨#[99]⟩:ByteArray)=kC from rfl,hfull hq,Option.bind_some,if_true,gL,decide_true,Bool.not_true,Bool.false_eq_true,if_false];have hcl:cliOf [St16 (1+f) q (16 - q)] kC=some (St16 (1+f) q (16 - q)):=oW;have hack1:q < 16->(ackT [St16 (1+f) q (16 - q)] kC (1+f+(q:Int))).2=12:=by
  intro hlt;unfold ackT;rw [if_pos ⟨kC_nm,iy.2 (by omega)⟩,hcl];have:∃ x,(St16 (1+f) q (16 - q)).Open.head?=some x/\x<=1+f+(q:Int):=by
   refine ⟨1+f+(q:Int),?_,by omega⟩;show (Op (1+f) q (16 - q)).head?=_;rw [show 16 - q=(16 - (q+1))+1 from by omega,wb]; rfl
  simp only [if_pos this]
 have w1:IntKind.i64.wrap ((IntKind.i64.wrap (1+(IntKind.i64.wrap f)))+(q:Int))=1+f+(q:Int):=wf_add h1 h2 (by omega) (by omega);have w2:IntKind.i64.wrap ((IntKind.i64.wrap f)+(q:Int))=f+(q:Int):=by rw [w64 (n:=f) (by omega) (by omega),w64 (n:=f+(q:Int)) (by omega) (by omega)]
 have w3:IntKind.i64.wrap (1+(IntKind.i64.wrap f))=1+f:=by rw [w64 (n:=f) (by omega) (by omega),w64 (n:=1+f) (by omega) (by omega)]
 have hJ3:0 < q->ey 1000 [St16 (1+f) q (16 - q)] f a1=some true:=by
  intro h0;have hno:¬ ∃ x,(St16 (1+f) q (16 - q)).Open.head?=some x/\x<=f+(q:Int):=by
   rintro ⟨x,hx,hle⟩;have hm:x∈Op (1+f) q (16 - q):=List.mem_of_mem_head? hx;have:=Op_mem.1 hm;omega
  let c1:Client:=Client.mk kC (f+(q:Int)) (Op (1+f) q (16 - q)) []
  have hfil:(Dn (1+f) q).filter (fun a=>decide (f+(q:Int) < a.Seq))=[]:=by
   refine List.filter_eq_nil_iff.2 fun a ha=>?_;obtain ⟨k,hk,rfl⟩:=Dn_mem ha;simp only [decide_eq_true_eq]; omega
  have hack:ackT [St16 (1+f) q (16 - q)] kC (f+(q:Int))=([c1],0):=by
   unfold ackT;rw [if_pos ⟨kC_nm,iy.2 (by omega)⟩,hcl];simp only [if_neg hno];rw [pr,if_pos rfl];have hmax:(if f+(q:Int) > (St16 (1+f) q (16 - q)).Low then f+(q:Int) else (St16 (1+f) q (16 - q)).Low)=f+(q:Int):=if_pos (by show f+(q:Int) > 0; omega);simp only [hmax,show (St16 (1+f) q (16 - q)).Done=Dn (1+f) q from rfl,hfil];rfl
  have hc1:VC c1:=by
   have:=(st_vc (f:=1+f) (by omega) (by omega) (j:=q) (m:=16 - q) (by omega)).acked (u:=f+(q:Int)) (iy.2 (by omega)) hno;have hmax:(if f+(q:Int) > (St16 (1+f) q (16 - q)).Low then f+(q:Int) else (St16 (1+f) q (16 - q)).Low)=f+(q:Int):=if_pos (by show f+(q:Int) > 0; omega);simp only [hmax,show (St16 (1+f) q (16 - q)).Done=Dn (1+f) q from rfl,hfil] at this;exact this
  have hst:statC c1 (1+f+16)=0:=by
   unfold statC;rw [if_neg (by show ¬ 1+f+16<=f+(q:Int); omega),if_neg (fun h=>by have:=Op_mem.1 h; omega)];rfl
  let c2:Client:=Client.mk kC (f+(q:Int)) (insI (Op (1+f) q (16 - q)) (1+f+16)) []
  have hop:openT [c1] kC (1+f+16)=([c2],0):=by
   have hst':statT [c1] kC (1+f+16)=0:=by rw [<-hst]; exact mE c1 _
   have hc:cliOf [c1] kC=some c1:=oW;unfold openT;rw [if_pos ⟨kC_nm,iy.2 (by omega)⟩,hst',if_neg (by omega),if_neg (by omega),hc];have hl:c1.Open.length+c1.Done.length=16 - q:=by show (Op (1+f) q (16 - q)).length+0=_; rw [Op_len]; omega
   simp only [hl];rw [if_neg (by omega),pr,if_pos rfl]
  have hc2:VC c2:=by
   refine hc1.opened (iy.2 (by omega)) (by rw [hst]; omega) (by rw [hst]; omega) (by rw [hst]; omega) ?_;show (Op (1+f) q (16 - q)).length+0≠16;rw [Op_len]; omega
  have s1:bJ 1000 [c2] kC (1+f+16)=some 1:=by
   rw [og 1000 (one_vt hc2)];have:statT [c2] kC (1+f+16)=statC c2 (1+f+16):=mE c2 _;rw [this]; unfold statC;rw [if_neg (by show ¬ 1+f+16<=f+(q:Int); omega),if_pos (pK.2 (.inl rfl))]
  have s2:bJ 1000 [c2] kC (1+f)=some 3:=by
   rw [og 1000 (one_vt hc2)];have:statT [c2] kC (1+f)=statC c2 (1+f):=mE c2 _;rw [this]; unfold statC;rw [if_pos (by show 1+f<=f+(q:Int); omega)]
  have s2':bJ 1000 [c2] kC (IntKind.i64.wrap (1+(IntKind.i64.wrap f)))=some 3:=by rw [w3]; exact s2
  simp only [ey,ha,w2,w16,show (⟨#[99]⟩:ByteArray)=kC from rfl,ack_eq 1000 (Nat.le_refl _) (hv hq),hack,Option.bind_some,qE 1000 (Nat.le_refl _) (one_vt hc1),hop,if_true,s1,s2',decide_true]
 simp only [gW,ha,w1,show (⟨#[99]⟩:ByteArray)=kC from rfl,ack_eq 1000 (Nat.le_refl _) (hv hq),Option.bind_some,fv];by_cases h16:q < 16
 ·have hb:=hack1 h16;rw [if_pos (by omega)];rw [hb,if_pos rfl];by_cases h0:q=0
  ·subst h0; simp
  ·rw [if_neg (by simp; omega)];exact hJ3 (by omega)
 ·rw [if_neg (by omega),if_neg (by simp; omega)];exact hJ3 (by omega)
end Go.Proofs.Yteldkhmcgloafaa
