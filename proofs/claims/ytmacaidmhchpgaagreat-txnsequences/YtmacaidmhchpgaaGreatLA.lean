/- Plain facts on the models; no program in sight. -/
import Derived.Test.YtmacaidmhchpgaaGreatM
set_option linter.defProp false
set_option linter.unusedSimpArgs false
set_option linter.unusedVariables false
namespace Go.Proofs.YtmacaidmhchpgaaGreat
open Go Go.Proofs Go.Abs
def MI{a b:ByteArray}:sEq a b=true↔a=b:=by unfold sEq;rw[beq_iff_eq,ByteArray.toList_eq,ByteArray.toList_eq];obtain⟨⟨x⟩⟩:=a;obtain⟨⟨y⟩⟩:=b;simp
theorem yS(a:ByteArray):sEq a a=true:=MI.2 rfl
theorem AS{c:Prop}[Decidable c]{a b:Bool}:(if c then some a else some b)=some (if c then a else b):=by split<;>rfl
def FH{c:Prop}[Decidable c]{a b:Bool}:((if c then a else b)=true)↔((c/\a=true)∨(¬c/\b=true)):=by split<;>simp[*]
def CV{a b:Bool}:(some a=some b)↔(a=true↔b=true):=by cases a<;>cases b<;>simp
def LW{α β:Type}{l:List α}{i:Nat}{x:α}{k:α->Option β}(h:l[i]?=some x):gx l (i:Int) k=k x:=aw h
def QQ{α:Type}(e:α->α->Bool):List α->List α->Bool
 | [],_=>true
 | x::xs,y::ys=>e x y&&QQ e xs ys
 | _::_,[]=>false
def WN{α:Type}{e:α->α->Bool}(he:∀x y,e x y=true↔x=y):∀{a b:List α},a.length=b.length->(QQ e a b=true↔a=b)
 | [],[],_=>by simp[QQ]
 | [],_::_,h=>oZe
 | _::_,[],h=>oZe
 | x::a,y::b,h=>by
  simp only[QQ,cx,he,ajd];rw[WN he (by simpa using h)]
def Y7{α:Type}{L:List α->Nat->Unit->Option Bool}(a1:List α)(e:α->α->Bool)(h0:∀v,L [] v ()=some true)
  (h1:∀x xs v,L (x::xs) v ()=gx a1 (v:Int) fun y=>if e x y=true then L xs (v+1) ()else some false):
  ∀(xs:List α) (v:Nat),v+xs.length<=a1.length->L xs v ()=some (QQ e xs (a1.drop v))
 | [],v,_=>by rw[h0];rfl
 | x::xs,v,h=>by
  simp only[cn]at h;have hv:v<a1.length:=oZg;rw[h1,LW (cj hv),nI hv,Y7 a1 e h0 h1 xs (v+1) oZg];simp only[QQ];cases e x a1[v]<;>simp
def eqL{α:Type}(e:α->α->Bool)(a b:List α):Bool:=decide (a.length=b.length)&& QQ e a b
def Th{α:Type}{e:α->α->Bool}(he:∀x y,e x y=true↔x=y){a b:List α}:eqL e a b=true↔a=b:=by
 unfold eqL;by_cases h:a.length=b.length
 .simp[h,WN he h]
 .have:¬a=b:=fun e=>h (by rw[e]);simp[h,this]
def WZ{α:Type}{L:List α->Nat->Unit->Option Bool}(a0 a1:List α)(e:α->α->Bool)(h0:∀v,L [] v ()=some true)
  (h1:∀x xs v,L (x::xs) v ()=gx a1 (v:Int) fun y=>if e x y=true then L xs (v+1) ()else some false):
  (if((a0.length:Nat):Int)=((a1.length:Nat):Int)then L a0 0 ()else some false)=some (eqL e a0 a1):=by
 unfold eqL;by_cases h:a0.length=a1.length
 .rw[if_pos oZg,Y7 a1 e h0 h1 a0 0 oZg,nu];simp[h]
 .rw[if_neg oZg];simp[h]
def vD{α:Type}(p:α->Bool):List α->Nat->Int
 | [],_=>-1
 | x::xs,v=>if p x=true then(v:Int)else vD p xs (v+1)
theorem lj{α:Type}{L:List α->Nat->Unit->Option Int}(f:α->Option Bool)(p:α->Bool)(h0:∀v,L [] v ()=some (-1))
  (h1:∀x xs v,L (x::xs) v ()=(f x).bind fun r=>if r=true then some ((v:Nat):Int)else L xs (v+1) ()):
  ∀(xs:List α) (v:Nat),(∀x∈xs,f x=some (p x))->L xs v ()=some (vD p xs v)
 | [],v,_=>by rw[h0];rfl
 | x::xs,v,h=>by
  rw[h1,h x oZk,cb,lj f p h0 h1 xs (v+1) (fun y hy=>h y (by simp[hy]))];simp only[vD];cases p x<;>rfl
def yr{α:Type}(p:α->Bool):∀(xs:List α) (v:Nat),decide (0<=vD p xs v)=xs.any p
 | [],v=>rfl
 | x::xs,v=>by
  simp only[vD,List.any_cons];by_cases h:p x=true
  .have:(0:Int)<=(v:Int):=oZg;simp[h,this]
  .simpa[h]using yr p xs (v+1)
def Wh{α ρ:Type}{L:List α->Nat->Unit->Option ρ}(p:α->Bool)(k no:Option ρ)(h0:∀v,L [] v ()=k)
  (h1:∀x xs v,L (x::xs) v ()=if p x=true then L xs (v+1) ()else no):
  ∀(xs:List α) (v:Nat),L xs v ()=if xs.all p=true then k else no
 | [],v=>by rw[h0];rfl
 | x::xs,v=>by
  rw[h1,Wh p k no h0 h1 xs (v+1)];simp only[nR];by_cases h:p x=true<;>simp[h]
theorem yN{α:Type}{l:List α}{i:Nat}{x:α}(h:l[i]?=some x):l.set i x=l:=by
 apply nP;intro j;rw[nO];split
 .rename_i e;subst e;have:=(cg.1 h).1;rw[if_pos this,h]
 .rfl
def y9{α ρ:Type}{L:Nat->Nat->List α->Option ρ}(P:α->Prop)
  (h1:∀m v l x,l[v]?=some x->P x->L (m+1) v l=L m (v+1) l):
  ∀(m v:Nat) (l:List α),v+m<=l.length->(∀x∈l,P x)->L m v l=L 0 (v+m) l
 | 0,v,l,_,_=>rfl
 | m+1,v,l,h,hp=>by
  have hv:v<l.length:=oZg;rw[h1 m v l l[v] (cj hv) (hp _ (nx hv)),y9 P h1 m (v+1) l oZg hp]
  congr 1;omega
def tY{α β:Type}{b:Nat}{l:List α}{k:Option β}(h:l.length *(b+1)<=140737488355328):apn b l k=k:=by simp only[apn];rw[if_pos h]
def ee{α β:Type}{b:Nat}{l l':List α}{k:List α->Option β}(h:(l.length+l'.length)*(b+1)<=140737488355328):apx b l l' k=k (l++l'):=by simp only[apx];rw[if_pos h]
def w64{n:Int}(h1:-9223372036854775808<=n)(h2:n<=9223372036854775807):IntKind.i64.wrap n=n:=pG h1 h2
def U4:∀x:List UInt8,Op.bytesLess x x=false
 | []=>rfl
 | a::x=>by simp[Op.bytesLess,U4 x]
def XL:∀{x y z:List UInt8},Op.bytesLess x y=true->Op.bytesLess y z=true->Op.bytesLess x z=true
 | _,[],_,h1,h2=>by simp[Op.bytesLess]at h1
 | _,_::_,[],h1,h2=>by simp[Op.bytesLess]at h2
 | [],_::_,_::_,h1,h2=>rfl
 | a::x,b::y,c::z,h1,h2=>by
  simp only[Op.bytesLess,nf,decide_eq_true_eq,cx,beq_iff_eq]at h1 h2 ⊢;rcases h1 with h1|⟨rfl,h1⟩
  .rcases h2 with h2|⟨rfl,h2⟩
   .exact .inl (UInt8.lt_trans h1 h2)
   .exact .inl h1
  .rcases h2 with h2|⟨rfl,h2⟩
   .exact .inl h2
   .exact .inr ⟨rfl,XL h1 h2⟩
def abf:∀x y:List UInt8,Op.bytesLess x y=true∨x=y∨Op.bytesLess y x=true
 | [],[]=>.inr (.inl rfl)
 | [],_::_=>.inl rfl
 | _::_,[]=>.inr (.inr rfl)
 | a::x,b::y=>by
  simp only[Op.bytesLess,nf,decide_eq_true_eq,cx,beq_iff_eq];rcases UInt8.lt_or_lt_of_ne (a:=a) (b:=b) |> fun h=>(Classical.em (a=b)).imp id h with rfl|h|h
  .rcases abf x y with h|rfl|h
   .exact .inl (.inr ⟨rfl,h⟩)
   .exact .inr (.inl rfl)
   .exact .inr (.inr (.inr ⟨rfl,h⟩))
  .exact .inl (.inl h)
  .exact .inr (.inr (.inl h))
def FI{a b:ByteArray}:sEq a b=true↔a=b:=by unfold sEq;rw[beq_iff_eq,ByteArray.toList_eq,ByteArray.toList_eq];obtain⟨⟨x⟩⟩:=a;obtain⟨⟨y⟩⟩:=b;simp
def aak{a b:ByteArray}(h:a.toList=b.toList):a=b:=FI.1 (by simpa[sEq]using h)
def MW(a:ByteArray):sLt a a=false:=U4 _
def UY{a b c:ByteArray}(h1:sLt a b=true)(h2:sLt b c=true):sLt a c=true:=XL h1 h2
def Y5(a b:ByteArray):sLt a b=true∨a=b∨sLt b a=true:=by
 rcases abf a.toList b.toList with h|h|h
 .exact .inl h
 .exact .inr (.inl (aak h))
 .exact .inr (.inr h)
def CU(a b:ByteArray):Int:=if sLt a b=true then -1 else if sEq a b=true then 0 else 1
theorem aaI(N:Nat)(a b:ByteArray):gJ N a b=some (CU a b):=by have n1:sEq a a=true:=FI.2 rfl;have n2:sEq b b=true:=FI.2 rfl;simp only[gJ,yZ,n1,n2,cb,CU];cases sLt a b<;>cases sEq a b<;>rfl
def F6{a b:ByteArray}:CU a b=0↔a=b:=by
 unfold CU;constructor
 .intro h;split at h
  .omega
  .split at h
   .rename_i e;exact FI.1 e
   .omega
 .rintro rfl;simp[MW,FI.2 rfl]
def Ya{a b:ByteArray}:CU a b<0↔sLt a b=true:=by
 unfold CU;split
 .simp[*]
 .split<;>simp[*]
def rl(a b:Ref):Bool:=sLt a.Type_ b.Type_ ||(sEq a.Type_ b.Type_&&sLt a.Key b.Key)
def WM{a b:Ref}:rl a b=true↔sLt a.Type_ b.Type_=true∨(a.Type_=b.Type_/\sLt a.Key b.Key=true):=by simp[rl,FI]
def dq(a:Ref):rl a a=false:=by simp[rl,MW]
def uR{a b c:Ref}(h1:rl a b=true)(h2:rl b c=true):rl a c=true:=by
 rw[WM]at *;rcases h1 with h1|⟨e1,h1⟩
 .rcases h2 with h2|⟨e2,h2⟩
  .exact .inl (UY h1 h2)
  .exact .inl (e2▸h1)
 .rcases h2 with h2|⟨e2,h2⟩
  .exact .inl (e1▸h2)
  .exact .inr ⟨e1.trans e2,UY h1 h2⟩
def TR{a b:Ref}(h1:a.Type_=b.Type_)(h2:a.Key=b.Key):a=b:=by cases a;cases b;simp only at h1 h2;rw[h1,h2]
def K3(a b:Ref):rl a b=true∨a=b∨rl b a=true:=by
 simp only[WM];rcases Y5 a.Type_ b.Type_ with h|h|h
 .exact .inl (.inl h)
 .rcases Y5 a.Key b.Key with q|q|q
  .exact .inl (.inr ⟨h,q⟩)
  .exact .inr (.inl (TR h q))
  .exact .inr (.inr (.inr ⟨h.symm,q⟩))
 .exact .inr (.inr (.inl h))
def JU(a b:Ref):Int:=if CU a.Type_ b.Type_=0 then CU a.Key b.Key else CU a.Type_ b.Type_
def TG(N:Nat)(a b:Ref):zt N a b=some (JU a b):=by
 simp only[zt,aaI,cb,BJ,CK,JU];by_cases h1:CU a.Type_ b.Type_=0
 .by_cases h2:CU a.Key b.Key=0<;>simp[h1,h2]
 .simp[h1]
def E7{a b:Ref}:JU a b<0↔rl a b=true:=by
 unfold JU;rw[WM];by_cases h1:CU a.Type_ b.Type_=0
 .rw[if_pos h1,Ya];have e:=F6.1 h1;simp[e,MW]
 .rw[if_neg h1,Ya];have e:¬a.Type_=b.Type_:=fun q=>h1 (F6.2 q);simp[e]
def NY{a b:Ref}:JU a b=0↔a=b:=by
 unfold JU;by_cases h1:CU a.Type_ b.Type_=0
 .rw[if_pos h1,F6];have e:=F6.1 h1;exact⟨fun h=>TR e h,fun h=>by rw[h]⟩
 .rw[if_neg h1];exact⟨fun h=>absurd h h1,fun h=>by rw[h]at h1;exact absurd (F6.2 rfl) h1⟩
def CY(N:Nat)(a b:Ref):qE N a b=some (rl a b):=by simp only[qE,rl];cases sLt a.Type_ b.Type_<;>cases sEq a.Type_ b.Type_<;>simp
structure VA (a:Ref):Prop where
 t1:1<=a.Type_.size
 t2:a.Type_.size<=32
 k:a.Key.size<=32
structure VL (x:ai):Prop where
 a:VA x.Actor
 o1:1<=x.Owner
 o2:x.Owner<=1099511627776
 wl:x.Waiters.length<=32
 w:∀n∈x.Waiters,1<=n/\n<x.Owner
 so:x.Waiters.Pairwise (· < ·)
structure VT (t:List ai):Prop where
 len:t.length<=128
 l:∀x∈t,VL x
 so:t.Pairwise fun a b=>rl a.Actor b.Actor=true
def Rj(N:Nat){a:Ref}(h:VA a):kH N a=some true:=by have:=h.t1;have:=h.t2;have:=h.k;simp only[kH];rw[if_pos oZg,if_pos oZg];simp;omega
def Oy(N:Nat){a:Ref}(h:VA a):ig N a=some true:=by have:=h.t1;have:=h.t2;have:=h.k;simp only[ig];rw[if_pos oZg,if_pos oZg];simp;omega
def XR(N:Nat){n:Int}(h1:1<=n)(h2:n<=1099511627776):oE N n=some true:=by simp[oE,h1,h2]
def Tc(N:Nat){n:Int}(h1:1<=n)(h2:n<=1099511627776):u9 N n=some true:=by simp[u9,h1,h2]
def E5{α:Type}{l xs:List α}{v:Nat}{x:α}(hd:l.drop v=x::xs):v<l.length/\l[v]?=some x/\l.drop (v+1)=xs:=by
 have hvl:v<l.length:=by
  rcases nN v l.length with h|h
  .exact h
  .rw[xh h]at hd;simp at hd
 rw[nI hvl]at hd;simp only[ajd]at hd;exact⟨hvl,by rw[cj hvl,hd.1],hd.2⟩
def Fv{α:Type}{R:α->α->Prop}{l:List α}(hs:l.Pairwise R){v:Nat}{x:α}(hv:0<v)(hx:l[v]?=some x):∃y,l[v-1]?=some y/\R y x:=by
 have hvl:=(cg.1 hx).1;have hxe:=(cg.1 hx).2;refine⟨_,cj oZg,?_⟩;have:=cV.1 hs (v-1) v oZg hvl oZg
 rwa[hxe]at this
def Zc{x:ai}(h:VL x):∀(xs:List Int) (v:Nat),x.Waiters.drop v=xs->gF x xs v ()=some true
 | [],v,_=>rfl
 | n::xs,v,hd=>by
  obtain⟨hvl,hx,hd'⟩:=E5 hd;have hn:=h.w n (cd hx);have hl:=h.wl;have ih:=Zc h xs (v+1) hd';rw[gF,if_neg oZg,if_neg oZg];by_cases h0:0<v
  .obtain⟨y,hy,hlt⟩:=Fv h.so h0 hx;rw[if_pos oZg,w64 oZg oZg,show((v:Int)-1)=((v-1:Nat):Int) by omega,aw hy];have:¬n<=y:=oZg;simp[this,kX,ih]
  .rw[if_neg oZg];simp[kX,ih]
def aeV(N:Nat){x:ai}(h:VL x):tA N x=some true:=by have hl:=h.wl;have:¬(32:Int)<(x.Waiters.length:Int):=oZg;simp[tA,Rj N h.a,XR N h.o1 h.o2,this,pC,pt,Zc h x.Waiters 0 rfl]
def Wy(N:Nat){t:List ai}(h:VT t):∀(xs:List ai) (v:Nat),t.drop v=xs->qZ N t xs v ()=some true
 | [],v,_=>rfl
 | x::xs,v,hd=>by
  obtain⟨hvl,hx,hd'⟩:=E5 hd;have hl:=h.len;have ih:=Wy N h xs (v+1) hd';rw[qZ,aeV N (h.l x (cd hx)),cb,if_pos rfl];by_cases h0:0<v
  .obtain⟨y,hy,hlt⟩:=Fv h.so h0 hx;rw[if_pos oZg,w64 oZg oZg,show((v:Int)-1)=((v-1:Nat):Int) by omega,aw hy,TG,cb];have:=E7.2 hlt;have:¬0<=JU y.Actor x.Actor:=oZg;simp[this,wm,ih]
  .rw[if_neg oZg];simp[wm,ih]
theorem FK(N:Nat){t:List ai}(h:VT t):lH N t=some true:=by have:=h.len;rw[lH,if_neg oZg];exact Wy N h t 0 rfl
def WT{x:ai}(h:VL x)(k:Unit->Option Bool):∀(xs:List Int) (v:Nat),x.Waiters.drop v=xs->fS k x xs v ()=k ()
 | [],v,_=>rfl
 | n::xs,v,hd=>by
  obtain⟨hvl,hx,hd'⟩:=E5 hd;have hn:=h.w n (cd hx);have hl:=h.wl;have ih:=WT h k xs (v+1) hd';rw[fS,if_neg oZg,if_neg oZg];by_cases h0:0<v
  .obtain⟨y,hy,hlt⟩:=Fv h.so h0 hx;rw[if_pos oZg,w64 oZg oZg,show((v:Int)-1)=((v-1:Nat):Int) by omega,aw hy];have:¬n<=y:=oZg;simp[this,j6,ih]
  .rw[if_neg oZg];simp[j6,ih]
def U5(N:Nat){t:List ai}(h:VT t):∀(xs:List ai) (v:Nat),t.drop v=xs->dR N t xs v ()=some true
 | [],v,_=>rfl
 | x::xs,v,hd=>by
  obtain⟨hvl,hx,hd'⟩:=E5 hd;have hl:=h.len;have hv:=h.l x (cd hx);have hw:=hv.wl;have ih:=U5 N h xs (v+1) hd';rw[dR,Oy N hv.a,cb,if_pos rfl,Tc N hv.o1 hv.o2,cb,if_pos rfl,if_neg oZg];have hj:fN (dR N t xs (v+1)) x=some true:=by rw[fN,WT hv _ x.Waiters 0 rfl,ih]
  by_cases h0:0<v
  .obtain⟨y,hy,hlt⟩:=Fv h.so h0 hx;rw[if_pos oZg,w64 oZg oZg,show((v:Int)-1)=((v-1:Nat):Int) by omega,aw hy,CY,cb];simp[hlt,fQ,hj]
  .rw[if_neg oZg];simp[fQ,hj]
theorem Dl(N:Nat){t:List ai}(h:VT t):fv N t=some true:=by have:=h.len;rw[fv,if_neg oZg];exact U5 N h t 0 rfl
section
variable {α:Type} {p:α->Bool}
def plc(p:α->Bool)(t:List α):Nat:=(t.takeWhile p).length
def K0(t:List α):plc p t<=t.length:=(List.takeWhile_sublist p).length_le
def aao(p:α->Bool)(t:List α):Prop:=t.Pairwise fun a b=>p b=true->p a=true
def zv:∀{t:List α},aao p t->∀{i:Nat} {r:α},t[i]?=some r->(p r=true↔i<plc p t)
 | [],hp,i,r,hr=>by simp at hr
 | x::xs,hp,i,r,hr=>by
  have hp':=nV.1 hp;by_cases h:p x=true
  .have e:plc p (x::xs)=plc p xs+1:=by simp[plc,aiT,h]
   rw[e];cases i with
   | zero=>simp only[cG,cc]at hr;subst hr;simp[h]
   | succ i=>
    rw[nY]at hr;rw[zv (t:=xs) hp'.2 hr];omega
  .have e:plc p (x::xs)=0:=by simp[plc,aiT,h]
   rw[e];constructor
   .intro hlt;exfalso;cases i with
    | zero=>simp only[cG,cc]at hr;subst hr;exact h hlt
    | succ i=>
     rw[nY]at hr;exact h (hp'.1 r (cd hr) hlt)
   .omega
end
def WH{i j:Nat}(h:i+j<=1000000):IntKind.i64.wrap (w8 .u64 (IntKind.u64.wrap (IntKind.i64.wrap ((i:Int)+(j:Int)))) 1)=(((i+j)/ 2:Nat):Int):=by
 rw[w64 (n:=(i:Int)+(j:Int)) oZg oZg];have e:IntKind.u64.wrap ((i:Int)+(j:Int))=(i:Int)+(j:Int):=Zp ⟨by show(0:Int)<=_;omega,by show _<=(18446744073709551615:Int);omega⟩;rw[e];have e2:w8 .u64 ((i:Int)+(j:Int)) 1=(((i+j)/ 2:Nat):Int):=by show((i:Int)+(j:Int)).fdiv 2=_;rw[xY _ oZg];omega
 rw[e2,w64 oZg oZg]
def pa(t:List ai)(a:Ref):Nat:=plc (fun x=>rl x.Actor a) t
def eqA(a b:Ref):Bool:=sEq a.Type_ b.Type_&&sEq a.Key b.Key
def KG{a b:Ref}:eqA a b=true↔a=b:=by simp only[eqA,cx,FI];exact⟨fun q=>TR q.1 q.2,fun q=>by rw[q];exact⟨rfl,rfl⟩⟩
def qb(t:List ai)(a:Ref):Bool:=match t[pa t a]? with
 | some x=>eqA x.Actor a
 | none=>false
def L6{t:List ai}(hs:t.Pairwise fun a b=>rl a.Actor b.Actor=true)(a:Ref):aao (fun x:ai=>rl x.Actor a) t:=hs.imp (fun h1 h2=>uR h1 h2)
def Xk{t:List ai}(h:VT t)(N:Nat)(a:Ref)(kx:Int->Option (Int×Bool)):
  ∀(n i j:Nat),j<i+n->i<=pa t a->pa t a<=j->j<=t.length->bc t N a kx n ((i:Int),(j:Int))=kx ((pa t a:Nat):Int)
 | 0,i,j,h1,h2,h3,h4=>oZg
 | n+1,i,j,h1,h2,h3,h4=>by
  have hl:=h.len;rw[bc];by_cases hij:i<j
  .rw[if_pos oZg,WH oZg];have hm:(i+j)/ 2<t.length:=oZg;have hx:t[(i+j)/ 2]?=some t[(i+j)/ 2]:=cj hm;have hc:=zv (L6 h.so a) hx;rw[aw hx,As,TG];simp only[cb,E7];by_cases hs:rl t[(i+j)/ 2].Actor a=true
   .rw[if_pos hs,w64 oZg oZg];have:(i+j)/ 2<pa t a:=hc.1 hs;exact Xk h N a kx n ((i+j)/ 2+1) j oZg oZg h3 h4
   .rw[if_neg hs];have:¬(i+j)/ 2<pa t a:=fun q=>hs (hc.2 q);exact Xk h N a kx n i ((i+j)/ 2) oZg h2 oZg oZg
  .rw[if_neg oZg];have:i=pa t a:=oZg;rw[this]
def TZ(N:Nat)(hN:200<=N){t:List ai}(h:VT t)(a:Ref):BN N t a=some (((pa t a:Nat):Int),qb t a):=by
 have hl:=h.len;have hp:pa t a<=t.length:=K0 t;have:=Xk h N a (dM t N a) N 0 t.length oZg oZg hp oZg;simp only[BN,b9];rw[show(0:Int)=((0:Nat):Int)from rfl,this];unfold dM qb;cases hq:t[pa t a]? with
 | none=>
  have:=aiR.1 hq;rw[if_neg oZg];rfl
 | some s=>
  have:=(cg.1 hq).1;rw[if_pos oZg,aw hq,As,TG];have e:decide (JU s.Actor a=0)=eqA s.Actor a:=by rw[xr,decide_eq_true_eq,NY,KG]
  simp[e]
theorem UL{t:List ai}(N:Nat)(a:Ref):∀(xs:List ai) (v:Nat),t.drop v=xs->v+plc (fun x=>rl x.Actor a) xs=pa t a->uH t N a xs v ()=some (((pa t a:Nat):Int),qb t a)
 | [],v,hd,hp=>by
  have hv:t.length<=v:=by have:=congrArg List.length hd;simp at this;omega
  have hpl:pa t a<=t.length:=K0 t;have e:pa t a=t.length:=by simp[plc]at hp;omega
  have hn:t[pa t a]?=none:=by rw[e];simp
  rw[uH,qb,hn,e]
 | x::xs,v,hd,hp=>by
  obtain⟨hvl,hx,hd'⟩:=E5 hd;rw[uH,CY,cb];by_cases h:rl x.Actor a=true
  .rw[if_pos h];refine UL N a xs (v+1) hd' ?_;have:plc (fun x=>rl x.Actor a) (x::xs)=plc (fun x=>rl x.Actor a) xs+1:=by simp[plc,aiT,h]
   omega
  .rw[if_neg h];have e0:plc (fun x=>rl x.Actor a) (x::xs)=0:=by simp[plc,aiT,h]
   have e:pa t a=v:=oZg;rw[qb,e,hx];rfl
theorem Jl(N:Nat)(t:List ai)(a:Ref):rW N t a=some (((pa t a:Nat):Int),qb t a):=
 UL N a t 0 rfl (by rw[cy];rfl)
def qL{t:List ai}{a:Ref}(h:qb t a=true):∃x,t[pa t a]?=some x/\x.Actor=a:=by
 unfold qb at h;split at h
 .rename_i s hs;exact⟨s,hs,KG.1 h⟩
 .cases h
theorem W0{t:List ai}(hp:t.Pairwise fun a b=>rl a.Actor b.Actor=true){i:Nat}{x:ai}(hi:t[i]?=some x):pa t x.Actor=i/\qb t x.Actor=true:=by
 have h1:=zv (L6 hp x.Actor) hi;simp only[dq]at h1;have hle:pa t x.Actor<=i:=by
  rcases nN i (pa t x.Actor)with h|h
  .exact absurd (h1.2 h) oZk
  .exact h
 have hil:=(cg.1 hi).1;have hie:=(cg.1 hi).2;have hpl:pa t x.Actor<t.length:=oZg;have e:pa t x.Actor=i:=by
  rcases nN (pa t x.Actor) i with h|h
  .exfalso;have h2:=zv (L6 hp x.Actor) (cj hpl);have h3:=cV.1 hp _ i hpl hil h;rw[hie]at h3;have:pa t x.Actor<pa t x.Actor:=h2.1 h3;omega
  .omega
 refine⟨e,?_⟩;unfold qb;rw[e,hi];exact KG.2 rfl
def XZ{α:Type}{l:List α}{v:Nat}{x:α}(h:l[v]?=some x):l.set v x=l:=by
 apply nP;intro i;rw[nO];by_cases e:v=i
 .subst e;have hlt:=(cg.1 h).1;simp[hlt,<-h]
 .simp[e]
def Yl(N:Nat){t:List ai}(h:VT t):∀(m v:Nat),v+m=t.length->mW N m v t=some t
 | 0,v,hv=>by rw[mW,aey oZg]
 | m+1,v,hv=>by
  have hx:t[v]?=some t[v]:=cj oZg;have hw:=(h.l _ (cd hx)).wl;rw[mW,aw hx,fw,Lm oZg,cb];rw[XZ (x:=t[v]) hx];exact Yl N h m (v+1) oZg
def II(N:Nat){t:List ai}(h:VT t):gh N t=some t:=by have:=h.len;rw[gh,iz,Lm oZg,cb];exact Yl N h _ 0 oZg
def ZC{t:List ai}(h:VT t):∀(n v:Nat),t.length<v+n->v<=t.length->lq n (t,(v:Int))=some t
 | 0,v,hn,hv=>oZg
 | n+1,v,hn,hv=>by
  have hl:=h.len;rw[lq];by_cases hlt:v<t.length
  .have hx:t[v]?=some t[v]:=cj hlt;have hw:=(h.l _ (cd hx)).wl;rw[if_pos oZg,aw hx,Lm oZg,cu,XZ hx,w64 oZg oZg,show((v:Int)+1)=((v+1:Nat):Int) by omega];exact ZC h n (v+1) oZg oZg
  .rw[if_neg oZg]
def Fk(N:Nat)(hN:200<=N){t:List ai}(h:VT t):dO N t=some t:=by have:=h.len;rw[dO,Lm oZg,show(0:Int)=((0:Nat):Int)from rfl];exact ZC h N 0 oZg oZg
def pz(w:List Int)(n:Int):Nat:=plc (fun x=>decide (x<n)) w
def ags{w:List Int}(hs:w.Pairwise (· < ·))(n:Int):aao (fun x:Int=>decide (x<n)) w:=hs.imp (fun h1 h2=>by simp only[decide_eq_true_eq]at *;omega)
def Po{w:List Int}(hs:w.Pairwise (· < ·)){n:Int}{i:Nat}{x:Int}(hx:w[i]?=some x):x<n↔i<pz w n:=by have:=zv (ags hs n) hx;simpa[pz]using this
def RA(w:List Int)(n:Int):pz w n<=w.length:=K0 w
def ac8(N:Nat)(a b:Int):AO N a b=some (decide (a<b)):=by simp[AO,CL]
def afA{w:List Int}(hs:w.Pairwise (· < ·)){n:Int}:n∈w↔w[pz w n]?=some n:=by
 constructor
 .intro h;obtain⟨i,hi⟩:=nS.1 h;have h1:=Po hs hi (n:=n);have hle:pz w n<=i:=oZg;have hil:=(cg.1 hi).1;have hpl:pz w n<w.length:=oZg;rcases nN (pz w n) i with q|q
  .exfalso;have h2:=Po hs (cj hpl) (n:=n);have h3:=cV.1 hs _ i hpl hil q;have h4:w[i]=n:=(cg.1 hi).2;omega
  .have:pz w n=i:=oZg;rw[this];exact hi
 .exact cd
def Xs{w:List Int}(hl:w.length<=32)(hs:w.Pairwise (· < ·))(N:Nat)(a:Int)(kx:Int->Option (Int×Bool)):
  ∀(n i j:Nat),j<i+n->i<=pz w a->pz w a<=j->j<=w.length->dT w N a kx n ((i:Int),(j:Int))=kx ((pz w a:Nat):Int)
 | 0,i,j,h1,h2,h3,h4=>oZg
 | n+1,i,j,h1,h2,h3,h4=>by
  rw[dT];by_cases hij:i<j
  .rw[if_pos oZg,WH oZg];have hm:(i+j)/ 2<w.length:=oZg;have hx:w[(i+j)/ 2]?=some w[(i+j)/ 2]:=cj hm;have hc:=Po hs hx (n:=a);rw[aw hx,ac8];simp only[cb,decide_eq_true_eq];by_cases hlt:w[(i+j)/ 2]< a
   .rw[if_pos hlt,w64 oZg oZg];have:(i+j)/ 2<pz w a:=hc.1 hlt;exact Xs hl hs N a kx n ((i+j)/ 2+1) j oZg oZg h3 h4
   .rw[if_neg hlt];have:¬(i+j)/ 2<pz w a:=fun q=>hlt (hc.2 q);exact Xs hl hs N a kx n i ((i+j)/ 2) oZg h2 oZg oZg
  .rw[if_neg oZg];have:i=pz w a:=oZg;rw[this]
def ae6(N:Nat)(hN:200<=N){w:List Int}(hl:w.length<=32)(hs:w.Pairwise (· < ·))(a:Int):jP N w a=some (((pz w a:Nat):Int),decide (a∈w)):=by
 have hp:=RA w a;have:=Xs hl hs N a (kz w a N) N 0 w.length oZg oZg hp oZg;simp only[jP];rw[show(0:Int)=((0:Nat):Int)from rfl,this];unfold kz;have hm:=afA hs (n:=a);cases hq:w[pz w a]? with
 | none=>
  have:=aiR.1 hq;rw[if_neg oZg];rw[hq]at hm;have:a∉w:=fun q=>by simpa using hm.1 q
  simp[this]
 | some s=>
  have:=(cg.1 hq).1;rw[if_pos oZg,aw hq];rw[hq]at hm;by_cases e:s=a
  .subst e;have:s∈w:=hm.2 rfl;simp[this]
  .have:a∉w:=fun q=>e (cX (hm.1 q));simp[e,this,y7]
def QF(N:Nat)(x:ai)(n:Int):FR N x n=some (decide (n∈x.Waiters)):=by
 have:∀(xs:List Int) (v:Nat),A9 n xs v ()=some (decide (n∈xs)):=by
  intro xs
  induction xs with
  | nil=>intro v;rfl
  | cons y ys ih=>
   intro v;rw[A9];by_cases e:y=n
   .simp[e]
   .rw[if_neg e,ih];have:¬n=y:=fun q=>e q.symm;simp[this]
 exact this _ 0
def IA(w:List Int)(n:Int):List Int:=w.take (pz w n)++[n]++w.drop (pz w n)
def abz{w:List Int}(hl:w.length<=32)(hs:w.Pairwise (· < ·)){a:Int}(ha:a∉w)(kx:Int->Option (List Int)):∀(n i:Nat),i<n->pz w a<=i->i<=w.length->rD w kx a n (i:Int)=kx ((pz w a:Nat):Int)
 | 0,i,h1,_,_=>oZg
 | n+1,i,h1,h2,h3=>by
  rw[rD];by_cases h0:0<i
  .have hx:w[i-1]?=some w[i-1]:=cj oZg;have hc:=Po hs hx (n:=a);have hne:w[i-1]≠a:=fun q=>ha (q▸cd hx);rw[if_pos oZg,w64 oZg oZg,show((i:Int)-1)=((i-1:Nat):Int) by omega,aw hx];by_cases hlt:a<w[i-1]
   .have:pz w a<=i-1:=by
     rcases nN (i-1) (pz w a)with q|q
     .have:=hc.2 q;omega
     .exact q
    simp only[hlt,decide_true,wD,if_true];rw[w64 oZg oZg,show((i:Int)-1)=((i-1:Nat):Int) by omega];exact abz hl hs ha kx n (i-1) oZg this oZg
   .have:i-1<pz w a:=hc.1 oZg;have e:i=pz w a:=oZg;simp only[hlt,decide_false,wD,cS,if_false];rw[e]
  .rw[if_neg oZg];have e:i=pz w a:=oZg;simp only[wD,cS,if_false];rw[e]
theorem ae9(N:Nat)(hN:200<=N){w:List Int}(hl:w.length<=32)(hs:w.Pairwise (· < ·)){a:Int}(ha:a∉w):Dm N w a=some (IA w a):=by have hp:=RA w a;rw[Dm,abz hl hs ha _ N w.length oZg hp oZg,Ij];unfold slx;rw[cu,if_pos ⟨oZg,oZg,oZg,oZg⟩];dsimp only;rw[if_pos ⟨oZg,oZg,oZk,oZg⟩];have e1:List.take (pz w a -(0:Int).toNat) (List.drop (0:Int).toNat w)=w.take (pz w a):=oZk;rw[e1,Lm (by rw[nC];omega),Gk (by rw[nC,cn,cw];omega),Gk (by simp only[nc,nC,xC,cn,cw];omega)];have e2:List.take (((w.length:Nat):Int).toNat-pz w a) (List.drop (pz w a) w)=w.drop (pz w a):=cT oZk;rw[e2];rfl
def QS{w:List Int}{n z:Int}:z∈IA w n↔z=n∨z∈w:=by
 unfold IA;have:z∈w↔z∈w.take (pz w n)∨z∈w.drop (pz w n):=by rw[<-cJ,xe]
 rw[this];simp only[cJ,cK];constructor
 .rintro((h|h)|h)<;>simp[h]
 .rintro(h|h|h)<;>simp[h]
def adg{w:List Int}{n:Int}:(IA w n).length=w.length+1:=by have:=RA w n;simp[IA];omega
def aeE{w:List Int}(hs:w.Pairwise (· < ·)){n:Int}(hn:n∉w):(IA w n).Pairwise (· < ·):=by
 unfold IA;have hp:=RA w n;have h1:∀z∈w.take (pz w n),z<n:=by intro z hz;obtain⟨i,hi⟩:=nS.1 hz;have hil:=(cg.1 hi).1;rw[nC]at hil;rw[xi oZg]at hi;exact(Po hs hi).2 oZg
 have h2:∀z∈w.drop (pz w n),n<z:=by intro z hz;obtain⟨i,hi⟩:=nS.1 hz;rw[nz]at hi;have:=Po hs hi (n:=n);have hne:z≠n:=fun q=>hn (q▸cd hi);omega
 rw[hU,n5];refine⟨hs.sublist (xZ _ _),?_,fun a ha b hb=>?_⟩
 .rw[xf,nV];exact⟨fun b hb=>h2 b hb,hs.sublist (aiD _ _)⟩
 .have:=h1 a ha;rcases cJ.1 hb with hb|hb
  .rw[cK]at hb;omega
  .have:=h2 b hb;omega
def acq(t:List ai)(a:Ref)(n:Int):List ai×Int×Int:=
 if qb t a=true then
  match t[pa t a]? with
  | some x=>if x.Owner=n then(t,1,0)else if x.Owner<n then(t,3,0)else if n∈x.Waiters then(t,2,0)else if x.Waiters.length=32 then([],0,5)else(t.set (pa t a) ⟨x.Actor,x.Owner,IA x.Waiters n⟩,2,0)
  | none=>([],0,0)
 else if t.length=128 then([],0,5)else(t.take (pa t a)++[⟨a,n,[]⟩]++t.drop (pa t a),1,0)
def ZP(t:List ai)(a:Ref):pa t a<=t.length:=K0 t
def ab5(N:Nat)(hN:200<=N){t:List ai}(h:VT t){a:Ref}(ha:VA a){n:Int}(n1:1<=n)(n2:n<=1099511627776):zJ N t a n=some (acq t a n):=by
 have hl:=h.len;have hp:=ZP t a;simp only[zJ,FK N h,Rj N ha,XR N n1 n2,cb,if_true,nv,rv,cS,if_false,rq,TZ N hN h];unfold acq;by_cases hh:qb t a=true
 .obtain⟨x,hx,hxa⟩:=qL hh;have hv:=h.l x (cd hx);have hw:=hv.wl;rw[if_pos hh,if_pos hh,aw hx,ae6 N hN hv.wl hv.so,hx];simp only[cb,II N h];by_cases e1:x.Owner=n
  .simp[e1]
  .by_cases e2:x.Owner<n
   .simp[e1,e2]
   .by_cases e3:n∈x.Waiters
    .simp[e1,e2,e3]
    .by_cases e4:x.Waiters.length=32
     .simp[e1,e2,e3,e4]
     .have e4':¬((x.Waiters.length:Nat):Int)=32:=oZg;have hpz:=RA x.Waiters n;simp only[e1,e2,e3,e4,e4',if_false,decide_false,cS,aw hx];unfold qn OD;rw[if_pos ⟨oZg,oZg,rfl,oZg⟩];simp[IA]
 .rw[if_neg hh,if_neg hh];by_cases e:t.length=128
  .rw[if_pos oZg,if_pos e]
  .rw[if_neg oZg,if_neg e,II N h,cb];unfold pA OD;rw[if_pos ⟨oZg,oZg,rfl,oZg⟩];simp
def adY(N:Nat)(hN:200<=N){t:List ai}(h:VT t){a:Ref}(ha:VA a){n:Int}(n1:1<=n)(n2:n<=1099511627776):zw N t a n=some (acq t a n):=by
 have hl:=h.len;have hp:=ZP t a;simp only[zw,Dl N h,Oy N ha,Tc N n1 n2,cb,if_true,nv,rJ,cS,if_false,rP,Jl];unfold acq;by_cases hh:qb t a=true
 .obtain⟨x,hx,hxa⟩:=qL hh;have hv:=h.l x (cd hx);have hw:=hv.wl;rw[if_pos hh,if_pos hh,Fk N hN h,cb,aw hx,hx];by_cases e1:x.Owner=n
  .simp[e1]
  .by_cases e2:x.Owner<n
   .simp[e1,e2]
   .by_cases e3:n∈x.Waiters
    .simp[e1,e2,e3,QF]
    .by_cases e4:x.Waiters.length=32
     .simp[e1,e2,e3,e4,QF]
     .have e4':¬((x.Waiters.length:Nat):Int)=32:=oZg;simp[e1,e2,e3,e4,e4',QF,ae9 N hN hv.wl hv.so e3]
 .rw[if_neg hh,if_neg hh];by_cases e:t.length=128
  .rw[if_pos oZg,if_pos e]
  .rw[if_neg oZg,if_neg e,Fk N hN h,cb];unfold slx slt;rw[cu,if_pos ⟨oZg,oZg,oZg,oZg⟩];have e2:List.take (((t.length:Nat):Int).toNat-pa t a) (List.drop (pa t a) t)=t.drop (pa t a):=cT oZk;rw[e2];dsimp only;rw[Lm (by rw[xC];omega),if_pos ⟨oZg,oZg⟩];try dsimp only
   rw[Gk (by rw[nC,cn,cw];omega),Gk (by simp only[nc,nC,xC,cn,cw];omega)]
def Yc{α β:Type}{R:β->β->Prop}{f:α->β}{l:List α}(h:l.Pairwise fun a b=>R (f a) (f b)){i:Nat}{x y:α}(hx:l[i]?=some x)(he:f y=f x):(l.set i y).Pairwise fun a b=>R (f a) (f b):=by
 rw[cV]at *;intro j k hj hk hjk;rw[cL]at hj hk;have hxi:l[i]'((cg.1 hx).1)=x:=(cg.1 hx).2;have key:∀j (hj:j<l.length),f ((l.set i y)[j]'(by rw[cL];exact hj))=f l[j]:=by
  intro j hj;rw[List.getElem_set];split
  .rename_i e;subst e;rw[he,hxi]
  .rfl
 rw[key j hj,key k hk];exact h j k hj hk hjk
def VT.set{t:List ai}(h:VT t){i:Nat}{x y:ai}(hx:t[i]?=some x)(he:y.Actor=x.Actor)(hy:VL y):VT (t.set i y):=by
 refine⟨by rw[cL];exact h.len,fun z hz=>?_,Yc (f:=ai.Actor) (R:=fun a b=>rl a b=true) h.so hx he⟩;rcases ajD hz with hz|rfl
 .exact h.l z hz
 .exact hy
def adU{t:List ai}(hs:t.Pairwise fun a b=>rl a.Actor b.Actor=true){a:Ref}(hh:¬qb t a=true)(x:ai)(hx:x.Actor=a):(t.take (pa t a)++[x]++t.drop (pa t a)).Pairwise fun a b=>rl a.Actor b.Actor=true:=by
 have h1:∀z∈t.take (pa t a),rl z.Actor a=true:=by intro z hz;obtain⟨i,hi⟩:=nS.1 hz;have hil:=(cg.1 hi).1;rw[nC]at hil;rw[xi oZg]at hi;exact(zv (L6 hs a) hi).2 (by show i<pa t a;omega)
 have h2:∀z∈t.drop (pa t a),rl a z.Actor=true:=by
  intro z hz;obtain⟨i,hi⟩:=nS.1 hz;rw[nz]at hi;have hc:=zv (L6 hs a) hi;rcases K3 z.Actor a with q|q|q
  .have:pa t a+i<pa t a:=hc.1 q;omega
  .exact absurd (q ▸(W0 hs hi).2) hh
  .exact q
 rw[hU,n5];refine⟨hs.sublist (xZ _ _),?_,fun y hy z hz=>?_⟩
 .rw[xf,nV];exact⟨fun b hb=>hx▸h2 b hb,hs.sublist (aiD _ _)⟩
 .have:=h1 y hy;rcases cJ.1 hz with hz|hz
  .rw[cK]at hz;rw[hz,hx];exact this
  .exact uR this (h2 z hz)
def aaX{t:List ai}(h:VT t){a:Ref}(ha:VA a){n:Int}(n1:1<=n)(n2:n<=1099511627776):VT (acq t a n).1:=by
 have nil:VT []:=⟨oZk,oZk,List.Pairwise.nil⟩;have hl:=h.len;have hp:=ZP t a;unfold acq;split
 .rename_i hh;obtain⟨x,hx,hxa⟩:=qL hh;have hv:=h.l x (cd hx);have hw:=hv.wl;rw[hx];dsimp only;split
  .exact h
  split
  .exact h
  split
  .exact h
  split
  .exact nil
  rename_i e1 e2 e3 e4;exact h.set hx rfl ⟨hv.a,hv.o1,hv.o2,by rw[adg];show x.Waiters.length+1<=32;omega,fun z hz=>by
   rcases QS.1 hz with rfl|hz
   .exact⟨n1,by show z<x.Owner;omega⟩
   .exact hv.w z hz,aeE hv.so e3⟩
 .rename_i hh;split
  .exact nil
  .rename_i e;refine⟨oZd,fun z hz=>?_,adU h.so hh ⟨a,n,[]⟩ rfl⟩;simp only[cJ,cK]at hz;rcases hz with(hz|rfl)|hz
   .exact h.l z (nJ hz)
   .exact⟨ha,n1,n2,oZk,oZk,List.Pairwise.nil⟩
   .exact h.l z (xK hz)
def CO{α:Type}{l:List α}{k:Nat}{x:α}(h:k<l.length):(l.set k x).take (k+1)=l.take k++[x]:=by rw[xp,nO];simp only[if_true,h,xF];rw[ajG (ck k)]
theorem aa5(N:Nat)(x id:Int):sa N x id=some (decide (x=id)):=rfl
def XJ(N:Nat)(id:Int):∀(xs:List Int) (v:Nat),(id∉xs/\b8 N id xs v ()=some (-1))∨∃i,xs[i]?=some id/\id∉xs.take i/\b8 N id xs v ()=some ((v+i:Nat):Int)
 | [],v=>.inl ⟨oZk,rfl⟩
 | x::xs,v=>by
  rw[b8,aa5,cb];by_cases e:x=id
  .exact .inr ⟨0,by simp[e],oZk,by simp[e]⟩
  .have e':¬id=x:=fun q=>e q.symm;rcases XJ N id xs (v+1)with⟨h1,h2⟩|⟨i,h1,h2,h3⟩
   .exact .inl ⟨by simp[e',h1],by simp[e,h2]⟩
   .refine .inr ⟨i+1,by simpa using h1,by simp[e',h2],?_⟩;simp only[e,decide_false,cS,if_false,h3]
    congr 2;omega
def neB(id:Int)(x:Int):Bool:=!decide (x=id)
structure acD (a l:List Int) (id:Int) (i j:Nat):Prop where
 len:l.length=a.length
 ij:i<j
 jl:j<=a.length
 pre:l.take i=(a.take j).filter (neB id)
 rest:∀q,j<=q->l[q]?=a[q]?
theorem OV(N:Nat)(a:List Int)(id:Int)(ha:a.length<=1000)(kx:List Int->Int->Option (List Int)):∀(n:Nat) (l:List Int) (i j:Nat),a.length<j+n->acD a l id i j->∃l' i',acD a l' id i' a.length/\bg N id kx n (l,(i:Int),(j:Int))=kx l' ((i':Nat):Int)
 | 0,l,i,j,hn,h=>by have:=h.jl;omega
 | n+1,l,i,j,hn,h=>by
  have hl:=h.len;have hij:=h.ij;have hj:=h.jl;rw[bg];by_cases hlt:j<a.length
  .have g1:l[j]?=some a[j]:=by rw[h.rest j (ck _),cj hlt]
   have htk:a.take (j+1)=a.take j++[a[j]]:=by rw[xp,cj hlt];rfl
   rw[if_pos oZg,aw g1,aa5,cb,w64 (n:=(j:Int)+1) oZg oZg,show((j:Int)+1)=((j+1:Nat):Int) by omega];by_cases e:a[j]=id
   .simp only[e,decide_true,if_true];refine OV N a id ha kx n l i (j+1) oZg ⟨hl,oZg,oZg,?_,fun q hq=>h.rest q oZg⟩;rw[h.pre,htk,xo];simp[neB,e]
   .have hil:i<l.length:=oZg;simp only[e,decide_false,cS,if_false];rw[aw (cj hil),w64 (n:=(i:Int)+1) oZg oZg,show((i:Int)+1)=((i+1:Nat):Int) by omega,cu];refine OV N a id ha kx n (l.set i a[j]) (i+1) (j+1) oZg ⟨by simp[hl],oZg,oZg,?_,fun q hq=>by rw[xb oZg];exact h.rest q oZg⟩;rw[CO hil,h.pre,htk,xo];simp[neB,e]
  .rw[if_neg oZg];have:j=a.length:=oZg;subst this;exact⟨l,i,h,rfl⟩
def abg(N:Nat)(hN:1001<=N)(a:List Int)(id:Int)(ha:a.length<=1000):bH N a id=some (a.filter (neB id)):=by
 unfold bH dB;rcases XJ N id a 0 with⟨h1,h2⟩|⟨i,h1,h2,h3⟩
 .rw[h2,cb,if_pos rfl];have hf:a.filter (neB id)=a:=aiE.2 (fun x hx=>by
   simp only[neB];by_cases e:x=id
   .exact absurd (e▸hx) h1
   .simp[e])
  rw[hf]
 .have hil:=(cg.1 h1).1;rw[h3,cb,if_neg oZg,cy,w64 oZg oZg,show((i:Int)+1)=((i+1:Nat):Int) by omega];have hd:acD a a id i (i+1):=⟨rfl,oZg,oZg,by
   rw[xp,h1,xF,xo];have e1:(a.take i).filter (neB id)=a.take i:=aiE.2 fun x hx=>by
    simp only[neB];by_cases e:x=id
    .exact absurd (e▸hx) h2
    .simp[e]
   rw[e1];simp[neB],fun _ _=>rfl⟩
  obtain⟨l',i',h',e'⟩:=OV N a id ha dZ N a i (i+1) oZg hd;rw[e'];have q1:=h'.len;have q2:=h'.ij;unfold dZ slx;rw[cu,if_pos ⟨oZg,oZg,oZg,oZg⟩];dsimp only;rw[if_pos ⟨oZg,oZg,oZg,by rw[TL oZg];omega⟩];try dsimp only
  rw[QC oZg,h'.pre,cT (ck _)]
def vL(w:List Int):Int:=(w[w.length-1]?).getD 0
def pV(t:List ai)(p:Nat):List ai×Int:=match t[p]? with
 | some x=>if x.Waiters.length=0 then(t.take p++t.drop (p+1),0)else(t.set p ⟨x.Actor,vL x.Waiters,x.Waiters.take (x.Waiters.length-1)⟩,vL x.Waiters)
 | none=>(t,0)
theorem Gi{w:List Int}(h:w.length≠0):w[w.length-1]?=some (vL w):=by have:w.length-1<w.length:=oZg;rw[vL,cj this];rfl
def Zd(N:Nat){t:List ai}{p:Nat}{x:ai}(hx:t[p]?=some x)(hp:t.length<=1000)(hw:x.Waiters.length<=32):yC N t (p:Int)=some (pV t p):=by
 have hlt:=(cg.1 hx).1;rw[yC,aw hx,pV,hx];dsimp only;by_cases e:x.Waiters.length=0
 .rw[if_pos oZg,if_pos e,w64 oZg oZg];unfold pd ZW;rw[if_pos ⟨oZg,oZg,oZg⟩,cb];simp only[cu,show((p:Int)+1).toNat=p+1 by omega]
 .rw[if_neg oZg,if_neg e,w64 oZg oZg,show((x.Waiters.length:Nat):Int)-1=((x.Waiters.length-1:Nat):Int) by omega,aw (Gi e)];unfold slt;rw[cu,if_pos ⟨oZg,oZg⟩];simp only[List.set_set,cu]
def Ye(N:Nat)(hN:200<=N){t:List ai}(h:VT t){p:Nat}{x:ai}(hx:t[p]?=some x):Bu N t (p:Int)=some (pV t p):=by
 have hlt:=(cg.1 hx).1;have hl:=h.len;have hw:=(h.l x (cd hx)).wl;rw[Bu,Fk N hN h,cb,aw hx,pV,hx];dsimp only;by_cases e:x.Waiters.length=0
 .rw[if_pos oZg,if_pos e];unfold slt slx;rw[cu,if_pos ⟨oZg,oZg⟩,w64 oZg oZg];dsimp only;rw[show((p:Int)+1).toNat=p+1 by omega,cu,if_pos ⟨by omega,by omega,by omega,by omega⟩];have e2:List.take (t.length -(p+1)) (List.drop (p+1) t)=t.drop (p+1):=cT oZk;rw[e2];try dsimp only
  rw[Gk (by simp only[nC,xC];omega)]
 .rw[if_neg oZg,if_neg e,w64 oZg oZg,show((x.Waiters.length:Nat):Int)-1=((x.Waiters.length-1:Nat):Int) by omega,aw (Gi e)];unfold slx;rw[cu,if_pos ⟨oZg,oZg,oZk,oZg⟩];simp
def VL.passed{x:ai}(h:VL x)(e:x.Waiters.length≠0):VL ⟨x.Actor,vL x.Waiters,x.Waiters.take (x.Waiters.length-1)⟩:=by have hg:=Gi e;have hm:=h.w _ (cd hg);have h1:=h.o2;have h2:=h.wl;refine⟨h.a,hm.1,by show vL x.Waiters<=_;omega,by simp;omega,fun z hz=>⟨(h.w z (nJ hz)).1,?_⟩,h.so.sublist (xZ _ _)⟩;obtain⟨i,hi⟩:=nS.1 hz;have hil:=(cg.1 hi).1;rw[nC]at hil;rw[xi oZg]at hi;have hlt:i<x.Waiters.length:=oZg;have:=cV.1 h.so i (x.Waiters.length-1) hlt oZg oZg;rw[(cg.1 hi).2,(cg.1 hg).2]at this;exact this
def WJ{t:List ai}(h:VT t)(p:Nat):VT (pV t p).1:=by
 unfold pV;split
 .rename_i x hx;split
  .refine⟨?_,fun z hz=>?_,?_⟩
   .have:=h.len;simp only[nc,nC,xC];omega
   .rcases cJ.1 hz with hz|hz
    .exact h.l z (nJ hz)
    .exact h.l z (xK hz)
   .refine h.so.sublist ?_
    conv=>rhs;rw[<-xe p t]
    refine List.Sublist.append (List.Sublist.refl _) ?_;rw[<-xU];exact aiD _ _
  .rename_i e;exact h.set hx rfl ((h.l x (cd hx)).passed e)
 .exact h
def rls(t:List ai)(a:Ref)(n:Int):List ai×Int×Int:=
 if qb t a=true then
  match t[pa t a]? with
  | some x=>if x.Owner=n then((pV t (pa t a)).1,(pV t (pa t a)).2,0)else([],0,10)
  | none=>([],0,0)
 else([],0,10)
def ae7(N:Nat)(hN:200<=N){t:List ai}(h:VT t){a:Ref}(ha:VA a){n:Int}(n1:1<=n)(n2:n<=1099511627776):zq N t a n=some (rls t a n):=by
 have hl:=h.len;simp only[zq,FK N h,Rj N ha,XR N n1 n2,cb,if_true,nv,yX,cS,if_false,y6,TZ N hN h];unfold rls;by_cases hh:qb t a=true
 .obtain⟨x,hx,hxa⟩:=qL hh;have hv:=h.l x (cd hx);rw[if_pos hh,if_pos hh,aw hx,hx];by_cases e:x.Owner=n
  .simp[e,rQ,Dj,II N h,Zd N hx oZg hv.wl]
  .simp[e,rQ]
 .rw[if_neg hh,if_neg hh];simp[rQ]
def aeY(N:Nat)(hN:200<=N){t:List ai}(h:VT t){a:Ref}(ha:VA a){n:Int}(n1:1<=n)(n2:n<=1099511627776):CM N t a n=some (rls t a n):=by
 have hl:=h.len;simp only[CM,Dl N h,Oy N ha,Tc N n1 n2,cb,if_true,nv,y8,cS,if_false,za,Jl];unfold rls;by_cases hh:qb t a=true
 .obtain⟨x,hx,hxa⟩:=qL hh;rw[if_pos hh,if_pos hh,aw hx,hx];by_cases e:x.Owner=n
  .simp[e,rS,Df,Ye N hN h hx]
  .simp[e,rS]
 .rw[if_neg hh,if_neg hh];simp[rS]
def VT.nil:VT []:=⟨oZk,oZk,List.Pairwise.nil⟩
def jb(n:Int):List ai->List ai×List ay
 | []=>([],[])
 | x::xs=>if x.Owner=n then(if x.Waiters.length=0 then jb n xs else(⟨x.Actor,vL x.Waiters,x.Waiters.take (x.Waiters.length-1)⟩::(jb n xs).1,⟨x.Actor,vL x.Waiters⟩::(jb n xs).2))else(x::(jb n xs).1,(jb n xs).2)
def pB{α:Type}{A B:List α}{x:α}:(A++x::B)[A.length]?=some x:=oZk
def DE{α:Type}{A B:List α}{x y:α}:(A++x::B).set A.length y=A++y::B:=oZk
def Sp{A B:List ai}{x:ai}(e:x.Waiters.length=0):pV (A++x::B) A.length=(A++B,0):=by rw[pV,pB];dsimp only;rw[if_pos e];simp
def SN{A B:List ai}{x:ai}(e:x.Waiters.length≠0):pV (A++x::B) A.length=(A++⟨x.Actor,vL x.Waiters,x.Waiters.take (x.Waiters.length-1)⟩::B,vL x.Waiters):=by rw[pV,pB];dsimp only;rw[if_neg e,DE]
def Xp{x:ai}(h:VL x)(e:x.Waiters.length≠0):1<=vL x.Waiters:=(h.w _ (cd (Gi e))).1
def Jf(N:Nat)(n:Int):∀(B A:List ai) (g:List ay) (k:Nat),B.length<k->A.length+B.length<=200->g.length+B.length<=1000->(∀x∈B,VL x)->eS n N k (A++B,g,((A.length:Nat):Int))=some (A++(jb n B).1,g++(jb n B).2)
 | _,_,_,0,h,_,_,_=>oZg
 | [],A,g,k+1,h,h1,h2,hB=>by
  rw[eS,if_neg oZk];simp[jb]
 | x::B,A,g,k+1,h,h1,h2,hB=>by
  simp only[cn]at h h1 h2;have hx:=hB x oZk;rw[eS,if_pos oZd,aw pB];by_cases e:x.Owner=n
  .rw[if_pos e,Zd N pB oZd hx.wl,cb];by_cases e0:x.Waiters.length=0
   .rw[Sp e0];dsimp only;rw[if_pos rfl,Jf N n B A g k oZg oZg oZg (fun y hy=>hB y (by simp[hy]))];simp[jb,e,e0]
   .have hp:=Xp hx e0;rw[SN e0];dsimp only;rw[if_neg oZg,Gk (by simp only[cn,cw];omega),w64 oZg oZg];have:=Jf N n B (A++[⟨x.Actor,vL x.Waiters,x.Waiters.take (x.Waiters.length-1)⟩]) (g++[⟨x.Actor,vL x.Waiters⟩]) k oZg oZd oZd (fun y hy=>hB y (by simp[hy]));simp only[nc,cn,cw,hU,xf]at this;rw[show((A.length:Nat):Int)+1=((A.length+(0+1):Nat):Int) by omega,this];simp[jb,e,e0]
  .rw[if_neg e,w64 oZg oZg];have:=Jf N n B (A++[x]) g k oZg oZd oZg (fun y hy=>hB y (by simp[hy]));simp only[nc,cn,cw,hU,xf]at this;rw[show((A.length:Nat):Int)+1=((A.length+(0+1):Nat):Int) by omega,this];simp[jb,e]
def ab8(N:Nat)(hN:200<=N){t:List ai}(h:VT t)(n:Int):rE N t n=some (jb n t):=by have hl:=h.len;have:=Jf N n t [] [] N oZg oZd oZd h.l;simp only[rE,FK N h,cb,if_true,II N h];simpa using this
def Hp(N:Nat)(hN:200<=N)(n:Int):∀(B A:List ai) (g:List ay) (v:Nat),VT (A++B)->g.length+B.length<=1000->fR n N B v (A++B,g)=some (A++(jb n B).1,g++(jb n B).2)
 | [],A,g,v,h,h2=>by simp[fR,jb]
 | x::B,A,g,v,h,h2=>by
  simp only[cn]at h2;have hx:=h.l x oZk;have hm:=W0 h.so pB;rw[fR];by_cases e:x.Owner=n
  .have hvt:=WJ h A.length;rw[if_pos e,Jl,cb,hm.1,Ye N hN h pB,cb];by_cases e0:x.Waiters.length=0
   .rw[Sp e0]at hvt ⊢;dsimp only;rw[if_pos rfl,Hp N hN n B A g (v+1) hvt oZg];simp[jb,e,e0]
   .have hp:=Xp hx e0;rw[SN e0]at hvt ⊢;dsimp only;rw[if_neg oZg,Gk (by simp only[cn,cw];omega)];have:=Hp N hN n B (A++[⟨x.Actor,vL x.Waiters,x.Waiters.take (x.Waiters.length-1)⟩]) (g++[⟨x.Actor,vL x.Waiters⟩]) (v+1) (by simpa using hvt) oZd;simp only[hU,xf]at this;rw[this];simp[jb,e,e0]
  .rw[if_neg e];have:=Hp N hN n B (A++[x]) g (v+1) (by simpa using h) oZg;simp only[hU,xf]at this;rw[this];simp[jb,e]
def ZY(N:Nat)(hN:200<=N){t:List ai}(h:VT t)(n:Int):rf N t n=some (jb n t):=by have hl:=h.len;have:=Hp N hN n t [] [] 0 (by simpa using h) oZd;simp only[rf,Dl N h,cb,if_true,Fk N hN h];simpa using this
def Ic{n:Int}:∀{t:List ai} {y:ai},y∈(jb n t).1->∃x∈t,y.Actor=x.Actor/\(VL x->VL y)
 | [],y,h=>by simp[jb]at h
 | x::xs,y,h=>by
  unfold jb at h;split at h
  .split at h
   .obtain⟨z,hz,q⟩:=Ic h;exact⟨z,by simp[hz],q⟩
   .rename_i e0;rcases cF.1 h with rfl|h
    .exact⟨x,oZk,rfl,fun hv=>hv.passed e0⟩
    .obtain⟨z,hz,q⟩:=Ic h;exact⟨z,by simp[hz],q⟩
  .rcases cF.1 h with rfl|h
   .exact⟨y,oZk,rfl,id⟩
   .obtain⟨z,hz,q⟩:=Ic h;exact⟨z,by simp[hz],q⟩
def WR{n:Int}:∀(t:List ai),(jb n t).1.length<=t.length
 | []=>by simp[jb]
 | x::xs=>by
  have:=WR (n:=n) xs;unfold jb;split
  .split<;>simp<;>omega
  .simp;omega
def Zr{n:Int}:∀{t:List ai},(t.Pairwise fun a b=>rl a.Actor b.Actor=true)->(jb n t).1.Pairwise fun a b=>rl a.Actor b.Actor=true
 | [],_=>by simp[jb]
 | x::xs,h=>by
  rw[nV]at h;have ih:=Zr (n:=n) h.2;have hd:∀y∈(jb n xs).1,rl x.Actor y.Actor=true:=by intro y hy;obtain⟨z,hz,q,_⟩:=Ic hy;rw[q];exact h.1 z hz
  unfold jb;split
  .split
   .exact ih
   .rw[nV];exact⟨hd,ih⟩
  .rw[nV];exact⟨hd,ih⟩
def Ud{t:List ai}(h:VT t)(n:Int):VT (jb n t).1:=by refine⟨nq (WR t) h.len,fun y hy=>?_,Zr h.so⟩;obtain⟨x,hx,_,q⟩:=Ic hy;exact q (h.l x hx)
def wd1(n:Int)(x:ai):ai:=⟨x.Actor,x.Owner,x.Waiters.filter (neB n)⟩
theorem adN(N:Nat)(hN:1001<=N)(n:Int):∀(B A:List ai) (m:Nat),m=B.length->(∀x∈B,VL x)->mq N n m A.length (A++B)=some (A++B.map (wd1 n))
 | [],A,m,hm,hB=>by subst hm;simp[mq]
 | x::B,A,m,hm,hB=>by
  subst hm;have hx:=hB x oZk;have hw:=hx.wl;rw[cn,mq,aw pB,abg N hN _ n oZg,cb,DE];have:=adN N hN n B (A++[wd1 n x]) B.length rfl (fun y hy=>hB y (by simp[hy]));simp only[nc,cn,cw,hU,xf,wd1]at this;rw[this];rfl
def agi(N:Nat)(hN:1001<=N){t:List ai}(h:VT t)(n:Int):wM N t n=some (t.map (wd1 n)):=by have:=adN N hN n t [] t.length rfl h.l;simp only[wM,FK N h,cb,if_true,II N h];simpa using this
def XX{l:List ai}{p:Nat}{x:ai}(hx:l[p]?=some x)(hw:x.Waiters.length<=32)(n:Int)(kx:List Int->Option (List ai)):∀(k v:Nat) (acc:List Int),x.Waiters.length<v+k->v<=x.Waiters.length->acc.length<=v->jS l (p:Int) n kx k (acc,(v:Int))=kx (acc++(x.Waiters.drop v).filter (neB n))
 | 0,v,acc,h,_,_=>oZg
 | k+1,v,acc,h,h1,h2=>by
  rw[jS,aw hx];by_cases hlt:v<x.Waiters.length
  .have hy:x.Waiters[v]?=some x.Waiters[v]:=cj hlt;rw[if_pos oZg,aw hy,w64 oZg oZg,show((v:Int)+1)=((v+1:Nat):Int) by omega,nI hlt];by_cases e:x.Waiters[v]=n
   .rw[if_pos e,XX hx hw n kx k (v+1) acc oZg oZg oZg];simp[neB,e]
   .rw[if_neg e,Gk (by simp only[cn,cw];omega),XX hx hw n kx k (v+1) _ oZg oZg oZd,n9,if_pos (by simp[neB,e]),hU,xf]
  .rw[if_neg oZg,xh oZg];simp
theorem aa9(N:Nat)(hN:200<=N)(n:Int):∀(B A:List ai) (k:Nat),B.length<k->A.length+B.length<=200->(∀x∈B,VL x)->jY n N k (A++B,((A.length:Nat):Int))=some (A++B.map (wd1 n))
 | _,_,0,h,_,_=>oZg
 | [],A,k+1,h,h1,hB=>by
  rw[jY,if_neg oZk];simp
 | x::B,A,k+1,h,h1,hB=>by
  simp only[cn]at h h1;have hx:=hB x oZk;rw[jY,if_pos oZd,show(0:Int)=((0:Nat):Int)from rfl,XX pB hx.wl n _ N 0 [] (by have:=hx.wl;omega) oZg oZk,BW,aw pB,cu,DE,w64 oZg oZg];have:=aa9 N hN n B (A++[wd1 n x]) k oZg oZd (fun y hy=>hB y (by simp[hy]));simp only[nc,cn,cw,hU,xf,wd1]at this;rw[show((A.length:Nat):Int)+1=((A.length+(0+1):Nat):Int) by omega];simp only[nu,cO];rw[this];rfl
def afc(N:Nat)(hN:200<=N){t:List ai}(h:VT t)(n:Int):yg N t n=some (t.map (wd1 n)):=by have hl:=h.len;have:=aa9 N hN n t [] N oZg oZd h.l;simp only[yg,Dl N h,cb,if_true,Fk N hN h];simpa using this
def ZZ{t:List ai}(h:VT t)(n:Int):VT (t.map (wd1 n)):=by
 refine⟨by rw[cr];exact h.len,fun y hy=>?_,?_⟩
 .obtain⟨x,hx,rfl⟩:=cH.1 hy;have hv:=h.l x hx;exact⟨hv.a,hv.o1,hv.o2,nq (aiF _ _) hv.wl,fun z hz=>hv.w z (nT.1 hz).1,hv.so.sublist ajg⟩
 .rw[nW];exact h.so
def HA(l:List ByteArray):Bool:=l.all fun s=>decide (s.size<=64)
def Sg:∀(xs:List ByteArray) (v:Nat),uE xs v ()=some (HA xs)
 | [],v=>rfl
 | x::xs,v=>by
  have ih:=Sg xs (v+1);simp only[uE,ih,HA,nR]
  grind
def Sn:∀(xs:List ByteArray) (v:Nat),tI xs v ()=some (HA xs)
 | [],v=>rfl
 | x::xs,v=>by
  have ih:=Sn xs (v+1);simp only[tI,ih,HA,nR]
  grind
def gX(v:Value):Bool:=
 decide (0<=v.Kind)&& decide (v.Kind<=5)&&
 decide (v.N=0∨v.Kind=1∨(v.Kind=2/\v.N=1))&&
 (sEq v.S ⟨#[]⟩ || decide (v.Kind=3))&&(decide (v.I.length=0) || decide (v.Kind=4))&&(decide (v.L.length=0) || decide (v.Kind=5))&&
 decide (v.S.size<=64)&& decide (v.I.length<=16)&& decide (v.L.length<=16)&& HA v.L
def pk(N:Nat)(v:Value):j3 N v=some (gX v):=by simp only[j3,tM,s8,tN,uC,lg,pD,pE,kU,tT,Sg,gX];generalize HA v.L=q;generalize sEq v.S ⟨#[]⟩=z;cases z<;>cases q<;>simp only[AS,CV,FH,if_true,if_false,cS,cx,nf,ny,decide_eq_true_eq,decide_eq_false_iff_not,nX,nK,n8,xm,xG,nD,nv,nM,and_false,false_and,or_false,false_or,xH,true_and,and_true,iff_false,false_iff,not_false_eq_true,not_true_eq_false,true_or,or_true ]<;>omega
def tz(N:Nat)(v:Value):j5 N v=some (gX v):=by simp only[j5,aH,bS,bR,aG,Sn,gX];generalize HA v.L=q;generalize sEq v.S ⟨#[]⟩=z;cases z<;>cases q<;>simp only[AS,CV,FH,if_true,if_false,cS,cx,nf,ny,decide_eq_true_eq,decide_eq_false_iff_not,nX,nK,n8,xm,xG,nD,nv,nM,and_false,false_and,or_false,false_or,xH,true_and,and_true,iff_false,false_iff,not_false_eq_true,not_true_eq_false,true_or,or_true ]<;>omega
def aaA(a b:List Int):Bool:=eqL (fun x y=>decide (x=y)) a b
def aau(a b:List ByteArray):Bool:=eqL sEq a b
def H4(a b:Ref):Bool:=sEq a.Type_ b.Type_&&sEq a.Key b.Key
def Uu{a b:List Int}:aaA a b=true↔a=b:=Th oZk
def abH{a b:List ByteArray}:aau a b=true↔a=b:=Th (fun _ _=>MI)
def uO(a b:Ref):H4 a b=true↔a=b:=by obtain⟨a1,a2⟩:=a;obtain⟨b1,b2⟩:=b;simp[H4,MI]
def H3(N:Nat)(a b:List Int):mD N a b=some (aaA a b):=
 WZ (L:=og b) a b _ (fun _=>rfl) (fun x xs v=>by simp[og])
def NH(N:Nat)(a b:List ByteArray):yI N a b=some (aau a b):=
 WZ (L:=kd b) a b _ (fun _=>rfl) (fun x xs v=>by simp[kd])
def Xy(a b:Value):Bool:=decide (a.Kind=b.Kind)&& decide (a.N=b.N)&& sEq a.S b.S&&aaA a.I b.I&&aau a.L b.L
def X5(a b:Value):Xy a b=true↔a=b:=by obtain⟨a1,a2,a3,a4,a5⟩:=a;obtain⟨b1,b2,b3,b4,b5⟩:=b;simp[Xy,MI,Uu,abH,and_assoc]
def G7(N:Nat)(a b:Value):k9 N a b=some (Xy a b):=by simp only[k9,H3,NH,cb,Xy,AS,CV,FH,if_true,if_false,cS,cx,nf,ny,decide_eq_true_eq,decide_eq_false_iff_not,nX,nK,n8,xm,xG,nD,nv,nM,and_false,false_and,or_false,false_or,xH,true_and,and_true,iff_false,false_iff,not_false_eq_true,not_true_eq_false,true_or,or_true ];all_goals grind
def LY(s:ByteArray):Bool:=decide (1<=s.size)&& decide (s.size<=32)
def PD(r:Ref):Bool:=decide (1<=r.Type_.size)&& decide (r.Type_.size<=32)&& decide (r.Key.size<=32)
def P0(N:Nat)(r:Ref):ig N r=some (PD r):=by simp only[ig,PD,AS,CV,FH,if_true,if_false,cS,cx,nf,ny,decide_eq_true_eq,decide_eq_false_iff_not,nX,nK,n8,xm,xG,nD,nv,nM,and_false,false_and,or_false,false_or,xH,true_and,and_true,iff_false,false_iff,not_false_eq_true,not_true_eq_false,true_or,or_true ]<;>omega
def Pg{α:Type}(p:α->Bool)(l:List α):(l.any fun x=>!p x)=!(l.all p):=by
 induction l with
 | nil=>rfl
 | cons x l ih=>simp[ih]
def MK(v:Value):Bool:=gX v && !decide (v.Kind=0)
def lO(c:ah):Bool:=PD c.Target&&LY c.Method&&decide (c.Args.length<=4)&& c.Args.all MK
def aeo(N:Nat)(l:List Value):bT N l=some (!(l.all MK)):=by
 have h:=lj (L:=gw N) (uD N) (fun v=>!MK v) (fun _=>rfl) (fun _ _ _=>rfl) l 0 (fun x _=>by
  simp only[uD,pk,cb,MK];by_cases h:x.Kind=0<;>simp[h])
 simp only[bT,dp,h,cb,yr,Pg]
def Ri(N:Nat)(c:ah):zF N c=some (lO c):=by simp only[zF,kJ,kL,aeo,cb,ajh,lO,PD,LY];generalize c.Args.all MK=z;cases z<;>simp only[AS,CV,FH,if_true,if_false,cS,cx,nf,ny,decide_eq_true_eq,decide_eq_false_iff_not,nX,nK,n8,xm,xG,nD,nv,nM,and_false,false_and,or_false,false_or,xH,true_and,and_true,iff_false,false_iff,not_false_eq_true,not_true_eq_false,true_or,or_true ]<;>omega
def bdV(v:Value):Prop:=v.I.length<=17592186044416/\v.L.length<=8796093022208
def C9(l:List Value):Prop:=l.length<=1759218604441/\∀v∈l,bdV v
def aam(l:List ah):Prop:=l.length<=2000000/\∀c∈l,C9 c.Args
def yx{v:Value}(h:gX v=true):bdV v:=by simp only[gX,cx,decide_eq_true_eq]at h;exact⟨oZg,oZg⟩
def Rf{c:ah}(h:lO c=true):C9 c.Args:=by simp only[lO,cx,decide_eq_true_eq,cE]at h;refine⟨oZg,fun v hv=>yx ?_⟩;have:=h.2 v hv;simp only[MK,cx]at this;exact this.1
def Um{N:Nat}{l:List Int}(h:l.length<=17592186044416):fw N l=some l:=tY oZg
def WI{N:Nat}{l:List ByteArray}(h:l.length<=8796093022208):j9 N l=some l:=tY oZg
def Yp{N:Nat}{l:List Value}(h:l.length<=1759218604441):kY N l=some l:=tY oZg
def Sb{N:Nat}{l:List ah}(h:l.length<=2000000):iw N l=some l:=tY oZg
def Te(o:Option Bool)(P:Prop):Prop:=∃b,o=some b/\(b=true↔P)
def Te.iff{o:Option Bool}{P Q:Prop}(h:Te o P)(e:P↔Q):Te o Q:=by obtain⟨b,h1,h2⟩:=h;exact⟨b,h1,h2.trans e⟩
def Te.dec{p:Prop}[Decidable p]:Te (some (decide p)) p:=⟨_,rfl,oZk⟩
def Te.f{P:Prop}(h:¬P):Te (some false) P:=⟨_,rfl,by simp[h]⟩
def Te.bind{o:Option Bool}{P Q:Prop}{f:Bool->Option Bool}(h:Te o P)(h1:P->Te (f true) Q)(h2:¬P->Te (f false) Q):Te (o.bind f) Q:=by
 obtain⟨b,rfl,h⟩:=h;cases b with
 | true=>exact h1 (h.1 rfl)
 | false=>exact h2 fun p=>by cases h.2 p
def Te.ite{c:Prop}[Decidable c]{a b:Option Bool}{Q:Prop}(h1:c->Te a Q)(h2:¬c->Te b Q):Te (if c then a else b) Q:=by
 split
 .exact h1 ‹_›
 .exact h2 ‹_›
def Te.is{o:Option Bool}{P:Prop}(h:Te o P)(p:P):o=some true:=by obtain⟨b,h1,h2⟩:=h;rw[h1,h2.2 p]
def Te.isnt{o:Option Bool}{P:Prop}(h:Te o P)(p:¬P):o=some false:=by
 obtain⟨b,h1,h2⟩:=h;cases b with
 | true=>exact absurd (h2.1 rfl) p
 | false=>exact h1
def adC{α:Type}{l:List α}{L:List α->Nat->Unit->Option Bool}{P:Nat->α->Prop}{C:Prop}(h0:∀v,Te (L [] v ()) C)
  (hs:∀x xs v,l[v]?=some x->∀R,Te (L xs (v+1) ()) R->Te (L (x::xs) v ()) (P v x/\R)):∀xs v,l.drop v=xs->Te (L xs v ()) ((∀i x,v<=i->l[i]?=some x->P i x)/\C)
 | [],v,hd=>(h0 v).iff ⟨fun h=>⟨fun i x hi hx=>by
   have:=List.drop_eq_nil_iff.1 hd;have:=(cg.1 hx).1;omega,h⟩,fun h=>h.2⟩
 | x::xs,v,hd=>by
  obtain⟨hv,hx,hd'⟩:=E5 hd;refine(hs x xs v hx _ (adC h0 hs xs (v+1) hd')).iff ⟨fun h=>⟨fun i y hi hy=>?_,h.2.2⟩,fun h=>⟨h.1 v x (ck _) hx,fun i y hi hy=>h.1 i y oZg hy,h.2⟩⟩;rcases ajS hi with hlt|rfl
  .exact h.2.1 i y hlt hy
  .rw[hx,cc]at hy;subst hy;exact h.1
def afo{α:Type}{l:List α}{L:List α->Nat->Unit->Option Bool}{P:Nat->α->Prop}{C:Prop}(h0:∀v,Te (L [] v ()) C)
  (hs:∀x xs v,l[v]?=some x->∀R,Te (L xs (v+1) ()) R->Te (L (x::xs) v ()) (P v x/\R)):Te (L l 0 ()) ((∀i x,l[i]?=some x->P i x)/\C):=
 (adC h0 hs l 0 rfl).iff ⟨fun h=>⟨fun i x hx=>h.1 i x (cQ _) hx,h.2⟩,fun h=>⟨fun i x _ hx=>h.1 i x hx,h.2⟩⟩
def eW{α:Type}(p:α->Bool):∀(l:List α) (v:Nat),(vD p l v=-1/\∀x∈l,p x=false)∨∃i x,vD p l v=((v+i:Nat):Int)/\l[i]?=some x/\p x=true/\∀y∈l.take i,p y=false
 | [],v=>.inl ⟨rfl,oZk⟩
 | x::xs,v=>by
  simp only[vD];by_cases h:p x=true
  .exact .inr ⟨0,x,by simp[h],rfl,h,oZk⟩
  .rw[if_neg h];rcases eW p xs (v+1)with⟨e,ha⟩|⟨i,y,e,hy,hp,ht⟩
   .exact .inl ⟨e,by simpa[h]using ha⟩
   .exact .inr ⟨i+1,y,by rw[e];omega,by simpa using hy,hp,by simpa[h]using ht⟩
structure XV (x:Txn):Prop where
 i1:1<=x.ID
 i2:x.ID<=1099511627776
 c1:1<=x.Calls.length
 c2:x.Calls.length<=4
 d1:0<=x.Done
 d2:x.Done<=x.Calls.length
 la:gX x.Last=true
 ca:∀c∈x.Calls,lO c=true
def zd(x:Txn):Prop:=0<=x.Born/\x.Born<=1099511627776/\1<=x.Client.size/\x.Client.size<=32/\1<=x.Seq/\x.Seq<=1099511627776/\(x.Done=0->x.Last.Kind=0)
def adu(N:Nat)(l:List ah):bK N l=some (!(l.all lO)):=by
 have h:=lj (L:=fu N) (Bm N) (fun v=>!lO v) (fun _=>rfl) (fun _ _ _=>rfl) l 0 (fun x _=>by
  simp only[Bm,Ri,cb])
 simp only[bK,bW,h,cb,yr,Pg]
def Km(N:Nat)(x:Txn):Te (rH N x) (XV x/\zd x):=by
 have e:(XV x/\zd x)↔((1<=x.ID/\x.ID<=1099511627776/\1<=x.Calls.length/\x.Calls.length<=4/\0<=x.Done/\x.Done<=x.Calls.length/\gX x.Last=true/\x.Calls.all lO=true)/\zd x):=
  and_congr_left fun _=>⟨fun h=>⟨h.i1,h.i2,h.c1,h.c2,h.d1,h.d2,h.la,cE.2 h.ca⟩,fun⟨a,b,c,d,e,f,g,h⟩=>⟨a,b,c,d,e,f,g,cE.1 h⟩⟩
 refine Te.iff ?_ e.symm;simp only[rH,gu,j4,j2,gg,adu,pk,cb,ajh,zd];generalize x.Calls.all lO=z;generalize gX x.Last=v;refine⟨decide ((1<=x.ID/\x.ID<=1099511627776/\1<=x.Calls.length/\x.Calls.length<=4/\0<=x.Done/\x.Done<=x.Calls.length/\v=true/\z=true)/\0<=x.Born/\x.Born<=1099511627776/\1<=x.Client.size/\x.Client.size<=32/\1<=x.Seq/\x.Seq<=1099511627776/\(x.Done=0->x.Last.Kind=0)),?_,decide_eq_true_iff⟩;cases v<;>cases z<;>simp only[AS,CV,FH,if_true,if_false,cS,cx,nf,ny,decide_eq_true_eq,decide_eq_false_iff_not,nX,nK,n8,xm,xG,nD,nv,nM,and_false,false_and,or_false,false_or,xH,true_and,and_true,iff_false,false_iff,not_false_eq_true,not_true_eq_false,true_or,or_true ]<;>omega
structure TX (t:ae):Prop where
 x:∀x∈t.Txns,XV x/\zd x
 so:t.Txns.Pairwise fun a b=>a.ID<b.ID
 len:t.Txns.length<=32
def M5{α:Type}{f:α->Int}{l:List α}:(l.Pairwise fun a b=>f a<f b)↔∀i x y,l[i+1]?=some x->l[i]?=some y->f y<f x:=by
 constructor
 .intro h i x y hx hy;obtain⟨h1,rfl⟩:=cg.1 hx;obtain⟨h2,rfl⟩:=cg.1 hy;exact cV.1 h i (i+1) h2 h1 oZg
 .intro h;rw[cV];intro i j hi hj hij
  induction j with
  | zero=>omega
  | succ j ih=>
   have h1:=h j _ _ (cj hj) (cj oZg);rcases ajS (Nat.le_of_lt_succ hij)with h2|rfl
   .have:=ih oZg h2;omega
   .exact h1
def Wv(N:Nat)(t:ae)(hl:t.Txns.length<=1000000):Te (CQ N t) (TX t):=by
 have h:=afo (l:=t.Txns) (L:=kI t N) (P:=fun v x=>(XV x/\zd x)/\(∀y,0<v->t.Txns[v-1]?=some y->y.ID<x.ID)) (C:=t.Txns.length<=32)
  (fun v=>by simp only[kI];exact Te.dec.iff oZg)
  (fun x xs v hx R hR=>by
   have hv:=(cg.1 hx).1;simp only[kI];refine(Km N x).bind (fun p=>?_) fun p=>Te.f fun q=>p q.1.1;simp only[if_true];by_cases h0:0<v
   .rw[if_pos oZg,w64 oZg oZg,show((v:Int)-1)=((v-1:Nat):Int) by omega,aw (cj oZg)];simp only[rG,decide_eq_true_eq];refine Te.ite (fun q=>Te.f fun r=>?_) fun q=>hR.iff ⟨fun r=>⟨⟨p,fun y _ hy=>?_⟩,r⟩,fun r=>r.2⟩
    .have:=r.1.2 _ h0 (cj oZg);omega
    .rw[cj oZg,cc]at hy;subst hy;omega
   .rw[if_neg oZg];simp only[rG,cS,if_false];exact hR.iff ⟨fun r=>⟨⟨p,fun y h=>absurd h h0⟩,r⟩,fun r=>r.2⟩)
 refine h.iff ⟨fun h=>⟨fun x hx=>?_,M5.2 fun i x y hx hy=>(h.1 _ _ hx).2 y oZg (by simpa using hy),h.2⟩,fun h=>⟨fun v x hx=>⟨h.x x (cd hx),fun y h0 hy=>?_⟩,h.len⟩⟩
 .obtain⟨i,hi⟩:=cC hx;exact(h.1 i x hi).1
 .exact M5.1 h.so (v-1) x y (by rw[show v-1+1=v by omega];exact hx) hy
def ids(t:ae):List Int:=t.Txns.map Txn.ID
def ac0(N:Nat)(t:ae)(n:Int):gG N t n=some (vD (fun x:Txn=>decide (x.ID=n)) t.Txns 0):=by have h:=lj (L:=jI N n) (fun x=>FQ N x n) (fun x=>decide (x.ID=n)) (fun _=>rfl) (fun _ _ _=>rfl) t.Txns 0 (fun x _=>rfl);simp only[gG,eM,h,cb]
def uN(N:Nat)(t:ae)(n:Int):(n∉ids t/\gG N t n=some (-1))∨∃i x,gG N t n=some ((i:Nat):Int)/\t.Txns[i]?=some x/\x.ID=n:=by
 rw[ac0];rcases eW (fun x:Txn=>decide (x.ID=n)) t.Txns 0 with⟨h,ha⟩|⟨i,x,h,hx,hp,_⟩
 .refine .inl ⟨fun hm=>?_,by rw[h]⟩;obtain⟨x,hx,rfl⟩:=cH.1 hm;simpa using ha x hx
 .exact .inr ⟨i,x,by rw[h];simp,hx,by simpa using hp⟩
theorem E6{t:ae}{i:Nat}{x:Txn}(h:t.Txns[i]?=some x):x.ID∈ids t:=cH.2 ⟨x,cd h,rfl⟩
def vf{N:Nat}{t:ae}{n:Int}(h:n∈ids t):∃i x,gG N t n=some ((i:Nat):Int)/\t.Txns[i]?=some x/\x.ID=n:=by
 rcases uN N t n with h1|h1
 .exact absurd h h1.1
 .exact h1
def TX.uniq{t:ae}(h:TX t){x y:Txn}(hx:x∈t.Txns)(hy:y∈t.Txns)(e:x.ID=y.ID):x=y:=by
 obtain⟨i,hi,rfl⟩:=aji.1 hx;obtain⟨j,hj,rfl⟩:=aji.1 hy;have:=cV.1 h.so;rcases nZ i j with q|rfl|q
 .have:=this i j hi hj q;omega
 .rfl
 .have:=this j i hj hi q;omega
theorem kq{α ρ:Type}{l:List α}{L:List α->Nat->Unit->Option ρ}{k:Option ρ}(h0:∀v,L [] v ()=k)
  (hs:∀x xs v,l[v]?=some x->L (x::xs) v ()=L xs (v+1) ()):L l 0 ()=k:=by
 have:∀xs v,l.drop v=xs->L xs v ()=k:=by
  intro xs
  induction xs with
  | nil=>intro v _;exact h0 v
  | cons x xs ih=>
   intro v hd;obtain⟨hv,hx,hd'⟩:=E5 hd;rw[hs x xs v hx];exact ih (v+1) hd'
 exact this l 0 rfl
def adH{α:Type}{L:List α->Nat->Unit->Option Int}(f:α->Option Bool)(h0:∀v,L [] v ()=some (-1))
  (h1:∀x xs v,L (x::xs) v ()=(f x).bind fun r=>if r=true then some ((v:Nat):Int)else L xs (v+1) ()) (xs:List α) (h:∀x∈xs,f x=some false):L xs 0 ()=some (-1):=by
 rw[lj f (fun _=>false) h0 h1 xs 0 h];have:=yr (fun _:α=>false) xs 0;rcases eW (fun _:α=>false) xs 0 with⟨h,_⟩|⟨i,x,_,_,h,_⟩
 .rw[h]
 .cases h
def GV(t:ae)(a:Ref)(n:Int):Prop:=∃s∈t.Stacks,s.Actor=a/\∃y∈s.Layers,y.Txn_=n
def mi(l:List Value):Bool:=decide (l.length<=8)&& l.all gX
def At(x:Txn)(a:Ref):Prop:=∃c,x.Calls[x.Done.toNat]?=some c/\c.Target=a
structure SV (t:ae) (s:aa):Prop where
 ne:s.Layers≠[]
 id:∀l∈s.Layers,l.Txn_∈ids t
 fi:∀l∈s.Layers,mi l.Fields=true
 up:∀(i:Nat) l,s.Layers[i]?=some l->l.Prepared=false->i+1=s.Layers.length/\∃k∈t.Locks,k.Actor=s.Actor/\k.Owner=l.Txn_
 ex:∀l∈s.Layers,∀x∈t.Txns,x.ID=l.Txn_->(∃c∈x.Calls.take x.Done.toNat,c.Target=s.Actor)/\(l.Prepared=true->x.Done=x.Calls.length)
structure LP (t:ae) (l:ai):Prop where
 ow:l.Owner∈ids t
 wa:∀w∈l.Waiters,w∈ids t
 dn:∀x∈t.Txns,x.ID=l.Owner->x.Done=x.Calls.length->∃s∈t.Stacks,s.Actor=l.Actor/\∃y∈s.Layers,y.Txn_=x.ID/\y.Prepared=false
 op:∀x∈t.Txns,x.ID=l.Owner->x.Done<x.Calls.length->GV t l.Actor x.ID∨At x l.Actor
 wt:∀x∈t.Txns,x.ID∈l.Waiters->x.Done<x.Calls.length/\At x l.Actor
def Rk(r:Int->Nat)(s:aa):Prop:=s.Layers.Pairwise fun a b=>r a.Txn_<r b.Txn_
structure TV (t:ae):Prop where
 tx:TX t
 lk:VT t.Locks
 ss:t.Stacks.Pairwise fun a b=>rl a.Actor b.Actor=true
 st:∀s∈t.Stacks,SV t s
 pr:∀x∈t.Txns,∀c∈x.Calls.take x.Done.toNat,GV t c.Target x.ID
 lp:∀l∈t.Locks,LP t l
 ac:∃r:Int->Nat,∀s∈t.Stacks,Rk r s
def FF(N:Nat)(l:List Value):pN N l=some (mi l):=by
 have h:=lj (L:=fI N) (vK N) (fun v=>!gX v) (fun _=>rfl) (fun _ _ _=>rfl) l 0 (fun x _=>by
  simp only[vK,pk,cb])
 simp only[pN,dK,da,h,cb,yr,Pg,mi,ajh];by_cases q:l.length<=8
 .rw[if_pos oZg];simp[q]
 .rw[if_neg oZg];simp[q]
theorem Vl(N:Nat){t:ae}(h:TV t):vZ N t=some true:=by
 rw[vZ,FK N h.lk,cb,if_pos rfl];refine kq (fun v=>by rw[qh]) fun x xs v hx=>?_;have hp:=h.lp x (cd hx);obtain⟨i,y,e,_⟩:=vf (N:=N) hp.ow;have hw:=adH (L:=gQ N t.Txns t.Locks t.Stacks) (fun w=>rN N w t.Txns t.Locks t.Stacks) (fun _=>rfl) (fun _ _ _=>rfl) x.Waiters (fun w hw=>by
  obtain⟨j,z,e,_⟩:=vf (N:=N) (hp.wa w hw);rw[rN,e,cb];simp)
 rw[qh,e,cb,if_neg oZg,ew,dE,hw];rfl
def Fh{α:Type}{l:List α}(h:l≠[]):∃x,l[l.length-1]?=some x:=⟨_,cj (by have:=nQ.2 h;omega)⟩
def Ld{α β:Type}{l:List α}{n:Nat}{k:List α->Option β}(h:n<=l.length):slx l 0 (n:Int) k=k (l.take n):=by simp only[slx];rw[if_pos oZg];simp
def pU{r:Int->Nat}{s:aa}(h:Rk r s){i j:Nat}{x y:aj}(hx:s.Layers[i]?=some x)(hy:s.Layers[j]?=some y)(e:x.Txn_=y.Txn_):i=j:=by
 obtain⟨hi,rfl⟩:=cg.1 hx;obtain⟨hj,rfl⟩:=cg.1 hy;have:=cV.1 h;rcases nZ i j with q|q|q
 .have:=this i j hi hj q;rw[e]at this;omega
 .exact q
 .have:=this j i hj hi q;rw[e]at this;omega
theorem Uj(N:Nat){t:ae}{s:aa}(h:SV t s){r:Int->Nat}(hr:Rk r s)(hl:s.Layers.length<=1000000):pR N t s.Layers=some true:=by
 rw[pR];have hp:=nQ.2 h.ne;refine kq (fun v=>by rw[fj];simp;omega) fun x xs v hx=>?_;have hv:=(cg.1 hx).1;have hm:=cd hx;obtain⟨i,y,e,_⟩:=vf (N:=N) (h.id x hm);have hc:br N (s.Layers.take v) x.Txn_ x.Fields x.Prepared=some false:=by
  have:=adH (L:=fK N x.Txn_ x.Fields x.Prepared) (fun y=>ql N y x.Txn_ x.Fields x.Prepared) (fun _=>rfl) (fun _ _ _=>rfl) (s.Layers.take v) (fun y hy=>by
   obtain⟨j,hj⟩:=cC hy;rw[nt]at hj;split at hj
   .rw[ql];have:¬y.Txn_=x.Txn_:=fun e=>by have:=pU hr hj hx e;omega
    simp[this]
   .cases hj)
  rw[br,db,this];rfl
 rw[fj,e,cb,if_neg oZg,FF,h.fi x hm,cb,if_pos rfl];cases hb:x.Prepared with
 | true=>rw[if_pos rfl,Ld oZg,<-hb,hc];rfl
 | false=>
  have:=(h.up v x hx hb).1;rw[if_neg oZk,w64 oZg oZg,if_neg oZg,Ld oZg,<-hb,hc];rfl
def Db(N:Nat)(a b:Ref):jF N a b=some (JU a b):=by
 simp only[jF,aaI,cb,BJ,CK,JU];by_cases h1:CU a.Type_ b.Type_=0
 .by_cases h2:CU a.Key b.Key=0<;>simp[h1,h2]
 .simp[h1]
def My(N:Nat)(l:List ah)(a:Ref):vd N l a=some (l.any fun c=>H4 c.Target a):=by have h:=lj (L:=fJ N a.Type_ a.Key) (fun x=>CJ N x a.Type_ a.Key) (fun c=>H4 c.Target a) (fun _=>rfl) (fun _ _ _=>rfl) l 0 (fun x _=>rfl);simp only[vd,dL,bZ,h,cb,yr]
theorem RT(N:Nat){l:List ah}{a:Ref}(h:∃c∈l,c.Target=a):vd N l a=some true:=by
 rw[My];obtain⟨c,hc,rfl⟩:=h
 congr 1
 exact aiG.2 ⟨c,hc,(uO _ _).2 rfl⟩
def C7{x:Txn}(h:XV x):∃n:Nat,x.Done=n/\x.Done.toNat=n/\n<=x.Calls.length:=⟨x.Done.toNat,by have:=h.d1;omega,rfl,by have:=h.d2;omega⟩
theorem DB{t:List ai}(h:VT t){k:ai}(hk:k∈t):t[pa t k.Actor]?=some k/\qb t k.Actor=true:=by
 obtain⟨i,hi⟩:=cC hk;have h1:=zv (L6 h.so k.Actor) hi;simp only[dq]at h1;have h2:¬i<pa t k.Actor:=fun q=>by have:=h1.2 q;cases this
 have hil:=(cg.1 hi).1;have e:pa t k.Actor=i:=by
  rcases nN (pa t k.Actor) i with q|q
  .have hj:t[pa t k.Actor]?=some t[pa t k.Actor]:=cj oZg;have h3:=(zv (L6 h.so k.Actor) hj).1 (by
    have:=cV.1 h.so _ _ oZg hil q
    rwa[(cg.1 hi).2]at this)
   unfold pa at h3;omega
  .omega
 refine⟨by rw[e];exact hi,?_⟩;rw[qb,e,hi];exact KG.2 rfl
def QK(N:Nat)(hN:200<=N){t:List ai}(h:VT t)(a:Ref):qH N t a=some (if qb t a=true then((t[pa t a]?).map ai.Owner).getD 0 else 0):=by
 simp only[qH,FK N h,cb,if_true,TZ N hN h];by_cases hh:qb t a=true
 .obtain⟨x,hx,_⟩:=qL hh;rw[if_pos hh,if_pos hh,aw hx,hx];rfl
 .rw[if_neg hh,if_neg hh]
theorem Rc(N:Nat)(hN:200<=N){t:List ai}(h:VT t){k:ai}(hk:k∈t):qH N t k.Actor=some k.Owner:=by obtain⟨h1,h2⟩:=DB h hk;rw[QK N hN h,if_pos h2,h1];rfl
def UU(N:Nat){t:ae}(hx:TX t){s:aa}(h:SV t s)(rec3:Unit->Option Bool):jo rec3 N t s s.Layers 0 ()=rec3 ():=by
 refine kq (fun v=>by rw[jo]) fun y xs v hy=>?_;have hm:=cd hy;obtain⟨i,x,e,hi,hid⟩:=vf (N:=N) (h.id y hm);have hxm:=cd hi;obtain⟨n,e1,e2,e3⟩:=C7 (hx.x x hxm).1;obtain⟨h1,h2⟩:=h.ex y hm x hxm hid;rw[jo,e,cb,aw hi,e1,Ld oZg,RT N (by rw[<-e2];exact h1),cb,if_pos rfl];cases hp:y.Prepared with
 | true=>
  have:=h2 hp;rw[if_pos rfl,pb,if_neg oZd]
 | false=>rw[if_neg oZk,pb,if_neg oZk]
def Tf(N:Nat)(hN:200<=N){t:ae}(h:TV t)(hl:t.Stacks.length<=1000000)(hll:∀s∈t.Stacks,s.Layers.length<=1000000):tj N t=some true:=by
 rw[tj];refine kq (fun v=>by rw[fp]) fun s xs v hs=>?_;have hv:=(cg.1 hs).1;have hm:=cd hs;obtain⟨r,hr⟩:=h.ac;have hS:=h.st s hm;have h5:pn (pw s (fp t N xs (v+1)) N t) (!true)=fp t N xs (v+1) ():=by
  have hpos:=nQ.2 hS.ne;have:=hll s hm;obtain⟨y,hy⟩:=Fh hS.ne;rw[pn,if_neg oZk,pw,w64 oZg oZg,show((s.Layers.length:Int)-1)=((s.Layers.length-1:Nat):Int) by omega,aw hy];cases hp:y.Prepared with
  | true=>rw[if_pos rfl,tP,if_neg oZk,tC,UU N h.tx hS]
  | false=>
   obtain⟨_,k,hk,h1,h2⟩:=hS.up _ y hy hp;rw[if_neg oZk,<-h1,Rc N hN h.lk hk,cb,tP,if_neg (by simp[h2]),tC,UU N h.tx hS]
 rw[fp,Uj N hS (hr s hm) (hll s hm),cb];by_cases h0:0<v
 .obtain⟨z,hz,hlt⟩:=Fv h.ss h0 hs;have:=E7.2 hlt;rw[if_pos oZg,w64 oZg oZg,show((v:Int)-1)=((v-1:Nat):Int) by omega,aw hz,Db,cb,if_neg oZg];exact h5
 .rw[if_neg oZg];exact h5
def FL(N:Nat)(t:ae)(a:Ref):(uB N t a=some (-1)/\∀s∈t.Stacks,s.Actor≠a)∨∃i s,uB N t a=some ((i:Nat):Int)/\t.Stacks[i]?=some s/\s.Actor=a:=by
 have h:=lj (L:=fZ N a.Type_ a.Key) (fun x=>FP N x a.Type_ a.Key) (fun s=>H4 s.Actor a) (fun _=>rfl) (fun _ _ _=>rfl) t.Stacks 0 (fun x _=>rfl);simp only[uB,dh,h,cb];rcases eW (fun s:aa=>H4 s.Actor a) t.Stacks 0 with⟨e,ha⟩|⟨i,s,e,hi,hp,_⟩
 .refine .inl ⟨by rw[e],fun s hs q=>?_⟩;have:=ha s hs;rw[(uO _ _).2 q]at this;cases this
 .exact .inr ⟨i,s,by rw[e];simp,hi,(uO _ _).1 hp⟩
def pY{t:ae}(h:t.Stacks.Pairwise fun a b=>rl a.Actor b.Actor=true){i:Nat}{s s':aa}(hi:t.Stacks[i]?=some s)(hs:s'∈t.Stacks)(e:s'.Actor=s.Actor):s'=s:=by
 obtain⟨j,hj⟩:=cC hs;obtain⟨h1,rfl⟩:=cg.1 hi;obtain⟨h2,rfl⟩:=cg.1 hj;have:=cV.1 h;rcases nZ i j with q|rfl|q
 .have:=this i j h1 h2 q;rw[e,dq]at this;cases this
 .rfl
 .have:=this j i h2 h1 q;rw[e,dq]at this;cases this
def FJ(N:Nat){t:ae}(h:t.Stacks.Pairwise fun a b=>rl a.Actor b.Actor=true){s:aa}(hs:s∈t.Stacks):∃i:Nat,uB N t s.Actor=some (i:Int)/\t.Stacks[i]?=some s:=by
 rcases FL N t s.Actor with⟨_,q⟩|⟨i,s',e,hi,q⟩
 .exact absurd rfl (q s hs)
 .exact⟨i,e,by rw[hi,pY h hi hs q.symm]⟩
def QR(n:Int)(l:List aj):aj×Bool:=match l.find? fun y=>decide (y.Txn_=n)with
 | some y=>(y,true)
 | none=>(⟨0,[],false⟩,false)
def Xl(n:Int):∀(l:List aj) (v:Nat),DX n l v ()=some (QR n l)
 | [],v=>rfl
 | y::l,v=>by
  rw[DX,Xl n l (v+1)];by_cases q:y.Txn_=n<;>simp[QR,List.find?_cons,q]
def Xi(N:Nat){t:ae}(h:t.Stacks.Pairwise fun a b=>rl a.Actor b.Actor=true){s:aa}(hs:s∈t.Stacks)(n:Int):lB N t s.Actor n=some (QR n s.Layers):=by obtain⟨i,e,hi⟩:=FJ N h hs;rw[lB,e,cb,if_pos oZg,aw hi,Xl]
def acr(N:Nat){t:ae}{a:Ref}(h:∀s∈t.Stacks,s.Actor≠a)(n:Int):lB N t a n=some (⟨0,[],false⟩,false):=by
 rcases FL N t a with⟨e,_⟩|⟨i,s,_,hi,q⟩
 .rw[lB,e,cb,if_neg oZg]
 .exact absurd q (h s (cd hi))
def aeP{r:Int->Nat}{s:aa}(hr:Rk r s){y:aj}(hy:y∈s.Layers):QR y.Txn_ s.Layers=(y,true):=by
 rw[QR];cases e:s.Layers.find? fun z=>decide (z.Txn_=y.Txn_)with
 | none=>exact absurd (ajT.1 e y hy) oZk
 | some z=>
  have h1:=List.find?_some e;have h2:=List.mem_of_find?_eq_some e;obtain⟨i,hi⟩:=cC h2;obtain⟨j,hj⟩:=cC hy;have:=pU hr hi hj (by simpa using h1);subst this;rw[hi]at hj;simp only[cc]at hj;rw[hj]
def aeL{n:Int}{l:List aj}(h:∀y∈l,y.Txn_≠n):QR n l=(⟨0,[],false⟩,false):=by rw[QR,ajT.2 (fun y hy=>by simpa using h y hy)]
def qd(N:Nat){t:ae}(h:t.Stacks.Pairwise fun a b=>rl a.Actor b.Actor=true)(hr:∃r:Int->Nat,∀s∈t.Stacks,Rk r s){a:Ref}{n:Int}{s:aa}{y:aj}(hs:s∈t.Stacks)(ha:s.Actor=a)(hy:y∈s.Layers)(hn:y.Txn_=n):lB N t a n=some (y,true):=by subst ha;subst hn;obtain⟨r,hr⟩:=hr;rw[Xi N h hs,aeP (hr s hs) hy]
def Uo(N:Nat){t:ae}(h:t.Stacks.Pairwise fun a b=>rl a.Actor b.Actor=true){a:Ref}{n:Int}(hn:¬GV t a n):lB N t a n=some (⟨0,[],false⟩,false):=by
 by_cases q:∃s∈t.Stacks,s.Actor=a
 .obtain⟨s,hs,rfl⟩:=q;rw[Xi N h hs,aeL fun y hy e=>hn ⟨s,hs,rfl,y,hy,e⟩]
 .exact acr N (fun s hs e=>q ⟨s,hs,e⟩) n
theorem VS{x:Txn}{a:Ref}(hx:XV x)(h:At x a):∃n c,x.Done=((n:Nat):Int)/\x.Calls[n]?=some c/\c.Target=a:=by obtain⟨c,h1,h2⟩:=h;exact⟨x.Done.toNat,c,by have:=hx.d1;omega,h1,h2⟩
def YZ(N:Nat){t:ae}(h:TV t){x:Txn}(hx:x∈t.Txns)(rec3:Unit->Option Bool):lY rec3 N t x (x.Calls.take x.Done.toNat) 0 ()=rec3 ():=by refine kq (fun v=>by rw[lY]) fun c xs v hc=>?_;obtain⟨s,hs,ha,y,hy,hn⟩:=h.pr x hx c (cd hc);rw[lY,qd N h.ss h.ac hs ha hy hn,cb,if_pos rfl]
def YK(N:Nat){t:ae}(h:TV t){l:ai}(hl:LP t l)(rec18:Unit->Option Bool):jO rec18 N t l l.Waiters 0 ()=rec18 ():=by refine kq (fun v=>by rw[jO]) fun w xs v hw=>?_;have hm:=cd hw;obtain⟨i,x,e,hi,hid⟩:=vf (N:=N) (hl.wa w hm);have hx:=cd hi;obtain⟨h1,h2⟩:=hl.wt x hx (by rw[hid];exact hm);obtain⟨n,c,e1,e2,e3⟩:=VS (h.tx.x x hx).1 h2;rw[jO,e,cb,aw hi,if_neg oZg,e1,aw e2,<-e3];simp[yR,yS]
def Rt(N:Nat){t:ae}(h:TV t):qm N t=some true:=by
 rw[qm];have h4:zg N t=some true:=by
  rw[zg];refine kq (fun v=>by rw[dG]) fun l xs v hl=>?_;have hlm:=cd hl;have hp:=h.lp l hlm;obtain⟨i,x,e,hi,hid⟩:=vf (N:=N) hp.ow;have hx:=cd hi;have h3:gT (gU (dG N t xs (v+1)) N t l) false=dG N t xs (v+1) ():=by rw[gT,if_neg oZk,gU,YK N h hp]
  have hd:=(h.tx.x x hx).1.d2;rw[dG,e,cb,aw hi];by_cases hL:GV t l.Actor x.ID
  .obtain⟨s,hs,ha,y,hy,hn⟩:=hL;rw[qd N h.ss h.ac hs ha hy hn,cb];by_cases hd':x.Done<x.Calls.length
   .rw[if_pos hd',if_pos rfl];exact h3
   .obtain⟨s',hs',ha',y',hy',hn',hp'⟩:=hp.dn x hx hid oZg;have:=qd N h.ss h.ac hs ha hy hn;rw[qd N h.ss h.ac hs' ha' hy' hn']at this;simp only[cc,cP,and_true]at this;rw[if_neg hd',if_pos rfl,if_neg (by rw[<-this,hp'];simp)];exact h3
  .rw[Uo N h.ss hL,cb];by_cases hd':x.Done<x.Calls.length
   .have hat:=(hp.op x hx hid hd').resolve_left hL;obtain⟨n,c,e1,e2,e3⟩:=VS (h.tx.x x hx).1 hat;rw[if_pos hd',if_neg oZk,e1,aw e2,show(!(sEq c.Target.Type_ l.Actor.Type_&&sEq c.Target.Key l.Actor.Key))=false by rw[e3];simp[yS]];exact h3
   .obtain⟨s',hs',ha',y',hy',hn',_⟩:=hp.dn x hx hid oZg;exact absurd ⟨s',hs',ha',y',hy',hn'⟩ hL
 rw[h4];refine kq (fun v=>by rw[qz]) fun x xs v hx=>?_;have hm:=cd hx;obtain⟨n,e1,e2,e3⟩:=C7 (h.tx.x x hm).1;rw[qz,e1,Ld e3,<-e2,YZ N h hm]
def zQ(N:Nat)(l:List Int)(n:Int):eP N l n=some (decide (n∈l)):=by
 have h:=lj (L:=sm n) (fun x=>some (decide (n=x))) (fun x=>decide (n=x)) (fun _=>rfl) (fun x xs v=>by rw[sm];by_cases q:n=x<;>simp[q]) l 0 (fun x _=>rfl)
 simp only[eP,yJ,h,cb,yr]
 congr 1
 rw[xr];simp
def qp(id:Int)(gone:List Int):List aj->Bool->Bool
 | [],_=>true
 | y::l,c=>if y.Txn_=id/\c=true then false else qp id gone l (c || !decide (y.Txn_∈gone))
def zL(t:ae)(id:Int)(gone:List Int):Bool:=t.Stacks.all fun s=>qp id gone s.Layers false
def Rx(N:Nat)(id:Int)(gone:List Int)(rec3:Unit->Option Bool):∀(l:List aj) (v:Nat) (c:Bool),lW rec3 id N gone l v c=if qp id gone l c=true then rec3 ()else some false
 | [],v,c=>by simp[lW,qp]
 | y::l,v,c=>by
  have e:AX c (lW rec3 id N gone l (v+1)) N gone y=if qp id gone l (c || !decide (y.Txn_∈gone))=true then rec3 ()else some false:=by rw[AX,zQ,cb,Rx N id gone rec3 l,Rx N id gone rec3 l];cases c<;>simp
  rw[lW,e,qp];simp only[DQ];by_cases q:y.Txn_=id<;>cases c<;>simp[q]
def Wa(N:Nat)(t:ae)(id:Int)(gone:List Int):DC N t id gone=some (zL t id gone):=by
 rw[DC,Wh (L:=wN id N gone) (fun s=>qp id gone s.Layers false) (some true) (some false) (fun v=>by rw[wN]) (fun s xs v=>by rw[wN,Rx]) t.Stacks 0,zL];split
 .rename_i h;rw[h]
 .rename_i h;rw[xj]at h;rw[h]
def FM{id:Int}{gone:List Int}:∀{l:List aj} {c:Bool},(c=true->∀y∈l,y.Txn_≠id)->(∀(i:Nat) y,l[i]?=some y->y.Txn_=id->∀z∈l.take i,z.Txn_∈gone)->qp id gone l c=true
 | [],_,_,_=>rfl
 | y::l,c,h1,h2=>by
  rw[qp,if_neg (fun q=>h1 q.2 y oZk q.1)];refine FM (fun hc z hz e=>?_) fun i z hz e u hu=>h2 (i+1) z (by simpa using hz) e u (by simp[hu]);rw[nf]at hc;rcases hc with hc|hc
  .exact h1 hc z (by simp[hz]) e
  .obtain⟨i,hi⟩:=cC hz;have:=h2 (i+1) z (by simpa using hi) e y oZk;simp[this]at hc
def N0{id:Int}{gone:List Int}:∀{l:List aj} {c:Bool},qp id gone l c=true->(c=true->∀y∈l,y.Txn_≠id)/\(∀(i:Nat) y,l[i]?=some y->y.Txn_=id->∀z∈l.take i,z.Txn_∈gone)
 | [],_,_=>⟨oZk,oZk⟩
 | y::l,c,h=>by
  rw[qp]at h;split at h
  .cases h
  .rename_i hn;obtain⟨g1,g2⟩:=N0 h;refine⟨fun hc z hz=>?_,fun i z hz e u hu=>?_⟩
   .rcases cF.1 hz with rfl|hz
    .exact fun e=>hn ⟨e,hc⟩
    .exact g1 (by simp[hc]) z hz
   .cases i with
    | zero=>simp at hu
    | succ i=>
     rw[nY]at hz;rw[ajN]at hu;rcases cF.1 hu with rfl|hu
     .by_cases q:u.Txn_∈gone
      .exact q
      .exact absurd e (g1 (by simp[q]) z (cd hz))
     .exact g2 i z hz e u hu
def px{l:List Int}:∀{k:List Int},k.Nodup->(∀x∈k,x∈l)->k.length<=l.length:=by
 induction l with
 | nil=>
  intro k _ h;cases k with
  | nil=>simp
  | cons x k=>have:=h x oZk;simp at this
 | cons a l ih=>
  intro k hk h;have h1:=ih (k:=k.erase a) (hk.erase a) fun x hx=>by
   obtain⟨h2,h3⟩:=(hk.mem_erase_iff).1 hx;exact(cF.1 (h x h3)).resolve_left h2
  by_cases q:a∈k
  .rw[List.length_erase_of_mem q]at h1;simp;omega
  .rw[List.erase_of_not_mem q]at h1;simp;omega
def oF(t:ae):List Txn->List Int->List Int
 | [],g=>g
 | x::xs,g=>oF t xs (if x.ID∈g then g else if zL t x.ID g=true then g++[x.ID]else g)
structure GI (t:ae) (g:List Int):Prop where
 nd:g.Nodup
 sub:∀n∈g,n∈ids t
def GI.add{t:ae}{g:List Int}(h:GI t g){x:Txn}(hx:x∈t.Txns):GI t (if x.ID∈g then g else if zL t x.ID g=true then g++[x.ID]else g):=by
 split
 .exact h
 .split
  .rename_i h1 _;refine⟨xW.2 ⟨h.nd,oZk,fun a ha b hb=>?_⟩,fun n hn=>?_⟩
   .simp only[cK]at hb;rw[hb];exact fun e=>h1 (e▸ha)
   .rcases cJ.1 hn with hn|hn
    .exact h.sub n hn
    .simp only[cK]at hn;rw[hn];exact cH.2 ⟨x,hx,rfl⟩
  .exact h
def GI.len{t:ae}{g:List Int}(h:GI t g):g.length<=t.Txns.length:=by have:=px h.nd h.sub;simpa[ids]using this
def HX{t:ae}:∀{xs:List Txn} {g:List Int},(∀x∈xs,x∈t.Txns)->GI t g->GI t (oF t xs g)
 | [],g,_,h=>h
 | x::xs,g,hx,h=>by rw[oF];exact HX (fun y hy=>hx y (by simp[hy])) (h.add (hx x oZk))
def LI{t:ae}:∀{xs:List Txn} {g:List Int} {n:Int},n∈g->n∈oF t xs g
 | [],g,n,h=>h
 | x::xs,g,n,h=>by rw[oF];exact LI (t:=t) (xs:=xs) (by split;exact h;split;exact ajc _ h;exact h)
def V2{t:ae}:∀{xs:List Txn} {g:List Int} {u:Int},u∈xs.map Txn.ID->(∀g',(∀n∈g,n∈g')->zL t u g'=true)->u∈oF t xs g
 | x::xs,g,u,h,hf=>by
  simp only[hC,cF]at h;have hsub:∀n∈g,n∈(if x.ID∈g then g else if zL t x.ID g=true then g++[x.ID]else g):=fun n hn=>by
   split;exact hn;split;exact ajc _ hn;exact hn
  rw[oF];rcases h with rfl|h
  .refine LI ?_;split
   .assumption
   .rw[if_pos (hf g fun n hn=>hn)];simp
  .exact V2 h fun g' hg=>hf g' fun n hn=>hg n (hsub n hn)
def Ze(N:Nat)(t:ae)(rec4:List Int->Option Bool)(hl:t.Txns.length<=1000):∀(xs:List Txn) (v:Nat) (g:List Int),(∀x∈xs,x∈t.Txns)->GI t g->ou rec4 N t xs v g=rec4 (oF t xs g)
 | [],v,g,_,_=>by rw[ou];rfl
 | x::xs,v,g,hx,hg=>by
  have ih:=Ze N t rec4 hl xs (v+1) _ (fun y hy=>hx y (by simp[hy])) (hg.add (hx x oZk));have:=hg.len;rw[ou,zQ,cb,oF];by_cases q:x.ID∈g
  .rw[if_pos q]at ih ⊢;simp[q,wo,ih]
  .rw[if_neg q]at ih ⊢;rw[if_neg (by simpa using q),Wa,cb,wo];by_cases f:zL t x.ID g=true
   .rw[if_pos f]at ih ⊢;rw[if_pos f,ee oZd,ih]
   .rw[if_neg f]at ih ⊢;rw[if_neg f,ih]
def Mh(t:ae):Nat->List Int->List Int
 | 0,g=>g
 | m+1,g=>Mh t m (oF t t.Txns g)
def Y9(N:Nat)(t:ae)(hl:t.Txns.length<=1000):∀(m v:Nat) (g:List Int),GI t g->re t N m v g=some (decide ((Mh t m g).length=t.Txns.length))
 | 0,v,g,_=>by
  rw[re,Mh]
  congr 1
  rw[xr];simp;omega
 | m+1,v,g,hg=>by
  rw[re,Ze N t _ hl _ _ _ (fun x hx=>hx) hg,Y9 N t hl m _ _ (HX (fun x hx=>hx) hg),Mh]
def XH{r:Int->Nat}:∀{l:List Int},l≠[]->∃u∈l,∀n∈l,r u<=r n
 | [x],_=>⟨x,oZk,oZk⟩
 | x::y::l,_=>by
  obtain⟨u,hu,h⟩:=XH (r:=r) (l:=y::l) oZk;by_cases q:r x<=r u
  .exact⟨x,oZk,fun n hn=>by
    rcases cF.1 hn with rfl|hn
    .exact ck _
    .exact nq q (h n hn)⟩
  .exact⟨u,ajj _ hu,fun n hn=>by
    rcases cF.1 hn with rfl|hn
    .omega
    .exact h n hn⟩
def RN{t:ae}(h:TV t){g:List Int}(hg:GI t g):g.length+1<=(oF t t.Txns g).length∨∀n∈ids t,n∈g:=by
 obtain⟨r,hr⟩:=h.ac;by_cases q:(ids t).filter (fun n=>!decide (n∈g))=[]
 .exact .inr fun n hn=>by
   have:=List.filter_eq_nil_iff.1 q n hn;simpa using this
 .obtain⟨u,hu,hm⟩:=XH (r:=r) q;simp only[nT,ny,decide_eq_false_iff_not]at hu hm;have hin:u∈oF t t.Txns g:=by
   refine V2 hu.1 fun g' hg'=>cE.2 fun s hs=>FM oZk fun i y hy e z hz=>hg' _ ?_;obtain⟨j,hj⟩:=cC hz;rw[nt]at hj;split at hj
   .rename_i hji;have hlt:r z.Txn_<r y.Txn_:=by obtain⟨h1,rfl⟩:=cg.1 hj;obtain⟨h2,rfl⟩:=cg.1 hy;exact cV.1 (hr s hs) j i h1 h2 hji
    by_cases hzg:z.Txn_∈g
    .exact hzg
    .have:=hm z.Txn_ ⟨(h.st s hs).id z (cd hj),hzg⟩;rw[e]at hlt;omega
   .cases hj
  have hG:=HX (fun x hx=>hx) hg;have:=px (l:=oF t t.Txns g) (k:=u::g) (aiM.2 ⟨hu.2,hg.nd⟩) fun x hx=>by
   rcases cF.1 hx with rfl|hx
   .exact hin
   .exact LI hx
  exact .inl (by simpa using this)
def TX.nd{t:ae}(h:TX t):(ids t).Nodup:=by unfold ids List.Nodup;rw[nW];exact h.so.imp fun q e=>oZg
def Qz{t:ae}(h:TV t):∀(m:Nat) {g:List Int},GI t g->t.Txns.length<=m+g.length->(Mh t m g).length=t.Txns.length
 | 0,g,hg,hl=>by have:=hg.len;rw[Mh];omega
 | m+1,g,hg,hl=>by
  have hG:=HX (fun x hx=>hx) hg;rw[Mh];rcases RN h hg with q|q
  .exact Qz h m hG oZg
  .refine Qz h m hG ?_;have:=px (l:=oF t t.Txns g) h.tx.nd fun n hn=>LI (q n hn);simp[ids]at this;omega
def ZJ(N:Nat){t:ae}(h:TV t):Cs N t=some true:=by have hl:=h.tx.len;rw[Cs,Y9 N t oZg _ _ _ ⟨oZk,oZk⟩,Qz h _ ⟨oZk,oZk⟩ oZk];simp
def Bj{l:List Ref}:∀{k:List Ref},k.Nodup->(∀x∈k,x∈l)->k.length<=l.length:=by
 classical
 induction l with
 | nil=>
  intro k _ h;cases k with
  | nil=>simp
  | cons x k=>have:=h x oZk;simp at this
 | cons a l ih=>
  intro k hk h;have h1:=ih (k:=k.filter fun x=>!decide (x=a)) (hk.filter _) fun x hx=>by
   simp only[nT,ny,decide_eq_false_iff_not]at hx;exact(cF.1 (h x hx.1)).resolve_left hx.2
  have h2:k.length<=(k.filter fun x=>!decide (x=a)).length+1:=by
   clear h1 h ih
   induction k with
   | nil=>simp
   | cons b k ih=>
    rw[aiM]at hk;by_cases q:b=a
    .subst q;have:(k.filter fun x=>!decide (x=b))=k:=aiE.2 fun x hx=>by simp;exact fun e=>hk.1 (e▸hx)
     simp[this]
    .have:=ih hk.2;simp[q];omega
  simp only[cn];omega
def TV.stacks_len{t:ae}(h:TV t):t.Stacks.length<=128:=by
 have hcl:∀{l:List Txn},(∀x∈l,XV x)->(l.flatMap fun x=>x.Calls.map ah.Target).length<=l.length*4:=by
  intro l
  induction l with
  | nil=>simp
  | cons x l ih=>
   intro hx;have h1:=ih fun y hy=>hx y (by simp[hy]);have h2:=(hx x oZk).c2;simp only[List.flatMap_cons,nc,cr,cn];omega
 have hnd:(t.Stacks.map aa.Actor).Nodup:=by unfold List.Nodup;rw[nW];exact h.ss.imp fun q e=>by rw[e,dq]at q;cases q
 have:=Bj (l:=t.Txns.flatMap fun x=>x.Calls.map ah.Target) hnd fun a ha=>by
  obtain⟨s,hs,rfl⟩:=cH.1 ha;have hS:=h.st s hs;obtain⟨y,hy⟩:=ajb _ hS.ne;obtain⟨x,hx,e⟩:=cH.1 (hS.id y hy);obtain⟨c,hc,e2⟩:=(hS.ex y hy x hx e).1;exact List.mem_flatMap.2 ⟨x,hx,cH.2 ⟨c,nJ hc,e2⟩⟩
 have h2:=hcl fun x hx=>(h.tx.x x hx).1;have:=h.tx.len;simp only[cr]at *;omega
def TV.layers_len{t:ae}(h:TV t){s:aa}(hs:s∈t.Stacks):s.Layers.length<=32:=by
 obtain⟨r,hr⟩:=h.ac;have:=px (l:=ids t) (k:=s.Layers.map aj.Txn_) (by
  unfold List.Nodup;rw[nW];exact(hr s hs).imp fun q e=>by rw[e]at q;omega) fun n hn=>by
   obtain⟨y,hy,rfl⟩:=cH.1 hn;exact(h.st s hs).id y hy
 have:=h.tx.len;simp[ids]at *;omega
def gO(N:Nat)(hN:200<=N){t:ae}(h:TV t):jm N t=some true:=by have hl:=h.tx.len;simp only[jm,(Wv N t oZg).is h.tx,Vl N h,Tf N hN h (by have:=h.stacks_len;omega) (fun s hs=>by have:=h.layers_len hs;omega),Rt N h,ZJ N h,cb,if_true]
def zi{N:Nat}{v:Value}(h:bdV v):jL N v=some v:=by simp only[jL,Um h.1,WI h.2,cb]
def ot{N:Nat}{l:List Value}(h:C9 l):eI N l=some l:=by
 have:=y9 (L:=kW N) bdV (fun m v l x hx hp=>by
  simp only[kW,LW hx,zi hp,cb,yN hx]) l.length 0 l oZk h.2
 simp only[eI,Yp h.1,cb,cR,this,kW]
def Iy{N:Nat}{c:ah}(h:C9 c.Args):qc N c=some c:=by simp only[qc,ot h,cb]
def XV.bd{x:Txn}(h:XV x):aam x.Calls/\bdV x.Last:=⟨⟨by have:=h.c2;omega,fun c hc=>Rf (h.ca c hc)⟩,yx h.la⟩
def Cj{N:Nat}{x:Txn}(h:aam x.Calls/\bdV x.Last):kn N x=some x:=by
 have:=y9 (L:=pM (Es N x) N) (fun c:ah=>C9 c.Args) (fun m v l y hy hp=>by
  simp only[pM,LW hy,Iy hp,cb,yN hy]) x.Calls.length 0 x.Calls oZk h.1.2
 simp only[kn,Sb h.1.1,cb,cR,this,pM,Es,zi h.2]
def qx{l:List Value}(h:mi l=true):C9 l:=by simp only[mi,cx,decide_eq_true_eq,cE]at h;exact⟨oZg,fun v hv=>yx (h.2 v hv)⟩
def Tk(l:List aj):Prop:=l.length<=1000000/\∀y∈l,C9 y.Fields
def FE{N:Nat}{l:List aj}(h:Tk l):pL N l=some l:=by
 have:=y9 (L:=lD N) (fun y:aj=>C9 y.Fields) (fun m v l x hx hp=>by
  simp only[lD,LW hx,ot hp,cb,yN hx]) l.length 0 l oZk h.2
 simp only[pL,lr,tY (b:=39) (l:=l) (by have:=h.1;omega),cb,cR,this,lD]
def TV.bdL{t:ae}(h:TV t){s:aa}(hs:s∈t.Stacks):Tk s.Layers:=⟨by have:=h.layers_len hs;omega,fun y hy=>qx ((h.st s hs).fi y hy)⟩
def tW{N:Nat}{t:ae}(h:TV t):mI N t=some t:=by
 have h1:=h.tx.len;have h2:=h.lk.len;have h3:=h.stacks_len;have e1:=y9 (L:=rY (Em N t.Stacks t.Locks) N) (fun x:Txn=>aam x.Calls/\bdV x.Last) (fun m v l x hx hp=>by
  simp only[rY,LW hx,Cj hp,cb,yN hx]) t.Txns.length 0 t.Txns oZk (fun x hx=>(h.tx.x x hx).1.bd)
 have e2:=y9 (L:=rh (Ej t.Txns N t.Stacks) N) (fun x:ai=>x.Waiters.length<=32) (fun m v l x hx hp=>by
  simp only[rh,LW hx,Um (N:=N) (l:=x.Waiters) oZg,cb,yN hx]) t.Locks.length 0 t.Locks oZk (fun x hx=>(h.lk.l x hx).wl)
 have e3:=y9 (L:=rT t.Txns t.Locks N) (fun x:aa=>Tk x.Layers) (fun m v l x hx hp=>by
  simp only[rT,LW hx,FE hp,cb,yN hx]) t.Stacks.length 0 t.Stacks oZk (fun s hs=>h.bdL hs)
 simp only[mI,oh,iz,gL];rw[tY oZg,cb,tY oZg,cb,tY oZg,cb,cR,e1,cy,rY,Em,cR,e2,cy,rh,Ej,cR,e3,cy,rT];simp[Rs]
structure acQ {α:Type} (p:α->Bool) (a l:List α) (i j:Nat):Prop where
 len:l.length=a.length
 ij:i<j
 jl:j<=a.length
 pre:l.take i=(a.take j).filter fun x=>!p x
 rest:∀q,j<=q->l[q]?=a[q]?
section
variable {α:Type} {f:α->Option Bool} {p:α->Bool} {L:Nat->List α×Int×Int->Option (List α)} {J:List α->Int->Option (List α)}
theorem Tg(hL:∀n l v5 v6,L (n+1) (l,v5,v6)=if v6 <((l.length:Nat):Int)then gx l v6 fun x=>(f x).bind fun r=>if r=true then L n (l,v5,IntKind.i64.wrap (v6+1))else gx l v5 fun _=>L n (l.set v5.toNat x,IntKind.i64.wrap (v5+1),IntKind.i64.wrap (v6+1))else J l v5)
  (a:List α) (hf:∀x∈a,f x=some (p x)) (ha:a.length<=1000):∀(n:Nat) (l:List α) (i j:Nat),a.length<j+n->acQ p a l i j->∃l' i',acQ p a l' i' a.length/\L n (l,(i:Int),(j:Int))=J l' (i':Int)
 | 0,l,i,j,hn,h=>by have:=h.jl;omega
 | n+1,l,i,j,hn,h=>by
  have hl:=h.len;have hij:=h.ij;have hj:=h.jl;rw[hL];by_cases hlt:j<a.length
  .have g1:l[j]?=some a[j]:=by rw[h.rest j (ck _),cj hlt]
   have htk:a.take (j+1)=a.take j++[a[j]]:=by rw[xp,cj hlt];rfl
   rw[if_pos oZg,aw g1,hf _ (nx hlt),cb,w64 (n:=(j:Int)+1) oZg oZg,show((j:Int)+1)=((j+1:Nat):Int) by omega];by_cases e:p a[j]=true
   .rw[if_pos e];refine Tg hL a hf ha n l i (j+1) oZg ⟨hl,oZg,oZg,?_,fun q hq=>h.rest q oZg⟩;rw[h.pre,htk,xo];simp[e]
   .have hil:i<l.length:=oZg;rw[if_neg e,aw (cj hil),w64 (n:=(i:Int)+1) oZg oZg,show((i:Int)+1)=((i+1:Nat):Int) by omega,cu];refine Tg hL a hf ha n (l.set i a[j]) (i+1) (j+1) oZg ⟨by simp[hl],oZg,oZg,?_,fun q hq=>by rw[xb oZg];exact h.rest q oZg⟩;rw[CO hil,h.pre,htk,xo];simp[e]
  .rw[if_neg oZg];have:j=a.length:=oZg;subst this;exact⟨l,i,h,rfl⟩
def TW(hL:∀n l v5 v6,L (n+1) (l,v5,v6)=if v6 <((l.length:Nat):Int)then gx l v6 fun x=>(f x).bind fun r=>if r=true then L n (l,v5,IntKind.i64.wrap (v6+1))else gx l v5 fun _=>L n (l.set v5.toNat x,IntKind.i64.wrap (v5+1),IntKind.i64.wrap (v6+1))else J l v5){z:α}
  (hJ:∀l v,J l v=slx l v ((l.length:Nat):Int) fun _=>slx (yG z v.toNat l) 0 v fun _=>some ((yG z v.toNat l).take v.toNat)) {I:List α->Nat->Unit->Option Int} (hI0:∀v,I [] v ()=some (-1)) (hI1:∀x xs v,I (x::xs) v ()=(f x).bind fun r=>if r=true then some ((v:Nat):Int)else I xs (v+1) ()) (N:Nat) (hN:1001<=N)
  (a:List α) (hf:∀x∈a,f x=some (p x)) (ha:a.length<=1000):((I a 0 ()).bind fun r1=>if r1=-1 then some a else L N (a,r1,IntKind.i64.wrap (r1+1)))=some (a.filter fun x=>!p x):=by
 rw[lj f p hI0 hI1 a 0 hf,cb];rcases eW p a 0 with⟨h1,h2⟩|⟨i,x,h1,h2,h3,h4⟩
 .rw[h1,if_pos rfl,aiE.2 fun x hx=>by simp[h2 x hx]]
 .have hil:=(cg.1 h2).1;rw[h1,cy,if_neg oZg,w64 oZg oZg,show((i:Int)+1)=((i+1:Nat):Int) by omega];have hd:acQ p a a i (i+1):=⟨rfl,oZg,oZg,by
   rw[xp,h2,xF,xo,aiE.2 fun y hy=>by simp[h4 y hy]];simp[h3],fun _ _=>rfl⟩
  obtain⟨l',i',h',e'⟩:=Tg hL a hf ha N a i (i+1) oZg hd;rw[e',hJ];have q1:=h'.len;have q2:=h'.ij;unfold slx;rw[cu,if_pos ⟨oZg,oZg,oZg,oZg⟩];dsimp only;rw[if_pos ⟨oZg,oZg,oZg,by rw[TL oZg];omega⟩];try dsimp only
  rw[QC oZg,h'.pre,cT (ck _)]
end
def lJ(D:List Int)(n:Int):Bool:=!decide (n∈D)
def GX(D:List Int)(s:aa):aa:=⟨s.Actor,s.Layers.filter fun y=>lJ D y.Txn_⟩
def E9(D:List Int)(l:List aa):List aa:=(l.map (GX D)).filter fun s=>!decide (s.Layers=[])
def zY(t:ae)(D:List Int):ae:=⟨t.Txns.filter fun x=>lJ D x.ID,t.Locks,E9 D t.Stacks⟩
theorem OB(N:Nat)(hN:1001<=N){t:ae}(h:TV t)(D:List Int):yE N t D=some (zY t D):=by
 have h1:=h.tx.len;have h3:=h.stacks_len;have e1:=TW (f:=fun x=>vV N x D) (p:=fun x=>decide (x.ID∈D)) (L:=bu N D eZ) (J:=eZ) (fun _ _ _ _=>by rw[bu]) (fun _ _=>rfl) (I:=jq N D) (fun _=>rfl) (fun _ _ _=>rfl) N hN t.Txns (fun x _=>by simp only[vV,zQ,cb]) oZg;have e2:∀{l:List aj},l.length<=1000->dJ N l D=some (l.filter fun y=>lJ D y.Txn_):=fun{l} hl=>
  TW (f:=fun x=>wg N x D) (p:=fun x=>decide (x.Txn_∈D)) (L:=bj N D eJ) (J:=eJ) (fun _ _ _ _=>by rw[bj]) (fun _ _=>rfl) (I:=iL N D) (fun _=>rfl) (fun _ _ _=>rfl) N hN l (fun x _=>by simp only[wg,zQ,cb]) hl
 have e3:∀{l:List aa},l.length<=1000->bU N l=some (l.filter fun s=>!decide (s.Layers=[])):=fun{l} hl=>
  TW (f:=fun x=>AG N x) (p:=fun s=>decide (s.Layers=[])) (L:=ba N dH) (J:=dH) (fun _ _ _ _=>by rw[ba]) (fun _ _=>rfl) (I:=fL N) (fun _=>rfl) (fun _ _ _=>rfl) N hN l (fun x _=>by simp[AG]) hl
 have e4:∀(m v:Nat) (A:List aa),v+m=t.Stacks.length->A.length=v->qf (CG N (t.Txns.filter fun x=>lJ D x.ID) t) N D m v (A++t.Stacks.drop v)=some ⟨t.Txns.filter fun x=>lJ D x.ID,t.Locks,(A++(t.Stacks.drop v).map (GX D)).filter fun s=>!decide (s.Layers=[])⟩:=by
  intro m
  induction m with
  | zero=>
   intro v A hv hA;rw[qf,xh oZg,nn,CG,e3 oZg];simp
  | succ m ih=>
   intro v A hv hA;subst hA;have hvl:A.length<t.Stacks.length:=oZg;rw[nI hvl,qf,aw pB,e2 (by have:=h.layers_len (nx hvl);omega),cb,DE];have:=ih (A.length+1) (A++[GX D t.Stacks[A.length]]) oZg oZk;rw[hU,hU]at this;rw[hC];simp only[nF,cO]at this;exact this
 simp only[yE,tW h,cb];rw[show ed N t.Txns D=some (t.Txns.filter fun x=>lJ D x.ID)from e1,cb,cR];exact e4 t.Stacks.length 0 [] oZg rfl
def acz{t:ae}(h:TV t){x:Txn}(hx:XV x/\zd x)(h0:x.Done=0)(hlt:∀y∈t.Txns,y.ID<x.ID)(hl:t.Txns.length<32):TV ⟨t.Txns++[x],t.Locks,t.Stacks⟩:=by
 have hid:∀{n:Int},n∈ids t->n∈ids ⟨t.Txns++[x],t.Locks,t.Stacks⟩:=fun hn=>by simp only[ids,cW,cJ]at *;exact .inl hn
 have hnew:∀{y:Txn},y∈t.Txns++[x]->y.ID∈ids t->y∈t.Txns:=fun{y} hy hn=>by
  rcases cJ.1 hy with hy|hy
  .exact hy
  .simp only[cK]at hy;obtain⟨z,hz,e⟩:=cH.1 hn;have:=hlt z hz;rw[hy]at e;omega
 refine⟨⟨fun y hy=>?_,?_,oZd⟩,h.lk,h.ss,fun s hs=>?_,fun y hy c hc=>?_,fun l hm=>?_,h.ac⟩
 .rcases cJ.1 hy with hy|hy
  .exact h.tx.x y hy
  .simp only[cK]at hy;rw[hy];exact hx
 .exact n5.2 ⟨h.tx.so,oZk,fun a ha b hb=>by simp only[cK]at hb;rw[hb];exact hlt a ha⟩
 .have hS:=h.st s hs;exact⟨hS.ne,fun l hl=>hid (hS.id l hl),hS.fi,hS.up,fun l hl y hy e=>hS.ex l hl y (hnew hy (e▸hS.id l hl)) e⟩
 .rcases cJ.1 hy with hy|hy
  .exact h.pr y hy c hc
  .simp only[cK]at hy;rw[hy,h0]at hc;simp at hc
 .have hL:=h.lp l hm;exact⟨hid hL.ow,fun w hw=>hid (hL.wa w hw),fun y hy e=>hL.dn y (hnew hy (e▸hL.ow)) e,fun y hy e=>hL.op y (hnew hy (e▸hL.ow)) e,fun y hy hw=>hL.wt y (hnew hy (hL.wa _ hw)) hw⟩
def LP.locks{t:ae}{l:ai}(h:LP t l)(L:List ai):LP ⟨t.Txns,L,t.Stacks⟩ l:=⟨h.ow,h.wa,h.dn,h.op,h.wt⟩
def UO{t:ae}(h:TV t){L:List ai}(hv:VT L)(hp:∀l∈L,LP t l)(hk:∀s∈t.Stacks,∀y∈s.Layers,y.Prepared=false->∀k∈t.Locks,k.Actor=s.Actor->k.Owner=y.Txn_->∃k'∈L,k'.Actor=s.Actor/\k'.Owner=y.Txn_):TV ⟨t.Txns,L,t.Stacks⟩:=
 ⟨⟨h.tx.x,h.tx.so,h.tx.len⟩,hv,h.ss,fun s hs=>⟨(h.st s hs).ne,(h.st s hs).id,(h.st s hs).fi,fun i y hy hpr=>by
  obtain⟨h1,k,h2,h3,h4⟩:=(h.st s hs).up i y hy hpr;exact⟨h1,hk s hs y (cd hy) hpr k h2 h3 h4⟩,(h.st s hs).ex⟩,h.pr,fun l hl=>(hp l hl).locks L,h.ac⟩
def LP.pass{t:ae}{l l':ai}(h:LP t l)(ha:l'.Actor=l.Actor)(ho:l'.Owner=l.Owner∨l'.Owner∈l.Waiters)(hw:∀w∈l'.Waiters,w∈l.Waiters):LP t l':=by
 refine⟨?_,fun w hm=>h.wa w (hw w hm),fun x hx e=>?_,fun x hx e=>?_,fun x hx hm=>ha▸h.wt x hx (hw _ hm)⟩
 .rcases ho with ho|ho
  .rw[ho];exact h.ow
  .exact h.wa _ ho
 .rcases ho with ho|ho
  .rw[ha];exact h.dn x hx (e.trans ho)
  .have:=(h.wt x hx (e▸ho)).1;intro q;omega
 .rcases ho with ho|ho
  .rw[ha];exact h.op x hx (e.trans ho)
  .exact fun _=>.inr (ha ▸(h.wt x hx (e▸ho)).2)
def AH{D:List Int}{n:Int}:lJ D n=true↔n∉D:=by simp[lJ]
def ML{D:List Int}{l:List aa}{s:aa}:s∈E9 D l↔∃s0∈l,s=GX D s0/\s.Layers≠[]:=by
 simp only[E9,nT,cH,ny,decide_eq_false_iff_not];constructor
 .rintro⟨⟨s0,h1,h2⟩,h3⟩;exact⟨s0,h1,h2.symm,h3⟩
 .rintro⟨s0,h1,h2,h3⟩;exact⟨⟨s0,h1,h2.symm⟩,h3⟩
def Q7{t:ae}{D:List Int}{L:List ai}{s:aa}{y:aj}(hs:s∈t.Stacks)(hy:y∈s.Layers)(hn:y.Txn_∉D):∃s'∈E9 D t.Stacks,s'.Actor=s.Actor/\y∈s'.Layers:=by have hm:y∈(GX D s).Layers:=nT.2 ⟨hy,AH.2 hn⟩;exact⟨GX D s,ML.2 ⟨s,hs,rfl,ajU hm⟩,rfl,hm⟩
structure Lks (t:ae) (D:List Int) (L:List ai):Prop where
 vt:VT L
 fr:∀l'∈L,∃l∈t.Locks,l'.Actor=l.Actor/\(l'.Owner=l.Owner∨l'.Owner∈l.Waiters)/\(∀w∈l'.Waiters,w∈l.Waiters)/\l'.Owner∉D/\∀w∈l'.Waiters,w∉D
 to:∀l∈t.Locks,l.Owner∉D->∃l'∈L,l'.Actor=l.Actor/\l'.Owner=l.Owner
def X2{t:ae}(h:TV t){D:List Int}{L:List ai}(hL:Lks t D L):TV ⟨t.Txns.filter fun x=>lJ D x.ID,L,E9 D t.Stacks⟩:=by
 have hx:∀{x:Txn},(x∈t.Txns.filter fun x=>lJ D x.ID)->x∈t.Txns/\x.ID∉D:=fun{x} hx=>by
  obtain⟨h1,h2⟩:=nT.1 hx;exact⟨h1,AH.1 h2⟩
 have hid:∀{n:Int},n∈ids t->n∉D->n∈ids ⟨t.Txns.filter fun x=>lJ D x.ID,L,E9 D t.Stacks⟩:=fun{n} h1 h2=>by
  obtain⟨x,hx,rfl⟩:=cH.1 h1;exact cH.2 ⟨x,nT.2 ⟨hx,AH.2 h2⟩,rfl⟩
 refine⟨⟨fun x q=>h.tx.x x (hx q).1,h.tx.so.filter _,nq (aiF _ _) h.tx.len⟩,hL.vt,?_,fun s hs=>?_,fun x q c hc=>?_,fun l' hl'=>?_,?_⟩
 .unfold E9;exact(nW.2 (h.ss.imp fun q=>q)).filter _
 .obtain⟨s0,hs0,rfl,hne⟩:=ML.1 hs;have hS:=h.st s0 hs0;have hin:∀{y:aj},y∈(GX D s0).Layers->y∈s0.Layers/\y.Txn_∉D:=fun hy=>by
   obtain⟨h1,h2⟩:=nT.1 hy;exact⟨h1,AH.1 h2⟩
  refine⟨hne,fun y hy=>hid (hS.id y (hin hy).1) (hin hy).2,fun y hy=>hS.fi y (hin hy).1,fun i y hy hp=>?_,fun y hy x q e=>hS.ex y (hin hy).1 x (hx q).1 e⟩;have hm:=hin (cd hy);obtain⟨j,hj⟩:=cC hm.1;obtain⟨h1,k,h2,h3,h4⟩:=hS.up j y hj hp;refine⟨?_,?_⟩
  .
   have hjl:=(cg.1 hj).1;have e:s0.Layers=s0.Layers.take j++[y]:=by have:=xe j s0.Layers;rw[nI hjl,(cg.1 hj).2,xh oZg]at this;exact this.symm
   have e2:(GX D s0).Layers=(s0.Layers.take j).filter (fun y=>lJ D y.Txn_)++[y]:=by have q:=congrArg (List.filter fun y=>lJ D y.Txn_) e;have:lJ D y.Txn_=true:=AH.2 hm.2;rw[xo,show[y].filter (fun y=>lJ D y.Txn_)=[y] by simp[this]]at q;exact q
   rw[e2]at hy ⊢;rcases nN i ((s0.Layers.take j).filter fun y=>lJ D y.Txn_).length with q|q
   .exfalso;rw[na q]at hy;have hm2:=cd hy;obtain⟨i2,hi2⟩:=cC (nT.1 hm2).1;rw[nt]at hi2;split at hi2
    .obtain⟨g1,_⟩:=hS.up i2 y hi2 hp;omega
    .cases hi2
   .have:=(cg.1 hy).1;simp at this ⊢;omega
  .obtain⟨k',g1,g2,g3⟩:=hL.to k h2 (h4▸hm.2);exact⟨k',g1,g2.trans h3,g3.trans h4⟩
 .obtain⟨hm,hn⟩:=hx q;obtain⟨s,hs,ha,y,hy,e⟩:=h.pr x hm c hc;obtain⟨s',g1,g2,g3⟩:=Q7 (L:=L) hs hy (e▸hn);exact⟨s',g1,g2.trans ha,y,g3,e⟩
 .obtain⟨l,h1,h2,h3,h4,h5,h6⟩:=hL.fr l' hl';have hP:=(h.lp l h1).pass h2 h3 h4;refine⟨hid hP.ow h5,fun w hw=>hid (hP.wa w hw) (h6 w hw),fun x q e hd=>?_,fun x q e hd=>?_,fun x q hw=>hP.wt x (hx q).1 hw⟩
  .obtain⟨s,hs,ha,y,hy,g1,g2⟩:=hP.dn x (hx q).1 e hd;obtain⟨s',q1,q2,q3⟩:=Q7 (L:=L) hs hy (g1 ▸(hx q).2);exact⟨s',q1,q2.trans ha,y,q3,g1,g2⟩
  .rcases hP.op x (hx q).1 e hd with⟨s,hs,ha,y,hy,g1⟩|g
   .obtain⟨s',q1,q2,q3⟩:=Q7 (L:=L) hs hy (g1 ▸(hx q).2);exact .inl ⟨s',q1,q2.trans ha,y,q3,g1⟩
   .exact .inr g
 .obtain⟨r,hr⟩:=h.ac;refine⟨r,fun s hs=>?_⟩;obtain⟨s0,hs0,rfl,_⟩:=ML.1 hs;exact(hr s0 hs0).filter _
def UM{t:List ai}(h:VT t){k k':ai}(hk:k∈t)(hk':k'∈t)(e:k.Actor=k'.Actor):k=k':=by have h1:=(DB h hk).1;have h2:=(DB h hk').1;rw[e,h2]at h1;simpa using h1.symm
def ia(n:Int)(f:List Value)(l:List aj):List aj:=match l[l.length-1]? with
 | some z=>if z.Txn_=n then l.set (l.length-1) ⟨z.Txn_,f,z.Prepared⟩else l++[⟨n,f,false⟩]
 | none=>[⟨n,f,false⟩]
def UQ{α:Type}{l:List α}{z:α}(h:l[l.length-1]?=some z):l=l.take (l.length-1)++[z]:=by have hl:=(cg.1 h).1;have:=xe (l.length-1) l;rw[nI hl,(cg.1 h).2,xh oZg]at this;exact this.symm
def acF{α:Type}{l:List α}{y z:α}(h:l[l.length-1]?=some z):l.set (l.length-1) y=l.take (l.length-1)++[y]:=by have hl:=(cg.1 h).1;rw[List.set_eq_take_append_cons_drop,if_pos hl,xh oZg]
structure ahc (n:Int) (f:List Value) (lay base new:List aj):Prop where
 new:new=base++[⟨n,f,false⟩]
 old:∀y∈base,y∈lay/\y.Txn_≠n/\y.Prepared=true
 all:∀y∈lay,y∈base∨(y.Txn_=n/\y.Prepared=false)
 sub:base.Sublist lay
structure Exe (t:ae) (i:Nat) (x:Txn) (c:ah) (k:ai):Prop where
 hi:t.Txns[i]?=some x
 dn:x.Done<x.Calls.length
 hc:x.Calls[x.Done.toNat]?=some c
 hk:k∈t.Locks
 ka:k.Actor=c.Target
 ko:k.Owner=x.ID
section
variable {t:ae} {i:Nat} {x:Txn} {c:ah} {k:ai}
def Exe.np(h:TV t)(e:Exe t i x c k){s:aa}(hs:s∈t.Stacks){y:aj}(hy:y∈s.Layers)(hn:y.Txn_=x.ID):y.Prepared=false:=by
 cases hp:y.Prepared with
 | false=>rfl
 | true=>
  have:=((h.st s hs).ex y hy x (cd e.hi) hn.symm).2 hp;have:=e.dn;omega
def aev(h:TV t)(e:Exe t i x c k)(f:List Value){lay:List aj}(hl:lay=[]∨(⟨c.Target,lay⟩:aa)∈t.Stacks):∃base,ahc x.ID f lay base (ia x.ID f lay):=by
 rcases hl with rfl|hs
 .exact⟨[],⟨by simp[ia],oZk,oZk,.slnil⟩⟩
 .have hS:=h.st _ hs;obtain⟨z,hz⟩:=Fh hS.ne;have hlen:=nQ.2 hS.ne;simp only at hz hlen;have hzm:=cd hz;unfold ia;rw[hz];by_cases q:z.Txn_=x.ID
  .have hzp:=e.np h hs hzm q;simp only[q,if_true,acF hz,hzp];refine⟨_,⟨rfl,fun y hy=>?_,fun y hy=>?_,xZ _ _⟩⟩
   .obtain⟨j,hj⟩:=cC hy;rw[nt]at hj;split at hj
    .have hym:=cd hj;have hp:y.Prepared=true:=by
      cases hp:y.Prepared with
      | true=>rfl
      | false=>have:=(hS.up j y hj hp).1;simp only at this;omega
     exact⟨hym,fun e2=>(by rw[e.np h hs hym e2]at hp;cases hp),hp⟩
    .cases hj
   .rw[UQ hz]at hy;rcases cJ.1 hy with hy|hy
    .exact .inl hy
    .simp only[cK]at hy;rw[hy];exact .inr ⟨q,hzp⟩
  .simp only[q,if_false];have hall:∀y∈lay,y.Prepared=true:=fun y hy=>by
    cases hp:y.Prepared with
    | true=>rfl
    | false=>
     exfalso;obtain⟨j,hj⟩:=cC hy;obtain⟨g1,k',g2,g3,g4⟩:=hS.up j y hj hp;simp only at g1 g3;have:j=lay.length-1:=oZg;rw[this,hz]at hj;simp only[cc]at hj;have:=UM h.lk e.hk g2 (e.ka.trans g3.symm);rw[<-this,e.ko,<-hj]at g4;exact q g4.symm
   refine⟨lay,⟨rfl,fun y hy=>⟨hy,fun e2=>?_,hall y hy⟩,fun y hy=>.inl hy,List.Sublist.refl _⟩⟩;have:=hall y hy;rw[e.np h hs hy e2]at this;cases this
def KB{α:Type}{l:List α}{i:Nat}{x y z:α}(hx:l[i]?=some x)(h:z∈l.set i y):z=y∨∃j,j≠i/\l[j]?=some z:=by
 obtain⟨j,hj⟩:=cC h;rw[nO]at hj;split at hj
 .split at hj
  .simp only[cc]at hj;exact .inl hj.symm
  .cases hj
 .rename_i q;exact .inr ⟨j,fun e=>q e.symm,hj⟩
theorem ZB{l:List Txn}{i:Nat}{x y:Txn}(hx:l[i]?=some x)(e:y.ID=x.ID):(l.set i y).map Txn.ID=l.map Txn.ID:=by rw[xS,e];exact yN (by rw[cz,hx];rfl)
def Dd(t:ae)(i:Nat)(x:Txn)(r:Value)(S:List aa):ae:=⟨t.Txns.set i ⟨x.ID,x.Born,x.Client,x.Seq,x.Calls,x.Done+1,r⟩,t.Locks,S⟩
def Zf(h:TV t)(e:Exe t i x c k){f:List Value}{r:Value}(hf:mi f=true)(hr:gX r=true){A B:List aa}{lay:List aj}(hsp:t.Stacks=A++⟨c.Target,lay⟩::B∨(t.Stacks=A++B/\lay=[]))
  (hA:∀s∈A,rl s.Actor c.Target=true) (hB:∀s∈B,rl c.Target s.Actor=true):TV (Dd t i x r (A++⟨c.Target,ia x.ID f lay⟩::B)):=by
 have hx:=cd e.hi;obtain⟨hX,hR⟩:=h.tx.x x hx;have hd1:=hX.d1;have hdn:=e.dn;have hAS:∀s∈A,s∈t.Stacks:=fun s hs=>by rcases hsp with q|⟨q,_⟩<;>rw[q]<;>simp[hs]
 have hBS:∀s∈B,s∈t.Stacks:=fun s hs=>by rcases hsp with q|⟨q,_⟩<;>rw[q]<;>simp[hs]
 have hcase:∀s∈t.Stacks,s∈A∨s∈B∨s=⟨c.Target,lay⟩:=fun s hs=>by
  rcases hsp with q|⟨q,_⟩
  .rw[q]at hs;simp only[cJ,cF]at hs;rcases hs with hs|hs|hs
   .exact .inl hs
   .exact .inr (.inr hs)
   .exact .inr (.inl hs)
  .rw[q]at hs;rcases cJ.1 hs with hs|hs
   .exact .inl hs
   .exact .inr (.inl hs)
 have hlay:lay=[]∨(⟨c.Target,lay⟩:aa)∈t.Stacks:=by
  rcases hsp with q|⟨_,q⟩
  .exact .inr (by rw[q];simp)
  .exact .inl q
 obtain⟨base,hP⟩:=aev h e f hlay;have hT:∀{y:Txn},y∈t.Txns.set i ⟨x.ID,x.Born,x.Client,x.Seq,x.Calls,x.Done+1,r⟩->y=⟨x.ID,x.Born,x.Client,x.Seq,x.Calls,x.Done+1,r⟩∨(y∈t.Txns/\y.ID≠x.ID):=fun{y} hy=>by
  rcases KB e.hi hy with q|⟨j,hj,q⟩
  .exact .inl q
  .refine .inr ⟨cd q,fun e2=>hj ?_⟩;obtain⟨h1,rfl⟩:=cg.1 q;obtain⟨h2,h3⟩:=cg.1 e.hi;subst h3;have:=cV.1 h.tx.so;rcases nZ j i with q2|q2|q2
   .have:=this j i h1 h2 q2;omega
   .exact q2
   .have:=this i j h2 h1 q2;omega
 have hids:ids (Dd t i x r (A++⟨c.Target,ia x.ID f lay⟩::B))=ids t:=ZB e.hi rfl;have hnw:(⟨x.ID,f,false⟩:aj)∈ia x.ID f lay:=by rw[hP.new];simp
 have hnS:(⟨c.Target,ia x.ID f lay⟩:aa)∈A++⟨c.Target,ia x.ID f lay⟩::B:=oZk;have keep:∀s∈t.Stacks,∀y∈s.Layers,∃s'∈A++(⟨c.Target,ia x.ID f lay⟩:aa)::B,s'.Actor=s.Actor/\∃y'∈s'.Layers,y'.Txn_=y.Txn_/\y'.Prepared=y.Prepared:=fun s hs y hy=>by
  rcases hcase s hs with q|q|rfl
  .exact⟨s,by simp[q],rfl,y,hy,rfl,rfl⟩
  .exact⟨s,by simp[q],rfl,y,hy,rfl,rfl⟩
  .refine⟨_,hnS,rfl,?_⟩;rcases hP.all y hy with q|⟨q1,q2⟩
   .exact⟨y,by rw[hP.new];simp[q],rfl,rfl⟩
   .exact⟨_,hnw,q1.symm,q2.symm⟩
 have keepL:∀{a:Ref} {n:Int},GV t a n->GV (Dd t i x r (A++⟨c.Target,ia x.ID f lay⟩::B)) a n:=fun⟨s,hs,ha,y,hy,hn⟩=>by
  obtain⟨s',g1,g2,y',g3,g4,_⟩:=keep s hs y hy;exact⟨s',g1,g2.trans ha,y',g3,g4.trans hn⟩
 have newL:GV (Dd t i x r (A++⟨c.Target,ia x.ID f lay⟩::B)) c.Target x.ID:=⟨_,hnS,rfl,_,hnw,rfl⟩;have exold:∀s∈t.Stacks,∀l∈s.Layers,∀y∈t.Txns.set i ⟨x.ID,x.Born,x.Client,x.Seq,x.Calls,x.Done+1,r⟩,y.ID=l.Txn_->(∃c∈y.Calls.take y.Done.toNat,c.Target=s.Actor)/\(l.Prepared=true->y.Done=y.Calls.length):=fun s hs l hl y hy hyl=>by
  rcases hT hy with rfl|⟨q1,q2⟩
  .have hnp:=e.np h hs hl hyl.symm;obtain⟨⟨c',g1,g2⟩,_⟩:=(h.st s hs).ex l hl x hx hyl;refine⟨⟨c',?_,g2⟩,fun q=>by rw[hnp]at q;cases q⟩;show c'∈x.Calls.take (x.Done+1).toNat;obtain⟨j,hj⟩:=cC g1;rw[nt]at hj;split at hj
   .exact cd (i:=j) (by rw[nt,if_pos oZg];exact hj)
   .cases hj
  .exact(h.st s hs).ex l hl y q1 hyl
 have svold:∀s∈t.Stacks,SV (Dd t i x r (A++⟨c.Target,ia x.ID f lay⟩::B)) s:=fun s hs=>
  ⟨(h.st s hs).ne,fun l hl=>hids ▸(h.st s hs).id l hl,(h.st s hs).fi,(h.st s hs).up,exold s hs⟩
 refine⟨⟨fun y hy=>?_,?_,?_⟩,h.lk,?_,fun s hs=>?_,fun y hy c' hc'=>?_,fun l hl=>?_,?_⟩
 .rcases hT hy with rfl|⟨q,_⟩
  .exact⟨⟨hX.i1,hX.i2,hX.c1,hX.c2,by simp only;omega,by simp only;omega,hr,hX.ca⟩,hR.1,hR.2.1,hR.2.2.1,hR.2.2.2.1,hR.2.2.2.2.1,hR.2.2.2.2.2.1,fun q=>by simp only at q;omega⟩
  .exact h.tx.x y q
 .have hso:=h.tx.so;have:=(nW (f:=Txn.ID) (R:=fun a b:Int=>a<b)).2 hso;rw[<-ZB e.hi (y:=⟨x.ID,x.Born,x.Client,x.Seq,x.Calls,x.Done+1,r⟩) rfl]at this;exact nW.1 this
 .show(t.Txns.set i _).length<=32;rw[cL];exact h.tx.len
 .show(A++⟨c.Target,ia x.ID f lay⟩::B).Pairwise _;have hss:=h.ss;have hAB:(A++B).Pairwise fun a b=>rl a.Actor b.Actor=true:=by
   rcases hsp with q|⟨q,_⟩
   .rw[q]at hss;exact hss.sublist (List.Sublist.append_left (List.sublist_cons_self _ _) _)
   .rwa[q]at hss
  obtain⟨g1,g2,g3⟩:=n5.1 hAB;refine n5.2 ⟨g1,nV.2 ⟨fun s hs=>hB s hs,g2⟩,fun a ha b hb=>?_⟩;rcases cF.1 hb with rfl|hb
  .exact hA a ha
  .exact g3 a ha b hb
 .simp only[Dd,cJ,cF]at hs;rcases hs with hs|rfl|hs
  .exact svold s (hAS s hs)
  .have hbase:∀y∈base,(⟨c.Target,lay⟩:aa)∈t.Stacks/\y∈lay:=fun y hy=>by
    have:=(hP.old y hy).1;rcases hlay with q|q
    .rw[q]at this;cases this
    .exact⟨q,this⟩
   have hin:∀{y:aj},y∈ia x.ID f lay->y∈base∨y=⟨x.ID,f,false⟩:=fun hy=>by
    rw[hP.new]at hy;simpa using hy
   refine⟨by rw[hP.new];simp,fun l hl=>?_,fun l hl=>?_,fun j l hj hp=>?_,fun l hl y hy hyl=>?_⟩
   .rw[hids];rcases hin hl with q|rfl
    .exact(h.st _ (hbase l q).1).id l (hbase l q).2
    .exact E6 e.hi
   .rcases hin hl with q|rfl
    .exact(h.st _ (hbase l q).1).fi l (hbase l q).2
    .exact hf
   .simp only[hP.new]at hj ⊢;rcases nN j base.length with q|q
    .rw[na q]at hj;have:=(hP.old l (cd hj)).2.2;rw[hp]at this;cases this
    .have hjl:=(cg.1 hj).1;simp at hjl;have:j=base.length:=oZg;subst this;simp only[nc,List.length_singleton,true_and];simp at hj;exact⟨k,e.hk,e.ka,by rw[<-hj];exact e.ko⟩
   .rcases hin hl with q|rfl
    .exact exold _ (hbase l q).1 l (hbase l q).2 y hy hyl
    .refine⟨?_,fun q=>by cases q⟩;rcases hT hy with rfl|⟨_,q⟩
     .refine⟨c,?_,rfl⟩;show c∈x.Calls.take (x.Done+1).toNat;exact cd (i:=x.Done.toNat) (by rw[nt,if_pos oZg];exact e.hc)
     .exact absurd hyl q
  .exact svold s (hBS s hs)
 .rcases hT hy with rfl|⟨q,_⟩
  .have hc2:c'∈x.Calls.take (x.Done+1).toNat:=hc';obtain⟨j,hj⟩:=cC hc2;rw[nt]at hj;split at hj
   .rename_i hlt;rcases nN j x.Done.toNat with q|q
    .exact keepL (h.pr x hx c' (cd (i:=j) (by rw[nt,if_pos q];exact hj)))
    .have:j=x.Done.toNat:=oZg;rw[this,e.hc]at hj;simp only[cc]at hj;rw[<-hj];exact newL
   .cases hj
  .exact keepL (h.pr y q c' hc')
 .have hL:=h.lp l hl;have oldat:At x l.Actor->c.Target=l.Actor:=fun⟨c2,g1,g2⟩=>by
   rw[e.hc]at g1;simp only[cc]at g1;rw[g1];exact g2
  have hasx:x.ID=l.Owner->GV t l.Actor x.ID∨c.Target=l.Actor:=fun q=>(hL.op x hx q e.dn).imp_right oldat;refine⟨hids▸hL.ow,fun w hw=>hids▸hL.wa w hw,fun y hy hyo hd=>?_,fun y hy hyo hd=>?_,fun y hy hw=>?_⟩
  .rcases hT hy with rfl|⟨q,_⟩
   .rcases hasx hyo with⟨s,hs,ha,z,hz,hn⟩|q
    .obtain⟨s',g1,g2,z',g3,g4,g5⟩:=keep s hs z hz;exact⟨s',g1,g2.trans ha,z',g3,g4.trans hn,g5.trans (e.np h hs hz hn)⟩
    .exact⟨_,hnS,q,_,hnw,rfl,rfl⟩
   .obtain⟨s,hs,ha,z,hz,hn,hp⟩:=hL.dn y q hyo hd;obtain⟨s',g1,g2,z',g3,g4,g5⟩:=keep s hs z hz;exact⟨s',g1,g2.trans ha,z',g3,g4.trans hn,g5.trans hp⟩
  .rcases hT hy with rfl|⟨q,_⟩
   .rcases hasx hyo with q|q
    .exact .inl (keepL q)
    .exact .inl (q▸newL)
   .exact(hL.op y q hyo hd).imp_left keepL
  .rcases hT hy with rfl|⟨q,_⟩
   .exfalso;have hat:=oldat (hL.wt x hx hw).2;have:=UM h.lk e.hk hl (e.ka.trans hat);subst this;have:=((h.lk.l k e.hk).w x.ID hw).2;rw[e.ko]at this;omega
   .exact hL.wt y q hw
 .obtain⟨rk,hrk⟩:=h.ac;obtain⟨M,hM⟩:∃M,∀n∈ids t,rk n<=M:=by
   generalize ids t=l
   induction l with
   | nil=>exact⟨0,oZk⟩
   | cons a l ih=>
    obtain⟨M,hM⟩:=ih;refine⟨max M (rk a),fun n hn=>?_⟩;rcases cF.1 hn with rfl|hn
    .exact xy _ _
    .exact nq (hM n hn) (xI _ _)
  refine⟨fun n=>if n=x.ID then M+1 else rk n,fun s hs=>?_⟩;have old:∀s∈t.Stacks,Rk (fun n=>if n=x.ID then M+1 else rk n) s:=fun s hs=>by
   unfold Rk;rw[cV];intro a b ha hb hab;have hlt:=cV.1 (hrk s hs) a b ha hb hab;have hane:s.Layers[a].Txn_≠x.ID:=fun q=>by
    have:=((h.st s hs).up a _ (cj ha) (e.np h hs (nx ha) q)).1;omega
   simp only[hane,if_false];split
   .have:=hM _ ((h.st s hs).id _ (nx ha));omega
   .exact hlt
  simp only[Dd,cJ,cF]at hs;rcases hs with hs|rfl|hs
  .exact old s (hAS s hs)
  .unfold Rk;simp only[hP.new];refine n5.2 ⟨?_,oZk,fun a ha b hb=>?_⟩
   .rcases hlay with q|q
    .have:base=[]:=by rw[q]at hP;exact List.sublist_nil.1 hP.sub
     rw[this];exact .nil
    .exact(old _ q).sublist hP.sub
   .simp only[cK]at hb;subst hb;simp only[if_true,(hP.old a ha).2.1,if_false];rcases hlay with q|q
    .rw[q]at hP;have:=(hP.old a ha).1;cases this
    .have:=hM _ ((h.st _ q).id a (hP.old a ha).1);omega
  .exact old s (hBS s hs)
end
def ad8{t:ae}(h:TV t){x:Txn}(hx:x∈t.Txns)(hd:x.Done=x.Calls.length){j:Nat}{s:aa}(hj:t.Stacks[j]?=some s){y:aj}(hy:s.Layers[s.Layers.length-1]?=some y)(hn:y.Txn_=x.ID)(hp:y.Prepared=false)
  {k:ai} (hk:k∈t.Locks) (hka:k.Actor=s.Actor) {L:List ai} (hv:VT L) (h1:∀l'∈L,(l'∈t.Locks/\l'.Actor≠s.Actor)∨(l'.Actor=k.Actor/\l'.Owner∈k.Waiters/\∀w∈l'.Waiters,w∈k.Waiters)) (h2:∀l∈t.Locks,l.Actor≠s.Actor->l∈L):
  TV ⟨t.Txns,L,t.Stacks.set j ⟨s.Actor,s.Layers.set (s.Layers.length-1) ⟨y.Txn_,y.Fields,true⟩⟩⟩:=by
 have hs:=cd hj;have hS:=h.st s hs;have hym:=cd hy;have hne:∀{s':aa} {i:Nat},i≠j->t.Stacks[i]?=some s'->s'.Actor≠s.Actor:=fun{s' i} hi q e=>by
  have:=pY h.ss hj (cd q) e;obtain⟨g1,rfl⟩:=cg.1 q;obtain⟨g2,g3⟩:=cg.1 hj;have hp:=cV.1 h.ss;rcases nZ i j with q2|q2|q2
  .have:=hp i j g1 g2 q2;rw[g3,e,dq]at this;cases this
  .exact hi q2
  .have:=hp j i g2 g1 q2;rw[g3,e,dq]at this;cases this
 have hin:∀{s':aa},s'∈t.Stacks.set j ⟨s.Actor,s.Layers.set (s.Layers.length-1) ⟨y.Txn_,y.Fields,true⟩⟩->s'=⟨s.Actor,s.Layers.set (s.Layers.length-1) ⟨y.Txn_,y.Fields,true⟩⟩∨(s'∈t.Stacks/\s'.Actor≠s.Actor):=fun hs'=>by
  rcases KB hj hs' with q|⟨i,hi,q⟩
  .exact .inl q
  .exact .inr ⟨cd q,hne hi q⟩
 have hto:∀{s':aa},s'∈t.Stacks->s'.Actor≠s.Actor->s'∈t.Stacks.set j ⟨s.Actor,s.Layers.set (s.Layers.length-1) ⟨y.Txn_,y.Fields,true⟩⟩:=fun{s'} hs' q=>by
  obtain⟨i,hi⟩:=cC hs';have:j≠i:=fun e=>by rw[<-e,hj]at hi;simp only[cc]at hi;exact q (hi▸rfl)
  exact cd (i:=i) (by rw[xb this];exact hi)
 have hnew:(⟨s.Actor,s.Layers.set (s.Layers.length-1) ⟨y.Txn_,y.Fields,true⟩⟩:aa)∈t.Stacks.set j ⟨s.Actor,s.Layers.set (s.Layers.length-1) ⟨y.Txn_,y.Fields,true⟩⟩:=
  cd (i:=j) (by rw[aiU (cg.1 hj).1])
 have hlay:∀{l:aj},l∈s.Layers.set (s.Layers.length-1) ⟨y.Txn_,y.Fields,true⟩->l=⟨y.Txn_,y.Fields,true⟩∨(l∈s.Layers/\l.Prepared=true):=fun{l} hl=>by
  rcases KB hy hl with q|⟨i,hi,q⟩
  .exact .inl q
  .refine .inr ⟨cd q,?_⟩;cases hpp:l.Prepared with
   | true=>rfl
   | false=>have:=(hS.up i l q hpp).1;omega
 have keepL:∀{a:Ref} {n:Int},GV t a n->GV ⟨t.Txns,L,t.Stacks.set j ⟨s.Actor,s.Layers.set (s.Layers.length-1) ⟨y.Txn_,y.Fields,true⟩⟩⟩ a n:=fun⟨s',hs',ha,z,hz,hzn⟩=>by
  by_cases q:s'.Actor=s.Actor
  .have:=pY h.ss hj hs' q;subst this;refine⟨_,hnew,ha,?_⟩;obtain⟨i,hi⟩:=cC hz;by_cases e:i=s'.Layers.length-1
   .subst e;rw[hi]at hy;simp only[cc]at hy;exact⟨⟨y.Txn_,y.Fields,true⟩,cd (i:=s'.Layers.length-1) (by rw[aiU (cg.1 hi).1]),by rw[<-hy];exact hzn⟩
   .exact⟨z,cd (i:=i) (by rw[xb (fun q=>e q.symm)];exact hi),hzn⟩
  .exact⟨s',hto hs' q,ha,z,hz,hzn⟩
 refine⟨⟨h.tx.x,h.tx.so,h.tx.len⟩,hv,?_,fun s' hs'=>?_,fun z hz c hc=>keepL (h.pr z hz c hc),fun l hl=>?_,?_⟩
 .have:=(nW (f:=aa.Actor) (R:=fun a b=>rl a b=true)).2 h.ss;have e:(t.Stacks.set j ⟨s.Actor,s.Layers.set (s.Layers.length-1) ⟨y.Txn_,y.Fields,true⟩⟩).map aa.Actor=t.Stacks.map aa.Actor:=by rw[xS];exact yN (by rw[cz,hj];rfl)
  rw[<-e]at this;exact nW.1 this
 .rcases hin hs' with rfl|⟨q,qa⟩
  .refine⟨fun e=>hS.ne (by have:=congrArg List.length e;simpa using this),fun l hl=>?_,fun l hl=>?_,fun i l hi hlp=>?_,fun l hl z hz e=>?_⟩
   .rcases hlay hl with rfl|⟨q,_⟩
    .exact hS.id y hym
    .exact hS.id l q
   .rcases hlay hl with rfl|⟨q,_⟩
    .exact hS.fi y hym
    .exact hS.fi l q
   .exfalso;rcases hlay (cd hi)with rfl|⟨_,q⟩
    .cases hlp
    .rw[hlp]at q;cases q
   .rcases hlay hl with rfl|⟨q,_⟩
    .obtain⟨g1,_⟩:=hS.ex y hym z hz e;refine⟨g1,fun _=>?_⟩;have:z=x:=h.tx.uniq hz hx (e.trans hn);rw[this];exact hd
    .exact hS.ex l q z hz e
  .have hS':=h.st s' q;exact⟨hS'.ne,hS'.id,hS'.fi,fun i l hi hlp=>by
    obtain⟨g1,k',g2,g3,g4⟩:=hS'.up i l hi hlp;exact⟨g1,k',h2 k' g2 (g3▸qa),g3,g4⟩,hS'.ex⟩
 .rcases h1 l hl with⟨q,qa⟩|⟨qa,qo,qw⟩
  .have hL:=h.lp l q;refine⟨hL.ow,hL.wa,fun z hz e hzd=>?_,fun z hz e hzd=>(hL.op z hz e hzd).imp_left keepL,hL.wt⟩;obtain⟨s',g1,g2,g3⟩:=hL.dn z hz e hzd;exact⟨s',hto g1 (g2▸qa),g2,g3⟩
  .have hL:=h.lp k hk;refine⟨hL.wa _ qo,fun w hw=>hL.wa w (qw w hw),fun z hz e hzd=>?_,fun z hz e _=>.inr (qa ▸(hL.wt z hz (e▸qo)).2),fun z hz hw=>qa▸hL.wt z hz (qw _ hw)⟩;have:=(hL.wt z hz (e▸qo)).1;omega
 .obtain⟨r,hr⟩:=h.ac;refine⟨r,fun s' hs'=>?_⟩;rcases hin hs' with rfl|⟨q,_⟩
  .have:=(nW (f:=aj.Txn_) (R:=fun a b=>r a<r b)).2 (hr s hs);have e:(s.Layers.set (s.Layers.length-1) ⟨y.Txn_,y.Fields,true⟩).map aj.Txn_=s.Layers.map aj.Txn_:=by rw[xS];exact yN (by rw[cz,hy];rfl)
   rw[<-e]at this;exact(nW (f:=aj.Txn_) (R:=fun a b=>r a<r b)).1 this
  .exact hr s' q
def US{w:List Int}(h:w.length≠0):vL w∈w:=cd (Gi h)
def TS{n:Int}:∀{t:List ai} {y:ai},y∈(jb n t).1->∃x∈t,y.Actor=x.Actor/\(∀w∈y.Waiters,w∈x.Waiters)/\((y.Owner=x.Owner/\x.Owner≠n)∨y.Owner∈x.Waiters)
 | z::t,y,h=>by
  simp only[jb]at h;have ih:∀{y:ai},y∈(jb n t).1->∃x∈z::t,y.Actor=x.Actor/\(∀w∈y.Waiters,w∈x.Waiters)/\((y.Owner=x.Owner/\x.Owner≠n)∨y.Owner∈x.Waiters):=fun q=>by
   obtain⟨x,g1,g2⟩:=TS q;exact⟨x,by simp[g1],g2⟩
  split at h
  .split at h
   .exact ih h
   .rename_i e;rcases cF.1 h with rfl|h
    .exact⟨z,oZk,rfl,fun w hw=>nJ hw,.inr (US e)⟩
    .exact ih h
  .rename_i e;rcases cF.1 h with rfl|h
   .exact⟨y,oZk,rfl,fun w hw=>hw,.inl ⟨rfl,e⟩⟩
   .exact ih h
def Pu{n:Int}:∀{t:List ai} {x:ai},x∈t->x.Owner≠n->x∈(jb n t).1
 | z::t,x,h,hn=>by
  simp only[jb];rcases cF.1 h with rfl|h
  .rw[if_neg hn];simp
  .split
   .split
    .exact Pu h hn
    .exact ajj _ (Pu h hn)
   .exact ajj _ (Pu h hn)
def Hu(D:List Int)(t:List ai):List ai:=D.foldl (fun l n=>l.map (wd1 n)) t
def Ea(D:List Int)(t:List ai):List ai:=D.foldl (fun l n=>(jb n l).1) t
def LQ:∀{D:List Int} {t:List ai},VT t->VT (Hu D t)
 | [],t,h=>h
 | n::D,t,h=>by unfold Hu;rw[xA];exact LQ (D:=D) (ZZ h n)
def U9:∀{D:List Int} {t:List ai},VT t->VT (Ea D t)
 | [],t,h=>h
 | n::D,t,h=>by unfold Ea;rw[xA];exact U9 (D:=D) (Ud h n)
def Ro:∀{D:List Int} {t:List ai} {y:ai},y∈Hu D t->∃x∈t,y.Actor=x.Actor/\y.Owner=x.Owner/\∀w∈y.Waiters,w∈x.Waiters/\w∉D
 | [],t,y,h=>⟨y,h,rfl,rfl,fun w hw=>⟨hw,oZk⟩⟩
 | n::D,t,y,h=>by
  unfold Hu at h;rw[xA]at h;obtain⟨x,g1,g2,g3,g4⟩:=Ro (D:=D) h;obtain⟨z,q1,rfl⟩:=cH.1 g1;refine⟨z,q1,g2,g3,fun w hw=>?_⟩;obtain⟨q2,q3⟩:=g4 w hw;obtain⟨q4,q5⟩:=nT.1 q2;exact⟨q4,by simp only[neB,ny,decide_eq_false_iff_not]at q5;simp[q3,q5]⟩
def XB:∀{D:List Int} {t:List ai} {x:ai},x∈t->∃y∈Hu D t,y.Actor=x.Actor/\y.Owner=x.Owner
 | [],t,x,h=>⟨x,h,rfl,rfl⟩
 | n::D,t,x,h=>by
  unfold Hu;rw[xA];obtain⟨y,g1,g2,g3⟩:=XB (D:=D) (cH.2 ⟨x,h,rfl⟩:wd1 n x∈t.map (wd1 n));exact⟨y,g1,g2,g3⟩
def U3{X:List Int}:∀{D:List Int} {t:List ai} {y:ai},(∀x∈t,∀w∈x.Waiters,w∉X)->(∀n∈D,n∈X)->y∈Ea D t->∃x∈t,y.Actor=x.Actor/\(∀w∈y.Waiters,w∈x.Waiters)/\((y.Owner=x.Owner/\x.Owner∉D)∨y.Owner∈x.Waiters)
 | [],t,y,_,_,h=>⟨y,h,rfl,fun w hw=>hw,.inl ⟨rfl,oZk⟩⟩
 | n::D,t,y,hw,hD,h=>by
  unfold Ea at h;rw[xA]at h;obtain⟨x,g1,g2,g3,g4⟩:=U3 (D:=D) (fun x hx w hw'=>by
   obtain⟨z,q1,_,q3,_⟩:=TS hx;exact hw z q1 w (q3 w hw')) (fun m hm=>hD m (by simp[hm])) h
  obtain⟨z,q1,q2,q3,q4⟩:=TS g1;refine⟨z,q1,g2.trans q2,fun w hw'=>q3 w (g3 w hw'),?_⟩;rcases g4 with⟨g4,g5⟩|g4
  .rcases q4 with⟨q4,q5⟩|q4
   .exact .inl ⟨g4.trans q4,by rw[<-q4];simp[g5];rw[q4];exact q5⟩
   .exact .inr (g4▸q4)
  .exact .inr (q3 _ g4)
def UW:∀{D:List Int} {t:List ai} {x:ai},x∈t->x.Owner∉D->x∈Ea D t
 | [],t,x,h,_=>h
 | n::D,t,x,h,hn=>by
  unfold Ea;rw[xA];simp only[cF,not_or]at hn;exact UW (D:=D) (Pu h hn.1) hn.2
def abL(D:List Int)(t:List ai):List ai:=Ea D (Hu D t)
def afJ{t:ae}(h:TV t)(D:List Int):Lks t D (abL D t.Locks):=by
 refine⟨U9 (LQ h.lk),fun l' hl'=>?_,fun l hl hn=>?_⟩
 .obtain⟨x,g1,g2,g3,g4⟩:=U3 (X:=D) (fun x hx w hw=>by
   obtain⟨z,_,_,_,q⟩:=Ro hx;exact(q w hw).2) (fun n hn=>hn) hl'
  obtain⟨z,q1,q2,q3,q4⟩:=Ro g1;refine⟨z,q1,g2.trans q2,?_,fun w hw=>(q4 w (g3 w hw)).1,?_,fun w hw=>(q4 w (g3 w hw)).2⟩
  .rcases g4 with⟨g4,_⟩|g4
   .exact .inl (g4.trans q3)
   .exact .inr (q4 _ g4).1
  .rcases g4 with⟨g4,g5⟩|g4
   .rw[g4];exact g5
   .exact(q4 _ g4).2
 .obtain⟨y,g1,g2,g3⟩:=XB (D:=D) hl;exact⟨y,UW g1 (g3▸hn),g2,g3⟩
def lpR(a b:Ref):Prop:=rl a b=true
def leR(a b:Ref):Prop:=¬lpR b a
instance (a b:Ref):Decidable (lpR a b):=by unfold lpR;infer_instance
def lR{a b:Ref}:(sEq a.Type_ b.Type_&&sEq a.Key b.Key)=true↔a=b:=KG
def WY(a:Ref):leR a a:=by unfold leR lpR;rw[dq];simp
def RC{y p c:Ref}(h1:leR y p)(h2:leR p c)(h3:¬c=p):lpR y c:=by
 unfold leR lpR at *;have q:rl p c=true:=by
  rcases K3 p c with q|q|q
  .exact q
  .exact absurd q.symm h3
  .exact absurd q h2
 rcases K3 y p with g|g|g
 .exact uR g q
 .rw[g];exact q
 .exact absurd g h1
def af9(N:Nat){l:List Ref}(hl:l.length<=100000):∃o,Jn (fun x y=>jF N x y) l=some o/\o.Perm l/\o.Pairwise leR:=by
 have hlt:∀x y,Go.Proofs.ltOf (fun x y=>(jF N x y).getD 0) x y=rl x y:=by intro x y;rw[xr];simp only[Go.Proofs.ltOf,Db,nB,decide_eq_true_eq,E7]
 obtain⟨o,ho⟩:=adf (c:=fun x y=>jF N x y) (l:=l) (fun x y=>⟨_,Db N x y⟩) ⟨fun x=>by rw[hlt];exact dq x,fun x y z h1 h2=>by rw[hlt]at h1 h2 ⊢;exact uR h1 h2,fun x y z h1 h2=>by
  rw[hlt]at h1 h2 ⊢;cases q:rl x z with
  | false=>rfl
  | true=>
   rcases K3 y x with g|g|g
   .have:=uR g q;rw[h2]at this;cases this
   .rw[g,q]at h2;cases h2
   .rw[h1]at g;cases g⟩ oZg
 obtain⟨hp,hs⟩:=Qu ho;refine⟨o,ho,hp,hs.imp (fun{a b} q=>?_)⟩;rw[Db,nB,E7]at q;exact q
structure VI (a l:List Ref) (k j:Nat):Prop where
 len:l.length=a.length
 kj:k<=j
 jl:j<=a.length
 j1:1<=j
 so:(l.take k).Pairwise lpR
 mem:∀z,z∈l.take k↔z∈a.take j
 rest:∀i,j<=i+1->l[i]?=a[i]?
 kj':k<=j
theorem JX(a:List Ref)(hs:a.Pairwise leR)(ha:a.length<=100000)(v3:Nat)(h1:1<=v3)(kx:List Ref->Int->Option (List Ref)):
  ∀(n:Nat) (l:List Ref) (k m:Nat),a.length<v3+m+n->1<=m->VI a l k (v3+m)->k<v3+m->∃l' k',VI a l' k' a.length/\fW a v3 kx n (l,(k:Int),(m:Int))=kx l' ((k':Nat):Int)
 | 0,l,k,m,hn,hm,h,hk=>by have:=h.jl;omega
 | n+1,l,k,m,hn,hm,h,hk=>by
  have hl:=h.len;have hj:=h.jl;rw[fW];by_cases hlt:v3+m<a.length
  .rw[if_pos oZg];have e1:l[v3+m]?=a[v3+m]?:=h.rest _ oZg;have e2:l[v3+(m-1)]?=a[v3+(m-1)]?:=h.rest _ oZg;have g1:((l.drop v3).take (a.length-v3))[m]?=some a[v3+m]:=by rw[xi oZg,nz,e1,cj hlt]
   have g2:((l.drop v3).take (a.length-v3))[m-1]?=some (a[v3+(m-1)]'oZg):=by rw[xi oZg,nz,e2,cj oZg]
   rw[aw g1,w64 oZg oZg,show((m:Int)-1)=((m-1:Nat):Int) by omega,aw g2,w64 (n:=(m:Int)+1) oZg oZg,show((m:Int)+1)=((m+1:Nat):Int) by omega];have htk:∀z,z∈a.take (v3+m+1)↔z∈a.take (v3+m)∨z=a[v3+m]:=by intro z;rw[xp,cj hlt,cJ,xF,cK]
   have hprev:(a[v3+(m-1)]'oZg)∈a.take (v3+m):=by refine cd (i:=v3+(m-1)) ?_;rw[xi oZg,cj oZg]
   by_cases e:a[v3+m]=(a[v3+(m-1)]'oZg)
   .rw[if_pos (lR.2 e)];refine JX a hs ha v3 h1 kx n l k (m+1) oZg oZg ⟨hl,by have:=h.kj;omega,oZg,oZg,h.so,fun z=>?_,fun i hi=>h.rest i oZg,oZg⟩ oZg;rw[h.mem,<-nw,htk];constructor
    .exact .inl
    .rintro(q|q)
     .exact q
     .rw[q,e];exact hprev
   .rw[if_neg (fun q=>e (lR.1 q))];have hkl:k<l.length:=oZg;rw[aw (cj hkl),w64 (n:=(k:Int)+1) oZg oZg,show((k:Int)+1)=((k+1:Nat):Int) by omega,cu];refine JX a hs ha v3 h1 kx n (l.set k a[v3+m]) (k+1) (m+1) oZg oZg ⟨by simp[hl],oZg,oZg,oZg,?_,fun z=>?_,fun i hi=>?_,oZg⟩ oZg
    .rw[CO hkl,n5];refine⟨h.so,oZk,fun y hy z hz=>?_⟩;obtain rfl:=cK.1 hz;have hy':=(h.mem y).1 hy;obtain⟨i,hi⟩:=nS.1 hy';have hil:=(cg.1 hi).1;simp only[nC]at hil;rw[xi oZg,cj oZg,cc]at hi;have hp1:leR (a[v3+(m-1)]'oZg) a[v3+m]:=cV.1 hs _ _ oZg hlt oZg;rcases nN i (v3+(m-1))with q|q
     .have h1:=cV.1 hs i (v3+(m-1)) oZg oZg q;rw[hi]at h1;exact RC h1 hp1 e
     .have:i=v3+(m-1):=oZg;subst this;rw[hi]at hp1 e;exact RC (WY _) hp1 e
    .rw[CO hkl,cJ,cK,h.mem,<-nw,htk]
    .rw[xb oZg];exact h.rest i oZg
  .rw[if_neg oZg];have:v3+m=a.length:=oZg;rw[this]at h;exact⟨l,k,h,rfl⟩
def YU{a l:List Ref}{k:Nat}(h:VI a l k a.length):kO l (k:Int)=some (l.take k):=by
 have h1:=h.len;have h2:=h.kj;unfold kO slx;rw[cu,if_pos ⟨oZg,oZg,oZg,oZg⟩];dsimp only;rw[if_pos ⟨oZg,oZg,oZg,by rw[TL oZg];omega⟩];try dsimp only
 rw[QC oZg]
def Qi(N:Nat)(a:List Ref)(hs:a.Pairwise leR)(ha:a.length<=100000)(hN:100002<=N):∀(m v:Nat),v+m=a.length->1<=v->(a.take v).Pairwise lpR->∃r,jd a N m v ()=some r/\r.Pairwise lpR/\∀z,z∈r↔z∈a
 | 0,v,hv,h1,hp=>⟨a,rfl,by rwa[cT oZg]at hp,fun z=>xL⟩
 | m+1,v,hv,h1,hp=>by
  have hvl:v<a.length:=oZg;have g1:a[v]?=some a[v]:=cj hvl;have g2:a[v-1]?=some (a[v-1]'oZg):=cj oZg;have hprev:(a[v-1]'oZg)∈a.take v:=by refine cd (i:=v-1) ?_;rw[xi oZg,g2]
  have htk:∀z,z∈a.take (v+1)↔z∈a.take v∨z=a[v]:=by intro z;rw[xp,g1,cJ,xF,cK]
  rw[jd,aw g1,w64 oZg oZg,show((v:Int)-1)=((v-1:Nat):Int) by omega,aw g2];by_cases e:a[v]=(a[v-1]'oZg)
  .rw[if_pos (lR.2 e)];unfold slx;rw[if_pos ⟨oZg,oZg,oZg,oZg⟩];dsimp only;have hc:VI a a v (v+1):=⟨rfl,oZg,oZg,oZg,hp,fun z=>by
    rw[htk];constructor
    .exact .inl
    .rintro(q|q)
     .exact q
     .rw[q,e];exact hprev,fun i _=>rfl,oZg⟩
   obtain⟨l',k',h',e'⟩:=JX a hs ha v h1 kO N a v 1 oZg oZg hc oZg;rw[show(1:Int)=((1:Nat):Int)from rfl,e',YU h'];exact⟨_,rfl,h'.so,fun z=>by rw[h'.mem,cT (ck _)]⟩
  .rw[if_neg (fun q=>e (lR.1 q))];refine Qi N a hs ha hN m (v+1) oZg oZg ?_;rw[xp,g1,xF,n5];refine⟨hp,oZk,fun y hy z hz=>?_⟩;obtain rfl:=cK.1 hz;obtain⟨i,hi⟩:=nS.1 hy;have hil:=(cg.1 hi).1;simp only[nC]at hil;rw[xi oZg,cj oZg,cc]at hi;have hp1:leR (a[v-1]'oZg) a[v]:=cV.1 hs _ _ oZg hvl oZg;rcases nN i (v-1)with q|q
   .have h1:=cV.1 hs i (v-1) oZg oZg q;rw[hi]at h1;exact RC h1 hp1 e
   .have:i=v-1:=oZg;subst this;rw[hi]at hp1 e;exact RC (WY _) hp1 e
def Yw(N:Nat)(hN:100002<=N)(a:List Ref)(hs:a.Pairwise leR)(ha:a.length<=100000):∃r,kQ N a=some r/\r.Pairwise lpR/\∀z,z∈r↔z∈a:=by
 unfold kQ;by_cases h:((a.length:Nat):Int)< 2
 .rw[if_pos h];refine⟨a,rfl,?_,fun z=>xL⟩
  match a,h with
  | [],_=>exact List.Pairwise.nil
  | [x],_=>simp
  | _::_::_,h=>simp at h;omega
 .rw[if_neg h];refine Qi N a hs ha hN (a.length-1) 1 oZg oZg ?_
  match a,h with
  | x::xs,_=>simp
def uf(N:Nat)(hN:100002<=N){x:Txn}(h1:1<=x.Calls.length)(h2:x.Calls.length<=4):∃r,fD N x=some r/\r.Pairwise lpR/\∀a,a∈r↔∃c∈x.Calls,c.Target=a:=by
 have loop:∀(xs:List ah) (v:Nat) (acc:List Ref),acc.length+xs.length<=1000->iX (iG N) xs v acc=iG N (acc++xs.map ah.Target):=by
  intro xs
  induction xs with
  | nil=>intro v acc _;rw[iX];simp
  | cons c xs ih=>
   intro v acc hl;simp only[cn]at hl;rw[iX,ee oZd,ih (v+1) (acc++[c.Target]) oZd];simp
 rw[fD,loop x.Calls 0 [] oZd,cO,iG];obtain⟨o,e1,e2,e3⟩:=af9 N (l:=x.Calls.map ah.Target) oZd;have hne:(x.Calls.map ah.Target).isEmpty=false:=by cases hc:x.Calls with
  | nil=>rw[hc]at h1;simp at h1
  | cons=>rfl
 have hol:=e2.length_eq;simp only[cr]at hol;rw[bk,if_neg (by rw[hne];simp),e1,cb];obtain⟨r,g1,g2,g3⟩:=Yw N hN o e3 oZg;rw[g1];exact⟨r,rfl,g2,fun a=>by rw[g3,e2.mem_iff];simp⟩
def Bc(S:List Int):List aj->Bool->Option Int
 | [],_=>none
 | y::l,c=>if c=true/\y.Txn_∉S then some y.Txn_ else Bc S l (c || decide (y.Txn_∈S))
def HG(S:List Int):List aa->Option Int
 | []=>none
 | s::l=>match Bc S s.Layers false with
  | some n=>some n
  | none=>HG S l
def Ge(t:ae)(X:List Int):Prop:=∀s∈t.Stacks,∀(i j:Nat) y z,i<j->s.Layers[i]?=some y->s.Layers[j]?=some z->y.Txn_∈X->z.Txn_∈X
def RS{S:List Int}:∀{l:List aj} {c:Bool} {n:Int},Bc S l c=some n->n∉S/\∃(j:Nat) (z:aj),l[j]?=some z/\z.Txn_=n/\(c=true∨∃(i:Nat) (y:aj),i<j/\l[i]?=some y/\y.Txn_∈S)
 | y::l,c,n,h=>by
  rw[Bc]at h;split at h
  .rename_i q;simp only[cc]at h;exact⟨h▸q.2,0,y,rfl,h,.inl q.1⟩
  .obtain⟨h1,j,z,h2,h3,h4⟩:=RS h;refine⟨h1,j+1,z,by simpa using h2,h3,?_⟩;rcases h4 with h4|⟨i,u,q1,q2,q3⟩
   .rw[nf,decide_eq_true_eq]at h4;rcases h4 with h4|h4
    .exact .inl h4
    .exact .inr ⟨0,y,oZg,rfl,h4⟩
   .exact .inr ⟨i+1,u,oZg,by simpa using q2,q3⟩
def Sh{S:List Int}:∀{l:List aj} {c:Bool},Bc S l c=none->∀(j:Nat) (z:aj),l[j]?=some z->(c=true∨∃(i:Nat) (y:aj),i<j/\l[i]?=some y/\y.Txn_∈S)->z.Txn_∈S
 | y::l,c,h,j,z,hj,hc=>by
  rw[Bc]at h;split at h
  .cases h
  .rename_i q;cases j with
   | zero=>
    simp only[cG,cc]at hj;subst hj;rcases hc with hc|⟨i,_,hi,_⟩
    .by_cases g:y.Txn_∈S
     .exact g
     .exact absurd ⟨hc,g⟩ q
    .omega
   | succ j=>
    rw[nY]at hj;refine Sh h j z hj ?_;rcases hc with hc|⟨i,u,hi,hu,hm⟩
    .exact .inl (by simp[hc])
    .cases i with
     | zero=>
      simp only[cG,cc]at hu;subst hu;exact .inl (by simp[hm])
     | succ i=>
      rw[nY]at hu;exact .inr ⟨i,u,oZg,hu,hm⟩
def SC{S:List Int}:∀{l:List aa} {n:Int},HG S l=some n->∃s∈l,Bc S s.Layers false=some n
 | s::l,n,h=>by
  rw[HG]at h;split at h
  .rename_i m q;exact⟨s,oZk,q.trans h⟩
  .obtain⟨s',g1,g2⟩:=SC h;exact⟨s',by simp[g1],g2⟩
def RV{S:List Int}:∀{l:List aa},HG S l=none->∀s∈l,Bc S s.Layers false=none
 | s::l,h,s',hs=>by
  rw[HG]at h;split at h
  .cases h
  .rename_i q;rcases cF.1 hs with rfl|hs
   .exact q
   .exact RV h s' hs
def abM(N:Nat)(rec5:Unit->Option (List Int))(S:List Int)(hS:S.length<=1000)(rec2:List Int->Option (List Int)):∀(l:List aj) (v:Nat) (c:Bool),fU rec5 N S rec2 l v c=match Bc S l c with
  | some n=>rec2 (S++[n])
  | none=>rec5 ()
 | [],v,c=>by rw[fU,Bc]
 | y::l,v,c=>by
  have ih:=abM N rec5 S hS rec2 l (v+1);have e:∀c,qj (fU rec5 N S rec2 l (v+1)) N S y c=match Bc S l (c || decide (y.Txn_∈S))with
   | some n=>rec2 (S++[n])
   | none=>rec5 ():=fun c=>by
   rw[qj,zQ,cb,ih,ih];cases c<;>simp
  rw[fU,Bc];cases c with
  | true=>
   rw[if_pos rfl,zQ,cb,qi,ee oZd];by_cases q:y.Txn_∈S
   .simp only[q,not_true_eq_false,and_false,if_false,decide_true,nv,cS];rw[e];simp[q]
   .simp[q]
  | false=>
   rw[if_neg oZk,qi,if_neg oZk,if_neg oZk];exact e false
theorem aaN(N:Nat)(k:Option (List Int))(S:List Int)(hS:S.length<=1000)(rec2:List Int->Option (List Int)):∀(l:List aa) (v:Nat),jQ k N S rec2 l v ()=match HG S l with
  | some n=>rec2 (S++[n])
  | none=>k
 | [],v=>by rw[jQ,HG]
 | s::l,v=>by
  rw[jQ,abM N _ S hS,aaN N k S hS rec2 l (v+1),HG];cases Bc S s.Layers false<;>rfl
structure Dep (t:ae) (id:Int) (D:List Int):Prop where
 nd:D.Nodup
 me:id∈D
 sub:∀n∈D,n∈ids t
 min:∀X:List Int,id∈X->Ge t X->∀n∈D,n∈X
def ad4(N:Nat){l:List Int}(h:l≠[])(hl:l.length<=1000):∃r,slices_Sort_int N l=some r/\r.Perm l/\r.Pairwise (·<=·):=by
 cases l with
 | nil=>exact absurd rfl h
 | cons x xs=>
  have hs:Jp (x::xs)=some ((x::xs).mergeSort fun x y=>decide (x<=y)):=by unfold Jp;rw[if_pos oZg]
  exact⟨_,by simp only[slices_Sort_int,List.isEmpty_cons,cS,if_false];exact hs,Qv hs⟩
def Ng(N:Nat){t:ae}(h:TV t){id:Int}:∀(k:Nat) (S:List Int),33<k+S.length->Dep t id S->∃D,mw N t k S=some D/\Dep t id D/\Ge t D/\D.Pairwise (· < ·)
 | 0,S,hk,hS=>by
  have:=px hS.nd hS.sub;have:=h.tx.len;simp[ids]at *;omega
 | k+1,S,hk,hS=>by
  have hlen:S.length<=32:=by have:=px hS.nd hS.sub;have:=h.tx.len;simp[ids]at *;omega
  rw[mw,aaN N _ S oZg];cases hg:HG S t.Stacks with
  | some n=>
   obtain⟨s,hs,hl⟩:=SC hg;obtain⟨h1,j,z,h2,h3,h4⟩:=RS hl;refine Ng N h k (S++[n]) oZd ⟨xW.2 ⟨hS.nd,oZk,fun a ha b hb=>by simp only[cK]at hb;rw[hb];exact fun e=>h1 (e▸ha)⟩,by simp[hS.me],fun m hm=>?_,fun X hX hc m hm=>?_⟩
   .rcases cJ.1 hm with hm|hm
    .exact hS.sub m hm
    .simp only[cK]at hm;rw[hm,<-h3];exact(h.st s hs).id z (cd h2)
   .rcases cJ.1 hm with hm|hm
    .exact hS.min X hX hc m hm
    .simp only[cK]at hm;rcases h4 with h4|⟨i,y,g1,g2,g3⟩
     .cases h4
     .rw[hm,<-h3];exact hc s hs i j y z g1 g2 h2 (hS.min X hX hc _ g3)
  | none=>
   obtain⟨r,e1,e2,e3⟩:=ad4 N (l:=S) (ajU hS.me) oZg;simp only[B8,e1,cb];have hnd:r.Nodup:=e2.nodup_iff.2 hS.nd;refine⟨r,rfl,⟨hnd,e2.mem_iff.2 hS.me,fun n hn=>hS.sub n (e2.mem_iff.1 hn),fun X hX hc n hn=>hS.min X hX hc n (e2.mem_iff.1 hn)⟩,fun s hs i j y z hij hi hj hy=>?_,?_⟩
   .rw[e2.mem_iff]at hy ⊢;exact Sh (RV hg s hs) j z hj (.inr ⟨i,y,hij,hi,hy⟩)
   .have:=(List.pairwise_and_iff.2 ⟨e3,hnd⟩:r.Pairwise fun a b=>a<=b/\a≠b);exact this.imp fun q=>oZg
def VH(N:Nat)(hN:100<=N){t:ae}(h:TV t){id:Int}(hid:id∈ids t):∃D,wO N t id=some D/\Dep t id D/\Ge t D/\D.Pairwise (· < ·):=by rw[wO];exact Ng N h N [id] oZd ⟨oZk,oZk,fun n hn=>by simp only[cK]at hn;rw[hn];exact hid,fun X hX _ n hn=>by simp only[cK]at hn;rw[hn];exact hX⟩
def abT(t:ae)(D:List Int):ae:=⟨t.Txns.filter fun x=>lJ D x.ID,abL D t.Locks,E9 D t.Stacks⟩
theorem Xg(N:Nat)(hN:1001<=N)(k:List ai->Option (ae×List Int×Int)):∀(D:List Int) (v:Nat) {L:List ai},VT L->A7 k N D v L=k (Hu D L)
 | [],v,L,_=>by rw[A7];rfl
 | n::D,v,L,h=>by rw[A7,agi N hN h,cb,Xg N hN k D (v+1) (ZZ h n)];rfl
theorem Xe(N:Nat)(hN:200<=N)(r:ae)(D0:List Int):∀(D:List Int) (v:Nat) {L:List ai},VT L->AW r D0 N D v L=some (⟨r.Txns,Ea D L,r.Stacks⟩,D0,0)
 | [],v,L,_=>by rw[AW];rfl
 | n::D,v,L,h=>by rw[AW,ab8 N hN h,cb,Xe N hN r D0 D (v+1) (Ud h n)];rfl
theorem IQ(N:Nat)(hN:1001<=N){t:ae}(h:TV t){id:Int}(hid:id∈ids t):∃D,lu N t id=some (abT t D,D,0)/\TV (abT t D)/\Dep t id D/\Ge t D/\D.Pairwise (· < ·):=by obtain⟨D,h1,h2,h3,h4⟩:=VH N oZg h hid;obtain⟨i,x,e,_⟩:=vf (N:=N) hid;refine⟨D,?_,X2 h (afJ h D),h2,h3,h4⟩;rw[lu,gO N oZg h,cb,if_pos rfl,e,cb,if_neg oZg,h1,cb,OB N hN h,cb,Xg N hN _ D 0 (by exact h.lk),OM,Xe N oZg _ D D 0 (LQ (by exact h.lk))];rfl
def XA(N:Nat)(hN:1001<=N){t:ae}(h:TV t){id:Int}(hid:id∉ids t):lu N t id=some (⟨[],[],[]⟩,[],6):=by
 rcases uN N t id with⟨_,e⟩|⟨i,x,_,hx,rfl⟩
 .rw[lu,gO N oZg h,cb,if_pos rfl,e,cb,if_pos oZg]
 .exact absurd (E6 hx) hid
def Iv{c:ah}(h:lO c=true):VA c.Target:=by simp only[lO,PD,cx,decide_eq_true_eq]at h;exact⟨h.1.1.1.1.1,h.1.1.1.1.2,h.1.1.1.2⟩
def emp:ae:=⟨[],[],[]⟩
structure Nx (t:ae) (i:Nat) (x:Txn) (c:ah):Prop where
 hi:t.Txns[i]?=some x
 dn:x.Done<x.Calls.length
 hc:x.Calls[x.Done.toNat]?=some c
def Eb(N:Nat){t:ae}(h:TV t)(n:Int):(∃i x c,Nx t i x c/\x.ID=n/\jU N t n=some (c,true))∨((∃c,jU N t n=some (c,false))/\∀x∈t.Txns,x.ID=n->x.Done=x.Calls.length):=by
 rcases uN N t n with⟨h1,e⟩|⟨i,x,e,hi,hid⟩
 .refine .inr ⟨⟨_,by rw[jU,e,cb,if_pos oZg,o6,if_pos rfl]⟩,fun x hx q=>absurd (cH.2 ⟨x,hx,q⟩) h1⟩
 .have hx:=(h.tx.x x (cd hi)).1;obtain⟨m,e1,e2,e3⟩:=C7 hx;by_cases q:x.Done<x.Calls.length
  .have hm:m<x.Calls.length:=oZg;have hc:x.Calls[m]?=some x.Calls[m]:=cj hm;refine .inl ⟨i,x,x.Calls[m],⟨hi,q,by rw[e2];exact hc⟩,hid,?_⟩;rw[jU,e,cb,if_neg oZg,aw hi,if_neg oZg,o6,if_neg oZd,Cn,aw hi,e1,aw hc,Iy (Rf (hx.ca _ (nx hm)))];rfl
  .refine .inr ⟨⟨_,by rw[jU,e,cb,if_neg oZg,aw hi,if_neg oZg,o6,if_pos oZd]⟩,fun y hy q2=>?_⟩;have:=h.tx.uniq hy (cd hi) (q2.trans hid.symm);rw[this];have:=hx.d2;omega
def J7(N:Nat)(hN:200<=N){t:ae}(h:TV t){id born seq:Int}{client:ByteArray}{calls:List ah}(hx:XV ⟨id,born,client,seq,calls,0,⟨0,0,⟨#[]⟩,[],[]⟩⟩/\zd ⟨id,born,client,seq,calls,0,⟨0,0,⟨#[]⟩,[],[]⟩⟩):
  (∃e,e≠0/\(t.Txns.length=32∨∃y∈t.Txns,id<=y.ID)/\iF N t id born client seq calls=some (emp,e))∨(iF N t id born client seq calls=some (⟨t.Txns++[⟨id,born,client,seq,calls,0,⟨0,0,⟨#[]⟩,[],[]⟩⟩],t.Locks,t.Stacks⟩,0)/\TV ⟨t.Txns++[⟨id,born,client,seq,calls,0,⟨0,0,⟨#[]⟩,[],[]⟩⟩],t.Locks,t.Stacks⟩):=by
 have hl:=h.tx.len;have e1:=(Km N ⟨id,born,client,seq,calls,0,⟨0,0,⟨#[]⟩,[],[]⟩⟩).is hx;have hJ3:ki N t id born client seq calls=some (⟨t.Txns++[⟨id,born,client,seq,calls,0,⟨0,0,⟨#[]⟩,[],[]⟩⟩],t.Locks,t.Stacks⟩,0):=by rw[ki,tW h,cb,Cj hx.1.bd,cb,ee oZd]
 rw[iF,gO N hN h,cb,if_pos rfl,e1,cb,yc,if_neg oZk];have fin:(∀y∈t.Txns,y.ID<id)->(∃e,e≠0/\(t.Txns.length=32∨∃y∈t.Txns,id<=y.ID)/\mf t (ki N t id born client seq calls) false=some (emp,e))∨(mf t (ki N t id born client seq calls) false=some (⟨t.Txns++[⟨id,born,client,seq,calls,0,⟨0,0,⟨#[]⟩,[],[]⟩⟩],t.Locks,t.Stacks⟩,0)/\TV ⟨t.Txns++[⟨id,born,client,seq,calls,0,⟨0,0,⟨#[]⟩,[],[]⟩⟩],t.Locks,t.Stacks⟩):=fun hlt=>by
  rw[mf,if_neg oZk];by_cases q:t.Txns.length=32
  .rw[if_pos oZg];exact .inl ⟨5,oZk,.inl q,rfl⟩
  .rw[if_neg oZg,hJ3];exact .inr ⟨rfl,acz h hx rfl hlt oZg⟩
 by_cases h0:0<t.Txns.length
 .have hg:t.Txns[t.Txns.length-1]?=some (t.Txns[t.Txns.length-1]'oZg):=cj oZg;rw[if_pos oZg,w64 oZg oZg,show((t.Txns.length:Int)-1)=((t.Txns.length-1:Nat):Int) by omega,aw hg];by_cases q:id<=(t.Txns[t.Txns.length-1]'oZg).ID
  .rw[mf,if_pos (by simp[q])];exact .inl ⟨8,oZk,.inr ⟨_,nx _,q⟩,rfl⟩
  .rw[show decide (id<=(t.Txns[t.Txns.length-1]'oZg).ID)=false by simp[q]];refine fin fun y hy=>?_;obtain⟨j,hj,rfl⟩:=aji.1 hy;rcases nN j (t.Txns.length-1)with q2|q2
   .have:=cV.1 h.tx.so j (t.Txns.length-1) hj oZg q2;omega
   .have:j=t.Txns.length-1:=oZg;subst this;omega
 .rw[if_neg oZg];refine fin fun y hy=>?_;have:=ajk hy;omega
inductive Acq (t:List ai) (a:Ref) (n:Int):List ai×Int×Int->Prop where
 | own {k:ai} (hk:k∈t) (ha:k.Actor=a) (ho:k.Owner=n):Acq t a n (t,1,0)
 | die {k:ai} (hk:k∈t) (ha:k.Actor=a) (ho:k.Owner<n):Acq t a n (t,3,0)
 | old {k:ai} (hk:k∈t) (ha:k.Actor=a) (ho:n<k.Owner) (hw:n∈k.Waiters):Acq t a n (t,2,0)
 | full {k:ai} (hk:k∈t) (ha:k.Actor=a) (ho:n<k.Owner) (hw:n∉k.Waiters) (hl:k.Waiters.length=32):Acq t a n ([],0,5)
 | wait {i:Nat} {k:ai} (hi:t[i]?=some k) (ha:k.Actor=a) (ho:n<k.Owner) (hw:n∉k.Waiters):Acq t a n (t.set i ⟨k.Actor,k.Owner,IA k.Waiters n⟩,2,0)
 | many (hn:∀k∈t,k.Actor≠a) (hl:t.length=128):Acq t a n ([],0,5)
 | new (hn:∀k∈t,k.Actor≠a):Acq t a n (t.take (pa t a)++[⟨a,n,[]⟩]++t.drop (pa t a),1,0)
def abm{t:List ai}(h:VT t)(a:Ref)(n:Int):Acq t a n (acq t a n):=by
 unfold acq;by_cases hh:qb t a=true
 .obtain⟨k,hk,ha⟩:=qL hh;have hm:=cd hk;rw[if_pos hh,hk];simp only;by_cases e1:k.Owner=n
  .rw[if_pos e1];exact .own hm ha e1
  .rw[if_neg e1];by_cases e2:k.Owner<n
   .rw[if_pos e2];exact .die hm ha e2
   .rw[if_neg e2];by_cases e3:n∈k.Waiters
    .rw[if_pos e3];exact .old hm ha oZg e3
    .rw[if_neg e3];by_cases e4:k.Waiters.length=32
     .rw[if_pos e4];exact .full hm ha oZg e3 e4
     .rw[if_neg e4];exact .wait hk ha oZg e3
 .have hn:∀k∈t,k.Actor≠a:=fun k hk e=>hh (e ▸(DB h hk).2);rw[if_neg hh];by_cases e:t.length=128
  .rw[if_pos e];exact .many hn e
  .rw[if_neg e];exact .new hn
def abY{t:ae}(h:TV t){i:Nat}{x:Txn}{c:ah}(hx:Nx t i x c){L:List ai}{o:Int}(ha:acq t.Locks c.Target x.ID=(L,o,0)):TV ⟨t.Txns,L,t.Stacks⟩/\(o=1->∃k∈L,k.Actor=c.Target/\k.Owner=x.ID):=by
 have hxm:=cd hx.hi;have hX:=(h.tx.x x hxm).1;have hva:=Iv (hX.ca c (cd hx.hc));have hvt:VT L:=by have:=aaX h.lk hva hX.i1 hX.i2;rw[ha]at this;exact this
 have hA:=abm h.lk c.Target x.ID;rw[ha]at hA;have hxu:∀{y:Txn},y∈t.Txns->y.ID=x.ID->y.Done<y.Calls.length/\At y c.Target:=fun hy e=>by
  rw[h.tx.uniq hy hxm e];exact⟨hx.dn,c,hx.hc,rfl⟩
 cases hA with
 | own hk hka ho=>exact⟨h,fun _=>⟨_,hk,hka,ho⟩⟩
 | die hk ha ho=>exact⟨h,fun q=>by cases q⟩
 | old hk ha ho hw=>exact⟨h,fun q=>by cases q⟩
 | @wait j k hj hka ho hw=>
  have hkm:=cd hj;refine⟨UO h hvt (fun l hl=>?_) fun s hs y hy hp k' hk' e1 e2=>?_,fun q=>by cases q⟩
  .rcases KB hj hl with rfl|⟨_,_,q⟩
   .have hL:=h.lp k hkm;refine⟨hL.ow,fun w hw'=>?_,hL.dn,hL.op,fun y hy hw'=>?_⟩
    .rcases QS.1 hw' with rfl|q
     .exact E6 hx.hi
     .exact hL.wa w q
    .rcases QS.1 hw' with q|q
     .exact hka▸hxu hy q
     .exact hL.wt y hy q
   .exact h.lp l (cd q)
  .obtain⟨m,hm⟩:=cC hk';by_cases q:j=m
   .subst q;rw[hj]at hm;simp only[cc]at hm;subst hm;exact⟨⟨k.Actor,k.Owner,IA k.Waiters x.ID⟩,cd (i:=j) (by rw[aiU (cg.1 hj).1]),e1,e2⟩
   .exact⟨k',cd (i:=m) (by rw[xb q];exact hm),e1,e2⟩
 | new hn=>
  have hmem:∀{l:ai},l∈t.Locks.take (pa t.Locks c.Target)++[⟨c.Target,x.ID,[]⟩]++t.Locks.drop (pa t.Locks c.Target)↔l=⟨c.Target,x.ID,[]⟩∨l∈t.Locks:=fun{l}=>by
   have e:(l∈t.Locks)↔(l∈t.Locks.take (pa t.Locks c.Target)∨l∈t.Locks.drop (pa t.Locks c.Target)):=by rw[<-cJ,xe]
   rw[e];simp only[cJ,cK];constructor
   .rintro((q|q)|q)
    .exact .inr (.inl q)
    .exact .inl q
    .exact .inr (.inr q)
   .rintro(q|q|q)
    .exact .inl (.inr q)
    .exact .inl (.inl q)
    .exact .inr q
  refine⟨UO h hvt (fun l hl=>?_) fun s hs y hy hp k' hk' e1 e2=>⟨k',hmem.2 (.inr hk'),e1,e2⟩,fun _=>⟨_,hmem.2 (.inl rfl),rfl,rfl⟩⟩;rcases hmem.1 hl with rfl|q
  .refine⟨E6 hx.hi,oZk,fun y hy e q=>?_,fun y hy e _=>.inr (hxu hy e).2,oZk⟩;have:=(hxu hy e).1;omega
  .exact h.lp l q
inductive ago (N:Nat) (t:ae) (n:Int):Prop where
 | no (e:Int) (he:e≠0) (hq:(∀x∈t.Txns,x.ID=n->x.Done=x.Calls.length)∨∃i x c,Nx t i x c/\x.ID=n/\acq t.Locks c.Target n=([],0,5)) (h:iI N t n=some (emp,0,[],e))
 | got {i:Nat} {x:Txn} {c:ah} {L:List ai} {o:Int} (hx:Nx t i x c) (hn:x.ID=n) (ho:o=1∨o=2) (ha:acq t.Locks c.Target n=(L,o,0)) (h:iI N t n=some (⟨t.Txns,L,t.Stacks⟩,o,[],0))
 | died {i:Nat} {x:Txn} {c:ah} {k:ai} {D:List Int} (hx:Nx t i x c) (hn:x.ID=n) (hk:k∈t.Locks) (hka:k.Actor=c.Target) (ho:k.Owner<n) (h:iI N t n=some (abT t D,3,D,0)) (hT:TV (abT t D)) (hD:Dep t n D)
theorem Wt(N:Nat)(hN:1001<=N){t:ae}(h:TV t)(n:Int):ago N t n:=by
 rcases Eb N h n with⟨i,x,c,hx,hn,e⟩|⟨⟨c,e⟩,hq⟩
 .have hxm:=cd hx.hi;have hX:=(h.tx.x x hxm).1;have hva:=Iv (hX.ca c (cd hx.hc));have ha:=ab5 N oZg h.lk hva (hn▸hX.i1) (hn▸hX.i2);have e0:iI N t n=if(acq t.Locks c.Target n).2.2=0 then(if(acq t.Locks c.Target n).2.1=3 then(lu N t n).bind fun r8=>some (r8.1,(acq t.Locks c.Target n).2.1,r8.2.1,r8.2.2)else some (⟨t.Txns,(acq t.Locks c.Target n).1,t.Stacks⟩,(acq t.Locks c.Target n).2.1,[],0))else some (emp,0,[],(acq t.Locks c.Target n).2.2):=by rw[iI,gO N oZg h,cb,if_pos rfl,e,cb,if_pos rfl,ha,cb,tW h];rfl
  have hA:=abm h.lk c.Target n;generalize hg:acq t.Locks c.Target n=r at hA e0;cases hA with
  | own hk hka ho=>exact .got hx hn (.inl rfl) hg (by rw[e0];simp)
  | @die k hk hka ho=>
   obtain⟨D,d1,d2,d3,_⟩:=IQ N hN h (id:=n) (hn▸E6 hx.hi);exact .died hx hn hk hka ho (by rw[e0];simp[d1]) d2 d3
  | old hk hka ho hw=>exact .got hx hn (.inr rfl) hg (by rw[e0];simp)
  | full hk hka ho hw hl=>exact .no 5 oZk (.inr ⟨i,x,c,hx,hn,hg⟩) (by rw[e0];simp)
  | wait hi hka ho hw=>exact .got hx hn (.inr rfl) hg (by rw[e0];simp)
  | many hm hl=>exact .no 5 oZk (.inr ⟨i,x,c,hx,hn,hg⟩) (by rw[e0];simp)
  | new hm=>exact .got hx hn (.inl rfl) hg (by rw[e0];simp)
 .exact .no 6 oZk (.inl hq) (by rw[iI,gO N oZg h,cb,if_pos rfl,e,cb,if_neg oZk];rfl)
def ps(S:List aa)(a:Ref):Nat:=plc (fun s=>rl s.Actor a) S
def ZS{S:List aa}(hs:S.Pairwise fun a b=>rl a.Actor b.Actor=true)(a:Ref):aao (fun s:aa=>rl s.Actor a) S:=hs.imp fun h1 h2=>uR h1 h2
def Wz{S:List aa}(hs:S.Pairwise fun a b=>rl a.Actor b.Actor=true)(hl:S.length<=1000)(N:Nat)(a:Ref)(kx:Int->Option (Int×Bool)):
  ∀(n i j:Nat),j<i+n->i<=ps S a->ps S a<=j->j<=S.length->bf S N a kx n ((i:Int),(j:Int))=kx ((ps S a:Nat):Int)
 | 0,i,j,h1,h2,h3,h4=>oZg
 | n+1,i,j,h1,h2,h3,h4=>by
  rw[bf];by_cases hij:i<j
  .rw[if_pos oZg,WH oZg];have hm:(i+j)/ 2<S.length:=oZg;have hx:S[(i+j)/ 2]?=some S[(i+j)/ 2]:=cj hm;have hc:=zv (ZS hs a) hx;rw[aw hx,BK,Db];simp only[cb,E7];by_cases q:rl S[(i+j)/ 2].Actor a=true
   .rw[if_pos q,w64 oZg oZg];have:(i+j)/ 2<ps S a:=hc.1 q;exact Wz hs hl N a kx n ((i+j)/ 2+1) j oZg oZg h3 h4
   .rw[if_neg q];have:¬(i+j)/ 2<ps S a:=fun g=>q (hc.2 g);exact Wz hs hl N a kx n i ((i+j)/ 2) oZg h2 oZg oZg
  .rw[if_neg oZg];have:i=ps S a:=oZg;rw[this]
def Y3{S:List aa}(hs:S.Pairwise fun a b=>rl a.Actor b.Actor=true)(a:Ref):∃A B,A.length=ps S a/\(∀s∈A,rl s.Actor a=true)/\(∀s∈B,rl a s.Actor=true)/\((∃lay,S=A++⟨a,lay⟩::B)∨(S=A++B/\∀s,S[ps S a]?=some s->s.Actor≠a)):=by
 have hle:ps S a<=S.length:=K0 S;have hA:∀s∈S.take (ps S a),rl s.Actor a=true:=fun s h=>by
  obtain⟨i,hi⟩:=cC h;rw[nt]at hi;split at hi
  .exact(zv (ZS hs a) hi).2 (by unfold ps at *;omega)
  .cases hi
 have hB:∀(i:Nat) s,ps S a<=i->S[i]?=some s->rl s.Actor a=false:=fun i s hi h=>by
  cases q:rl s.Actor a with
  | false=>rfl
  | true=>have:=(zv (ZS hs a) h).1 q;unfold ps at hi;omega
 have hlt:∀(i:Nat) s,ps S a<=i->S[i]?=some s->s.Actor≠a->rl a s.Actor=true:=fun i s hi h hne=>by
  rcases K3 s.Actor a with q|q|q
  .rw[hB i s hi h]at q;cases q
  .exact absurd q hne
  .exact q
 by_cases hq:∃s,S[ps S a]?=some s/\s.Actor=a
 .obtain⟨s,h1,h2⟩:=hq;have hl:=(cg.1 h1).1;have e:S=S.take (ps S a)++s::S.drop (ps S a+1):=by have:=xe (ps S a) S;rw[nI hl,(cg.1 h1).2]at this;exact this.symm
  refine⟨S.take (ps S a),S.drop (ps S a+1),oZd,hA,fun z hz=>?_,.inl ⟨s.Layers,by cases s;simp only at h2;subst h2;exact e⟩⟩;obtain⟨i,hi⟩:=cC hz;rw[nz]at hi;have:=cV.1 hs (ps S a) (ps S a+1+i) hl (cg.1 hi).1 oZg;rw[(cg.1 h1).2,(cg.1 hi).2,h2]at this;exact this
 .refine⟨S.take (ps S a),S.drop (ps S a),oZd,hA,fun z hz=>?_,.inr ⟨(xe _ _).symm,fun s h1 h2=>hq ⟨s,h1,h2⟩⟩⟩;obtain⟨i,hi⟩:=cC hz;rw[nz]at hi;cases i with
  | zero=>exact hlt _ z oZg hi fun q=>hq ⟨z,hi,q⟩
  | succ i=>
   have hl0:ps S a<S.length:=by have:=(cg.1 hi).1;omega
   have h0:=hlt (ps S a) _ (ck _) (cj hl0) fun q=>hq ⟨_,cj hl0,q⟩;have:=cV.1 hs (ps S a) (ps S a+(i+1)) hl0 (cg.1 hi).1 oZg;rw[(cg.1 hi).2]at this;exact uR h0 this
def Hr(S:List aa)(a:Ref)(n:Int)(f:List Value):Prop:=∃s∈S,s.Actor=a/\∃y,s.Layers[s.Layers.length-1]?=some y/\y.Txn_=n/\y.Fields=f
theorem aaD(n:Int)(f:List Value)(l:List aj):∃y,(ia n f l)[(ia n f l).length-1]?=some y/\y.Txn_=n/\y.Fields=f:=by
 unfold ia;split
 .rename_i z hz;split
  .rename_i e;refine⟨⟨z.Txn_,f,z.Prepared⟩,?_,e,rfl⟩;rw[cL,aiU (cg.1 hz).1]
  .exact⟨⟨n,f,false⟩,oZk,rfl,rfl⟩
 .exact⟨⟨n,f,false⟩,oZk,rfl,rfl⟩
def Zw(N:Nat){t:ae}{i:Nat}{x:Txn}{a:Ref}{f:List Value}(hf:mi f=true){r:Value}{A B:List aa}{lay:List aj}(hl:lay.length<=1000)(b:Bool)(hd0:0<=x.Done)(hd1:x.Done<=1000):
  ve ((A.length:Nat),b) x.ID N f t ((i:Nat):Int) x r (A++⟨a,lay⟩::B)=some (Dd t i x r (A++⟨a,ia x.ID f lay⟩::B),0):=by
 have hf':=ot (N:=N) (qx hf);have hset:∀{l l':List aj},(A++(⟨a,l⟩:aa)::B).set A.length ⟨a,l'⟩=A++⟨a,l'⟩::B:=DE;rw[ve,aw pB];have J3:∀{l:List aj} {y:aj},l[l.length-1]?=some y->l.length<=2000->0<l.length->Cr ((A.length:Nat),b) N f t ((i:Nat):Int) x r (A++⟨a,l⟩::B) ((l.length:Nat):Int)=some (Dd t i x r (A++⟨a,l.set (l.length-1) ⟨y.Txn_,f,y.Prepared⟩⟩::B),0):=fun{l y} hy hl h0=>by
  rw[Cr];dsimp only;rw[aw pB,hf',cb,w64 oZg oZg,show((l.length:Int)-1)=((l.length-1:Nat):Int) by omega];dsimp only;rw[aw hy,w64 (n:=x.Done+1) oZg oZg,cu,cu,cu,hset];rfl
 by_cases h0:lay=[]
 .subst h0;rw[if_pos oZk,zR,if_pos rfl];dsimp only;rw[ee oZk,cu,hset,w64 oZk oZk];have:=J3 (l:=[⟨x.ID,[],false⟩]) (y:=⟨x.ID,[],false⟩) rfl oZk oZk;simpa[ia]using this
 .have hp:=nQ.2 h0;obtain⟨z,hz⟩:=Fh h0;dsimp only;rw[if_neg oZg,w64 oZg oZg,show((lay.length:Int)-1)=((lay.length-1:Nat):Int) by omega,aw hz];unfold ia;rw[hz];by_cases q:z.Txn_=x.ID
  .rw[zR,if_neg (by simp[q])];have:=J3 hz oZg hp;simp only[q,if_true]at this ⊢;exact this
  .rw[zR,if_pos (by simp[q])];dsimp only;rw[ee oZd,cu,hset,w64 oZg oZg];have hlen:(lay++[(⟨x.ID,[],false⟩:aj)]).length=lay.length+1:=oZk;have:=J3 (l:=lay++[⟨x.ID,[],false⟩]) (y:=⟨x.ID,[],false⟩) oZk oZg oZk;rw[hlen,show((lay.length+1:Nat):Int)=(lay.length:Int)+1 by omega]at this;rw[this];simp only[q,if_false];simp
def Xx(N:Nat)(hN:200<=N){t:ae}(h:TV t){i:Nat}{x:Txn}{c:ah}{k:ai}(e:Exe t i x c k){f:List Value}{r:Value}(hf:mi f=true)(hr:gX r=true):
  ∃A B lay,(t.Stacks=A++⟨c.Target,lay⟩::B∨(t.Stacks=A++B/\lay=[]))/\jy N t x.ID f r=some (Dd t i x r (A++⟨c.Target,ia x.ID f lay⟩::B),0)/\TV (Dd t i x r (A++⟨c.Target,ia x.ID f lay⟩::B)):=by
 have hxm:=cd e.hi;have hX:=(h.tx.x x hxm).1;have hsl:=h.stacks_len;obtain⟨i2,x2,e1,e2,e3⟩:=vf (N:=N) (E6 e.hi);have hxe:x2=x:=h.tx.uniq (cd e2) hxm e3;subst hxe;have hii:i2=i:=by
  obtain⟨g1,g2⟩:=cg.1 e2;obtain⟨g3,g4⟩:=cg.1 e.hi;have:=cV.1 h.tx.so;rcases nZ i2 i with q|q|q
  .have:=this i2 i g1 g3 q;rw[g2,g4]at this;omega
  .exact q
  .have:=this i i2 g3 g1 q;rw[g2,g4]at this;omega
 subst hii;have hnext:jU N t x2.ID=some (c,true):=by
  rcases Eb N h x2.ID with⟨j,y,c',hy,hyn,g⟩|⟨_,hq⟩
  .have:y=x2:=h.tx.uniq (cd hy.hi) hxm hyn;subst this;have:=hy.hc;rw[e.hc]at this;simp only[cc]at this;rw[this];exact g
  .have:=hq x2 hxm rfl;have:=e.dn;omega
 have hown:=Rc N hN h.lk e.hk;rw[e.ka,e.ko]at hown;obtain⟨A,B,hAl,hA,hB,hsp⟩:=Y3 h.ss c.Target;have hps:ps t.Stacks c.Target<=t.Stacks.length:=K0 _;have hbs:be N t.Stacks c.Target=bC t.Stacks N c.Target ((ps t.Stacks c.Target:Nat):Int):=by have:=Wz h.ss oZg N c.Target (bC t.Stacks N c.Target) N 0 t.Stacks.length oZg oZg hps oZg;rw[be,show(0:Int)=((0:Nat):Int)from rfl,this]
 have hd:=hX.d1;have hd2:=hX.d2;have hc2:=hX.c2;have main:∀{q:Option (ae×Int)},lF N t x2.ID r f=q->jy N t x2.ID f r=q:=fun hq=>by
  rw[jy,gO N hN h,cb,if_pos rfl,FF,hf,cb,if_pos rfl,pk,hr,cb,zT,if_neg oZk,hq]
 have hJ5:∀{q:Option (ae×Int)},(((be N t.Stacks c.Target).bind fun r14=>if r14.2=true then ve r14 x2.ID N f t ((i2:Nat):Int) x2 r t.Stacks else(bJ N t.Stacks r14.1 [⟨c.Target,[]⟩]).bind fun r16=>ve r14 x2.ID N f t ((i2:Nat):Int) x2 r r16)=q)->lF N t x2.ID r f=q:=fun hq=>by
  rw[lF,hnext,cb,if_pos rfl];dsimp only;rw[hown,cb,if_pos rfl,tW h,cb,e1,cb,aw e2,zi (yx hr),cb];exact hq
 rcases hsp with⟨lay,hS⟩|⟨hS,hno⟩
 .have hsm:(⟨c.Target,lay⟩:aa)∈t.Stacks:=by rw[hS];simp
  have hll:=h.layers_len hsm;refine⟨A,B,lay,.inl hS,main (hJ5 ?_),Zf h e hf hr (.inl hS) hA hB⟩;have hat:t.Stacks[ps t.Stacks c.Target]?=some ⟨c.Target,lay⟩:=by rw[<-hAl,hS];exact pB
  have hlt:=(cg.1 hat).1;rw[hbs,bC,if_pos oZg,aw hat,BK,Db];simp only[cb,NY.2 rfl,decide_true,if_true];rw[<-hAl];have:=Zw N (t:=t) (i:=i2) (x:=x2) (a:=c.Target) hf (r:=r) (A:=A) (B:=B) (lay:=lay) (by simp only at hll;omega) true hd oZg;rw[<-hS]at this;exact this
 .refine⟨A,B,[],.inr ⟨hS,rfl⟩,main (hJ5 ?_),Zf h e hf hr (lay:=[]) (.inr ⟨hS,rfl⟩) hA hB⟩;have hb:be N t.Stacks c.Target=some (((ps t.Stacks c.Target:Nat):Int),false):=by
   rw[hbs,bC];by_cases q:ps t.Stacks c.Target<t.Stacks.length
   .have hat:=cj q;have hne:=hno _ hat;rw[if_pos oZg,aw hat,BK,Db];simp[NY,hne]
   .rw[if_neg oZg]
  rw[hb,cb,if_neg oZk];unfold bJ OD;dsimp only;rw[if_pos ⟨oZg,oZg,rfl,oZg⟩,cb,cu,<-hAl];have ht:t.Stacks.take A.length=A:=by rw[hS,List.take_left'];rfl
  have hdr:t.Stacks.drop A.length=B:=by rw[hS,List.drop_left'];rfl
  rw[ht,hdr,hU];exact Zw N (t:=t) (i:=i2) (x:=x2) (a:=c.Target) hf (r:=r) (A:=A) (B:=B) (lay:=[]) oZk false hd oZg
def Za(N:Nat)(hN:200<=N){t:ae}(h:TV t){i:Nat}{x:Txn}{c:ah}{k:ai}(e:Exe t i x c k){f:List Value}{r:Value}(hf:mi f=true)(hr:gX r=true):
  ∃S,jy N t x.ID f r=some (Dd t i x r S,0)/\TV (Dd t i x r S)/\Hr S c.Target x.ID f:=by
 obtain⟨A,B,lay,_,h1,h2⟩:=Xx N hN h e hf hr;exact⟨_,h1,h2,⟨c.Target,ia x.ID f lay⟩,oZk,rfl,aaD _ _ _⟩
def V1{t:List ai}(h:VT t){k:ai}(hk:k∈t):(∀l'∈(pV t (pa t k.Actor)).1,(l'∈t/\l'.Actor≠k.Actor)∨(l'.Actor=k.Actor/\l'.Owner∈k.Waiters/\∀w∈l'.Waiters,w∈k.Waiters))/\∀l∈t,l.Actor≠k.Actor->l∈(pV t (pa t k.Actor)).1:=by
 have hp:=(DB h hk).1;have hpl:=(cg.1 hp).1;have hne:∀{i:Nat} {l:ai},i≠pa t k.Actor->t[i]?=some l->l.Actor≠k.Actor:=fun{i l} hi hl e=>by
  have:=(DB h (cd hl)).1;rw[e,hp]at this;simp only[cc]at this;subst this;obtain⟨g1,g2⟩:=cg.1 hl;obtain⟨g3,g4⟩:=cg.1 hp;have hs:=cV.1 h.so;rcases nZ i (pa t k.Actor)with q|q|q
  .have:=hs i _ g1 g3 q;rw[g2,g4,dq]at this;cases this
  .exact hi q
  .have:=hs _ i g3 g1 q;rw[g2,g4,dq]at this;cases this
 rw[pV,hp];simp only;split
 .refine⟨fun l' hl'=>?_,fun l hl hn=>?_⟩
  .rcases cJ.1 hl' with q|q
   .obtain⟨i,hi⟩:=cC q;rw[nt]at hi;split at hi
    .exact .inl ⟨cd hi,hne oZg hi⟩
    .cases hi
   .obtain⟨i,hi⟩:=cC q;rw[nz]at hi;exact .inl ⟨cd hi,hne oZg hi⟩
  .obtain⟨i,hi⟩:=cC hl;have:i≠pa t k.Actor:=fun e=>by rw[e,hp]at hi;simp only[cc]at hi;exact hn (hi▸rfl)
   rw[cJ];rcases nN i (pa t k.Actor)with q|q
   .exact .inl (cd (i:=i) (by rw[nt,if_pos q];exact hi))
   .exact .inr (cd (i:=i -(pa t k.Actor+1)) (by rw[nz,show pa t k.Actor+1+(i -(pa t k.Actor+1))=i by omega];exact hi))
 .rename_i e;refine⟨fun l' hl'=>?_,fun l hl hn=>?_⟩
  .rcases KB hp hl' with rfl|⟨i,hi,q⟩
   .exact .inr ⟨rfl,US e,fun w hw=>nJ hw⟩
   .exact .inl ⟨cd q,hne hi q⟩
  .obtain⟨i,hi⟩:=cC hl;have:pa t k.Actor≠i:=fun q=>by rw[<-q,hp]at hi;simp only[cc]at hi;exact hn (hi▸rfl)
   exact cd (i:=i) (by rw[xb this];exact hi)
def eK(t:ae)(a:Ref)(n:Int):Prop:=∃s∈t.Stacks,s.Actor=a/\∃y∈s.Layers,y.Txn_=n/\y.Prepared=true
def VR(S:List aa)(j:Nat)(s:aa)(y:aj):List aa:=S.set j ⟨s.Actor,s.Layers.set (s.Layers.length-1) ⟨y.Txn_,y.Fields,true⟩⟩
inductive agu (N:Nat) (t:ae) (n:Int) (a:Ref):Prop where
 | no (e:Int) (he:e≠0) (hq:∀x∈t.Txns,x.ID=n->x.Done<x.Calls.length∨(¬ ∃c∈x.Calls,c.Target=a)∨eK t a n) (h:dS N t n a=some (emp,e))
 | ok {x:Txn} {j:Nat} {s:aa} {y:aj} (hx:x∈t.Txns) (hn:x.ID=n) (hd:x.Done=x.Calls.length) (ha:∃c∈x.Calls,c.Target=a) (hj:t.Stacks[j]?=some s) (hsa:s.Actor=a) (hy:s.Layers[s.Layers.length-1]?=some y) (hyn:y.Txn_=n) (hp:y.Prepared=false)
   (h:dS N t n a=some (⟨t.Txns,(pV t.Locks (pa t.Locks a)).1,VR t.Stacks j s y⟩,0)) (hT:TV ⟨t.Txns,(pV t.Locks (pa t.Locks a)).1,VR t.Stacks j s y⟩)
theorem MN(N:Nat)(hN:200<=N){t:ae}(h:TV t)(n:Int)(a:Ref):agu N t n a:=by
 rcases uN N t n with⟨h1,e⟩|⟨i,x,e,hi,hid⟩
 .refine .no 6 oZk (fun x hx q=>absurd (cH.2 ⟨x,hx,q⟩) h1) ?_;rw[dS,gO N hN h,cb,if_pos rfl,e,cb,if_pos oZg,dQ,if_pos rfl];rfl
 .have hxm:=cd hi;have hX:=(h.tx.x x hxm).1;have hu:∀{y:Txn},y∈t.Txns->y.ID=n->y=x:=fun hy q=>h.tx.uniq hy hxm (q.trans hid.symm);have e0:∀{q:Option (ae×Int)},dQ (iy t ((i:Nat):Int) N a n) (!x.Calls.any fun c=>H4 c.Target a)=q->dS N t n a=q:=fun hq=>by
   rw[dS,gO N hN h,cb,if_pos rfl,e,cb,if_neg oZg,aw hi,My,cb,hq]
  by_cases ht:∃c∈x.Calls,c.Target=a
  .have hany:(x.Calls.any fun c=>H4 c.Target a)=true:=by obtain⟨c,hc,q⟩:=ht;exact aiG.2 ⟨c,hc,(uO _ _).2 q⟩
   rw[hany]at e0;by_cases hd:x.Done<x.Calls.length
   .refine .no 12 oZk (fun y hy q=>.inl (by rw[hu hy q];exact hd)) (e0 ?_);rw[dQ,if_neg oZk,iy,aw hi,if_pos hd];rfl
   .have hdn:x.Done=x.Calls.length:=by have:=hX.d2;omega
    obtain⟨c,hc,hca⟩:=ht;have htk:x.Calls.take x.Done.toNat=x.Calls:=cT oZg;obtain⟨s,hs,hsa,y,hy,hyn⟩:=h.pr x hxm c (by rw[htk];exact hc);have hsa':=hsa.trans hca;have hlay:=qd N h.ss h.ac hs hsa' hy (hyn.trans hid);cases hp:y.Prepared with
    | true=>
     refine .no 7 oZk (fun z hz q=>.inr (.inr ⟨s,hs,hsa',y,hy,hyn.trans hid,hp⟩)) (e0 ?_);rw[dQ,if_neg oZk,iy,aw hi,if_neg hd,hlay,cb,if_pos hp];rfl
    | false=>
     obtain⟨m,hm⟩:=cC hy;obtain⟨hlast,k,hk,hka,hko⟩:=(h.st s hs).up m y hm hp;obtain⟨j,hj1,hj2⟩:=FJ N h.ss hs;have hml:=(cg.1 hm).1;have hyl:s.Layers[s.Layers.length-1]?=some y:=by rw[show s.Layers.length-1=m by omega];exact hm
     have hva:=Iv (hX.ca c hc);have hkaa:k.Actor=a:=hka.trans hsa';have hrel:zq N t.Locks a n=some ((pV t.Locks (pa t.Locks a)).1,(pV t.Locks (pa t.Locks a)).2,0):=by have hv:VA a:=hca▸hva;rw[ae7 N oZg h.lk hv (hid▸hX.i1) (hid▸hX.i2)];obtain⟨g1,g2⟩:=DB h.lk hk;rw[hkaa]at g1 g2;unfold rls;rw[if_pos g2,g1];simp only;rw[if_pos (hko.trans (hyn.trans hid))]
     obtain⟨p1,p2⟩:=V1 h.lk hk;rw[hkaa]at p1 p2;have hll:=h.layers_len hs;refine .ok hxm hid hdn ⟨c,hc,hca⟩ hj2 hsa' hyl (hyn.trans hid) hp (e0 ?_) (ad8 h hxm hdn hj2 hyl hyn hp hk hka (WJ h.lk _) (fun l' hl'=>by
      rcases p1 l' hl' with⟨q1,q2⟩|⟨q1,q2⟩
      .exact .inl ⟨q1,by rw[hsa'];exact q2⟩
      .exact .inr ⟨q1.trans hkaa.symm,q2⟩) (fun l hl q=>p2 l hl (by rw[<-hsa'];exact q)))
     rw[hsa']at hj1;rw[dQ,if_neg oZk,iy,aw hi,if_neg hd,hlay,cb,if_neg (by simp[hp]),tW h,cb,hj1,cb,aw hj2,w64 oZg oZg,show((s.Layers.length:Int)-1)=((s.Layers.length-1:Nat):Int) by omega,aw hyl,hrel,cb,cu,cu];rfl
  .refine .no 6 oZk (fun y hy q=>.inr (.inl (by rw[hu hy q];exact ht))) (e0 ?_);have hany:(x.Calls.any fun c=>H4 c.Target a)=false:=by rw[<-xj];intro q;obtain⟨c,hc,g⟩:=aiG.1 q;exact ht ⟨c,hc,(uO _ _).1 g⟩
   rw[hany,dQ,if_pos oZk];rfl
structure tc (t:ae) (x:Txn):Prop where
 dn:x.Done=x.Calls.length
 pr:∀c∈x.Calls,eK t c.Target x.ID
 fi:zL t x.ID []=true
def Kj(N:Nat){t:ae}(h:TV t)(x:Txn):Te (Ap N t x) (∀c∈x.Calls,eK t c.Target x.ID):=by
 classical
 have hf:∀c∈x.Calls,qO N c t.Txns t.Locks t.Stacks x.ID x.Born x.Client x.Seq x.Calls x.Done x.Last.Kind x.Last.N x.Last.S x.Last.I x.Last.L=some (!decide (eK t c.Target x.ID)):=fun c _=>by
  rw[qO];by_cases q:GV t c.Target x.ID
  .obtain⟨s,hs,ha,y,hy,hn⟩:=q;rw[show(⟨t.Txns,t.Locks,t.Stacks⟩:ae)=t from rfl,qd N h.ss h.ac hs ha hy hn,cb,if_pos rfl];have:eK t c.Target x.ID↔y.Prepared=true:=⟨fun⟨s',g1,g2,y',g3,g4,g5⟩=>by
    have:=qd N h.ss h.ac hs ha hy hn;rw[qd N h.ss h.ac g1 g2 g3 g4]at this;simp only[cc,cP,and_true]at this;rw[<-this];exact g5,fun g=>⟨s,hs,ha,y,hy,hn,g⟩⟩
   cases hp:y.Prepared<;>simp[this,hp]
  .rw[show(⟨t.Txns,t.Locks,t.Stacks⟩:ae)=t from rfl,Uo N h.ss q,cb,if_neg oZk];have:¬eK t c.Target x.ID:=fun⟨s',g1,g2,y',g3,g4,_⟩=>q ⟨s',g1,g2,y',g3,g4⟩;simp[this]
 have e:=lj (L:=fy N t.Txns t.Locks t.Stacks x.ID x.Born x.Client x.Seq x.Calls x.Done x.Last.Kind x.Last.N x.Last.S x.Last.I x.Last.L) (fun c=>qO N c t.Txns t.Locks t.Stacks x.ID x.Born x.Client x.Seq x.Calls x.Done x.Last.Kind x.Last.N x.Last.S x.Last.I x.Last.L) (fun c=>!decide (eK t c.Target x.ID)) (fun _=>rfl) (fun _ _ _=>rfl) x.Calls 0 hf;refine⟨!(x.Calls.any fun c=>!decide (eK t c.Target x.ID)),?_,?_⟩
 .simp only[Ap,dF,bV,e,cb,yr]
 .rw[Pg];simp
def LM(N:Nat){t:ae}(h:TV t)(x:Txn):Te (mC N x t.Txns t.Locks t.Stacks) (tc t x):=by rw[mC,show(⟨t.Txns,t.Locks,t.Stacks⟩:ae)=t from rfl];refine Te.ite (fun hd=>(Kj N h x).bind (fun hp=>?_) fun hp=>Te.f fun q=>hp q.pr) fun hd=>Te.f fun q=>hd q.dn;simp only[if_true,Wa,cb];exact⟨_,rfl,fun g=>⟨hd,hp,g⟩,fun g=>g.fi⟩
def UN{t:ae}(h:TV t){x:Txn}(hx:x∈t.Txns)(hr:tc t x):Lks t [x.ID] t.Locks:=by
 have ho:∀l∈t.Locks,l.Owner≠x.ID:=fun l hl e=>by
  obtain⟨s,hs,ha,y,hy,hn,hp⟩:=(h.lp l hl).dn x hx e.symm hr.dn;obtain⟨⟨c,hc,hca⟩,_⟩:=(h.st s hs).ex y hy x hx hn.symm;obtain⟨s',g1,g2,y',g3,g4,g5⟩:=hr.pr c (nJ hc);obtain⟨i,hi⟩:=cC hs;have:=pY h.ss hi g1 (g2.trans hca);subst this;obtain⟨r,hrk⟩:=h.ac;obtain⟨a,ha'⟩:=cC hy;obtain⟨b,hb'⟩:=cC g3;have:=pU (hrk s' g1) ha' hb' (hn.trans g4.symm);subst this;rw[ha']at hb';simp only[cc]at hb';rw[<-hb',hp]at g5;cases g5
 have hw:∀l∈t.Locks,x.ID∉l.Waiters:=fun l hl q=>by
  have:=((h.lp l hl).wt x hx q).1;have:=hr.dn;omega
 exact⟨h.lk,fun l hl=>⟨l,hl,rfl,.inl rfl,fun w hw=>hw,by simp[ho l hl],fun w q=>by simp only[cK];exact fun e=>hw l hl (e▸q)⟩,fun l hl _=>⟨l,hl,rfl,rfl⟩⟩
def Wr(t:ae)(n:Int):List Ref->List aP->Prop
 | [],[]=>True
 | a::rs,w::ws=>w.Actor=a/\(∃s∈t.Stacks,s.Actor=a/\∃y∈s.Layers,y.Txn_=n/\y.Prepared=true/\w.Fields=y.Fields)/\Wr t n rs ws
 | _,_=>False
inductive Res (N:Nat):ae->ae->List aB->Prop where
 | nil {t:ae} (hno:∀x∈t.Txns,¬tc t x):Res N t t []
 | cons {t t':ae} {cs:List aB} {x:Txn} {ps:List Ref} {ws:List aP} (hx:x∈t.Txns) (hr:tc t x) (hp:fD N x=some ps) (hw:Wr t x.ID ps ws) (hT:TV (zY t [x.ID])) (rest:Res N (zY t [x.ID]) t' cs):Res N t t' (⟨x.ID,x.Client,x.Seq,x.Last,ws⟩::cs)
theorem Xr(N:Nat){t:ae}(h:TV t){x:Txn}(k:List aP->Option (ae×List aB)):∀(rs:List Ref) (v:Nat) (acc:List aP),(∀a∈rs,eK t a x.ID)->acc.length+rs.length<=1000->∃ws,Wr t x.ID rs ws/\m6 k N t.Txns t.Locks t.Stacks x rs v acc=k (acc++ws)
 | [],v,acc,_,_=>⟨[],trivial,by rw[m6,nn]⟩
 | a::rs,v,acc,hp,hl=>by
  obtain⟨s,hs,ha,y,hy,hn,hpp⟩:=hp a oZk;simp only[cn]at hl;obtain⟨ws,g1,g2⟩:=Xr N h k rs (v+1) (acc++[⟨a,y.Fields⟩]) (fun b hb=>hp b (by simp[hb])) oZd;refine⟨⟨a,y.Fields⟩::ws,⟨rfl,⟨s,hs,ha,y,hy,hn,hpp,rfl⟩,g1⟩,?_⟩;rw[m6,show(⟨t.Txns,t.Locks,t.Stacks⟩:ae)=t from rfl,qd N h.ss h.ac hs ha hy hn,cb,ot (qx ((h.st s hs).fi y hy)),cb,ee oZd,g2,hU];rfl
theorem RK(N:Nat)(hN:100002<=N):∀(n:Nat) {t:ae} (acc:List aB),TV t->t.Txns.length<n->acc.length+t.Txns.length<=1000->∃t' cs,im N n (t.Txns,t.Locks,t.Stacks,acc)=some (t',acc++cs)/\TV t'/\Res N t t' cs
 | n+1,t,acc,h,hn,ha=>by
  classical
  have hloop:=lj (L:=fa N t.Txns t.Locks t.Stacks) (fun x=>mC N x t.Txns t.Locks t.Stacks) (fun x=>decide (tc t x)) (fun _=>rfl) (fun _ _ _=>rfl) t.Txns 0 (fun x _=>by
   by_cases q:tc t x
   .rw[(LM N h x).is q];simp[q]
   .rw[(LM N h x).isnt q];simp[q])
  rw[im,dg,hloop,cb];rcases eW (fun x=>decide (tc t x)) t.Txns 0 with⟨e,hno⟩|⟨i,x,e,hi,hr,_⟩
  .rw[e,if_pos oZg];exact⟨t,[],by rw[nn],h,.nil fun x hx=>by simpa using hno x hx⟩
  .have hxm:=cd hi;have hX:=(h.tx.x x hxm).1;have hr:tc t x:=by simpa using hr
   have hT:TV (zY t [x.ID]):=X2 h (UN h hxm hr);obtain⟨ps,p1,p2,p3⟩:=uf N hN hX.c1 hX.c2;have hlen:(zY t [x.ID]).Txns.length<t.Txns.length:=by refine ajX (aiF _ _) fun q=>?_;have:=ajY.1 q x hxm;rw[AH]at this;exact this oZk
   have hpl:ps.length<=4:=by
    have hnd:ps.Nodup:=p2.imp fun{a b} g e=>by rw[e,lpR,dq]at g;cases g
    have:=Bj (l:=x.Calls.map ah.Target) hnd fun a hm=>by
     obtain⟨c,hc,q⟩:=(p3 a).1 hm;exact cH.2 ⟨c,hc,q⟩
    simp only[cr]at this;have:=hX.c2;omega
   obtain⟨ws,w1,w2⟩:=Xr N h (x:=x) (qX N t.Txns t.Locks t.Stacks x acc x.Last (im N n)) ps 0 [] (fun a hm=>by
    obtain⟨c,hc,q⟩:=(p3 a).1 hm;exact q▸hr.pr c hc) oZd
   obtain⟨t',cs,r1,r2,r3⟩:=RK N hN n (t:=zY t [x.ID]) (acc++[⟨x.ID,x.Client,x.Seq,x.Last,ws⟩]) hT oZg oZd;refine⟨t',_::cs,?_,r2,.cons hxm hr p1 w1 hT r3⟩;rw[e,cy,if_neg oZg,aw hi,zi (yx hX.la),cb,p1,cb,w2,cO,qX,show(⟨t.Txns,t.Locks,t.Stacks⟩:ae)=t from rfl,OB N oZg h,cb,ee oZd,r1,hU];rfl
def So(N:Nat)(hN:100002<=N){t:ae}(h:TV t):∃t' cs,lI N t=some (t',cs)/\TV t'/\Res N t t' cs:=by have:=h.tx.len;obtain⟨t',cs,h1,h2,h3⟩:=RK N hN N (t:=t) [] h oZg oZd;exact⟨t',cs,by rw[lI,gO N oZg h,cb,if_pos rfl,tW h,cb,h1];rfl,h2,h3⟩
abbrev Pp:=al
def U8C(x:Pp):Prop:=(0<=x.Kind/\x.Kind<=255)/\(0<=x.Who/\x.Who<=255)/\(0<=x.Arg/\x.Arg<=255)
def Pm{a b:Int}(h:0<=a)(hb:0<b):Int.tmod a b=a % b:=Int.tmod_eq_emod_of_nonneg h
def Zv(N:Nat)(t:ae)(hl:t.Txns.length<=1000){w:Int}(h0:0<=w)(h1:w<=255):∃n,DU N t w=some n/\((t.Txns=[]/\n=0)∨n∈ids t):=by
 rw[DU];by_cases h:t.Txns.length=0
 .rw[if_pos oZg];exact⟨0,rfl,.inl ⟨nb h,rfl⟩⟩
 .rw[if_neg oZg,w64 oZg oZg,Pm h0 oZg];have h2:=Int.emod_nonneg w (b:=(t.Txns.length:Int)) oZg;have h3:=aj0 w (b:=(t.Txns.length:Int)) oZg;have hk:(w % (t.Txns.length:Int)).toNat<t.Txns.length:=oZg;simp only[dvx];rw[if_neg oZg,show w % (t.Txns.length:Int)=(((w % (t.Txns.length:Int)).toNat:Nat):Int) by omega,aw (cj hk)];exact⟨_,rfl,.inr (cH.2 ⟨_,nx hk,rfl⟩)⟩
def JV:List Ref:=[⟨⟨#[65]⟩,⟨#[97]⟩⟩,⟨⟨#[65]⟩,⟨#[98]⟩⟩,⟨⟨#[65]⟩,⟨#[99]⟩⟩,⟨⟨#[65]⟩,⟨#[100]⟩⟩]
def abK(N:Nat){n:Int}(h0:0<=n)(h1:n<=255):∃r,DH N n=some r/\r∈JV:=by
 have key:∀k:Int,k=0∨k=1∨k=2∨k=3->∃r,(sls (⟨#[97,98,99,100]⟩) (IntKind.i64.wrap k) (IntKind.i64.wrap ((IntKind.i64.wrap k)+1)) fun s1=>some (Ref.mk (⟨#[65]⟩) s1))=some r/\r∈JV:=by
  rintro k (rfl|rfl|rfl|rfl)
  .exact⟨⟨⟨#[65]⟩,⟨#[97]⟩⟩,(by unfold sls;rfl),by simp[JV]⟩
  .exact⟨⟨⟨#[65]⟩,⟨#[98]⟩⟩,(by unfold sls;rfl),by simp[JV]⟩
  .exact⟨⟨⟨#[65]⟩,⟨#[99]⟩⟩,(by unfold sls;rfl),by simp[JV]⟩
  .exact⟨⟨⟨#[65]⟩,⟨#[100]⟩⟩,(by unfold sls;rfl),by simp[JV]⟩
 rw[DH,Pm h0 oZg];exact key (n % 4) oZg
theorem Oc{r:Ref}(h:r∈JV):lO ⟨r,⟨#[109]⟩,[]⟩=true:=by simp only[JV,cF,nG,or_false]at h;rcases h with rfl|rfl|rfl|rfl<;>rfl
def afy{a:Int}(h0:0<=a)(h1:a<=255)(k:Int)(hk:k=0∨k=2∨k=4∨k=6):0<=w8 .u8 a k/\w8 .u8 a k<=255:=by
 rcases hk with rfl|rfl|rfl|rfl
 .show 0<=a.fdiv 1/\a.fdiv 1<=255;rw[xY _ oZg];omega
 .show 0<=a.fdiv 4/\a.fdiv 4<=255;rw[xY _ oZg];omega
 .show 0<=a.fdiv 16/\a.fdiv 16<=255;rw[xY _ oZg];omega
 .show 0<=a.fdiv 64/\a.fdiv 64<=255;rw[xY _ oZg];omega
def Xz(N:Nat){a:Pp}(ha:U8C a):∀(m:Nat) (v:Nat) (l:List ah),4<v+m->v<=4->l.length=v->(∀c∈l,lO c=true)->v<=(a.Who % 4).toNat+1->∃r,qY a N m (l,(v:Int))=some r/\r.length=(a.Who % 4).toNat+1/\∀c∈r,lO c=true
 | 0,v,l,h1,h2,h3,h4,h5=>oZg
 | m+1,v,l,h1,h2,h3,h4,h5=>by
  obtain⟨_,⟨w0,w1⟩,g0,g1⟩:=ha;rw[qY,Pm w0 oZg,w64 (n:=a.Who % 4) oZg oZg];by_cases q:(v:Int)<=a.Who % 4
  .have hv:v=0∨v=1∨v=2∨v=3:=oZg;have hk:IntKind.u64.wrap (2 *(IntKind.u64.wrap (Int.tmod (v:Int) 4)))=0∨IntKind.u64.wrap (2 *(IntKind.u64.wrap (Int.tmod (v:Int) 4)))=2∨IntKind.u64.wrap (2 *(IntKind.u64.wrap (Int.tmod (v:Int) 4)))=4∨IntKind.u64.wrap (2 *(IntKind.u64.wrap (Int.tmod (v:Int) 4)))=6:=by rcases hv with rfl|rfl|rfl|rfl<;>decide
   rw[if_pos q];obtain⟨s0,s1⟩:=afy g0 g1 _ hk;obtain⟨r,hr,hm⟩:=abK N s0 s1;simp only[shx];rw[if_neg oZg,hr,cb,ee oZd,w64 (n:=(v:Int)+1) oZg oZg];refine Xz N ⟨by assumption,⟨w0,w1⟩,g0,g1⟩ m (v+1) _ oZg oZg (by simp[h3]) (fun c hc=>?_) oZg;rcases cJ.1 hc with hc|hc
   .exact h4 c hc
   .simp only[cK]at hc;rw[hc];exact Oc hm
  .rw[if_neg q];exact⟨l,rfl,oZg,h4⟩
def XC(N:Nat)(hN:100<=N){a:Pp}(ha:U8C a):∃r,Ch N a=some r/\1<=r.length/\r.length<=4/\∀c∈r,lO c=true:=by obtain⟨r,h1,h2,h3⟩:=Xz N ha N 0 [] oZg oZg rfl oZk oZg;have:=ha.2.1;exact⟨r,h1,oZg,oZg,h3⟩
def Br{α β ρ:Type}{L:List α->Nat->List β->Option ρ}(B:Nat)(f:α->β)(P:α->Prop)(k:List β->Option ρ)(h0:∀v l,L [] v l=k l)
  (h1:∀x xs v l,P x->l.length<B->L (x::xs) v l=L xs (v+1) (l++[f x])):
  ∀(xs:List α) (v:Nat) (l:List β),(∀x∈xs,P x)->l.length+xs.length<=B->L xs v l=k (l++xs.map f)
 | [],v,l,_,_=>by rw[h0];simp
 | x::xs,v,l,hp,hb=>by
  simp only[cn]at hb;rw[h1 x xs v l (hp x oZk) oZg,Br B f P k h0 h1 xs (v+1) (l++[f x]) (fun y hy=>hp y (by simp[hy])) oZd];simp
def DS{N:Nat}{v:Value}(h:bdV v):iY N v=some v:=by obtain⟨h1,h2⟩:=h;simp only[iY];rw[tY oZg,tY oZg]
def p8{N:Nat}{l:List Value}(h:C9 l):dW N l=some l:=by
 have:=Br (L:=mU N) 1759218604441 id bdV some (fun _ _=>rfl) (fun x xs v l hp hb=>by
  simp only[mU,DS hp,cb];rw[ee (by simp only[cn,cw];omega)];rfl) l 0 [] h.2 (by simpa using h.1)
 simpa[dW]using this
def WS{N:Nat}{l:List ah}(h:aam l):ug N l=some l:=by
 have:=Br (L:=pH N) 2000000 id (fun c=>C9 c.Args) some (fun _ _=>rfl) (fun x xs v l hp hb=>by
  simp only[pH,p8 hp,cb];rw[ee (by simp only[cn,cw];omega)];rfl) l 0 [] h.2 (by simpa using h.1)
 simpa[ug]using this
def DZ{N:Nat}{x:Txn}(h:XV x):jG N x=some x:=by simp only[jG,WS h.bd.1,DS h.bd.2,cb]
def YR(N:Nat){t:ae}(h:∀x∈t.Txns,XV x)(n:Int):∃x b,iZ N t n=some (x,b)/\x.Calls.length<=4:=by
 have key:∀(xs:List Txn) (v:Nat),(∀x∈xs,XV x)->∃x b,mB n N xs v ()=some (x,b)/\x.Calls.length<=4:=by
  intro xs
  induction xs with
  | nil=>intro v _;exact⟨_,_,rfl,oZk⟩
  | cons x xs ih=>
   intro v hx;rw[mB];split
   .rw[DZ (hx x oZk)];exact⟨x,true,rfl,(hx x oZk).c2⟩
   .exact ih (v+1) fun y hy=>hx y (by simp[hy])
 exact key t.Txns 0 h
def Ql(N:Nat)(l:List Ref)(hl:l.length<=1000)(x:ah)(k:Int->Option (List Ref)):∀(n:Nat) (v:Nat),v<n->v<=l.length->∃w:Nat,w<=v/\gP l N x k n (v:Int)=k (w:Int)
 | n+1,v,h1,h2=>by
  rw[gP];by_cases h0:0<v
  .have hg:l[v-1]?=some (l[v-1]'oZg):=cj oZg;rw[if_pos oZg,w64 (n:=(v:Int)-1) oZg oZg,show((v:Int)-1)=((v-1:Nat):Int) by omega,aw hg,CY,cb,kM];cases rl (l[v-1]'oZg) x.Target with
   | true=>exact⟨v,ck _,oZk⟩
   | false=>
    obtain⟨w,g1,g2⟩:=Ql N l hl x k n (v-1) oZg oZg;refine⟨w,oZg,?_⟩;rw[if_pos oZk,w64 (n:=(v:Int)-1) oZg oZg,show((v:Int)-1)=((v-1:Nat):Int) by omega];exact g2
  .exact⟨v,ck _,by rw[if_neg oZg,kM,if_neg oZk]⟩
def Kk(N:Nat)(hN:2000<=N):∀(xs:List ah) (v:Nat) (l:List Ref),l.length+xs.length<=1000->∃r,dy N xs v l=some r
 | [],v,l,_=>⟨l,rfl⟩
 | x::xs,v,l,hl=>by
  simp only[cn]at hl;rw[dy];obtain⟨w,g1,g2⟩:=Ql N l oZg x (m7 l (dy N xs (v+1)) x) N l.length oZg (ck _);rw[g2,m7];have hJ3:∃r,jE l (w:Int) x (dy N xs (v+1))=some r:=by
   rw[jE];unfold slx slt;rw[if_pos ⟨oZg,oZg,oZg,oZg⟩];dsimp only;rw[tY oZd,if_pos ⟨oZg,oZg⟩];try dsimp only
   rw[ee oZd,ee oZd];exact Kk N hN xs (v+1) _ oZd
  have hJ2:∀b,∃r,jz (dy N xs (v+1)) l (jE l (w:Int) x (dy N xs (v+1))) b=some r:=fun b=>by
   rw[jz];cases b with
   | true=>exact Kk N hN xs (v+1) l oZg
   | false=>exact hJ3
  by_cases q:w<l.length
  .rw[if_pos oZg,aw (cj q)];exact hJ2 _
  .rw[if_neg oZg];exact hJ2 _
theorem KE(N:Nat)(hN:2000<=N){t:ae}(h:∀x∈t.Txns,XV x)(n:Int){w:Int}(h0:0<=w)(h1:w<=255):∃r,qq N t n w=some r:=by
 obtain⟨x,b,e,hl⟩:=YR N h n;obtain⟨ps,p⟩:=Kk N hN x.Calls 0 [] oZd;obtain⟨r,hr,_⟩:=abK N h0 h1;rw[qq,e,cb,eE,kv];dsimp only;rw[p,cb,cb];by_cases q:ps.length=0
 .rw[if_pos oZg,hr];exact⟨r,rfl⟩
 .rw[if_neg oZg,w64 oZg oZg,Pm h0 oZg];have h2:=Int.emod_nonneg w (b:=(ps.length:Int)) oZg;have h3:=aj0 w (b:=(ps.length:Int)) oZg;have hk:(w % (ps.length:Int)).toNat<ps.length:=oZg;simp only[dvx];rw[if_neg oZg,show w % (ps.length:Int)=(((w % (ps.length:Int)).toNat:Nat):Int) by omega,aw (cj hk)];exact⟨_,rfl⟩
def L8:gX ⟨0,0,⟨#[]⟩,[],[]⟩=true:=by simp[gX,HA,yS];decide
def Dz(n:Int):gX ⟨1,n,⟨#[]⟩,[],[]⟩=true:=by simp[gX,HA,yS];decide
def abR{t:ae}{i:Nat}{x:Txn}{c:ah}{L:List ai}(hx:Nx t i x c){k:ai}(hk:k∈L)(ha:k.Actor=c.Target)(ho:k.Owner=x.ID):Exe ⟨t.Txns,L,t.Stacks⟩ i x c k:=⟨hx.hi,hx.dn,hx.hc,hk,ha,ho⟩
def adP(N:Nat)(hN:100002<=N){t:ae}(h:TV t){v:Nat}(hv:v<=1000){a:Pp}(ha:U8C a):∃t' cs,Et N t (v:Int) a=some (t',cs)/\TV t'/\(cs=[]∨Res N t t' cs):=by
 have hl:=h.tx.len;obtain⟨⟨k0,k1⟩,⟨w0,w1⟩,a0,a1⟩:=id ha;obtain⟨n,hn,_⟩:=Zv N t oZg w0 w1;have J1:∀b,∃t' cs,CE N t n a b=some (t',cs)/\TV t'/\(cs=[]∨Res N t t' cs):=fun b=>by
  rw[CE];cases b with
  | true=>
   obtain⟨r,hr⟩:=KE N oZg (fun x hx=>(h.tx.x x hx).1) n a0 a1;rw[if_pos rfl,hr,cb];cases MN N oZg h n r with
   | no e he _ q=>rw[q,cb,if_neg he];exact⟨t,[],rfl,h,.inl rfl⟩
   | ok _ _ _ _ _ _ _ _ _ q hT=>rw[q,cb,if_pos rfl];exact⟨_,[],rfl,hT,.inl rfl⟩
  | false=>
   rw[if_neg oZk];split
   .obtain⟨t',cs,e,h1,h2⟩:=So N hN h;rw[e];exact⟨t',cs,rfl,h1,.inr h2⟩
   .by_cases q:n∈ids t
    .obtain⟨D,e,h1,_⟩:=IQ N oZg h q;rw[e,cb,if_pos rfl];exact⟨_,[],rfl,h1,.inl rfl⟩
    .rw[XA N oZg h q,cb,if_neg oZk];exact⟨t,[],rfl,h,.inl rfl⟩
 have J2:∀b,∃t' cs,s4 N t n a b=some (t',cs)/\TV t'/\(cs=[]∨Res N t t' cs):=fun b=>by
  rw[s4];cases b with
  | true=>
   rw[if_pos rfl];cases Wt N oZg h n with
   | no e he _ q=>rw[q,cb,if_neg he];exact⟨t,[],rfl,h,.inl rfl⟩
   | @got i x c L o hx hn' ho hac q=>
    obtain⟨hT,hown⟩:=abY h hx (hn'▸hac);rw[q,cb,if_pos rfl];rcases ho with rfl|rfl
    .obtain⟨k,hk,hka,hko⟩:=hown rfl;obtain⟨S,e1,e2,_⟩:=Za N oZg hT (abR hx hk hka hko) (f:=[⟨1,a.N,⟨#[]⟩,[],[]⟩]) (r:=⟨1,a.N,⟨#[]⟩,[],[]⟩) (by simp[mi,Dz]) (Dz _);rw[if_pos rfl];simp only[lZ,cb];rw[<-hn',e1,cb,if_pos rfl];exact⟨_,[],rfl,e2,.inl rfl⟩
    .rw[if_neg oZk];exact⟨_,[],rfl,hT,.inl rfl⟩
   | died hx hn' hk hka ho q hT hD=>rw[q,cb,if_pos rfl,if_neg oZk];exact⟨_,[],rfl,hT,.inl rfl⟩
  | false=>
   rw[if_neg oZk];split
   .exact J1 _
   .exact J1 _
 have J3:∀b,∃t' cs,zH N a t (v:Int) n b=some (t',cs)/\TV t'/\(cs=[]∨Res N t t' cs):=fun b=>by
  rw[zH];cases b with
  | true=>
   obtain⟨cl,e,c1,c2,c3⟩:=XC N oZg ha;rw[if_pos rfl,e,cb,w64 (n:=(v:Int)+1) oZg oZg];have hx:XV ⟨(v:Int)+1,v,⟨#[99]⟩,(v:Int)+1,cl,0,⟨0,0,⟨#[]⟩,[],[]⟩⟩/\zd ⟨(v:Int)+1,v,⟨#[99]⟩,(v:Int)+1,cl,0,⟨0,0,⟨#[]⟩,[],[]⟩⟩:=
    ⟨⟨by simp only;omega,by simp only;omega,c1,c2,oZk,oZk,L8,c3⟩,by simp only;omega,by simp only;omega,by show 1<=(⟨#[99]⟩:ByteArray).size;decide,by show(⟨#[99]⟩:ByteArray).size<=32;decide,by simp only;omega,by simp only;omega,fun _=>rfl⟩
   rcases J7 N oZg h hx with⟨e2,he,_,q⟩|⟨q,hT⟩
   .rw[q,cb,if_neg he];exact⟨t,[],rfl,h,.inl rfl⟩
   .rw[q,cb,if_pos rfl];exact⟨_,[],rfl,hT,.inl rfl⟩
  | false=>
   rw[if_neg oZk];split
   .exact J2 _
   .split
    .exact J2 _
    .exact J2 _
 rw[Et,hn,cb];split
 .exact J3 _
 .exact J3 _
def TV.nil:TV ⟨[],[],[]⟩:=⟨⟨oZk,oZk,oZk⟩,VT.nil,oZk,oZk,oZk,oZk,⟨fun _=>0,oZk⟩⟩
end Go.Proofs.YtmacaidmhchpgaaGreat
