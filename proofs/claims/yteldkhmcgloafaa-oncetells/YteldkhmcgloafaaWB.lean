/- Walks: each function computes its model. No condition. -/
import Derived.Test.YteldkhmcgloafaaV
import Derived.Test.YteldkhmcgloafaaWA
/- Each Go function computes its model: proofs laid by a program of ours. -/
set_option maxHeartbeats 40000000
set_option synthInstance.maxHeartbeats 2000000
set_option synthInstance.maxSize 4000
set_option linter.unusedSimpArgs false
set_option linter.unusedVariables false
set_option maxRecDepth 100000
namespace Go.Proofs.Yteldkhmcgloafaa
open Go Go.Proofs Go.Abs
noncomputable def uj (N d f:Nat):Option FnS:=glist [(8,33,fH N),(109,48,iV N),(114,25,gf N)] d f
attribute [go_sem] uj
theorem zL (N:Nat) (a0:Client) (r:Bool) (h:lA N a0=some r):Con Try.prog 50 [] true [.agg (Client.row a0)] (.val (.bool r)):=by
 refine ay (G:=(uj N)) Try.func50 rfl (by decide) (by kernel_rfl) (gc 8 (gY N) (gc 109 (lH N) (gc 114 (kg N) gn))) [] mix (Nat.le_of_ble_eq_true rfl) ?_;simp only [Try.f50];unfold lA at h;refine Ws fun Z hZ=>?_;simp only [go_sem,seval];refine hZ _ (pp (Wk_seq ?_));apply be (fun (c5:Bool)=>⟨tab 133 (updT (updT deadT 1 (.pref 1 [] 0 0)) 29 (.val (.bool c5))),(upd RZ 1 (.sl true none 4 (some 1) [Client.row a0]))⟩)
 ·intro hJ1;obtain ⟨r6,hr2,h⟩:=Option.bind_eq_some_iff.1 h;refine aa fun Z hZ=>?_;simp only [go_sem,seval,hr2];refine aw rfl (fun hc3=>?_) (fun hc3=>?_)
  ·rw [if_neg (ne_true_of_eq_false hc3)] at h;simp only [go_sem,seval,hc3];refine hZ _ (pp (hJ1 _ true ?_ h));refine wr ?_ ?_<;>repeat' first|rfl|constructor
  rw [if_pos hc3] at h;simp only [go_sem,seval,hc3];refine ae rfl (fun hc4=>?_) (fun hc4=>?_)
  ·have hc4d:=decide_eq_true hc4;rw [if_pos hc4] at h;simp only [go_sem,seval,hc4d];refine hZ _ (pp (hJ1 _ true ?_ h));refine wr ?_ ?_<;>repeat' first|rfl|constructor
  have hc4d:=decide_eq_false hc4;rw [if_neg hc4] at h;simp only [go_sem,seval,hc4d];refine ae rfl (fun hc5=>?_) (fun hc5=>?_)
  ·have hc5d:=decide_eq_true hc5;rw [if_pos hc5] at h;simp only [go_sem,seval,hc5d];refine hZ _ (pp (hJ1 _ true ?_ h));refine wr ?_ ?_<;>repeat' first|rfl|constructor
  have hc5d:=decide_eq_false hc5;rw [if_neg hc5] at h;simp only [go_sem,seval,hc5d];refine hZ _ (pp (hJ1 _ (decide (16 < (IntKind.i64.wrap (((a0.Open.length:Nat):Int)+((a0.Done.length:Nat):Int))))) ?_ h));refine wr ?_ ?_<;>repeat' first|rfl|constructor
 intro c5 h;unfold iT at h;refine au rfl (fun hc6=>?_) (fun hc6=>?_)
 ·rw [if_pos hc6] at h;refine Ws fun Z hZ=>?_;simp only [go_sem,seval,hc6];refine hZ _ (pp (Wk_ret (pp ?_)));cases h;simp only [go_sem,seval];exact ⟨_,rfl,RokI.h,PureI.h⟩
 rw [if_neg (ne_true_of_eq_false hc6)] at h;refine ag (pp ?_);unfold iK at h;refine Wk_seq (Ws fun Z hZ=>?_);simp only [go_sem,seval,hc6];refine hZ _ (pp (ak (bS fun hreal8=>?_)));have hl7:=hreal8.cell 1 2 (by simp only [go_sem,seval]; rfl) rfl;first|rw [List.length_map] at hl7|rw [bo] at hl7|rw [<-List.map_append,List.length_map] at hl7
 refine bJ (fun (v6:Nat) (b:Unit)=>⟨tab 133 (updT (updT deadT 1 (.pref 1 [] 0 0)) 3 (.val (.int .i64 ((v6:Nat):Int)))),(upd RZ 1 (.sl true none 4 (some 1) [Client.row a0]))⟩) () h ?_ ?_
 ·refine wr ?_ ?_<;>repeat' first|rfl|constructor
 rintro v6 ⟨⟩ hi9 h -;rcases (aU a0.Open v6 hi9) with ⟨x9,hi9',hx10,hd12⟩|⟨hi9',_,hd12⟩
 ·rw [hd12] at h;simp only [eA] at h;have hw11:=aY hi9' hl7;refine Wk_seq (Ws fun Z hZ=>?_);simp only [go_sem,seval,hi9'];refine hZ _ (pp ?_);try simp only [Int.ofNat_lt,hi9',if_true,if_false] at h
  refine aR rfl (ag (pp (Wk_seq (ak ?_))));apply be (fun (c17:Bool)=>⟨tab 133 (updT (updT (updT deadT 1 (.pref 1 [] 0 0)) 3 (.val (.int .i64 ((v6:Nat):Int)))) 70 (.val (.bool c17))),(upd RZ 1 (.sl true none 4 (some 1) [Client.row a0]))⟩)
  ·intro hJ13;try rw [gx_nat hx10] at h
   refine dc fun Z hZ=>?_;simp only [go_sem,seval,hx10,hi9'];refine ae rfl (fun hc14=>?_) (fun hc14=>?_)
   ·have hc14d:=decide_eq_true hc14;rw [if_pos hc14] at h;simp only [go_sem,seval,hc14d];refine hZ _ (by kernel_rfl) (pp (hJ13 _ true ?_ h));refine wr ?_ ?_<;>repeat' first|rfl|constructor
   have hc14d:=decide_eq_false hc14;rw [if_neg hc14] at h;try rw [gx_nat hx10] at h
   simp only [go_sem,seval,hx10,hi9',hc14d];refine ae rfl (fun hc15=>?_) (fun hc15=>?_)
   ·have hc15d:=decide_eq_true hc15;rw [if_pos hc15] at h;simp only [go_sem,seval,hc15d];refine hZ _ (by kernel_rfl) (pp (hJ13 _ true ?_ h));refine wr ?_ ?_<;>repeat' first|rfl|constructor
   have hc15d:=decide_eq_false hc15;rw [if_neg hc15] at h;simp only [go_sem,seval,hc15d];refine ae rfl (fun hc16=>?_) (fun hc16=>?_)
   ·have hc16d:=decide_eq_true hc16;rw [if_pos hc16] at h;try rw [gx_nat hx10] at h
    obtain ⟨x18,hb17,hx18,h⟩:=da h;simp only [go_sem,seval,hx10,hi9',hc16d,hb17,hx18];refine hZ _ (by kernel_rfl) (pp (hJ13 _ (decide (x9<=x18)) ?_ h));refine wr ?_ ?_<;>repeat' first|rfl|constructor
   have hc16d:=decide_eq_false hc16;rw [if_neg hc16] at h;simp only [go_sem,seval,hc16d];refine hZ _ (by kernel_rfl) (pp (hJ13 _ false ?_ h));refine wr ?_ ?_<;>repeat' first|rfl|constructor
  intro c17 h;unfold iO at h;refine au rfl (fun hc19=>?_) (fun hc19=>?_)
  ·rw [if_pos hc19] at h;refine Ws fun Z hZ=>?_;simp only [go_sem,seval,hc19];refine hZ _ (pp (Wk_ret (pp ?_)));cases h;simp only [go_sem,seval];exact ⟨_,rfl,RokI.h,PureI.h⟩
  rw [if_neg (ne_true_of_eq_false hc19)] at h;refine ag (pp (aa fun Z hZ=>?_));simp only [go_sem,seval,hw11,hc19];refine hZ _ (pp ?_);first|refine ⟨(),?_,h⟩|refine ⟨hi9',(),?_,h⟩
  refine wr ?_ ?_<;>repeat' first|rfl|constructor
 rw [hd12] at h;simp only [eA] at h;refine Wk_seq (Ws fun Z hZ=>?_);simp only [go_sem,seval,hi9'];refine hZ _ (pp ?_);try simp only [Int.ofNat_lt,hi9',if_true,if_false] at h
 refine aN rfl (ba (pp ?_));unfold pB at h;refine Wk_seq (Ws fun Z hZ=>?_);simp only [go_sem,seval];refine hZ _ (pp (ak (bS fun hreal21=>?_)));have hl20:=hreal21.cell 1 3 (by simp only [go_sem,seval]; rfl) rfl;first|rw [List.length_map] at hl20|rw [bo] at hl20|rw [<-List.map_append,List.length_map] at hl20
 refine bJ (fun (v16:Nat) (b:Unit)=>⟨tab 133 (updT (updT deadT 1 (.pref 1 [] 0 0)) 4 (.val (.int .i64 ((v16:Nat):Int)))),(upd RZ 1 (.sl true none 4 (some 1) [Client.row a0]))⟩) () h ?_ ?_
 ·refine wr ?_ ?_<;>repeat' first|rfl|constructor
 rintro v16 ⟨⟩ hi22 h -;rcases (aU a0.Done v16 hi22).symm with ⟨hi22',_,hd25⟩|⟨x19,hi22',hx23,hd25⟩
 ·rw [hd25] at h;simp only [bK] at h;refine Wk_seq (Ws fun Z hZ=>?_);simp only [go_sem,seval,hi22'];refine hZ _ (pp ?_);try simp only [Int.ofNat_lt,hi9',hi22',if_true,if_false] at h
  refine aN rfl (ba (pp (Ws fun Z hZ=>?_)));simp only [go_sem,seval];refine hZ _ (pp (Wk_ret (pp ?_)));cases h;simp only [go_sem,seval];exact ⟨_,rfl,RokI.h,PureI.h⟩
 rw [hd25] at h;simp only [bK] at h;have hw24:=aY hi22' hl20;refine Wk_seq (Ws fun Z hZ=>?_);simp only [go_sem,seval,hi22'];refine hZ _ (pp ?_);try simp only [Int.ofNat_lt,hi9',hi22',if_true,if_false] at h
 refine aR rfl (ag (pp (Wk_seq (ak (Wk_seq ?_)))));try rw [gx_nat hx23] at h
 refine aa fun Z hZ=>?_;simp only [go_sem,seval,hx23,hi22'];refine hZ _ (pp ?_);apply be (fun (c25:Bool)=>⟨tab 133 (updT (updT (updT deadT 1 (.pref 1 [] 0 0)) 4 (.val (.int .i64 ((v16:Nat):Int)))) 132 (.val (.bool c25))),(upd RZ 1 (.sl true none 4 (some 1) [Client.row a0]))⟩)
 ·intro hJ26;refine dc fun Z hZ=>?_;simp only [go_sem,seval];refine ae rfl (fun hc27=>?_) (fun hc27=>?_)
  ·have hc27d:=decide_eq_true hc27;rw [if_pos hc27] at h;simp only [go_sem,seval,hc27d];refine hZ _ (by kernel_rfl) (pp (hJ26 _ true ?_ h));refine wr ?_ ?_<;>repeat' first|rfl|constructor
  have hc27d:=decide_eq_false hc27;rw [if_neg hc27] at h;simp only [go_sem,seval,hc27d];refine sw (ae rfl) (fun hc28=>?_) (fun hc28=>?_)
  ·have hc28d:=decide_eq_false hc28;rw [if_neg hc28] at h;obtain ⟨r29,hr37,h⟩:=Option.bind_eq_some_iff.1 h;simp only [go_sem,seval,hc28d,hr37];repeat with_reducible refine bN (by kernel_rfl) ?_
   refine bf rfl (fun hc38=>?_) (fun hc38=>?_)
   ·rw [if_pos hc38] at h;simp only [go_sem,seval,hc38];refine hZ _ (by kernel_rfl) (pp (hJ26 _ true ?_ h));refine wr ?_ ?_<;>repeat' first|rfl|constructor
   rw [if_neg (ne_true_of_eq_false hc38)] at h;obtain ⟨r30,hr39,h⟩:=Option.bind_eq_some_iff.1 h;simp only [go_sem,seval,hc38,hr39];repeat with_reducible refine bN (by kernel_rfl) ?_
   refine aw rfl (fun hc40=>?_) (fun hc40=>?_)
   ·rw [if_neg (ne_true_of_eq_false hc40)] at h;simp only [go_sem,seval,hc40];refine hZ _ (by kernel_rfl) (pp (hJ26 _ true ?_ h));refine wr ?_ ?_<;>repeat' first|rfl|constructor
   rw [if_pos hc40] at h;simp only [go_sem,seval,hc40];refine aw rfl (fun hc41=>?_) (fun hc41=>?_)
   ·rw [if_neg (ne_true_of_eq_false hc41)] at h;simp only [go_sem,seval,hc41];refine hZ _ (by kernel_rfl) (pp (hJ26 _ true ?_ h));refine wr ?_ ?_<;>repeat' first|rfl|constructor
   rw [if_pos hc41] at h;simp only [go_sem,seval,hc41];refine hZ _ (by kernel_rfl) (pp (hJ26 _ (!decide (x19.Reply_.Seq=x19.Seq)) ?_ h));refine wr ?_ ?_<;>repeat' first|rfl|constructor
  have hc28d:=decide_eq_true hc28;rw [if_pos hc28] at h;obtain ⟨x26,hb29,hx30,h⟩:=da h;simp only [go_sem,seval,hc28d,hb29,hx30];refine ae rfl (fun hc31=>?_) (fun hc31=>?_)
  ·have hc31d:=decide_eq_true hc31;rw [if_pos hc31] at h;simp only [go_sem,seval,hc31d];refine hZ _ (by kernel_rfl) (pp (hJ26 _ true ?_ h));refine wr ?_ ?_<;>repeat' first|rfl|constructor
  have hc31d:=decide_eq_false hc31;rw [if_neg hc31] at h;obtain ⟨r27,hr32,h⟩:=Option.bind_eq_some_iff.1 h;simp only [go_sem,seval,hc31d,hr32];repeat with_reducible refine bN (by kernel_rfl) ?_
  refine bf rfl (fun hc33=>?_) (fun hc33=>?_)
  ·rw [if_pos hc33] at h;simp only [go_sem,seval,hc33];refine hZ _ (by kernel_rfl) (pp (hJ26 _ true ?_ h));refine wr ?_ ?_<;>repeat' first|rfl|constructor
  rw [if_neg (ne_true_of_eq_false hc33)] at h;obtain ⟨r28,hr34,h⟩:=Option.bind_eq_some_iff.1 h;simp only [go_sem,seval,hc33,hr34];repeat with_reducible refine bN (by kernel_rfl) ?_
  refine aw rfl (fun hc35=>?_) (fun hc35=>?_)
  ·rw [if_neg (ne_true_of_eq_false hc35)] at h;simp only [go_sem,seval,hc35];refine hZ _ (by kernel_rfl) (pp (hJ26 _ true ?_ h));refine wr ?_ ?_<;>repeat' first|rfl|constructor
  rw [if_pos hc35] at h;simp only [go_sem,seval,hc35];refine aw rfl (fun hc36=>?_) (fun hc36=>?_)
  ·rw [if_neg (ne_true_of_eq_false hc36)] at h;simp only [go_sem,seval,hc36];refine hZ _ (by kernel_rfl) (pp (hJ26 _ true ?_ h));refine wr ?_ ?_<;>repeat' first|rfl|constructor
  rw [if_pos hc36] at h;simp only [go_sem,seval,hc36];refine hZ _ (by kernel_rfl) (pp (hJ26 _ (!decide (x19.Reply_.Seq=x19.Seq)) ?_ h));refine wr ?_ ?_<;>repeat' first|rfl|constructor
 intro c25 h;unfold dP at h;refine au rfl (fun hc42=>?_) (fun hc42=>?_)
 ·rw [if_pos hc42] at h;refine Ws fun Z hZ=>?_;simp only [go_sem,seval,hc42];refine hZ _ (pp (Wk_ret (pp ?_)));cases h;simp only [go_sem,seval];exact ⟨_,rfl,RokI.h,PureI.h⟩
 rw [if_neg (ne_true_of_eq_false hc42)] at h;refine ag (pp (aa fun Z hZ=>?_));simp only [go_sem,seval,hw24,hc42];refine hZ _ (pp ?_);first|refine ⟨(),?_,h⟩|refine ⟨hi22',(),?_,h⟩
 refine wr ?_ ?_<;>repeat' first|rfl|constructor
def pw (N:Nat):FnS:=⟨[],true,fn1 Client.decA fun q0=>(lA N q0).map fun r=>.val (.bool r),false⟩
attribute [go_sem] pw
theorem vT (N:Nat):FSOk Try.prog 50 (pw N):=ok1 (fun q0 r h=>by
 obtain ⟨r',hr,rfl⟩:=Option.map_eq_some_iff.1 h;exact zL N q0 r' hr) (Client.decA_le)


noncomputable def uy (N d f:Nat):Option FnS:=glist [(17,50,pw N)] d f
attribute [go_sem] uy
theorem zO (N:Nat) (a0:(List Client)) (r:Bool) (h:fi N a0=some r):Con Try.prog 23 [] true [.sl false none 4 none (a0.map Client.row)] (.val (.bool r)):=by
 refine ay (G:=(uy N)) Try.func23 rfl (by decide) (by kernel_rfl) (gc 17 (vT N) gn) [] mix (Nat.le_of_ble_eq_true rfl) ?_;simp only [Try.f23];unfold fi at h;refine Ws fun Z hZ=>?_;simp only [go_sem,seval];refine hZ _ (pp (Wk_seq (Ws fun Z hZ=>?_)));simp only [go_sem,seval];refine hZ _ (pp (aQ rfl (fun hc1=>?_) (fun hc1=>?_)))
 ·have hc1d:=decide_eq_true hc1;rw [if_pos hc1] at h;refine Ws fun Z hZ=>?_;simp only [go_sem,seval,hc1d];refine hZ _ (pp (Wk_ret (pp ?_)));cases h;simp only [go_sem,seval];exact ⟨_,rfl,RokI.h,PureI.h⟩
 have hc1d:=decide_eq_false hc1;rw [if_neg hc1] at h;refine ag (pp (Wk_seq (Ws fun Z hZ=>?_)));simp only [go_sem,seval,hc1d];refine hZ _ (pp (ak (bS fun hreal3=>?_)));have hl2:=hreal3.lenT 0 (by decide) (by simp only [go_sem,seval]; rfl);first|rw [List.length_map] at hl2|rw [bo] at hl2|rw [<-List.map_append,List.length_map] at hl2
 refine bJ (fun (v3:Nat) (b:Unit)=>⟨tab 37 (updT (updT deadT 0 (.sl false none 4 none (a0.map Client.row))) 3 (.val (.int .i64 ((v3:Nat):Int)))),RZ⟩) () h ?_ ?_
 ·refine wr ?_ ?_<;>repeat' first|rfl|constructor
 rintro v3 ⟨⟩ hi4 h -;rcases (aU a0 v3 hi4).symm with ⟨hi4',_,hd7⟩|⟨x6,hi4',hx5,hd7⟩
 ·rw [hd7] at h;simp only [fD] at h;refine Wk_seq (Ws fun Z hZ=>?_);simp only [go_sem,seval,hi4'];refine hZ _ (pp ?_);try simp only [Int.ofNat_lt,hi4',if_true,if_false] at h
  refine aN rfl (ba (pp (Ws fun Z hZ=>?_)));simp only [go_sem,seval];refine hZ _ (pp (Wk_ret (pp ?_)));cases h;simp only [go_sem,seval];exact ⟨_,rfl,RokI.h,PureI.h⟩
 rw [hd7] at h;simp only [fD] at h;have hw6:=aY hi4' hl2;refine Wk_seq (Ws fun Z hZ=>?_);simp only [go_sem,seval,hi4'];refine hZ _ (pp ?_);try simp only [Int.ofNat_lt,hi4',if_true,if_false] at h
 refine aR rfl (ag (pp (Wk_seq (ak ?_))));apply be (fun (c3:Bool)=>⟨tab 37 (updT (updT (updT deadT 0 (.sl false none 4 none (a0.map Client.row))) 3 (.val (.int .i64 ((v3:Nat):Int)))) 36 (.val (.bool c3))),RZ⟩)
 ·intro hJ8;try rw [gx_nat hx5] at h
  obtain ⟨r4,hr9,h⟩:=Option.bind_eq_some_iff.1 h;refine dc fun Z hZ=>?_;simp only [go_sem,seval,hx5,hi4',hr9];repeat with_reducible refine bN (by kernel_rfl) ?_
  refine aw rfl (fun hc10=>?_) (fun hc10=>?_)
  ·rw [if_neg (ne_true_of_eq_false hc10)] at h;simp only [go_sem,seval,hc10];refine hZ _ (by kernel_rfl) (pp (hJ8 _ true ?_ h));refine wr ?_ ?_<;>repeat' first|rfl|constructor
  rw [if_pos hc10] at h;simp only [go_sem,seval,hc10];refine ae rfl (fun hc11=>?_) (fun hc11=>?_)
  ·have hc11d:=decide_eq_true hc11;rw [if_pos hc11] at h;try rw [gx_nat hx5] at h
   obtain ⟨x5,hb12,hx13,h⟩:=da h;simp only [go_sem,seval,hx5,hi4',hc11d,hb12,hx13];refine hZ _ (by kernel_rfl) (pp (hJ8 _ (sLt x6.Name x5.Name || sEq x6.Name x5.Name) ?_ h));refine wr ?_ ?_<;>repeat' first|rfl|constructor
  have hc11d:=decide_eq_false hc11;rw [if_neg hc11] at h;simp only [go_sem,seval,hc11d];refine hZ _ (by kernel_rfl) (pp (hJ8 _ false ?_ h));refine wr ?_ ?_<;>repeat' first|rfl|constructor
 intro c3 h;unfold kB at h;refine au rfl (fun hc14=>?_) (fun hc14=>?_)
 ·rw [if_pos hc14] at h;refine Ws fun Z hZ=>?_;simp only [go_sem,seval,hc14];refine hZ _ (pp (Wk_ret (pp ?_)));cases h;simp only [go_sem,seval];exact ⟨_,rfl,RokI.h,PureI.h⟩
 rw [if_neg (ne_true_of_eq_false hc14)] at h;refine ag (pp (aa fun Z hZ=>?_));simp only [go_sem,seval,hw6,hc14];refine hZ _ (pp ?_);first|refine ⟨(),?_,h⟩|refine ⟨hi4',(),?_,h⟩
 refine wr ?_ ?_<;>repeat' first|rfl|constructor
def gj (N:Nat):FnS:=⟨[],true,fn1 (decL 4 Client.dec) fun q0=>(fi N q0).map fun r=>.val (.bool r),false⟩
attribute [go_sem] gj
theorem iq (N:Nat):FSOk Try.prog 23 (gj N):=ok1 (fun q0 r h=>by
 obtain ⟨r',hr,rfl⟩:=Option.map_eq_some_iff.1 h;exact zO N q0 r' hr) (fun h=>aq Client.dec_le h)


theorem C4 (N:Nat) (a0:(List Client)) (a1:ByteArray) (r:Client × Bool) (h:kV N a0 a1=some r):Con Try.prog 34 [] false [.sl false none 4 none (a0.map Client.row),.val (.string a1)] (.tup [.agg (Client.row r.1),.val (.bool r.2)]):=by
 refine ay (G:=(glist [])) Try.func34 rfl (by decide) (by kernel_rfl) gn [] mix (Nat.le_of_ble_eq_true rfl) ?_;simp only [Try.f34];unfold kV at h;refine Ws fun Z hZ=>?_;simp only [go_sem,seval];refine hZ _ (pp (Wk_seq (Ws fun Z hZ=>?_)));simp only [go_sem,seval];refine hZ _ (pp (ak (bS fun hreal2=>?_)));have hl1:=hreal2.lenT 0 (by decide) (by simp only [go_sem,seval]; rfl);first|rw [List.length_map] at hl1|rw [bo] at hl1|rw [<-List.map_append,List.length_map] at hl1
 refine bJ (fun (v2:Nat) (b:Unit)=>⟨tab 26 (updT (updT (updT (updT deadT 0 (.sl false none 4 none (a0.map Client.row))) 1 (.val (.string a1))) 4 (.pref 4 [] 0 0)) 6 (.val (.int .i64 ((v2:Nat):Int)))),(upd RZ 4 (.sl true none 4 (some 1) [[.val (.string (⟨#[]⟩)),.val (.int .i64 0),.val (.slice none 0 0),.val (.slice none 0 0)]]))⟩) () h ?_ ?_
 ·refine wr ?_ ?_<;>repeat' first|rfl|constructor
 rintro v2 ⟨⟩ hi3 h -;rcases (aU a0 v2 hi3).symm with ⟨hi3',_,hd6⟩|⟨x5,hi3',hx4,hd6⟩
 ·rw [hd6] at h;simp only [lz] at h;refine Wk_seq (Ws fun Z hZ=>?_);simp only [go_sem,seval,hi3'];refine hZ _ (pp ?_);try simp only [Int.ofNat_lt,hi3',if_true,if_false] at h
  refine aN rfl (ba (pp (Ws fun Z hZ=>?_)));simp only [go_sem,seval];refine hZ _ (pp (Wk_ret (pp ?_)));cases h;simp only [go_sem,seval];exact ⟨_,rfl,RokI.h⟩
 rw [hd6] at h;simp only [lz] at h;have hw5:=aY hi3' hl1;refine Wk_seq (Ws fun Z hZ=>?_);simp only [go_sem,seval,hi3'];refine hZ _ (pp ?_);try simp only [Int.ofNat_lt,hi3',if_true,if_false] at h
 refine aR rfl (ag (pp (Wk_seq (ak (Wk_seq ?_)))));try rw [gx_nat hx4] at h
 refine aa fun Z hZ=>?_;simp only [go_sem,seval,hx4,hi3'];refine hZ _ (pp (au rfl (fun hc7=>?_) (fun hc7=>?_)))
 ·rw [if_pos hc7] at h;refine Wk_seq ?_;try rw [gx_nat hx4] at h
  refine aa fun Z hZ=>?_;simp only [go_sem,seval,hx4,hi3',hc7];refine hZ _ (pp (Wk_ret (pp ?_)));cases h;simp only [go_sem,seval];exact ⟨_,rfl,RokI.h⟩
 rw [if_neg (ne_true_of_eq_false hc7)] at h;refine ag (pp (aa fun Z hZ=>?_));simp only [go_sem,seval,hw5,hc7];refine hZ _ (pp ?_);first|refine ⟨(),?_,h⟩|refine ⟨hi3',(),?_,h⟩
 refine wr ?_ ?_<;>repeat' first|rfl|constructor
def kt (N:Nat):FnS:=⟨[],false,fn2 (decL 4 Client.dec) decS fun q0 q1=>(kV N q0 q1).map fun r=>.tup [.agg (Client.row r.1),.val (.bool r.2)],false⟩
attribute [go_sem] kt
theorem kJ (N:Nat):FSOk Try.prog 34 (kt N):=ok2 (fun q0 q1 r h=>by
 obtain ⟨r',hr,rfl⟩:=Option.map_eq_some_iff.1 h;exact C4 N q0 q1 r' hr) (fun h=>aq Client.dec_le h) (aW)


theorem AF (N:Nat) (a0:Client) (a1:Int) (r:Int) (h:mA N a0 a1=some r):Con Try.prog 45 [] true [.agg (Client.row a0),.val (.int .i64 a1)] (.val (.int .i64 r)):=by
 refine ay (G:=(glist [])) Try.func45 rfl (by decide) (by kernel_rfl) gn [] mix (Nat.le_of_ble_eq_true rfl) ?_;simp only [Try.f45];unfold mA at h;refine Ws fun Z hZ=>?_;simp only [go_sem,seval];refine hZ _ (pp (Wk_seq (Ws fun Z hZ=>?_)));simp only [go_sem,seval];refine hZ _ (pp (ak (bS fun hreal2=>?_)));have hl1:=hreal2.cell 2 3 (by simp only [go_sem,seval]; rfl) rfl;first|rw [List.length_map] at hl1|rw [bo] at hl1|rw [<-List.map_append,List.length_map] at hl1
 refine bJ (fun (v2:Nat) (b:Unit)=>⟨tab 22 (updT (updT (updT deadT 1 (.val (.int .i64 a1))) 2 (.pref 2 [] 0 0)) 5 (.val (.int .i64 ((v2:Nat):Int)))),(upd RZ 2 (.sl true none 4 (some 1) [Client.row a0]))⟩) () h ?_ ?_
 ·refine wr ?_ ?_<;>repeat' first|rfl|constructor
 rintro v2 ⟨⟩ hi3 h -;rcases (aU a0.Done v2 hi3).symm with ⟨hi3',_,hd6⟩|⟨x5,hi3',hx4,hd6⟩
 ·rw [hd6] at h;simp only [jB] at h;refine Wk_seq (Ws fun Z hZ=>?_);simp only [go_sem,seval,hi3'];refine hZ _ (pp ?_);try simp only [Int.ofNat_lt,hi3',if_true,if_false] at h
  refine aN rfl (ba (pp (Ws fun Z hZ=>?_)));simp only [go_sem,seval];refine hZ _ (pp (Wk_ret (pp ?_)));cases h;simp only [go_sem,seval];exact ⟨_,rfl,RokI.h,PureI.h⟩
 rw [hd6] at h;simp only [jB] at h;have hw5:=aY hi3' hl1;refine Wk_seq (Ws fun Z hZ=>?_);simp only [go_sem,seval,hi3'];refine hZ _ (pp ?_);try simp only [Int.ofNat_lt,hi3',if_true,if_false] at h
 refine aR rfl (ag (pp (Wk_seq (ak (Wk_seq ?_)))));try rw [gx_nat hx4] at h
 refine aa fun Z hZ=>?_;simp only [go_sem,seval,hx4,hi3'];refine hZ _ (pp (aQ rfl (fun hc7=>?_) (fun hc7=>?_)))
 ·have hc7d:=decide_eq_true hc7;rw [if_pos hc7] at h;refine Ws fun Z hZ=>?_;simp only [go_sem,seval,hc7d];refine hZ _ (pp (Wk_ret (pp ?_)));cases h;simp only [go_sem,seval];exact ⟨_,rfl,RokI.h,PureI.h⟩
 have hc7d:=decide_eq_false hc7;rw [if_neg hc7] at h;refine ag (pp (aa fun Z hZ=>?_));simp only [go_sem,seval,hw5,hc7d];refine hZ _ (pp ?_);first|refine ⟨(),?_,h⟩|refine ⟨hi3',(),?_,h⟩
 refine wr ?_ ?_<;>repeat' first|rfl|constructor
def m3 (N:Nat):FnS:=⟨[],true,fn2 Client.decA (decI .i64) fun q0 q1=>(mA N q0 q1).map fun r=>.val (.int .i64 r),false⟩
attribute [go_sem] m3
theorem qW (N:Nat):FSOk Try.prog 45 (m3 N):=ok2 (fun q0 q1 r h=>by
 obtain ⟨r',hr,rfl⟩:=Option.map_eq_some_iff.1 h;exact AF N q0 q1 r' hr) (Client.decA_le) (ar)


noncomputable def th (N d f:Nat):Option FnS:=glist [(12,34,kt N),(17,23,gj N),(32,48,iV N),(36,45,m3 N)] d f
attribute [go_sem] th
theorem yN (N:Nat) (a0:(List Client)) (a1:ByteArray) (a2:Int) (r:Int) (h:fR N a0 a1 a2=some r):Con Try.prog 21 [] true [.sl false none 4 none (a0.map Client.row),.val (.string a1),.val (.int .i64 a2)] (.val (.int .i64 r)):=by
 refine ay (G:=(th N)) Try.func21 rfl (by decide) (by kernel_rfl) (gc 12 (kJ N) (gc 17 (iq N) (gc 32 (lH N) (gc 36 (qW N) gn)))) [] mix (Nat.le_of_ble_eq_true rfl) ?_;simp only [Try.f21];unfold fR at h;refine Ws fun Z hZ=>?_;simp only [go_sem,seval];refine hZ _ (pp (Wk_seq ?_));obtain ⟨r1,hr1,h⟩:=Option.bind_eq_some_iff.1 h;refine aa fun Z hZ=>?_;simp only [go_sem,seval,hr1];refine hZ _ (pp (Wk_seq (ak ?_)));apply be (fun (c3:Bool)=>⟨tab 38 (updT (updT (updT deadT 2 (.val (.int .i64 a2))) 7 (.pref 7 [] 0 0)) 15 (.val (.bool c3))),(upd RZ 7 (.sl true none 4 (some 1) [Client.row r1.1]))⟩)
 ·intro hJ2;obtain ⟨r4,hr3,h⟩:=Option.bind_eq_some_iff.1 h;refine aa fun Z hZ=>?_;simp only [go_sem,seval,hr3];refine aw rfl (fun hc4=>?_) (fun hc4=>?_)
  ·rw [if_neg (ne_true_of_eq_false hc4)] at h;simp only [go_sem,seval,hc4];refine hZ _ (pp (hJ2 _ true ?_ h));refine wr ?_ ?_<;>repeat' first|rfl|constructor
  rw [if_pos hc4] at h;simp only [go_sem,seval,hc4];refine hZ _ (pp (hJ2 _ (!r1.2) ?_ h));refine wr ?_ ?_<;>repeat' first|rfl|constructor
 intro c3 h;unfold lQ at h;refine au rfl (fun hc5=>?_) (fun hc5=>?_)
 ·rw [if_pos hc5] at h;refine Ws fun Z hZ=>?_;simp only [go_sem,seval,hc5];refine hZ _ (pp (Wk_ret (pp ?_)));cases h;simp only [go_sem,seval];exact ⟨_,rfl,RokI.h,PureI.h⟩
 rw [if_neg (ne_true_of_eq_false hc5)] at h;refine Ws fun Z hZ=>?_;simp only [go_sem,seval,hc5];refine hZ _ (pp (aQ rfl (fun hc6=>?_) (fun hc6=>?_)))
 ·have hc6d:=decide_eq_true hc6;rw [if_pos hc6] at h;refine Ws fun Z hZ=>?_;simp only [go_sem,seval,hc6d];refine hZ _ (pp (Wk_ret (pp ?_)));cases h;simp only [go_sem,seval];exact ⟨_,rfl,RokI.h,PureI.h⟩
 have hc6d:=decide_eq_false hc6;rw [if_neg hc6] at h;refine Wk_seq ?_;obtain ⟨r5,hr7,h⟩:=Option.bind_eq_some_iff.1 h;refine aa fun Z hZ=>?_;simp only [go_sem,seval,hc6d,hr7];refine hZ _ (pp (au rfl (fun hc8=>?_) (fun hc8=>?_)))
 ·rw [if_pos hc8] at h;refine Ws fun Z hZ=>?_;simp only [go_sem,seval,hc8];refine hZ _ (pp (Wk_ret (pp ?_)));cases h;simp only [go_sem,seval];exact ⟨_,rfl,RokI.h,PureI.h⟩
 rw [if_neg (ne_true_of_eq_false hc8)] at h;refine Wk_seq ?_;obtain ⟨r6,hr9,h⟩:=Option.bind_eq_some_iff.1 h;refine aa fun Z hZ=>?_;simp only [go_sem,seval,hc8,hr9];refine hZ _ (pp (aQ rfl (fun hc10=>?_) (fun hc10=>?_)))
 ·have hc10d:=decide_eq_true hc10;rw [if_pos hc10] at h;refine Ws fun Z hZ=>?_;simp only [go_sem,seval,hc10d];refine hZ _ (pp (Wk_ret (pp ?_)));cases h;simp only [go_sem,seval];exact ⟨_,rfl,RokI.h,PureI.h⟩
 have hc10d:=decide_eq_false hc10;rw [if_neg hc10] at h;refine ag (pp (Ws fun Z hZ=>?_));simp only [go_sem,seval,hc10d];refine hZ _ (pp (Wk_ret (pp ?_)));cases h;simp only [go_sem,seval];exact ⟨_,rfl,RokI.h,PureI.h⟩
def gX (N:Nat):FnS:=⟨[],true,fn3 (decL 4 Client.dec) decS (decI .i64) fun q0 q1 q2=>(fR N q0 q1 q2).map fun r=>.val (.int .i64 r),false⟩
attribute [go_sem] gX
theorem j6 (N:Nat):FSOk Try.prog 21 (gX N):=ok3 (fun q0 q1 q2 r h=>by
 obtain ⟨r',hr,rfl⟩:=Option.map_eq_some_iff.1 h;exact yN N q0 q1 q2 r' hr) (fun h=>aq Client.dec_le h) (aW) (ar)


theorem ug (N:Nat) (a0:(List Int)) (a1:Int) (r:(List Int)) (h:kh N a0 a1=some r):Con Try.prog 35 [] true [.sl false none 1 none (a0.map (rowI .i64)),.val (.int .i64 a1)] (.sl true none 1 none (r.map (rowI .i64))):=by
 refine ay (G:=(glist [])) Try.func35 rfl (by decide) (by kernel_rfl) gn [] mix (Nat.le_of_ble_eq_true rfl) ?_;simp only [Try.f35];unfold kh at h;refine Ws fun Z hZ=>?_;simp only [go_sem,seval];refine hZ _ (pp (Ws fun Z hZ=>?_));simp only [go_sem,seval];refine hZ _ (pp (Ws fun Z hZ=>?_));simp only [go_sem,seval];refine hZ _ (pp (Wk_seq (Ws fun Z hZ=>?_)));simp only [go_sem,seval];refine hZ _ (pp (ak (bS fun hreal2=>?_)));have hl1:=hreal2.lenT 0 (by decide) (by simp only [go_sem,seval]; rfl);first|rw [List.length_map] at hl1|rw [bo] at hl1|rw [<-List.map_append,List.length_map] at hl1
 refine bJ (fun (v4:Nat) (b:List Int × Bool)=>⟨tab 42 (updT (updT (updT (updT (updT deadT 0 (.sl false none 1 none (a0.map (rowI .i64)))) 1 (.val (.int .i64 a1))) 5 (.pal 34 [] 0 b.1.length none)) 6 (.val (.bool b.2))) 7 (.val (.int .i64 ((v4:Nat):Int)))),(upd RZ 34 (.sl true none 1 none (b.1.map (rowI .i64))))⟩) ([],false) h ?_ ?_
 ·refine Weak.trans (oQ 5 34 1 (by simp only [go_sem,seval]) (by simp only [go_sem,seval])) ?_;refine wr ?_ ?_<;>repeat' first|rfl|constructor|simp only [go_sem,seval,Bool.or_self,List.length_set,Int.natCast_zero,Int.cast_ofNat_Int]
 rintro v4 ⟨l2,c3⟩ hi3 h -;rcases (aU a0 v4 hi3).symm with ⟨hi3',_,hd6⟩|⟨x7,hi3',hx4,hd6⟩
 ·rw [hd6] at h;simp only [et] at h;refine Wk_seq (Ws fun Z hZ=>?_);simp only [go_sem,seval,hi3'];refine hZ _ (pp ?_);try simp only [Int.ofNat_lt,hi3',if_true,if_false] at h
  refine aN rfl (ba (pp ?_));unfold pL at h;refine Wk_seq (Ws fun Z hZ=>?_);simp only [go_sem,seval];refine hZ _ (pp (sw (de rfl) (fun hc13=>?_) (fun hc13=>?_)))
  ·rw [if_pos hc13] at h;refine ag (pp (Ws fun Z hZ=>?_));simp only [go_sem,seval,hc13];refine hZ _ (pp (Wk_ret (pp ?_)));cases h;simp only [go_sem,seval];exact ⟨_,rfl,RokI.h,PureI.h⟩
  rw [if_neg (ne_true_of_eq_false hc13)] at h;obtain ⟨ha14,h⟩:=fy h;simp only [List.length_cons,List.length_nil,Nat.zero_add,Nat.reduceAdd] at ha14;refine aa fun Z hZ=>?_;simp only [go_sem,seval,hc13,ha14];refine hZ _ (pp (Ws fun Z hZ=>?_));simp only [go_sem,seval];refine hZ _ (pp (Wk_ret (pp ?_)));cases h;simp only [go_sem,seval];exact ⟨_,rfl,RokI.h,PureI.h⟩
 rw [hd6] at h;simp only [et] at h;have hw5:=aY hi3' hl1;refine Wk_seq (Ws fun Z hZ=>?_);simp only [go_sem,seval,hi3'];refine hZ _ (pp ?_);try simp only [Int.ofNat_lt,hi3',if_true,if_false] at h
 refine aR rfl (ag (pp (Wk_seq (ak ?_))));apply m8 (fun (l23:List Int) (c24:Bool)=>⟨tab 42 (updT (updT (updT (updT (updT deadT 0 (.sl false none 1 none (a0.map (rowI .i64)))) 1 (.val (.int .i64 a1))) 5 (.pal 27 [] 0 l23.length none)) 6 (.val (.bool c24))) 7 (.val (.int .i64 ((v4:Nat):Int)))),(upd RZ 27 (.sl true none 1 none (l23.map (rowI .i64))))⟩)
 ·intro hJ7;apply m8 (fun (c25:Bool) (c26:Bool)=>⟨tab 42 (updT (updT (updT (updT (updT (updT deadT 0 (.sl false none 1 none (a0.map (rowI .i64)))) 1 (.val (.int .i64 a1))) 5 (.pal 34 [] 0 l2.length none)) 6 (.val (.bool c25))) 7 (.val (.int .i64 ((v4:Nat):Int)))) 23 (.val (.bool c26))),(upd RZ 34 (.sl true none 1 none (l2.map (rowI .i64))))⟩)
  ·intro hJ8;refine aa fun Z hZ=>?_;simp only [go_sem,seval];refine aw rfl (fun hc9=>?_) (fun hc9=>?_)
   ·rw [if_neg (ne_true_of_eq_false hc9)] at h;try rw [gx_nat hx4] at h
    simp only [go_sem,seval,hx4,hi3',hc9];refine hZ _ (pp (hJ8 _ false (decide (a1 < x7)) ?_ h));refine wr ?_ ?_<;>repeat' first|rfl|constructor|simp only [go_sem,seval,Bool.or_self,List.length_set,Int.natCast_zero,Int.cast_ofNat_Int,hx4,hi3',hw5,hc9]
   rw [if_pos hc9] at h;simp only [go_sem,seval,hc9];refine hZ _ (pp (hJ8 _ true false ?_ h));refine wr ?_ ?_<;>repeat' first|rfl|constructor|simp only [go_sem,seval,Bool.or_self,List.length_set,Int.natCast_zero,Int.cast_ofNat_Int,hx4,hi3',hw5,hc9]
  intro c25 c26 h;unfold kN at h;refine au rfl (fun hc10=>?_) (fun hc10=>?_)
  ·rw [if_pos hc10] at h;refine Wk_seq ?_;obtain ⟨ha11,h⟩:=fy h;simp only [List.length_cons,List.length_nil,Nat.zero_add,Nat.reduceAdd] at ha11;refine aa fun Z hZ=>?_;simp only [go_sem,seval,hc10,ha11];refine hZ _ (pp (aa fun Z hZ=>?_));simp only [go_sem,seval];refine hZ _ (pp (hJ7 _ (l2++[a1]) true ?_ h));refine wr ?_ ?_<;>repeat' first|rfl|constructor|simp only [go_sem,seval]
  rw [if_neg (ne_true_of_eq_false hc10)] at h;refine ag (pp (hJ7 _ l2 c25 ?_ h));refine Weak.trans (pT 5 34 27 (by decide) (by decide) (by simp only [go_sem,seval]) (by simp only [go_sem,seval]; rfl) (by simp only [go_sem,seval,hc10]; rfl) (by first|(simp; done)|simp only [go_sem,seval,Bool.or_self,List.length_set,Int.natCast_zero,Int.cast_ofNat_Int,hx4,hi3',hw5,hc10])) ?_;refine wr ?_ ?_<;>repeat' first|rfl|constructor|simp only [go_sem,seval,Bool.or_self,List.length_set,Int.natCast_zero,Int.cast_ofNat_Int,hx4,hi3',hw5,hc10]
 intro l23 c24 h;unfold kE at h;try rw [gx_nat hx4] at h
 obtain ⟨ha12,h⟩:=fy h;simp only [List.length_cons,List.length_nil,Nat.zero_add,Nat.reduceAdd] at ha12;refine aa fun Z hZ=>?_;simp only [go_sem,seval,hx4,hi3',ha12];refine hZ _ (pp (aa fun Z hZ=>?_));simp only [go_sem,seval,hw5];refine hZ _ (pp ?_);first|refine ⟨((l23++[x7]),c24),?_,h⟩|refine ⟨hi3',((l23++[x7]),c24),?_,h⟩
 refine wr ?_ ?_<;>repeat' first|rfl|constructor|simp only [go_sem,seval]
def pM (N:Nat):FnS:=⟨[],true,fn2 (decL 1 (dec1 (decI .i64))) (decI .i64) fun q0 q1=>(kh N q0 q1).map fun r=>.sl false none 1 none (r.map (rowI .i64)),false⟩
attribute [go_sem] pM
theorem vV (N:Nat):FSOk Try.prog 35 (pM N):=ok2 (fun q0 q1 r h=>by
 obtain ⟨r',hr,rfl⟩:=Option.map_eq_some_iff.1 h;exact (ug N q0 q1 r' hr).res (by (try simp only [go_sem]); exact RokI.h)) (fun h=>aq (br .i64) h) (ar)

def rV (N:Nat):FnS:=⟨[],true,fn2 (decL 1 (dec1 (decI .i64))) (decI .i64) fun q0 q1=>(kh N q0 q1).map fun r=>.sl true none 1 none (r.map (rowI .i64)),false⟩
attribute [go_sem] rV
theorem DJ (N:Nat):FSOk Try.prog 35 (rV N):=ok2 (fun q0 q1 r h=>by
 obtain ⟨r',hr,rfl⟩:=Option.map_eq_some_iff.1 h;exact ug N q0 q1 r' hr) (fun h=>aq (br .i64) h) (ar)


theorem wb (N:Nat) (a0:(List Client)) (a1:Client) (r:(List Client)) (h:jZ N a0 a1=some r):Con Try.prog 36 [] false [.sl false none 4 none (a0.map Client.row),.agg (Client.row a1)] (.sl true none 4 none (r.map Client.row)):=by
 refine ay (G:=(glist [])) Try.func36 rfl (by decide) (by kernel_rfl) gn [] mix (Nat.le_of_ble_eq_true rfl) ?_;simp only [Try.f36];unfold jZ at h;refine Ws fun Z hZ=>?_;simp only [go_sem,seval];refine hZ _ (pp (Ws fun Z hZ=>?_));simp only [go_sem,seval];refine hZ _ (pp (Ws fun Z hZ=>?_));simp only [go_sem,seval];refine hZ _ (pp (Wk_seq (Ws fun Z hZ=>?_)));simp only [go_sem,seval];refine hZ _ (pp (ak (bS fun hreal2=>?_)));have hl1:=hreal2.lenT 0 (by decide) (by simp only [go_sem,seval]; rfl);first|rw [List.length_map] at hl1|rw [bo] at hl1|rw [<-List.map_append,List.length_map] at hl1
 refine bJ (fun (v4:Nat) (b:List Client × Bool)=>⟨tab 52 (updT (updT (updT (updT (updT deadT 0 (.sl false none 4 none (a0.map Client.row))) 3 (.pref 3 [] 0 0)) 5 (.pal 29 [] 0 b.1.length none)) 6 (.val (.bool b.2))) 7 (.val (.int .i64 ((v4:Nat):Int)))),(upd (upd RZ 3 (.sl true none 4 (some 1) [Client.row a1])) 29 (.sl true none 4 none (b.1.map Client.row)))⟩) ([],false) h ?_ ?_
 ·refine Weak.trans (oQ 5 29 4 (by simp only [go_sem,seval]) (by simp only [go_sem,seval])) ?_;refine wr ?_ ?_<;>repeat' first|rfl|constructor|simp only [go_sem,seval,Bool.or_self,List.length_set,Int.natCast_zero,Int.cast_ofNat_Int]
 rintro v4 ⟨l2,c3⟩ hi3 h -;rcases (aU a0 v4 hi3).symm with ⟨hi3',_,hd6⟩|⟨x7,hi3',hx4,hd6⟩
 ·rw [hd6] at h;simp only [fh] at h;refine Wk_seq (Ws fun Z hZ=>?_);simp only [go_sem,seval,hi3'];refine hZ _ (pp ?_);try simp only [Int.ofNat_lt,hi3',if_true,if_false] at h
  refine aN rfl (ba (pp ?_));unfold qY at h;refine Wk_seq (Ws fun Z hZ=>?_);simp only [go_sem,seval];refine hZ _ (pp (sw (de rfl) (fun hc14=>?_) (fun hc14=>?_)))
  ·rw [if_pos hc14] at h;refine ag (pp (Ws fun Z hZ=>?_));simp only [go_sem,seval,hc14];refine hZ _ (pp (Wk_ret (pp ?_)));cases h;simp only [go_sem,seval];exact ⟨_,rfl,RokI.h⟩
  rw [if_neg (ne_true_of_eq_false hc14)] at h;obtain ⟨ha15,h⟩:=fy h;simp only [List.length_cons,List.length_nil,Nat.zero_add,Nat.reduceAdd] at ha15;refine aa fun Z hZ=>?_;simp only [go_sem,seval,hc14,ha15];refine hZ _ (pp (Ws fun Z hZ=>?_));simp only [go_sem,seval];refine hZ _ (pp (Wk_ret (pp ?_)));cases h;simp only [go_sem,seval];exact ⟨_,rfl,RokI.h⟩
 rw [hd6] at h;simp only [fh] at h;have hw5:=aY hi3' hl1;refine Wk_seq (Ws fun Z hZ=>?_);simp only [go_sem,seval,hi3'];refine hZ _ (pp ?_);try simp only [Int.ofNat_lt,hi3',if_true,if_false] at h
 refine aR rfl (ag (pp (Wk_seq (ak ?_))));apply m8 (fun (l23:List Client) (c24:Bool)=>⟨tab 52 (updT (updT (updT (updT (updT deadT 0 (.sl false none 4 none (a0.map Client.row))) 3 (.pref 3 [] 0 0)) 5 (.pal 29 [] 0 l23.length none)) 6 (.val (.bool c24))) 7 (.val (.int .i64 ((v4:Nat):Int)))),(upd (upd RZ 3 (.sl true none 4 (some 1) [Client.row a1])) 29 (.sl true none 4 none (l23.map Client.row)))⟩)
 ·intro hJ7;apply m8 (fun (c25:Bool) (c26:Bool)=>⟨tab 52 (updT (updT (updT (updT (updT (updT deadT 0 (.sl false none 4 none (a0.map Client.row))) 3 (.pref 3 [] 0 0)) 5 (.pal 29 [] 0 l2.length none)) 6 (.val (.bool c25))) 7 (.val (.int .i64 ((v4:Nat):Int)))) 25 (.val (.bool c26))),(upd (upd RZ 3 (.sl true none 4 (some 1) [Client.row a1])) 29 (.sl true none 4 none (l2.map Client.row)))⟩)
  ·intro hJ8;refine dc fun Z hZ=>?_;simp only [go_sem,seval];refine aw rfl (fun hc9=>?_) (fun hc9=>?_)
   ·rw [if_neg (ne_true_of_eq_false hc9)] at h;try rw [gx_nat hx4] at h
    simp only [go_sem,seval,hx4,hi3',hc9];refine hZ _ (by kernel_rfl) (pp (hJ8 _ false (!(sLt x7.Name a1.Name)) ?_ h));refine wr ?_ ?_<;>repeat' first|rfl|constructor|simp only [go_sem,seval,Bool.or_self,List.length_set,Int.natCast_zero,Int.cast_ofNat_Int,hx4,hi3',hw5,hc9]
   rw [if_pos hc9] at h;simp only [go_sem,seval,hc9];refine hZ _ (by kernel_rfl) (pp (hJ8 _ true false ?_ h));refine wr ?_ ?_<;>repeat' first|rfl|constructor|simp only [go_sem,seval,Bool.or_self,List.length_set,Int.natCast_zero,Int.cast_ofNat_Int,hx4,hi3',hw5,hc9]
  intro c25 c26 h;unfold l5 at h;refine sw (au rfl) (fun hc10=>?_) (fun hc10=>?_)
  ·rw [if_neg (ne_true_of_eq_false hc10)] at h;refine ag (pp (hJ7 _ l2 c25 ?_ h));refine wr ?_ ?_<;>repeat' first|rfl|constructor|simp only [go_sem,seval,Bool.or_self,List.length_set,Int.natCast_zero,Int.cast_ofNat_Int,hx4,hi3',hw5,hc10]
  rw [if_pos hc10] at h;refine Wk_seq ?_;obtain ⟨ha11,h⟩:=fy h;simp only [List.length_cons,List.length_nil,Nat.zero_add,Nat.reduceAdd] at ha11;refine aa fun Z hZ=>?_;simp only [go_sem,seval,hc10,ha11];refine hZ _ (pp (aa fun Z hZ=>?_));simp only [go_sem,seval];refine hZ _ (pp (hJ7 _ (l2++[a1]) true ?_ h));refine wr ?_ ?_<;>repeat' first|rfl|constructor|simp only [go_sem,seval]
 intro l23 c24 h;unfold mh at h;refine Wk_seq ?_;try rw [gx_nat hx4] at h
 refine dc fun Z hZ=>?_;simp only [go_sem,seval,hx4,hi3'];refine hZ _ (by kernel_rfl) (pp (sw (de rfl) (fun hc12=>?_) (fun hc12=>?_)))
 ·rw [if_pos hc12] at h;refine ag (pp (aa fun Z hZ=>?_));simp only [go_sem,seval,hw5,hc12];refine hZ _ (pp ?_);first|refine ⟨(l23,c24),?_,h⟩|refine ⟨hi3',(l23,c24),?_,h⟩
  refine wr ?_ ?_<;>repeat' first|rfl|constructor|simp only [go_sem,seval,Bool.or_self,List.length_set,Int.natCast_zero,Int.cast_ofNat_Int,hx4,hi3',hw5,hc12]
 rw [if_neg (ne_true_of_eq_false hc12)] at h;try rw [gx_nat hx4] at h
 obtain ⟨ha13,h⟩:=fy h;simp only [List.length_cons,List.length_nil,Nat.zero_add,Nat.reduceAdd] at ha13;refine aa fun Z hZ=>?_;simp only [go_sem,seval,hx4,hi3',hc12,ha13];refine hZ _ (pp (aa fun Z hZ=>?_));simp only [go_sem,seval,hw5];refine hZ _ (pp ?_);first|refine ⟨((l23++[x7]),c24),?_,h⟩|refine ⟨hi3',((l23++[x7]),c24),?_,h⟩
 refine Weak.trans (pT 5 44 29 (by decide) (by decide) (by simp only [go_sem,seval]) (by simp only [go_sem,seval]; rfl) (by simp only [go_sem,seval]; rfl) (by first|(simp; done)|simp only [go_sem,seval,Bool.or_self,List.length_set,Int.natCast_zero,Int.cast_ofNat_Int,hx4,hi3',hw5,hc12,ha13])) ?_;refine wr ?_ ?_<;>repeat' first|rfl|constructor|simp only [go_sem,seval]
def vb (N:Nat):FnS:=⟨[],false,fn2 (decL 4 Client.dec) Client.decA fun q0 q1=>(jZ N q0 q1).map fun r=>.sl false none 4 none (r.map Client.row),false⟩
attribute [go_sem] vb
theorem Fq (N:Nat):FSOk Try.prog 36 (vb N):=ok2 (fun q0 q1 r h=>by
 obtain ⟨r',hr,rfl⟩:=Option.map_eq_some_iff.1 h;exact (wb N q0 q1 r' hr).res (by (try simp only [go_sem]); exact RokI.h)) (fun h=>aq Client.dec_le h) (Client.decA_le)

def lq (N:Nat):FnS:=⟨[],false,fn2 (decL 4 Client.dec) Client.decA fun q0 q1=>(jZ N q0 q1).map fun r=>.sl true none 4 none (r.map Client.row),false⟩
attribute [go_sem] lq
theorem m7 (N:Nat):FSOk Try.prog 36 (lq N):=ok2 (fun q0 q1 r h=>by
 obtain ⟨r',hr,rfl⟩:=Option.map_eq_some_iff.1 h;exact wb N q0 q1 r' hr) (fun h=>aq Client.dec_le h) (Client.decA_le)


noncomputable def u6 (N d f:Nat):Option FnS:=glist [(11,23,gj N),(15,33,fH N),(29,21,gX N),(38,34,kt N),(61,35,pM N),(65,36,lq N)] d f
attribute [go_sem] u6
theorem uY (N:Nat) (a0:(List Client)) (a1:ByteArray) (a2:Int) (r:(List Client) × Int) (h:gF N a0 a1 a2=some r):Con Try.prog 11 [] false [.sl false none 4 none (a0.map Client.row),.val (.string a1),.val (.int .i64 a2)] (.tup [.sl true none 4 none (r.1.map Client.row),.val (.int .i64 r.2)]):=by
 refine ay (G:=(u6 N)) Try.func11 rfl (by decide) (by kernel_rfl) (gc 11 (iq N) (gc 15 (gY N) (gc 29 (j6 N) (gc 38 (kJ N) (gc 61 (vV N) (gc 65 (m7 N) gn)))))) [] mix (Nat.le_of_ble_eq_true rfl) ?_;simp only [Try.f11];unfold gF at h;refine Ws fun Z hZ=>?_;simp only [go_sem,seval];refine hZ _ (pp (Wk_seq ?_));apply be (fun (c7:Bool)=>⟨tab 66 (updT (updT (updT (updT deadT 0 (.sl false none 4 none (a0.map Client.row))) 1 (.val (.string a1))) 2 (.val (.int .i64 a2))) 25 (.val (.bool c7))),RZ⟩)
 ·intro hJ1;obtain ⟨r8,hr2,h⟩:=Option.bind_eq_some_iff.1 h;refine aa fun Z hZ=>?_;simp only [go_sem,seval,hr2];refine aw rfl (fun hc3=>?_) (fun hc3=>?_)
  ·rw [if_neg (ne_true_of_eq_false hc3)] at h;simp only [go_sem,seval,hc3];refine hZ _ (pp (hJ1 _ true ?_ h));refine wr ?_ ?_<;>repeat' first|rfl|constructor|simp only [go_sem,seval,Bool.or_self,List.length_set,Int.natCast_zero,Int.cast_ofNat_Int,hr2,hc3]
  rw [if_pos hc3] at h;obtain ⟨r9,hr4,h⟩:=Option.bind_eq_some_iff.1 h;simp only [go_sem,seval,hc3,hr4];refine aw rfl (fun hc5=>?_) (fun hc5=>?_)
  ·rw [if_neg (ne_true_of_eq_false hc5)] at h;simp only [go_sem,seval,hc5];refine hZ _ (pp (hJ1 _ true ?_ h));refine wr ?_ ?_<;>repeat' first|rfl|constructor|simp only [go_sem,seval,Bool.or_self,List.length_set,Int.natCast_zero,Int.cast_ofNat_Int,hr2,hc3,hr4,hc5]
  rw [if_pos hc5] at h;simp only [go_sem,seval,hc5];refine ae rfl (fun hc6=>?_) (fun hc6=>?_)
  ·have hc6d:=decide_eq_true hc6;rw [if_pos hc6] at h;simp only [go_sem,seval,hc6d];refine hZ _ (pp (hJ1 _ true ?_ h));refine wr ?_ ?_<;>repeat' first|rfl|constructor|simp only [go_sem,seval,Bool.or_self,List.length_set,Int.natCast_zero,Int.cast_ofNat_Int,hr2,hc3,hr4,hc5,hc6d]
  have hc6d:=decide_eq_false hc6;rw [if_neg hc6] at h;simp only [go_sem,seval,hc6d];refine hZ _ (pp (hJ1 _ (decide (1099511627776 < a2)) ?_ h));refine wr ?_ ?_<;>repeat' first|rfl|constructor|simp only [go_sem,seval,Bool.or_self,List.length_set,Int.natCast_zero,Int.cast_ofNat_Int,hr2,hc3,hr4,hc5,hc6d]
 intro c7 h;unfold gZ at h;refine au rfl (fun hc7=>?_) (fun hc7=>?_)
 ·rw [if_pos hc7] at h;refine Ws fun Z hZ=>?_;simp only [go_sem,seval,hc7];refine hZ _ (pp (Wk_ret (pp ?_)));cases h;simp only [go_sem,seval];exact ⟨_,rfl,RokI.h⟩
 rw [if_neg (ne_true_of_eq_false hc7)] at h;refine ag (pp ?_);unfold ib at h;refine Wk_seq (Wk_seq ?_);obtain ⟨r13,hr8,h⟩:=Option.bind_eq_some_iff.1 h;refine aa fun Z hZ=>?_;simp only [go_sem,seval,hc7,hr8];refine hZ _ (pp (ak (Ws fun Z hZ=>?_)));simp only [go_sem,seval];refine hZ _ (pp (aQ rfl (fun hc9=>?_) (fun hc9=>?_)))
 ·have hc9d:=decide_eq_true hc9;rw [if_pos hc9] at h;refine Ws fun Z hZ=>?_;simp only [go_sem,seval,hc9d];refine hZ _ (pp (Wk_ret (pp ?_)));cases h;simp only [go_sem,seval];exact ⟨_,rfl,RokI.h⟩
 have hc9d:=decide_eq_false hc9;rw [if_neg hc9] at h;apply be (fun (c14:Bool)=>⟨tab 66 (updT (updT (updT (updT deadT 0 (.sl false none 4 none (a0.map Client.row))) 1 (.val (.string a1))) 2 (.val (.int .i64 a2))) 32 (.val (.bool c14))),RZ⟩)
 ·intro hJ10;refine Ws fun Z hZ=>?_;simp only [go_sem,seval,hc9d];refine hZ _ (pp (aQ rfl (fun hc11=>?_) (fun hc11=>?_)))
  ·have hc11d:=decide_eq_true hc11;rw [if_pos hc11] at h;refine ag (pp (hJ10 _ true ?_ h));refine wr ?_ ?_<;>repeat' first|rfl|constructor|simp only [go_sem,seval,hc11d]
  have hc11d:=decide_eq_false hc11;rw [if_neg hc11] at h;refine aa fun Z hZ=>?_;simp only [go_sem,seval,hc11d];refine hZ _ (pp (hJ10 _ (decide (r13=2)) ?_ h));refine wr ?_ ?_<;>repeat' first|rfl|constructor|simp only [go_sem,seval,Bool.or_self,List.length_set,Int.natCast_zero,Int.cast_ofNat_Int,hc7,hr8,hc9d,hc11d]
 intro c14 h;unfold ju at h;refine au rfl (fun hc12=>?_) (fun hc12=>?_)
 ·rw [if_pos hc12] at h;refine Ws fun Z hZ=>?_;simp only [go_sem,seval,hc12];refine hZ _ (pp (Wk_ret (pp ?_)));cases h;simp only [go_sem,seval];exact ⟨_,rfl,RokI.h⟩
 rw [if_neg (ne_true_of_eq_false hc12)] at h;refine ag (pp ?_);unfold mY at h;refine Wk_seq ?_;obtain ⟨r15,hr13,h⟩:=Option.bind_eq_some_iff.1 h;refine aa fun Z hZ=>?_;simp only [go_sem,seval,hc12,hr13];refine hZ _ (pp (Wk_seq ?_));apply be (fun (c18:Bool)=>⟨tab 66 (updT (updT (updT (updT deadT 0 (.sl false none 4 none (a0.map Client.row))) 2 (.val (.int .i64 a2))) 8 (.pref 8 [] 0 0)) 57 (.val (.bool c18))),(upd RZ 8 (.sl true none 4 (some 1) [Client.row r15.1]))⟩)
 ·intro hJ14;refine aa fun Z hZ=>?_;simp only [go_sem,seval];refine ae rfl (fun hc15=>?_) (fun hc15=>?_)
  ·have hc15d:=decide_eq_true hc15;rw [if_pos hc15] at h;simp only [go_sem,seval,hc15d];refine hZ _ (pp (hJ14 _ true ?_ h));refine wr ?_ ?_<;>repeat' first|rfl|constructor|simp only [go_sem,seval,Bool.or_self,List.length_set,Int.natCast_zero,Int.cast_ofNat_Int,hc7,hr8,hc9d,hc12,hr13,hc15d]
  have hc15d:=decide_eq_false hc15;rw [if_neg hc15] at h;simp only [go_sem,seval,hc15d];refine aw rfl (fun hc16=>?_) (fun hc16=>?_)
  ·rw [if_neg (ne_true_of_eq_false hc16)] at h;simp only [go_sem,seval,hc16];refine hZ _ (pp (hJ14 _ (decide (32<=((a0.length:Nat):Int))) ?_ h));refine wr ?_ ?_<;>repeat' first|rfl|constructor|simp only [go_sem,seval,Bool.or_self,List.length_set,Int.natCast_zero,Int.cast_ofNat_Int,hc7,hr8,hc9d,hc12,hr13,hc15d,hc16]
  rw [if_pos hc16] at h;simp only [go_sem,seval,hc16];refine hZ _ (pp (hJ14 _ false ?_ h));refine wr ?_ ?_<;>repeat' first|rfl|constructor|simp only [go_sem,seval,Bool.or_self,List.length_set,Int.natCast_zero,Int.cast_ofNat_Int,hc7,hr8,hc9d,hc12,hr13,hc15d,hc16]
 intro c18 h;unfold jr at h;refine au rfl (fun hc17=>?_) (fun hc17=>?_)
 ·rw [if_pos hc17] at h;refine Ws fun Z hZ=>?_;simp only [go_sem,seval,hc17];refine hZ _ (pp (Wk_ret (pp ?_)));cases h;simp only [go_sem,seval];exact ⟨_,rfl,RokI.h⟩
 rw [if_neg (ne_true_of_eq_false hc17)] at h;refine ag (pp ?_);unfold jn at h;refine Wk_seq ?_;obtain ⟨r19,hr18,h⟩:=Option.bind_eq_some_iff.1 h;refine aa fun Z hZ=>?_;simp only [go_sem,seval,hc17,hr18];refine hZ _ (pp (Wk_seq ?_));obtain ⟨r20,hr19,h⟩:=Option.bind_eq_some_iff.1 h;refine aa fun Z hZ=>?_;simp only [go_sem,seval,hr19];refine hZ _ (pp (Wk_ret (pp ?_)));cases h;simp only [go_sem,seval];exact ⟨_,rfl,RokI.h⟩
def qq (N:Nat):FnS:=⟨[],false,fn3 (decL 4 Client.dec) decS (decI .i64) fun q0 q1 q2=>(gF N q0 q1 q2).map fun r=>.tup [.sl false none 4 none (r.1.map Client.row),.val (.int .i64 r.2)],false⟩
attribute [go_sem] qq
theorem wv (N:Nat):FSOk Try.prog 11 (qq N):=ok3 (fun q0 q1 q2 r h=>by
 obtain ⟨r',hr,rfl⟩:=Option.map_eq_some_iff.1 h;exact (uY N q0 q1 q2 r' hr).res (by (try simp only [go_sem]); exact RokI.h)) (fun h=>aq Client.dec_le h) (aW) (ar)

def sY (N:Nat):FnS:=⟨[],false,fn3 (decL 4 Client.dec) decS (decI .i64) fun q0 q1 q2=>(gF N q0 q1 q2).map fun r=>.tup [.sl true none 4 none (r.1.map Client.row),.val (.int .i64 r.2)],false⟩
attribute [go_sem] sY
theorem Eg (N:Nat):FSOk Try.prog 11 (sY N):=ok3 (fun q0 q1 q2 r h=>by
 obtain ⟨r',hr,rfl⟩:=Option.map_eq_some_iff.1 h;exact uY N q0 q1 q2 r' hr) (fun h=>aq Client.dec_le h) (aW) (ar)


noncomputable def u4 (N d f:Nat):Option FnS:=glist [(20,48,iV N)] d f
attribute [go_sem] u4
theorem u5 (N:Nat) (a0:(List Int)) (a1:(List Int)) (a2:Bool) (r:(List Int)) (h:my N a0 a1 a2=some r):Con Try.prog 41 [] true [.sl false none 1 none (a0.map (rowI .i64)),.sl false none 1 none (a1.map (rowI .i64)),.val (.bool a2)] (.sl true none 1 none (r.map (rowI .i64))):=by
 refine ay (G:=(u4 N)) Try.func41 rfl (by decide) (by kernel_rfl) (gc 20 (lH N) gn) [] mix (Nat.le_of_ble_eq_true rfl) ?_;simp only [Try.f41];unfold my at h;refine Ws fun Z hZ=>?_;simp only [go_sem,seval];refine hZ _ (pp (Ws fun Z hZ=>?_));simp only [go_sem,seval];refine hZ _ (pp (Wk_seq (Ws fun Z hZ=>?_)));simp only [go_sem,seval];refine hZ _ (pp (ak (bS fun hreal2=>?_)));have hl1:=hreal2.lenT 0 (by decide) (by simp only [go_sem,seval]; rfl);first|rw [List.length_map] at hl1|rw [bo] at hl1|rw [<-List.map_append,List.length_map] at hl1
 refine bJ (fun (v3:Nat) (b:List Int)=>⟨tab 31 (updT (updT (updT (updT (updT deadT 0 (.sl false none 1 none (a0.map (rowI .i64)))) 1 (.sl false none 1 none (a1.map (rowI .i64)))) 2 (.val (.bool a2))) 7 (.pal 29 [] 0 b.length none)) 8 (.val (.int .i64 ((v3:Nat):Int)))),(upd RZ 29 (.sl true none 1 none (b.map (rowI .i64))))⟩) [] h ?_ ?_
 ·refine Weak.trans (oQ 7 29 1 (by simp only [go_sem,seval]) (by simp only [go_sem,seval])) ?_;refine wr ?_ ?_<;>repeat' first|rfl|constructor|simp only [go_sem,seval,Bool.or_self,List.length_set,Int.natCast_zero,Int.cast_ofNat_Int]
 rintro v3 l2 hi3 h -;rcases (aU a0 v3 hi3).symm with ⟨hi3',_,hd6⟩|⟨x6,hi3',hx4,hd6⟩
 ·rw [hd6] at h;simp only [fY] at h;refine Wk_seq (Ws fun Z hZ=>?_);simp only [go_sem,seval,hi3'];refine hZ _ (pp ?_);try simp only [Int.ofNat_lt,hi3',if_true,if_false] at h
  refine aN rfl (ba (pp (Ws fun Z hZ=>?_)));simp only [go_sem,seval];refine hZ _ (pp (Wk_ret (pp ?_)));cases h;simp only [go_sem,seval];exact ⟨_,rfl,RokI.h,PureI.h⟩
 rw [hd6] at h;simp only [fY] at h;have hw5:=aY hi3' hl1;refine Wk_seq (Ws fun Z hZ=>?_);simp only [go_sem,seval,hi3'];refine hZ _ (pp ?_);try simp only [Int.ofNat_lt,hi3',if_true,if_false] at h
 refine aR rfl (ag (pp (Wk_seq (ak (Wk_seq ?_)))));try rw [gx_nat hx4] at h
 obtain ⟨r1,hr7,h⟩:=Option.bind_eq_some_iff.1 h;refine aa fun Z hZ=>?_;simp only [go_sem,seval,hx4,hi3',hr7];refine hZ _ (pp (sw (aQ rfl) (fun hc8=>?_) (fun hc8=>?_)))
 ·have hc8d:=decide_eq_false hc8;rw [if_neg hc8] at h;refine ag (pp (aa fun Z hZ=>?_));simp only [go_sem,seval,hw5,hc8d];refine hZ _ (pp ?_);first|refine ⟨l2,?_,h⟩|refine ⟨hi3',l2,?_,h⟩
  refine wr ?_ ?_<;>repeat' first|rfl|constructor|simp only [go_sem,seval,Bool.or_self,List.length_set,Int.natCast_zero,Int.cast_ofNat_Int,hx4,hi3',hw5,hr7,hc8d]
 have hc8d:=decide_eq_true hc8;rw [if_pos hc8] at h;try rw [gx_nat hx4] at h
 obtain ⟨ha9,h⟩:=fy h;simp only [List.length_cons,List.length_nil,Nat.zero_add,Nat.reduceAdd] at ha9;refine aa fun Z hZ=>?_;simp only [go_sem,seval,hx4,hi3',hc8d,ha9];refine hZ _ (pp (aa fun Z hZ=>?_));simp only [go_sem,seval,hw5];refine hZ _ (pp ?_);first|refine ⟨(l2++[x6]),?_,h⟩|refine ⟨hi3',(l2++[x6]),?_,h⟩
 refine wr ?_ ?_<;>repeat' first|rfl|constructor|simp only [go_sem,seval]
def qu (N:Nat):FnS:=⟨[],true,fn3 (decL 1 (dec1 (decI .i64))) (decL 1 (dec1 (decI .i64))) decB fun q0 q1 q2=>(my N q0 q1 q2).map fun r=>.sl false none 1 none (r.map (rowI .i64)),false⟩
attribute [go_sem] qu
theorem wF (N:Nat):FSOk Try.prog 41 (qu N):=ok3 (fun q0 q1 q2 r h=>by
 obtain ⟨r',hr,rfl⟩:=Option.map_eq_some_iff.1 h;exact (u5 N q0 q1 q2 r' hr).res (by (try simp only [go_sem]); exact RokI.h)) (fun h=>aq (br .i64) h) (fun h=>aq (br .i64) h) (Ch)

def sR (N:Nat):FnS:=⟨[],true,fn3 (decL 1 (dec1 (decI .i64))) (decL 1 (dec1 (decI .i64))) decB fun q0 q1 q2=>(my N q0 q1 q2).map fun r=>.sl true none 1 none (r.map (rowI .i64)),false⟩
attribute [go_sem] sR
theorem Ef (N:Nat):FSOk Try.prog 41 (sR N):=ok3 (fun q0 q1 q2 r h=>by
 obtain ⟨r',hr,rfl⟩:=Option.map_eq_some_iff.1 h;exact u5 N q0 q1 q2 r' hr) (fun h=>aq (br .i64) h) (fun h=>aq (br .i64) h) (Ch)


noncomputable def sW (N d f:Nat):Option FnS:=glist [(12,23,gj N),(16,25,gf N),(24,21,gX N),(30,34,kt N),(38,41,qu N),(88,36,lq N)] d f
attribute [go_sem] sW
theorem tn (N:Nat) (a0:(List Client)) (a1:Reply) (r:(List Client) × Int) (h:fT N a0 a1=some r):Con Try.prog 13 [] false [.sl false none 4 none (a0.map Client.row),.agg (Reply.row a1)] (.tup [.sl true none 4 none (r.1.map Client.row),.val (.int .i64 r.2)]):=by
 refine ay (G:=(sW N)) Try.func13 rfl (by decide) (by kernel_rfl) (gc 12 (iq N) (gc 16 (kg N) (gc 24 (j6 N) (gc 30 (kJ N) (gc 38 (wF N) (gc 88 (m7 N) gn)))))) [] mix (Nat.le_of_ble_eq_true rfl) ?_;simp only [Try.f13];unfold fT at h;refine Ws fun Z hZ=>?_;simp only [go_sem,seval];refine hZ _ (pp (Wk_seq ?_));apply be (fun (c7:Bool)=>⟨tab 89 (updT (updT (updT deadT 0 (.sl false none 4 none (a0.map Client.row))) 3 (.pref 3 [] 0 0)) 18 (.val (.bool c7))),(upd RZ 3 (.sl true none 9 (some 1) [Reply.row a1]))⟩)
 ·intro hJ1;obtain ⟨r8,hr2,h⟩:=Option.bind_eq_some_iff.1 h;refine aa fun Z hZ=>?_;simp only [go_sem,seval,hr2];refine aw rfl (fun hc3=>?_) (fun hc3=>?_)
  ·rw [if_neg (ne_true_of_eq_false hc3)] at h;simp only [go_sem,seval,hc3];refine hZ _ (pp (hJ1 _ true ?_ h));refine wr ?_ ?_<;>repeat' first|rfl|constructor|simp only [go_sem,seval,Bool.or_self,List.length_set,Int.natCast_zero,Int.cast_ofNat_Int,hr2,hc3]
  rw [if_pos hc3] at h;obtain ⟨r9,hr4,h⟩:=Option.bind_eq_some_iff.1 h;simp only [go_sem,seval,hc3,hr4];refine hZ _ (pp (hJ1 _ (!r9) ?_ h));refine wr ?_ ?_<;>repeat' first|rfl|constructor|simp only [go_sem,seval,Bool.or_self,List.length_set,Int.natCast_zero,Int.cast_ofNat_Int,hr2,hc3,hr4]
 intro c7 h;unfold jX at h;refine au rfl (fun hc5=>?_) (fun hc5=>?_)
 ·rw [if_pos hc5] at h;refine Ws fun Z hZ=>?_;simp only [go_sem,seval,hc5];refine hZ _ (pp (Wk_ret (pp ?_)));cases h;simp only [go_sem,seval];exact ⟨_,rfl,RokI.h⟩
 rw [if_neg (ne_true_of_eq_false hc5)] at h;refine ag (pp ?_);unfold lL at h;refine Wk_seq (Wk_seq ?_);obtain ⟨r10,hr6,h⟩:=Option.bind_eq_some_iff.1 h;refine aa fun Z hZ=>?_;simp only [go_sem,seval,hc5,hr6];refine hZ _ (pp (ja rfl (fun hc7=>?_) (fun hc7=>?_)))
 ·have hc7d:=decide_eq_false hc7;rw [if_neg hc7] at h;refine Ws fun Z hZ=>?_;simp only [go_sem,seval,hc7d];refine hZ _ (pp (Wk_ret (pp ?_)));cases h;simp only [go_sem,seval];exact ⟨_,rfl,RokI.h⟩
 have hc7d:=decide_eq_true hc7;rw [if_pos hc7] at h;refine ag (pp (Wk_seq ?_));obtain ⟨r11,hr8,h⟩:=Option.bind_eq_some_iff.1 h;refine aa fun Z hZ=>?_;simp only [go_sem,seval,hc7d,hr8];refine hZ _ (pp (Wk_seq ?_));obtain ⟨r12,hr9,h⟩:=Option.bind_eq_some_iff.1 h;refine aa fun Z hZ=>?_;simp only [go_sem,seval,hr9];refine hZ _ (pp (Ws fun Z hZ=>?_));simp only [go_sem,seval];refine hZ _ (pp (Ws fun Z hZ=>?_));simp only [go_sem,seval];refine hZ _ (pp (Wk_seq (Ws fun Z hZ=>?_)));simp only [go_sem,seval];refine hZ _ (pp (ak (bS fun hreal11=>?_)));have hl10:=hreal11.cell 6 3 (by simp only [go_sem,seval]; rfl) rfl;first|rw [List.length_map] at hl10|rw [bo] at hl10|rw [<-List.map_append,List.length_map] at hl10
 refine bJ (fun (v13:Nat) (b:List Answer × Bool)=>⟨tab 89 (updT (updT (updT (updT (updT (updT deadT 0 (.sl false none 4 none (a0.map Client.row))) 3 (.pref 3 [] 0 0)) 6 (.pref 6 [] 0 0)) 8 (.pal 74 [] 0 b.1.length none)) 9 (.val (.bool b.2))) 10 (.val (.int .i64 ((v13:Nat):Int)))),(upd (upd (upd RZ 3 (.sl true none 9 (some 1) [Reply.row a1])) 6 (.sl true none 4 (some 1) [[.val (.string r11.1.Name),.val (.int .i64 r11.1.Low),.sl false none 1 none (r12.map (rowI .i64)),.sl false none 10 none (r11.1.Done.map Answer.row)]])) 74 (.sl true none 10 none (b.1.map Answer.row)))⟩) ([],false) h ?_ ?_
 ·refine Weak.trans (oQ 8 74 10 (by simp only [go_sem,seval]) (by simp only [go_sem,seval])) ?_;refine wr ?_ ?_<;>repeat' first|rfl|constructor|simp only [go_sem,seval,Bool.or_self,List.length_set,Int.natCast_zero,Int.cast_ofNat_Int,hc5,hr6,hc7d,hr8,hr9]
 rintro v13 ⟨l11,c12⟩ hi12 h -;rcases (aU r11.1.Done v13 hi12).symm with ⟨hi12',_,hd15⟩|⟨x16,hi12',hx13,hd15⟩
 ·rw [hd15] at h;simp only [dY] at h;refine Wk_seq (Ws fun Z hZ=>?_);simp only [go_sem,seval,hi12'];refine hZ _ (pp ?_);try simp only [Int.ofNat_lt,hi12',if_true,if_false] at h
  refine aN rfl (ba (pp ?_));unfold oR at h;apply be (fun (l40:List Answer)=>⟨tab 89 (updT (updT (updT deadT 0 (.sl false none 4 none (a0.map Client.row))) 6 (.pref 6 [] 0 0)) 8 (.pal 74 [] 0 l40.length none)),(upd (upd RZ 6 (.sl true none 4 (some 1) [[.val (.string r11.1.Name),.val (.int .i64 r11.1.Low),.sl false none 1 none (r12.map (rowI .i64)),.sl false none 10 none (r11.1.Done.map Answer.row)]])) 74 (.sl true none 10 none (l40.map Answer.row)))⟩)
  ·intro hJ22;refine Ws fun Z hZ=>?_;simp only [go_sem,seval];refine hZ _ (pp (sw (de rfl) (fun hc23=>?_) (fun hc23=>?_)))
   ·rw [if_pos hc23] at h;refine ag (pp (hJ22 _ l11 ?_ h));refine wr ?_ ?_<;>repeat' first|rfl|constructor|simp only [go_sem,seval,Bool.or_self,List.length_set,Int.natCast_zero,Int.cast_ofNat_Int,hc5,hr6,hc7d,hr8,hr9,hi12',hc23]
   rw [if_neg (ne_true_of_eq_false hc23)] at h;obtain ⟨ha24,h⟩:=fy h;simp only [List.length_cons,List.length_nil,Nat.zero_add,Nat.reduceAdd] at ha24;refine aa fun Z hZ=>?_;simp only [go_sem,seval,hc23,ha24];refine hZ _ (pp (hJ22 _ (l11++[(Answer.mk a1.Seq a1)]) ?_ h));refine Weak.trans (pT 8 83 74 (by decide) (by decide) (by simp only [go_sem,seval]) (by simp only [go_sem,seval]; rfl) (by simp only [go_sem,seval]; rfl) (by first|(simp; done)|simp only [go_sem,seval,Bool.or_self,List.length_set,Int.natCast_zero,Int.cast_ofNat_Int,hc5,hr6,hc7d,hr8,hr9,hi12',hc23,ha24])) ?_;refine wr ?_ ?_<;>repeat' first|rfl|constructor|simp only [go_sem,seval]
  intro l40 h;unfold lK at h;refine Ws fun Z hZ=>?_;simp only [go_sem,seval];refine hZ _ (pp (Wk_seq ?_));obtain ⟨r41,hr25,h⟩:=Option.bind_eq_some_iff.1 h;refine aa fun Z hZ=>?_;simp only [go_sem,seval,hr25];refine hZ _ (pp (Wk_ret (pp ?_)));cases h;simp only [go_sem,seval];exact ⟨_,rfl,RokI.h⟩
 rw [hd15] at h;simp only [dY] at h;have hw14:=aY hi12' hl10;refine Wk_seq (Ws fun Z hZ=>?_);simp only [go_sem,seval,hi12'];refine hZ _ (pp ?_);try simp only [Int.ofNat_lt,hi12',if_true,if_false] at h
 refine aR rfl (ag (pp (Wk_seq (ak ?_))));apply m8 (fun (l35:List Answer) (c36:Bool)=>⟨tab 89 (updT (updT (updT (updT (updT (updT deadT 0 (.sl false none 4 none (a0.map Client.row))) 3 (.pref 3 [] 0 0)) 6 (.pref 6 [] 0 0)) 8 (.pal 66 [] 0 l35.length none)) 9 (.val (.bool c36))) 10 (.val (.int .i64 ((v13:Nat):Int)))),(upd (upd (upd RZ 3 (.sl true none 9 (some 1) [Reply.row a1])) 6 (.sl true none 4 (some 1) [[.val (.string r11.1.Name),.val (.int .i64 r11.1.Low),.sl false none 1 none (r12.map (rowI .i64)),.sl false none 10 none (r11.1.Done.map Answer.row)]])) 66 (.sl true none 10 none (l35.map Answer.row)))⟩)
 ·intro hJ16;apply m8 (fun (c37:Bool) (c38:Bool)=>⟨tab 89 (updT (updT (updT (updT (updT (updT (updT deadT 0 (.sl false none 4 none (a0.map Client.row))) 3 (.pref 3 [] 0 0)) 6 (.pref 6 [] 0 0)) 8 (.pal 74 [] 0 l11.length none)) 9 (.val (.bool c37))) 10 (.val (.int .i64 ((v13:Nat):Int)))) 59 (.val (.bool c38))),(upd (upd (upd RZ 3 (.sl true none 9 (some 1) [Reply.row a1])) 6 (.sl true none 4 (some 1) [[.val (.string r11.1.Name),.val (.int .i64 r11.1.Low),.sl false none 1 none (r12.map (rowI .i64)),.sl false none 10 none (r11.1.Done.map Answer.row)]])) 74 (.sl true none 10 none (l11.map Answer.row)))⟩)
  ·intro hJ17;refine dc fun Z hZ=>?_;simp only [go_sem,seval];refine aw rfl (fun hc18=>?_) (fun hc18=>?_)
   ·rw [if_neg (ne_true_of_eq_false hc18)] at h;try rw [gx_nat hx13] at h
    simp only [go_sem,seval,hx13,hi12',hc18];refine hZ _ (by kernel_rfl) (pp (hJ17 _ false (decide (a1.Seq < x16.Seq)) ?_ h));refine wr ?_ ?_<;>repeat' first|rfl|constructor|simp only [go_sem,seval,Bool.or_self,List.length_set,Int.natCast_zero,Int.cast_ofNat_Int,hc5,hr6,hc7d,hr8,hr9,hx13,hi12',hw14,hc18]
   rw [if_pos hc18] at h;simp only [go_sem,seval,hc18];refine hZ _ (by kernel_rfl) (pp (hJ17 _ true false ?_ h));refine wr ?_ ?_<;>repeat' first|rfl|constructor|simp only [go_sem,seval,Bool.or_self,List.length_set,Int.natCast_zero,Int.cast_ofNat_Int,hc5,hr6,hc7d,hr8,hr9,hx13,hi12',hw14,hc18]
  intro c37 c38 h;unfold jO at h;refine au rfl (fun hc19=>?_) (fun hc19=>?_)
  ·rw [if_pos hc19] at h;refine Wk_seq ?_;obtain ⟨ha20,h⟩:=fy h;simp only [List.length_cons,List.length_nil,Nat.zero_add,Nat.reduceAdd] at ha20;refine aa fun Z hZ=>?_;simp only [go_sem,seval,hc19,ha20];refine hZ _ (pp (aa fun Z hZ=>?_));simp only [go_sem,seval];refine hZ _ (pp (hJ16 _ (l11++[(Answer.mk a1.Seq a1)]) true ?_ h));refine wr ?_ ?_<;>repeat' first|rfl|constructor|simp only [go_sem,seval]
  rw [if_neg (ne_true_of_eq_false hc19)] at h;refine ag (pp (hJ16 _ l11 c37 ?_ h));refine Weak.trans (pT 8 74 66 (by decide) (by decide) (by simp only [go_sem,seval]) (by simp only [go_sem,seval]; rfl) (by simp only [go_sem,seval,hc19]; rfl) (by first|(simp; done)|simp only [go_sem,seval,Bool.or_self,List.length_set,Int.natCast_zero,Int.cast_ofNat_Int,hc5,hr6,hc7d,hr8,hr9,hx13,hi12',hw14,hc19])) ?_;refine wr ?_ ?_<;>repeat' first|rfl|constructor|simp only [go_sem,seval,Bool.or_self,List.length_set,Int.natCast_zero,Int.cast_ofNat_Int,hc5,hr6,hc7d,hr8,hr9,hx13,hi12',hw14,hc19]
 intro l35 c36 h;unfold jR at h;try rw [gx_nat hx13] at h
 obtain ⟨ha21,h⟩:=fy h;simp only [List.length_cons,List.length_nil,Nat.zero_add,Nat.reduceAdd] at ha21;refine aa fun Z hZ=>?_;simp only [go_sem,seval,hx13,hi12',ha21];refine hZ _ (pp (aa fun Z hZ=>?_));simp only [go_sem,seval,hw14];refine hZ _ (pp ?_);first|refine ⟨((l35++[x16]),c36),?_,h⟩|refine ⟨hi12',((l35++[x16]),c36),?_,h⟩
 refine wr ?_ ?_<;>repeat' first|rfl|constructor|simp only [go_sem,seval]
def oG (N:Nat):FnS:=⟨[],false,fn2 (decL 4 Client.dec) Reply.decA fun q0 q1=>(fT N q0 q1).map fun r=>.tup [.sl false none 4 none (r.1.map Client.row),.val (.int .i64 r.2)],false⟩
attribute [go_sem] oG
theorem uZ (N:Nat):FSOk Try.prog 13 (oG N):=ok2 (fun q0 q1 r h=>by
 obtain ⟨r',hr,rfl⟩:=Option.map_eq_some_iff.1 h;exact (tn N q0 q1 r' hr).res (by (try simp only [go_sem]); exact RokI.h)) (fun h=>aq Client.dec_le h) (Reply.decA_le)

def rh (N:Nat):FnS:=⟨[],false,fn2 (decL 4 Client.dec) Reply.decA fun q0 q1=>(fT N q0 q1).map fun r=>.tup [.sl true none 4 none (r.1.map Client.row),.val (.int .i64 r.2)],false⟩
attribute [go_sem] rh
theorem Dh (N:Nat):FSOk Try.prog 13 (rh N):=ok2 (fun q0 q1 r h=>by
 obtain ⟨r',hr,rfl⟩:=Option.map_eq_some_iff.1 h;exact tn N q0 q1 r' hr) (fun h=>aq Client.dec_le h) (Reply.decA_le)


noncomputable def pj (N d f:Nat):Option FnS:=glist [(13,23,gj N),(17,33,fH N),(31,34,kt N),(81,36,lq N)] d f
attribute [go_sem] pj
theorem pd (N:Nat) (a0:(List Client)) (a1:ByteArray) (a2:Int) (r:(List Client) × Int) (h:dM N a0 a1 a2=some r):Con Try.prog 15 [] false [.sl false none 4 none (a0.map Client.row),.val (.string a1),.val (.int .i64 a2)] (.tup [.sl true none 4 none (r.1.map Client.row),.val (.int .i64 r.2)]):=by
 refine ay (G:=(pj N)) Try.func15 rfl (by decide) (by kernel_rfl) (gc 13 (iq N) (gc 17 (gY N) (gc 31 (kJ N) (gc 81 (m7 N) gn)))) [] mix (Nat.le_of_ble_eq_true rfl) ?_;simp only [Try.f15];unfold dM at h;refine Ws fun Z hZ=>?_;simp only [go_sem,seval];refine hZ _ (pp (Wk_seq ?_));apply be (fun (c7:Bool)=>⟨tab 82 (updT (updT (updT (updT deadT 0 (.sl false none 4 none (a0.map Client.row))) 1 (.val (.string a1))) 2 (.val (.int .i64 a2))) 27 (.val (.bool c7))),RZ⟩)
 ·intro hJ1;obtain ⟨r8,hr2,h⟩:=Option.bind_eq_some_iff.1 h;refine aa fun Z hZ=>?_;simp only [go_sem,seval,hr2];refine aw rfl (fun hc3=>?_) (fun hc3=>?_)
  ·rw [if_neg (ne_true_of_eq_false hc3)] at h;simp only [go_sem,seval,hc3];refine hZ _ (pp (hJ1 _ true ?_ h));refine wr ?_ ?_<;>repeat' first|rfl|constructor|simp only [go_sem,seval,Bool.or_self,List.length_set,Int.natCast_zero,Int.cast_ofNat_Int,hr2,hc3]
  rw [if_pos hc3] at h;obtain ⟨r9,hr4,h⟩:=Option.bind_eq_some_iff.1 h;simp only [go_sem,seval,hc3,hr4];refine aw rfl (fun hc5=>?_) (fun hc5=>?_)
  ·rw [if_neg (ne_true_of_eq_false hc5)] at h;simp only [go_sem,seval,hc5];refine hZ _ (pp (hJ1 _ true ?_ h));refine wr ?_ ?_<;>repeat' first|rfl|constructor|simp only [go_sem,seval,Bool.or_self,List.length_set,Int.natCast_zero,Int.cast_ofNat_Int,hr2,hc3,hr4,hc5]
  rw [if_pos hc5] at h;simp only [go_sem,seval,hc5];refine ae rfl (fun hc6=>?_) (fun hc6=>?_)
  ·have hc6d:=decide_eq_true hc6;rw [if_pos hc6] at h;simp only [go_sem,seval,hc6d];refine hZ _ (pp (hJ1 _ true ?_ h));refine wr ?_ ?_<;>repeat' first|rfl|constructor|simp only [go_sem,seval,Bool.or_self,List.length_set,Int.natCast_zero,Int.cast_ofNat_Int,hr2,hc3,hr4,hc5,hc6d]
  have hc6d:=decide_eq_false hc6;rw [if_neg hc6] at h;simp only [go_sem,seval,hc6d];refine hZ _ (pp (hJ1 _ (decide (1099511627776 < a2)) ?_ h));refine wr ?_ ?_<;>repeat' first|rfl|constructor|simp only [go_sem,seval,Bool.or_self,List.length_set,Int.natCast_zero,Int.cast_ofNat_Int,hr2,hc3,hr4,hc5,hc6d]
 intro c7 h;unfold ej at h;refine au rfl (fun hc7=>?_) (fun hc7=>?_)
 ·rw [if_pos hc7] at h;refine Ws fun Z hZ=>?_;simp only [go_sem,seval,hc7];refine hZ _ (pp (Wk_ret (pp ?_)));cases h;simp only [go_sem,seval];exact ⟨_,rfl,RokI.h⟩
 rw [if_neg (ne_true_of_eq_false hc7)] at h;refine ag (pp ?_);unfold eh at h;refine Wk_seq ?_;obtain ⟨r10,hr8,h⟩:=Option.bind_eq_some_iff.1 h;refine aa fun Z hZ=>?_;simp only [go_sem,seval,hc7,hr8];refine hZ _ (pp (Wk_seq (Ws fun Z hZ=>?_)));simp only [go_sem,seval];refine hZ _ (pp (de rfl (fun hc9=>?_) (fun hc9=>?_)))
 ·rw [if_neg (ne_true_of_eq_false hc9)] at h;refine Ws fun Z hZ=>?_;simp only [go_sem,seval,hc9];refine hZ _ (pp (Wk_ret (pp ?_)));cases h;simp only [go_sem,seval];exact ⟨_,rfl,RokI.h⟩
 rw [if_pos hc9] at h;refine ag (pp (Wk_seq ?_));apply be (fun (c15:Bool)=>⟨tab 82 (updT (updT (updT (updT deadT 0 (.sl false none 4 none (a0.map Client.row))) 2 (.val (.int .i64 a2))) 8 (.pref 8 [] 0 0)) 47 (.val (.bool c15))),(upd RZ 8 (.sl true none 4 (some 1) [Client.row r10.1]))⟩)
 ·intro hJ10;refine aa fun Z hZ=>?_;simp only [go_sem,seval,hc9];refine sw (ae rfl) (fun hc11=>?_) (fun hc11=>?_)
  ·have hc11d:=decide_eq_false hc11;rw [if_neg hc11] at h;simp only [go_sem,seval,hc11d];refine hZ _ (pp (hJ10 _ false ?_ h));refine wr ?_ ?_<;>repeat' first|rfl|constructor|simp only [go_sem,seval,Bool.or_self,List.length_set,Int.natCast_zero,Int.cast_ofNat_Int,hc7,hr8,hc9,hc11d]
  have hc11d:=decide_eq_true hc11;rw [if_pos hc11] at h;obtain ⟨x16,hb12,hx13,h⟩:=da h;try simp only [Int.toNat_zero] at hx13
  try simp only [Int.ofNat_lt,Int.natCast_nonneg,true_and] at hb12
  simp only [go_sem,seval,hb12,hx13];refine hZ _ (pp (hJ10 _ (decide (x16<=a2)) ?_ h));refine wr ?_ ?_<;>repeat' first|rfl|constructor|simp only [go_sem,seval,Bool.or_self,List.length_set,Int.natCast_zero,Int.cast_ofNat_Int,hc7,hr8,hc9,hc11d,hb12,hx13]
 intro c15 h;unfold eQ at h;refine au rfl (fun hc14=>?_) (fun hc14=>?_)
 ·rw [if_pos hc14] at h;refine Ws fun Z hZ=>?_;simp only [go_sem,seval,hc14];refine hZ _ (pp (Wk_ret (pp ?_)));cases h;simp only [go_sem,seval];exact ⟨_,rfl,RokI.h⟩
 rw [if_neg (ne_true_of_eq_false hc14)] at h;refine ag (pp ?_);unfold fP at h;refine Ws fun Z hZ=>?_;simp only [go_sem,seval,hc14];refine hZ _ (pp (Ws fun Z hZ=>?_));simp only [go_sem,seval];refine hZ _ (pp (Wk_seq (Ws fun Z hZ=>?_)));simp only [go_sem,seval];refine hZ _ (pp (ak (bS fun hreal16=>?_)));have hl15:=hreal16.cell 8 3 (by simp only [go_sem,seval]; rfl) rfl;first|rw [List.length_map] at hl15|rw [bo] at hl15|rw [<-List.map_append,List.length_map] at hl15
 refine bJ (fun (v14:Nat) (b:List Answer)=>⟨tab 82 (updT (updT (updT (updT deadT 0 (.sl false none 4 none (a0.map Client.row))) 8 (.pref 8 [] 0 0)) 10 (.pal 76 [] 0 b.length none)) 11 (.val (.int .i64 ((v14:Nat):Int)))),(upd (upd RZ 8 (.sl true none 4 (some 1) [[.val (.string r10.1.Name),.val (.int .i64 (if a2 > r10.1.Low then a2 else r10.1.Low)),.sl false none 1 none (r10.1.Open.map (rowI .i64)),.sl false none 10 none (r10.1.Done.map Answer.row)]])) 76 (.sl true none 10 none (b.map Answer.row)))⟩) [] h ?_ ?_
 ·refine Weak.trans (oQ 10 76 10 (by simp only [go_sem,seval]) (by simp only [go_sem,seval])) ?_;refine wr ?_ ?_<;>repeat' first|rfl|constructor|simp only [go_sem,seval,Bool.or_self,List.length_set,Int.natCast_zero,Int.cast_ofNat_Int,hc7,hr8,hc9,hc14]
 rintro v14 l13 hi17 h -;rcases (aU r10.1.Done v14 hi17).symm with ⟨hi17',_,hd20⟩|⟨x17,hi17',hx18,hd20⟩
 ·rw [hd20] at h;simp only [dR] at h;refine Wk_seq (Ws fun Z hZ=>?_);simp only [go_sem,seval,hi17'];refine hZ _ (pp ?_);try simp only [Int.ofNat_lt,hi17',if_true,if_false] at h
  refine aN rfl (ba (pp ?_));unfold ld at h;refine Ws fun Z hZ=>?_;simp only [go_sem,seval];refine hZ _ (pp (Wk_seq ?_));obtain ⟨r26,hr23,h⟩:=Option.bind_eq_some_iff.1 h;refine aa fun Z hZ=>?_;simp only [go_sem,seval,hr23];refine hZ _ (pp (Wk_ret (pp ?_)));cases h;simp only [go_sem,seval];exact ⟨_,rfl,RokI.h⟩
 rw [hd20] at h;simp only [dR] at h;have hw19:=aY hi17' hl15;refine Wk_seq (Ws fun Z hZ=>?_);simp only [go_sem,seval,hi17'];refine hZ _ (pp ?_);try simp only [Int.ofNat_lt,hi17',if_true,if_false] at h
 refine aR rfl (ag (pp (Wk_seq (ak (Wk_seq ?_)))));try rw [gx_nat hx18] at h
 refine dc fun Z hZ=>?_;simp only [go_sem,seval,hx18,hi17'];refine hZ _ (by kernel_rfl) (pp (sw (aQ rfl) (fun hc21=>?_) (fun hc21=>?_)))
 ·have hc21d:=decide_eq_false hc21;rw [if_neg hc21] at h;refine ag (pp (aa fun Z hZ=>?_));simp only [go_sem,seval,hw19,hc21d];refine hZ _ (pp ?_);first|refine ⟨l13,?_,h⟩|refine ⟨hi17',l13,?_,h⟩
  refine wr ?_ ?_<;>repeat' first|rfl|constructor|simp only [go_sem,seval,Bool.or_self,List.length_set,Int.natCast_zero,Int.cast_ofNat_Int,hc7,hr8,hc9,hc14,hx18,hi17',hw19,hc21d]
 have hc21d:=decide_eq_true hc21;rw [if_pos hc21] at h;try rw [gx_nat hx18] at h
 obtain ⟨ha22,h⟩:=fy h;simp only [List.length_cons,List.length_nil,Nat.zero_add,Nat.reduceAdd] at ha22;refine aa fun Z hZ=>?_;simp only [go_sem,seval,hx18,hi17',hc21d,ha22];refine hZ _ (pp (aa fun Z hZ=>?_));simp only [go_sem,seval,hw19];refine hZ _ (pp ?_);first|refine ⟨(l13++[x17]),?_,h⟩|refine ⟨hi17',(l13++[x17]),?_,h⟩
 refine wr ?_ ?_<;>repeat' first|rfl|constructor|simp only [go_sem,seval]
def kZ (N:Nat):FnS:=⟨[],false,fn3 (decL 4 Client.dec) decS (decI .i64) fun q0 q1 q2=>(dM N q0 q1 q2).map fun r=>.tup [.sl false none 4 none (r.1.map Client.row),.val (.int .i64 r.2)],false⟩
attribute [go_sem] kZ
theorem rD (N:Nat):FSOk Try.prog 15 (kZ N):=ok3 (fun q0 q1 q2 r h=>by
 obtain ⟨r',hr,rfl⟩:=Option.map_eq_some_iff.1 h;exact (pd N q0 q1 q2 r' hr).res (by (try simp only [go_sem]); exact RokI.h)) (fun h=>aq Client.dec_le h) (aW) (ar)

def oB (N:Nat):FnS:=⟨[],false,fn3 (decL 4 Client.dec) decS (decI .i64) fun q0 q1 q2=>(dM N q0 q1 q2).map fun r=>.tup [.sl true none 4 none (r.1.map Client.row),.val (.int .i64 r.2)],false⟩
attribute [go_sem] oB
theorem AP (N:Nat):FSOk Try.prog 15 (oB N):=ok3 (fun q0 q1 q2 r h=>by
 obtain ⟨r',hr,rfl⟩:=Option.map_eq_some_iff.1 h;exact pd N q0 q1 q2 r' hr) (fun h=>aq Client.dec_le h) (aW) (ar)


noncomputable def uk (N d f:Nat):Option FnS:=glist [(13,21,gX N),(19,34,kt N),(26,45,m3 N)] d f
attribute [go_sem] uk
theorem zM (N:Nat) (a0:(List Client)) (a1:ByteArray) (a2:Int) (r:Reply × Bool) (h:lu N a0 a1 a2=some r):Con Try.prog 17 [] false [.sl false none 4 none (a0.map Client.row),.val (.string a1),.val (.int .i64 a2)] (.tup [.agg (Reply.row r.1),.val (.bool r.2)]):=by
 refine ay (G:=(uk N)) Try.func17 rfl (by decide) (by kernel_rfl) (gc 13 (j6 N) (gc 19 (kJ N) (gc 26 (qW N) gn))) [] mix (Nat.le_of_ble_eq_true rfl) ?_;simp only [Try.f17];unfold lu at h;refine Ws fun Z hZ=>?_;simp only [go_sem,seval];refine hZ _ (pp (Wk_seq (Wk_seq ?_)));obtain ⟨r1,hr1,h⟩:=Option.bind_eq_some_iff.1 h;refine aa fun Z hZ=>?_;simp only [go_sem,seval,hr1];refine hZ _ (pp (ja rfl (fun hc2=>?_) (fun hc2=>?_)))
 ·have hc2d:=decide_eq_false hc2;rw [if_neg hc2] at h;refine Ws fun Z hZ=>?_;simp only [go_sem,seval,hc2d];refine hZ _ (pp (Wk_ret (pp ?_)));cases h;simp only [go_sem,seval];exact ⟨_,rfl,RokI.h⟩
 have hc2d:=decide_eq_true hc2;rw [if_pos hc2] at h;refine ag (pp (Wk_seq ?_));obtain ⟨r2,hr3,h⟩:=Option.bind_eq_some_iff.1 h;refine aa fun Z hZ=>?_;simp only [go_sem,seval,hc2d,hr3];refine hZ _ (pp (Wk_seq ?_));obtain ⟨r3,hr4,h⟩:=Option.bind_eq_some_iff.1 h;obtain ⟨x4,hb5,hx6,h⟩:=da h;refine dc fun Z hZ=>?_;simp only [go_sem,seval,hr4,hb5,hx6];repeat with_reducible refine bN (by kernel_rfl) ?_
 refine hZ _ (by kernel_rfl) (pp (Wk_ret (pp ?_)));cases h;simp only [go_sem,seval];exact ⟨_,rfl,RokI.h⟩
def pJ (N:Nat):FnS:=⟨[],false,fn3 (decL 4 Client.dec) decS (decI .i64) fun q0 q1 q2=>(lu N q0 q1 q2).map fun r=>.tup [.agg (Reply.row r.1),.val (.bool r.2)],false⟩
attribute [go_sem] pJ
theorem vW (N:Nat):FSOk Try.prog 17 (pJ N):=ok3 (fun q0 q1 q2 r h=>by
 obtain ⟨r',hr,rfl⟩:=Option.map_eq_some_iff.1 h;exact zM N q0 q1 q2 r' hr) (fun h=>aq Client.dec_le h) (aW) (ar)


theorem w7 (N:Nat) (a0:(List Int)) (a1:(List Int)) (r:Bool) (h:ia N a0 a1=some r):Con Try.prog 46 [] true [.sl false none 1 none (a0.map (rowI .i64)),.sl false none 1 none (a1.map (rowI .i64))] (.val (.bool r)):=by
 refine ay (G:=(glist [])) Try.func46 rfl (by decide) (by kernel_rfl) gn [] mix (Nat.le_of_ble_eq_true rfl) ?_;simp only [Try.f46];unfold ia at h;refine Ws fun Z hZ=>?_;simp only [go_sem,seval];refine hZ _ (pp (Wk_seq (Ws fun Z hZ=>?_)));simp only [go_sem,seval];refine hZ _ (pp (ja rfl (fun hc1=>?_) (fun hc1=>?_)))
 ·have hc1d:=decide_eq_false hc1;rw [if_neg hc1] at h;refine Ws fun Z hZ=>?_;simp only [go_sem,seval,hc1d];refine hZ _ (pp (Wk_ret (pp ?_)));cases h;simp only [go_sem,seval];exact ⟨_,rfl,RokI.h,PureI.h⟩
 have hc1d:=decide_eq_true hc1;rw [if_pos hc1] at h;refine ag (pp (Wk_seq (Ws fun Z hZ=>?_)));simp only [go_sem,seval,hc1d];refine hZ _ (pp (ak (bS fun hreal3=>?_)));have hl2:=hreal3.lenT 0 (by decide) (by simp only [go_sem,seval]; rfl);first|rw [List.length_map] at hl2|rw [bo] at hl2|rw [<-List.map_append,List.length_map] at hl2
 refine bJ (fun (v3:Nat) (b:Unit)=>⟨tab 26 (updT (updT (updT deadT 0 (.sl false none 1 none (a0.map (rowI .i64)))) 1 (.sl false none 1 none (a1.map (rowI .i64)))) 5 (.val (.int .i64 ((v3:Nat):Int)))),RZ⟩) () h ?_ ?_
 ·refine wr ?_ ?_<;>repeat' first|rfl|constructor
 rintro v3 ⟨⟩ hi4 h -;rcases (aU a0 v3 hi4).symm with ⟨hi4',_,hd7⟩|⟨x6,hi4',hx5,hd7⟩
 ·rw [hd7] at h;simp only [gB] at h;refine Wk_seq (Ws fun Z hZ=>?_);simp only [go_sem,seval,hi4'];refine hZ _ (pp ?_);try simp only [Int.ofNat_lt,hi4',if_true,if_false] at h
  refine aN rfl (ba (pp (Ws fun Z hZ=>?_)));simp only [go_sem,seval];refine hZ _ (pp (Wk_ret (pp ?_)));cases h;simp only [go_sem,seval];exact ⟨_,rfl,RokI.h,PureI.h⟩
 rw [hd7] at h;simp only [gB] at h;have hw6:=aY hi4' hl2;refine Wk_seq (Ws fun Z hZ=>?_);simp only [go_sem,seval,hi4'];refine hZ _ (pp ?_);try simp only [Int.ofNat_lt,hi4',if_true,if_false] at h
 refine aR rfl (ag (pp (Wk_seq (ak (Wk_seq ?_)))));try rw [gx_nat hx5] at h
 obtain ⟨x1,hb8,hx9,h⟩:=da h;try simp only [Int.toNat_natCast] at hx9
 try simp only [Int.ofNat_lt,Int.natCast_nonneg,true_and] at hb8
 refine dc fun Z hZ=>?_;simp only [go_sem,seval,hx5,hi4',hb8,hx9];refine hZ _ (by kernel_rfl) (pp (ja rfl (fun hc10=>?_) (fun hc10=>?_)))
 ·have hc10d:=decide_eq_false hc10;rw [if_neg hc10] at h;refine Ws fun Z hZ=>?_;simp only [go_sem,seval,hc10d];refine hZ _ (pp (Wk_ret (pp ?_)));cases h;simp only [go_sem,seval];exact ⟨_,rfl,RokI.h,PureI.h⟩
 have hc10d:=decide_eq_true hc10;rw [if_pos hc10] at h;refine ag (pp (aa fun Z hZ=>?_));simp only [go_sem,seval,hw6,hc10d];refine hZ _ (pp ?_);first|refine ⟨(),?_,h⟩|refine ⟨hi4',(),?_,h⟩
 refine wr ?_ ?_<;>repeat' first|rfl|constructor
def iW (N:Nat):FnS:=⟨[],true,fn2 (decL 1 (dec1 (decI .i64))) (decL 1 (dec1 (decI .i64))) fun q0 q1=>(ia N q0 q1).map fun r=>.val (.bool r),false⟩
attribute [go_sem] iW
theorem lF (N:Nat):FSOk Try.prog 46 (iW N):=ok2 (fun q0 q1 r h=>by
 obtain ⟨r',hr,rfl⟩:=Option.map_eq_some_iff.1 h;exact w7 N q0 q1 r' hr) (fun h=>aq (br .i64) h) (fun h=>aq (br .i64) h)


theorem uT (N:Nat) (a0:(List ByteArray)) (a1:(List ByteArray)) (r:Bool) (h:jd N a0 a1=some r):Con Try.prog 69 [] true [.sl false none 1 none (a0.map rowS),.sl false none 1 none (a1.map rowS)] (.val (.bool r)):=by
 refine ay (G:=(glist [])) Try.func69 rfl (by decide) (by kernel_rfl) gn [] mix (Nat.le_of_ble_eq_true rfl) ?_;simp only [Try.f69];unfold jd at h;refine Ws fun Z hZ=>?_;simp only [go_sem,seval];refine hZ _ (pp (Wk_seq (Ws fun Z hZ=>?_)));simp only [go_sem,seval];refine hZ _ (pp (ja rfl (fun hc1=>?_) (fun hc1=>?_)))
 ·have hc1d:=decide_eq_false hc1;rw [if_neg hc1] at h;refine Ws fun Z hZ=>?_;simp only [go_sem,seval,hc1d];refine hZ _ (pp (Wk_ret (pp ?_)));cases h;simp only [go_sem,seval];exact ⟨_,rfl,RokI.h,PureI.h⟩
 have hc1d:=decide_eq_true hc1;rw [if_pos hc1] at h;refine ag (pp (Wk_seq (Ws fun Z hZ=>?_)));simp only [go_sem,seval,hc1d];refine hZ _ (pp (ak (bS fun hreal3=>?_)));have hl2:=hreal3.lenT 0 (by decide) (by simp only [go_sem,seval]; rfl);first|rw [List.length_map] at hl2|rw [bo] at hl2|rw [<-List.map_append,List.length_map] at hl2
 refine bJ (fun (v3:Nat) (b:Unit)=>⟨tab 26 (updT (updT (updT deadT 0 (.sl false none 1 none (a0.map rowS))) 1 (.sl false none 1 none (a1.map rowS))) 5 (.val (.int .i64 ((v3:Nat):Int)))),RZ⟩) () h ?_ ?_
 ·refine wr ?_ ?_<;>repeat' first|rfl|constructor
 rintro v3 ⟨⟩ hi4 h -;rcases (aU a0 v3 hi4).symm with ⟨hi4',_,hd7⟩|⟨x6,hi4',hx5,hd7⟩
 ·rw [hd7] at h;simp only [fe] at h;refine Wk_seq (Ws fun Z hZ=>?_);simp only [go_sem,seval,hi4'];refine hZ _ (pp ?_);try simp only [Int.ofNat_lt,hi4',if_true,if_false] at h
  refine aN rfl (ba (pp (Ws fun Z hZ=>?_)));simp only [go_sem,seval];refine hZ _ (pp (Wk_ret (pp ?_)));cases h;simp only [go_sem,seval];exact ⟨_,rfl,RokI.h,PureI.h⟩
 rw [hd7] at h;simp only [fe] at h;have hw6:=aY hi4' hl2;refine Wk_seq (Ws fun Z hZ=>?_);simp only [go_sem,seval,hi4'];refine hZ _ (pp ?_);try simp only [Int.ofNat_lt,hi4',if_true,if_false] at h
 refine aR rfl (ag (pp (Wk_seq (ak (Wk_seq ?_)))));try rw [gx_nat hx5] at h
 obtain ⟨x1,hb8,hx9,h⟩:=da h;try simp only [Int.toNat_natCast] at hx9
 try simp only [Int.ofNat_lt,Int.natCast_nonneg,true_and] at hb8
 refine dc fun Z hZ=>?_;simp only [go_sem,seval,hx5,hi4',hb8,hx9];refine hZ _ (by kernel_rfl) (pp (de rfl (fun hc10=>?_) (fun hc10=>?_)))
 ·rw [if_neg (ne_true_of_eq_false hc10)] at h;refine Ws fun Z hZ=>?_;simp only [go_sem,seval,hc10];refine hZ _ (pp (Wk_ret (pp ?_)));cases h;simp only [go_sem,seval];exact ⟨_,rfl,RokI.h,PureI.h⟩
 rw [if_pos hc10] at h;refine ag (pp (aa fun Z hZ=>?_));simp only [go_sem,seval,hw6,hc10];refine hZ _ (pp ?_);first|refine ⟨(),?_,h⟩|refine ⟨hi4',(),?_,h⟩
 refine wr ?_ ?_<;>repeat' first|rfl|constructor
def lG (N:Nat):FnS:=⟨[],true,fn2 (decL 1 (dec1 decS)) (decL 1 (dec1 decS)) fun q0 q1=>(jd N q0 q1).map fun r=>.val (.bool r),false⟩
attribute [go_sem] lG
theorem sr (N:Nat):FSOk Try.prog 69 (lG N):=ok2 (fun q0 q1 r h=>by
 obtain ⟨r',hr,rfl⟩:=Option.map_eq_some_iff.1 h;exact uT N q0 q1 r' hr) (fun h=>aq ki h) (fun h=>aq ki h)


noncomputable def rp (N d f:Nat):Option FnS:=glist [(29,46,iW N),(36,69,lG N)] d f
attribute [go_sem] rp
theorem wH (N:Nat) (a0:Value) (a1:Value) (r:Bool) (h:iS N a0 a1=some r):Con Try.prog 47 [] true [.agg (Value.row a0),.agg (Value.row a1)] (.val (.bool r)):=by
 refine ay (G:=(rp N)) Try.func47 rfl (by decide) (by kernel_rfl) (gc 29 (lF N) (gc 36 (sr N) gn)) [] mix (Nat.le_of_ble_eq_true rfl) ?_;simp only [Try.f47];unfold iS at h;refine Ws fun Z hZ=>?_;simp only [go_sem,seval];refine hZ _ (pp (Ws fun Z hZ=>?_));simp only [go_sem,seval];refine sw (ae rfl) (fun hc1=>?_) (fun hc1=>?_)
 ·have hc1d:=decide_eq_false hc1;rw [if_neg hc1] at h;simp only [go_sem,seval,hc1d];refine hZ _ (pp (Wk_ret (pp ?_)));cases h;simp only [go_sem,seval];exact ⟨_,rfl,RokI.h,PureI.h⟩
 have hc1d:=decide_eq_true hc1;rw [if_pos hc1] at h;simp only [go_sem,seval,hc1d];refine sw (ae rfl) (fun hc2=>?_) (fun hc2=>?_)
 ·have hc2d:=decide_eq_false hc2;rw [if_neg hc2] at h;simp only [go_sem,seval,hc2d];refine hZ _ (pp (Wk_ret (pp ?_)));cases h;simp only [go_sem,seval];exact ⟨_,rfl,RokI.h,PureI.h⟩
 have hc2d:=decide_eq_true hc2;rw [if_pos hc2] at h;simp only [go_sem,seval,hc2d];refine sw (bf rfl) (fun hc3=>?_) (fun hc3=>?_)
 ·rw [if_neg (ne_true_of_eq_false hc3)] at h;simp only [go_sem,seval,hc3];refine hZ _ (pp (Wk_ret (pp ?_)));cases h;simp only [go_sem,seval];exact ⟨_,rfl,RokI.h,PureI.h⟩
 rw [if_pos hc3] at h;obtain ⟨r1,hr4,h⟩:=Option.bind_eq_some_iff.1 h;simp only [go_sem,seval,hc3,hr4];refine bf rfl (fun hc5=>?_) (fun hc5=>?_)
 ·rw [if_pos hc5] at h;obtain ⟨r2,hr6,h⟩:=Option.bind_eq_some_iff.1 h;simp only [go_sem,seval,hc5,hr6];refine hZ _ (pp (Wk_ret (pp ?_)));cases h;simp only [go_sem,seval];exact ⟨_,rfl,RokI.h,PureI.h⟩
 rw [if_neg (ne_true_of_eq_false hc5)] at h;simp only [go_sem,seval,hc5];refine hZ _ (pp (Wk_ret (pp ?_)));cases h;simp only [go_sem,seval];exact ⟨_,rfl,RokI.h,PureI.h⟩
def mM (N:Nat):FnS:=⟨[],true,fn2 Value.decA Value.decA fun q0 q1=>(iS N q0 q1).map fun r=>.val (.bool r),false⟩
attribute [go_sem] mM
theorem tF (N:Nat):FSOk Try.prog 47 (mM N):=ok2 (fun q0 q1 r h=>by
 obtain ⟨r',hr,rfl⟩:=Option.map_eq_some_iff.1 h;exact wH N q0 q1 r' hr) (Value.decA_le) (Value.decA_le)


noncomputable def qA (N d f:Nat):Option FnS:=glist [(22,46,iW N),(36,47,mM N)] d f
attribute [go_sem] qA
theorem vR (N:Nat) (a0:Reply) (a1:Reply) (r:Bool) (h:fM N a0 a1=some r):Con Try.prog 19 [] true [.agg (Reply.row a0),.agg (Reply.row a1)] (.val (.bool r)):=by
 refine ay (G:=(qA N)) Try.func19 rfl (by decide) (by kernel_rfl) (gc 22 (lF N) (gc 36 (tF N) gn)) [] mix (Nat.le_of_ble_eq_true rfl) ?_;simp only [Try.f19];unfold fM at h;refine Ws fun Z hZ=>?_;simp only [go_sem,seval];refine hZ _ (pp (Ws fun Z hZ=>?_));simp only [go_sem,seval];refine sw (bf rfl) (fun hc1=>?_) (fun hc1=>?_)
 ·rw [if_neg (ne_true_of_eq_false hc1)] at h;simp only [go_sem,seval,hc1];refine hZ _ (pp (Wk_ret (pp ?_)));cases h;simp only [go_sem,seval];exact ⟨_,rfl,RokI.h,PureI.h⟩
 rw [if_pos hc1] at h;simp only [go_sem,seval,hc1];refine sw (ae rfl) (fun hc2=>?_) (fun hc2=>?_)
 ·have hc2d:=decide_eq_false hc2;rw [if_neg hc2] at h;simp only [go_sem,seval,hc2d];refine hZ _ (pp (Wk_ret (pp ?_)));cases h;simp only [go_sem,seval];exact ⟨_,rfl,RokI.h,PureI.h⟩
 have hc2d:=decide_eq_true hc2;rw [if_pos hc2] at h;obtain ⟨r1,hr3,h⟩:=Option.bind_eq_some_iff.1 h;simp only [go_sem,seval,hc2d,hr3];refine sw (bf rfl) (fun hc4=>?_) (fun hc4=>?_)
 ·rw [if_neg (ne_true_of_eq_false hc4)] at h;simp only [go_sem,seval,hc4];refine hZ _ (pp (Wk_ret (pp ?_)));cases h;simp only [go_sem,seval];exact ⟨_,rfl,RokI.h,PureI.h⟩
 rw [if_pos hc4] at h;simp only [go_sem,seval,hc4];refine ae rfl (fun hc5=>?_) (fun hc5=>?_)
 ·have hc5d:=decide_eq_true hc5;rw [if_pos hc5] at h;obtain ⟨r2,hr6,h⟩:=Option.bind_eq_some_iff.1 h;simp only [go_sem,seval,hc5d,hr6];refine hZ _ (pp (Wk_ret (pp ?_)));cases h;simp only [go_sem,seval];exact ⟨_,rfl,RokI.h,PureI.h⟩
 have hc5d:=decide_eq_false hc5;rw [if_neg hc5] at h;simp only [go_sem,seval,hc5d];refine hZ _ (pp (Wk_ret (pp ?_)));cases h;simp only [go_sem,seval];exact ⟨_,rfl,RokI.h,PureI.h⟩
def jW (N:Nat):FnS:=⟨[],true,fn2 Reply.decA Reply.decA fun q0 q1=>(fM N q0 q1).map fun r=>.val (.bool r),false⟩
attribute [go_sem] jW
theorem ou (N:Nat):FSOk Try.prog 19 (jW N):=ok2 (fun q0 q1 r h=>by
 obtain ⟨r',hr,rfl⟩:=Option.map_eq_some_iff.1 h;exact vR N q0 q1 r' hr) (Reply.decA_le) (Reply.decA_le)


noncomputable def vj (N d f:Nat):Option FnS:=glist [(45,46,iW N),(90,19,jW N)] d f
attribute [go_sem] vj
theorem As (N:Nat) (a0:(List Client)) (a1:(List Client)) (r:Bool) (h:j8 N a0 a1=some r):Con Try.prog 18 [] true [.sl false none 4 none (a0.map Client.row),.sl false none 4 none (a1.map Client.row)] (.val (.bool r)):=by
 refine ay (G:=(vj N)) Try.func18 rfl (by decide) (by kernel_rfl) (gc 45 (lF N) (gc 90 (ou N) gn)) [] mix (Nat.le_of_ble_eq_true rfl) ?_;simp only [Try.f18];unfold j8 at h;refine Ws fun Z hZ=>?_;simp only [go_sem,seval];refine hZ _ (pp (Wk_seq (Ws fun Z hZ=>?_)));simp only [go_sem,seval];refine hZ _ (pp (ja rfl (fun hc1=>?_) (fun hc1=>?_)))
 ·have hc1d:=decide_eq_false hc1;rw [if_neg hc1] at h;refine Ws fun Z hZ=>?_;simp only [go_sem,seval,hc1d];refine hZ _ (pp (Wk_ret (pp ?_)));cases h;simp only [go_sem,seval];exact ⟨_,rfl,RokI.h,PureI.h⟩
 have hc1d:=decide_eq_true hc1;rw [if_pos hc1] at h;refine ag (pp (Wk_seq (Ws fun Z hZ=>?_)));simp only [go_sem,seval,hc1d];refine hZ _ (pp (ak (bS fun hreal3=>?_)));have hl2:=hreal3.lenT 0 (by decide) (by simp only [go_sem,seval]; rfl);first|rw [List.length_map] at hl2|rw [bo] at hl2|rw [<-List.map_append,List.length_map] at hl2
 refine bJ (fun (v3:Nat) (b:Unit)=>⟨tab 93 (updT (updT (updT deadT 0 (.sl false none 4 none (a0.map Client.row))) 1 (.sl false none 4 none (a1.map Client.row))) 5 (.val (.int .i64 ((v3:Nat):Int)))),RZ⟩) () h ?_ ?_
 ·refine wr ?_ ?_<;>repeat' first|rfl|constructor
 rintro v3 ⟨⟩ hi4 h -;rcases (aU a0 v3 hi4).symm with ⟨hi4',_,hd7⟩|⟨x6,hi4',hx5,hd7⟩
 ·rw [hd7] at h;simp only [fu] at h;refine Wk_seq (Ws fun Z hZ=>?_);simp only [go_sem,seval,hi4'];refine hZ _ (pp ?_);try simp only [Int.ofNat_lt,hi4',if_true,if_false] at h
  refine aN rfl (ba (pp (Ws fun Z hZ=>?_)));simp only [go_sem,seval];refine hZ _ (pp (Wk_ret (pp ?_)));cases h;simp only [go_sem,seval];exact ⟨_,rfl,RokI.h,PureI.h⟩
 rw [hd7] at h;simp only [fu] at h;have hw6:=aY hi4' hl2;refine Wk_seq (Ws fun Z hZ=>?_);simp only [go_sem,seval,hi4'];refine hZ _ (pp ?_);try simp only [Int.ofNat_lt,hi4',if_true,if_false] at h
 refine aR rfl (ag (pp (Wk_seq (ak (Wk_seq ?_)))));try rw [gx_nat hx5] at h
 obtain ⟨x1,hb8,hx9,h⟩:=da h;try simp only [Int.toNat_natCast] at hx9
 try simp only [Int.ofNat_lt,Int.natCast_nonneg,true_and] at hb8
 refine CF fun Y hY=>?_;refine RX2_s rfl rfl fun Z hZ=>?_;simp only [go_sem,seval];repeat with_reducible refine bN (by kernel_rfl) ?_
 refine hZ _ ?_;refine RX2_s rfl rfl fun Z hZ=>?_;simp only [go_sem,seval];refine hZ _ ?_;refine RX2_s rfl rfl fun Z hZ=>?_;simp only [go_sem,seval,hi4'];refine hZ _ ?_;refine RX2_s rfl rfl fun Z hZ=>?_;simp only [go_sem,seval,hx5];refine hZ _ ?_;refine RX2_s rfl rfl fun Z hZ=>?_;simp only [go_sem,seval];refine hZ _ ?_;refine RX2_s rfl rfl fun Z hZ=>?_;simp only [go_sem,seval];refine hZ _ ?_;refine RX2_s rfl rfl fun Z hZ=>?_;simp only [go_sem,seval,hb8];refine hZ _ ?_;refine RX2_s rfl rfl fun Z hZ=>?_;simp only [go_sem,seval,hx9];refine hZ _ ?_;refine RX2_s rfl rfl fun Z hZ=>?_;simp only [go_sem,seval];refine hZ _ ?_;refine RX2_s rfl rfl fun Z hZ=>?_;simp only [go_sem,seval];refine hZ _ ?_;refine RX2_w fun Z hZ=>?_;simp only [go_sem,seval];refine hZ _ ?_;refine RX2_w fun Z hZ=>?_;simp only [go_sem,seval];refine hZ _ ?_;refine FN (by kernel_rfl) (hY _ (pp (Wk_seq ?_)));apply be (fun (c6:Bool)=>⟨tab 93 (updT (updT (updT (updT (updT (updT deadT 0 (.sl false none 4 none (a0.map Client.row))) 1 (.sl false none 4 none (a1.map Client.row))) 5 (.val (.int .i64 ((v3:Nat):Int)))) 6 (.pref 6 [] 0 0)) 7 (.pref 7 [] 0 0)) 56 (.val (.bool c6))),(upd (upd RZ 6 (.sl true none 4 (some 1) [Client.row x6])) 7 (.sl true none 4 (some 1) [Client.row x1]))⟩)
 ·intro hJ10;refine aa fun Z hZ=>?_;simp only [go_sem,seval];refine aw rfl (fun hc11=>?_) (fun hc11=>?_)
  ·rw [if_neg (ne_true_of_eq_false hc11)] at h;simp only [go_sem,seval,hc11];refine hZ _ (pp (hJ10 _ true ?_ h));refine wr ?_ ?_<;>repeat' first|rfl|constructor
  rw [if_pos hc11] at h;simp only [go_sem,seval,hc11];refine az rfl (fun hc12=>?_) (fun hc12=>?_)
  ·have hc12d:=decide_eq_false hc12;rw [if_neg hc12] at h;simp only [go_sem,seval,hc12d];refine hZ _ (pp (hJ10 _ true ?_ h));refine wr ?_ ?_<;>repeat' first|rfl|constructor
  have hc12d:=decide_eq_true hc12;rw [if_pos hc12] at h;obtain ⟨r7,hr13,h⟩:=Option.bind_eq_some_iff.1 h;simp only [go_sem,seval,hc12d,hr13];refine aw rfl (fun hc14=>?_) (fun hc14=>?_)
  ·rw [if_neg (ne_true_of_eq_false hc14)] at h;simp only [go_sem,seval,hc14];refine hZ _ (pp (hJ10 _ true ?_ h));refine wr ?_ ?_<;>repeat' first|rfl|constructor
  rw [if_pos hc14] at h;simp only [go_sem,seval,hc14];refine hZ _ (pp (hJ10 _ (!decide (((x6.Done.length:Nat):Int)=((x1.Done.length:Nat):Int))) ?_ h));refine wr ?_ ?_<;>repeat' first|rfl|constructor
 intro c6 h;unfold jw at h;refine au rfl (fun hc15=>?_) (fun hc15=>?_)
 ·rw [if_pos hc15] at h;refine Ws fun Z hZ=>?_;simp only [go_sem,seval,hc15];refine hZ _ (pp (Wk_ret (pp ?_)));cases h;simp only [go_sem,seval];exact ⟨_,rfl,RokI.h,PureI.h⟩
 rw [if_neg (ne_true_of_eq_false hc15)] at h;refine ag (pp ?_);unfold jz at h;refine Ws fun Z hZ=>?_;simp only [go_sem,seval,hc15];refine hZ _ (pp (ak (bS fun hreal17=>?_)));have hl16:=hreal17.cell 6 3 (by simp only [go_sem,seval]; rfl) rfl;first|rw [List.length_map] at hl16|rw [bo] at hl16|rw [<-List.map_append,List.length_map] at hl16
 refine bJ (fun (v14:Nat) (b:Unit)=>⟨tab 93 (updT (updT (updT (updT (updT (updT deadT 0 (.sl false none 4 none (a0.map Client.row))) 1 (.sl false none 4 none (a1.map Client.row))) 5 (.val (.int .i64 ((v3:Nat):Int)))) 6 (.pref 6 [] 0 0)) 7 (.pref 7 [] 0 0)) 8 (.val (.int .i64 ((v14:Nat):Int)))),(upd (upd RZ 6 (.sl true none 4 (some 1) [Client.row x6])) 7 (.sl true none 4 (some 1) [Client.row x1]))⟩) () h ?_ ?_
 ·refine wr ?_ ?_<;>repeat' first|rfl|constructor
 rintro v14 ⟨⟩ hi18 h -;rcases (aU x6.Done v14 hi18).symm with ⟨hi18',_,hd21⟩|⟨x17,hi18',hx19,hd21⟩
 ·rw [hd21] at h;simp only [ic] at h;refine Wk_seq (Ws fun Z hZ=>?_);simp only [go_sem,seval,hi18'];refine hZ _ (pp ?_);try simp only [Int.ofNat_lt,hi4',hi18',if_true,if_false] at h
  refine aN rfl (ba (pp (aa fun Z hZ=>?_)));simp only [go_sem,seval,hw6];refine hZ _ (pp ?_);first|refine ⟨(),?_,h⟩|refine ⟨hi4',(),?_,h⟩
  refine wr ?_ ?_<;>repeat' first|rfl|constructor
 rw [hd21] at h;simp only [ic] at h;have hw20:=aY hi18' hl16;refine Wk_seq (Ws fun Z hZ=>?_);simp only [go_sem,seval,hi18'];refine hZ _ (pp ?_);try simp only [Int.ofNat_lt,hi4',hi18',if_true,if_false] at h
 refine aR rfl (ag (pp (Wk_seq (ak ?_))));apply be (fun (c10:Bool)=>⟨tab 93 (updT (updT (updT (updT (updT (updT (updT deadT 0 (.sl false none 4 none (a0.map Client.row))) 1 (.sl false none 4 none (a1.map Client.row))) 5 (.val (.int .i64 ((v3:Nat):Int)))) 6 (.pref 6 [] 0 0)) 7 (.pref 7 [] 0 0)) 8 (.val (.int .i64 ((v14:Nat):Int)))) 92 (.val (.bool c10))),(upd (upd RZ 6 (.sl true none 4 (some 1) [Client.row x6])) 7 (.sl true none 4 (some 1) [Client.row x1]))⟩)
 ·intro hJ22;try rw [gx_nat hx19] at h
  obtain ⟨x11,hb23,hx24,h⟩:=da h;try simp only [Int.toNat_natCast] at hx24
  try simp only [Int.ofNat_lt,Int.natCast_nonneg,true_and] at hb23
  refine dc fun Z hZ=>?_;simp only [go_sem,seval,hx19,hi18',hb23,hx24];refine az rfl (fun hc25=>?_) (fun hc25=>?_)
  ·have hc25d:=decide_eq_false hc25;rw [if_neg hc25] at h;simp only [go_sem,seval,hc25d];refine hZ _ (by kernel_rfl) (pp (hJ22 _ true ?_ h));refine wr ?_ ?_<;>repeat' first|rfl|constructor
  have hc25d:=decide_eq_true hc25;rw [if_pos hc25] at h;try rw [gx_nat hx19] at h
  obtain ⟨r12,hr26,h⟩:=Option.bind_eq_some_iff.1 h;simp only [go_sem,seval,hx19,hi18',hb23,hx24,hc25d,hr26];repeat with_reducible refine bN (by kernel_rfl) ?_
  refine hZ _ (by kernel_rfl) (pp (hJ22 _ (!r12) ?_ h));refine wr ?_ ?_<;>repeat' first|rfl|constructor
 intro c10 h;unfold mU at h;refine au rfl (fun hc27=>?_) (fun hc27=>?_)
 ·rw [if_pos hc27] at h;refine Ws fun Z hZ=>?_;simp only [go_sem,seval,hc27];refine hZ _ (pp (Wk_ret (pp ?_)));cases h;simp only [go_sem,seval];exact ⟨_,rfl,RokI.h,PureI.h⟩
 rw [if_neg (ne_true_of_eq_false hc27)] at h;refine ag (pp (aa fun Z hZ=>?_));simp only [go_sem,seval,hw20,hc27];refine hZ _ (pp ?_);first|refine ⟨(),?_,h⟩|refine ⟨hi18',(),?_,h⟩
 refine wr ?_ ?_<;>repeat' first|rfl|constructor
def lj (N:Nat):FnS:=⟨[],true,fn2 (decL 4 Client.dec) (decL 4 Client.dec) fun q0 q1=>(j8 N q0 q1).map fun r=>.val (.bool r),false⟩
attribute [go_sem] lj
theorem oa (N:Nat):FSOk Try.prog 18 (lj N):=ok2 (fun q0 q1 r h=>by
 obtain ⟨r',hr,rfl⟩:=Option.map_eq_some_iff.1 h;exact As N q0 q1 r' hr) (fun h=>aq Client.dec_le h) (fun h=>aq Client.dec_le h)


noncomputable def qx (N d f:Nat):Option FnS:=glist [(25,7,ml N),(28,8,pF N),(37,9,mF N),(44,10,lk N),(51,11,qq N),(57,12,lP N),(63,13,oG N),(70,14,iB N),(77,15,kZ N),(84,16,mv N),(91,17,pJ N),(96,18,lj N),(105,18,lj N),(115,18,lj N),(125,19,jW N),(136,20,eG N),(140,21,gX N),(145,22,gp N),(147,23,gj N),(152,24,gb N),(154,25,gf N)] d f
attribute [go_sem] qx
theorem qz (N:Nat) (a0:(List Client)) (a1:ByteArray) (a2:Int) (a3:Reply) (r:Bool) (h:gR N a0 a1 a2 a3=some r):Con Try.prog 3 [] true [.sl false none 4 none (a0.map Client.row),.val (.string a1),.val (.int .i64 a2),.agg (Reply.row a3)] (.val (.bool r)):=by
 refine ay (G:=(qx N)) Try.func3 rfl (by decide) (by kernel_rfl) (gc 25 (vZ N) (gc 28 (wa N) (gc 37 (qw N) (gc 44 (m5 N) (gc 51 (wv N) (gc 57 (p7 N) (gc 63 (uZ N) (gc 70 (mL N) (gc 77 (rD N) (gc 84 (qy N) (gc 91 (vW N) (gc 96 (oa N) (gc 105 (oa N) (gc 115 (oa N) (gc 125 (ou N) (gc 136 (eK N) (gc 140 (j6 N) (gc 145 (iu N) (gc 147 (iq N) (gc 152 (kv N) (gc 154 (kg N) gn))))))))))))))))))))) [] mix (Nat.le_of_ble_eq_true rfl) ?_;simp only [Try.f3];unfold gR at h;refine Ws fun Z hZ=>?_;simp only [go_sem,seval];refine hZ _ (pp (Wk_seq (Wk_seq ?_)));obtain ⟨r1,hr1,h⟩:=Option.bind_eq_some_iff.1 h;refine aa fun Z hZ=>?_;simp only [go_sem,seval,hr1];refine hZ _ (pp (de rfl (fun hc2=>?_) (fun hc2=>?_)))
 ·rw [if_neg (ne_true_of_eq_false hc2)] at h;refine Ws fun Z hZ=>?_;simp only [go_sem,seval,hc2];refine hZ _ (pp (Wk_ret (pp ?_)));cases h;simp only [go_sem,seval];exact ⟨_,rfl,RokI.h,PureI.h⟩
 rw [if_pos hc2] at h;refine ag (pp (Wk_seq ?_));apply be (fun (c8:Bool)=>⟨tab 157 (updT (updT (updT (updT (updT deadT 0 (.sl false none 4 none (a0.map Client.row))) 1 (.val (.string a1))) 2 (.val (.int .i64 a2))) 7 (.pref 7 [] 0 0)) 39 (.val (.bool c8))),(upd RZ 7 (.sl true none 9 (some 1) [Reply.row a3]))⟩)
 ·intro hJ3;obtain ⟨r9,hr4,h⟩:=Option.bind_eq_some_iff.1 h;refine aa fun Z hZ=>?_;simp only [go_sem,seval,hc2,hr4];refine aw rfl (fun hc5=>?_) (fun hc5=>?_)
  ·rw [if_neg (ne_true_of_eq_false hc5)] at h;simp only [go_sem,seval,hc5];refine hZ _ (pp (hJ3 _ true ?_ h));refine wr ?_ ?_<;>repeat' first|rfl|constructor
  rw [if_pos hc5] at h;simp only [go_sem,seval,hc5];refine ae rfl (fun hc6=>?_) (fun hc6=>?_)
  ·have hc6d:=decide_eq_true hc6;rw [if_pos hc6] at h;simp only [go_sem,seval,hc6d];refine hZ _ (pp (hJ3 _ true ?_ h));refine wr ?_ ?_<;>repeat' first|rfl|constructor
  have hc6d:=decide_eq_false hc6;rw [if_neg hc6] at h;obtain ⟨r10,hr7,h⟩:=Option.bind_eq_some_iff.1 h;simp only [go_sem,seval,hc6d,hr7];refine hZ _ (pp (hJ3 _ (!r10) ?_ h));refine wr ?_ ?_<;>repeat' first|rfl|constructor
 intro c8 h;unfold gJ at h;refine au rfl (fun hc8=>?_) (fun hc8=>?_)
 ·rw [if_pos hc8] at h;refine Ws fun Z hZ=>?_;simp only [go_sem,seval,hc8];refine hZ _ (pp (Wk_ret (pp ?_)));cases h;simp only [go_sem,seval];exact ⟨_,rfl,RokI.h,PureI.h⟩
 rw [if_neg (ne_true_of_eq_false hc8)] at h;refine ag (pp ?_);unfold eJ at h;refine Wk_seq ?_;obtain ⟨r11,hr9,h⟩:=Option.bind_eq_some_iff.1 h;refine aa fun Z hZ=>?_;simp only [go_sem,seval,hc8,hr9];refine hZ _ (pp (Wk_seq ?_));obtain ⟨r12,hr10,h⟩:=Option.bind_eq_some_iff.1 h;refine aa fun Z hZ=>?_;simp only [go_sem,seval,hr10];refine hZ _ (pp (Wk_seq ?_));obtain ⟨r13,hr11,h⟩:=Option.bind_eq_some_iff.1 h;refine aa fun Z hZ=>?_;simp only [go_sem,seval,hr11];refine hZ _ (pp (Wk_seq ?_));obtain ⟨r14,hr12,h⟩:=Option.bind_eq_some_iff.1 h;refine aa fun Z hZ=>?_;simp only [go_sem,seval,hr12];refine hZ _ (pp (Wk_seq ?_));obtain ⟨r15,hr13,h⟩:=Option.bind_eq_some_iff.1 h;refine aa fun Z hZ=>?_;simp only [go_sem,seval,hr13];refine hZ _ (pp (Wk_seq ?_));obtain ⟨r16,hr14,h⟩:=Option.bind_eq_some_iff.1 h;refine aa fun Z hZ=>?_;simp only [go_sem,seval,hr14];refine hZ _ (pp (Wk_seq ?_));obtain ⟨r17,hr15,h⟩:=Option.bind_eq_some_iff.1 h;refine aa fun Z hZ=>?_;simp only [go_sem,seval,hr15];refine hZ _ (pp (Wk_seq ?_));obtain ⟨r18,hr16,h⟩:=Option.bind_eq_some_iff.1 h;refine aa fun Z hZ=>?_;simp only [go_sem,seval,hr16];refine hZ _ (pp (Wk_seq ?_));obtain ⟨r19,hr17,h⟩:=Option.bind_eq_some_iff.1 h;refine dc fun Z hZ=>?_;simp only [go_sem,seval,hr17];repeat with_reducible refine bN (by kernel_rfl) ?_
 refine sw (bf rfl) (fun hc18=>?_) (fun hc18=>?_)
 ·rw [if_neg (ne_true_of_eq_false hc18)] at h;simp only [go_sem,seval,hc18];refine hZ _ (by kernel_rfl) (pp (Wk_ret (pp ?_)));cases h;simp only [go_sem,seval];exact ⟨_,rfl,RokI.h,PureI.h⟩
 rw [if_pos hc18] at h;simp only [go_sem,seval,hc18];refine sw (ae rfl) (fun hc19=>?_) (fun hc19=>?_)
 ·have hc19d:=decide_eq_false hc19;rw [if_neg hc19] at h;simp only [go_sem,seval,hc19d];refine hZ _ (by kernel_rfl) (pp (Wk_ret (pp ?_)));cases h;simp only [go_sem,seval];exact ⟨_,rfl,RokI.h,PureI.h⟩
 have hc19d:=decide_eq_true hc19;rw [if_pos hc19] at h;obtain ⟨r20,hr20,h⟩:=Option.bind_eq_some_iff.1 h;simp only [go_sem,seval,hc19d,hr20];repeat with_reducible refine bN (by kernel_rfl) ?_
 refine sw (bf rfl) (fun hc21=>?_) (fun hc21=>?_)
 ·rw [if_neg (ne_true_of_eq_false hc21)] at h;simp only [go_sem,seval,hc21];refine hZ _ (by kernel_rfl) (pp (Wk_ret (pp ?_)));cases h;simp only [go_sem,seval];exact ⟨_,rfl,RokI.h,PureI.h⟩
 rw [if_pos hc21] at h;simp only [go_sem,seval,hc21];refine sw (ae rfl) (fun hc22=>?_) (fun hc22=>?_)
 ·have hc22d:=decide_eq_false hc22;rw [if_neg hc22] at h;simp only [go_sem,seval,hc22d];refine hZ _ (by kernel_rfl) (pp (Wk_ret (pp ?_)));cases h;simp only [go_sem,seval];exact ⟨_,rfl,RokI.h,PureI.h⟩
 have hc22d:=decide_eq_true hc22;rw [if_pos hc22] at h;obtain ⟨r21,hr23,h⟩:=Option.bind_eq_some_iff.1 h;simp only [go_sem,seval,hc22d,hr23];repeat with_reducible refine bN (by kernel_rfl) ?_
 refine sw (bf rfl) (fun hc24=>?_) (fun hc24=>?_)
 ·rw [if_neg (ne_true_of_eq_false hc24)] at h;simp only [go_sem,seval,hc24];refine hZ _ (by kernel_rfl) (pp (Wk_ret (pp ?_)));cases h;simp only [go_sem,seval];exact ⟨_,rfl,RokI.h,PureI.h⟩
 rw [if_pos hc24] at h;simp only [go_sem,seval,hc24];refine sw (ae rfl) (fun hc25=>?_) (fun hc25=>?_)
 ·have hc25d:=decide_eq_false hc25;rw [if_neg hc25] at h;simp only [go_sem,seval,hc25d];refine hZ _ (by kernel_rfl) (pp (Wk_ret (pp ?_)));cases h;simp only [go_sem,seval];exact ⟨_,rfl,RokI.h,PureI.h⟩
 have hc25d:=decide_eq_true hc25;rw [if_pos hc25] at h;obtain ⟨r22,hr26,h⟩:=Option.bind_eq_some_iff.1 h;simp only [go_sem,seval,hc25d,hr26];repeat with_reducible refine bN (by kernel_rfl) ?_
 refine sw (bf rfl) (fun hc27=>?_) (fun hc27=>?_)
 ·rw [if_neg (ne_true_of_eq_false hc27)] at h;simp only [go_sem,seval,hc27];refine hZ _ (by kernel_rfl) (pp (Wk_ret (pp ?_)));cases h;simp only [go_sem,seval];exact ⟨_,rfl,RokI.h,PureI.h⟩
 rw [if_pos hc27] at h;simp only [go_sem,seval,hc27];refine sw (ae rfl) (fun hc28=>?_) (fun hc28=>?_)
 ·have hc28d:=decide_eq_false hc28;rw [if_neg hc28] at h;simp only [go_sem,seval,hc28d];refine hZ _ (by kernel_rfl) (pp (Wk_ret (pp ?_)));cases h;simp only [go_sem,seval];exact ⟨_,rfl,RokI.h,PureI.h⟩
 have hc28d:=decide_eq_true hc28;rw [if_pos hc28] at h;obtain ⟨r23,hr29,h⟩:=Option.bind_eq_some_iff.1 h;obtain ⟨r24,hr30,h⟩:=Option.bind_eq_some_iff.1 h;simp only [go_sem,seval,hc28d,hr29,hr30];repeat with_reducible refine bN (by kernel_rfl) ?_
 refine sw (ae rfl) (fun hc31=>?_) (fun hc31=>?_)
 ·have hc31d:=decide_eq_false hc31;rw [if_neg hc31] at h;simp only [go_sem,seval,hc31d];refine hZ _ (by kernel_rfl) (pp (Wk_ret (pp ?_)));cases h;simp only [go_sem,seval];exact ⟨_,rfl,RokI.h,PureI.h⟩
 have hc31d:=decide_eq_true hc31;rw [if_pos hc31] at h;obtain ⟨r25,hr32,h⟩:=Option.bind_eq_some_iff.1 h;obtain ⟨r26,hr33,h⟩:=Option.bind_eq_some_iff.1 h;simp only [go_sem,seval,hc31d,hr32,hr33];repeat with_reducible refine bN (by kernel_rfl) ?_
 refine ae rfl (fun hc34=>?_) (fun hc34=>?_)
 ·have hc34d:=decide_eq_true hc34;rw [if_pos hc34] at h;obtain ⟨r27,hr35,h⟩:=Option.bind_eq_some_iff.1 h;obtain ⟨r28,hr36,h⟩:=Option.bind_eq_some_iff.1 h;simp only [go_sem,seval,hc34d,hr35,hr36];repeat with_reducible refine bN (by kernel_rfl) ?_
  refine hZ _ (by kernel_rfl) (pp (Wk_ret (pp ?_)));cases h;simp only [go_sem,seval];exact ⟨_,rfl,RokI.h,PureI.h⟩
 have hc34d:=decide_eq_false hc34;rw [if_neg hc34] at h;simp only [go_sem,seval,hc34d];refine hZ _ (by kernel_rfl) (pp (Wk_ret (pp ?_)));cases h;simp only [go_sem,seval];exact ⟨_,rfl,RokI.h,PureI.h⟩
def qe (N:Nat):FnS:=⟨[],true,fn4 (decL 4 Client.dec) decS (decI .i64) Reply.decA fun q0 q1 q2 q3=>(gR N q0 q1 q2 q3).map fun r=>.val (.bool r),false⟩
attribute [go_sem] qe
theorem Ck (N:Nat):FSOk Try.prog 3 (qe N):=ok4 (fun q0 q1 q2 q3 r h=>by
 obtain ⟨r',hr,rfl⟩:=Option.map_eq_some_iff.1 h;exact qz N q0 q1 q2 q3 r' hr) (fun h=>aq Client.dec_le h) (aW) (ar) (Reply.decA_le)

end Go.Proofs.Yteldkhmcgloafaa
