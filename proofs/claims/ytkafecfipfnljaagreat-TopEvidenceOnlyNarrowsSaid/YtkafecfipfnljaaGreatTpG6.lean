/- What these functions compute, each with its walk: F25, F59, F12, F10, F135, F60, F11, F61, F13, F15, F17, F68, F69, F18, F71, F145, F72. -/
import Derived.Test.YtkafecfipfnljaaGreatTpT
import Derived.Test.YtkafecfipfnljaaGreatTpG0
import Derived.Test.YtkafecfipfnljaaGreatTpG3
import Derived.Test.YtkafecfipfnljaaGreatTpG4
import Derived.Test.YtkafecfipfnljaaGreatTpG5
namespace Go.AM.Tp
open Go Go.AM Go.Proofs
set_option maxRecDepth 100000
set_option maxHeartbeats 2000000
attribute [local irreducible] Z11 TyOne TyAgg TySl TyZero TyStruct TyEl TyEq AWp AOps AOpsD At
def Zjd (_K:Nat) (v4:(List Z12)):Option ((List Z12)) :=
 some v4
def Zgt (K:Nat) (a0:Zc) (c6:(List Z12)→Option ((List Z12))):Nat→Int→(List Z12)→Option ((List Z12))
 | 0,_,_=>none
 | k3+1,v1,v2 =>
 if (decide (v1<(a0.Syncs.length:Int)))=true then
 if (0:Int)≤v1∧v1<a0.Syncs.length then
 (F74 K a0 (IntKind.i64.wrap (1+(IntKind.i64.wrap ((a0.Syncs.getD v1.toNat Zp).From.tmod 4))))).bind fun v10 =>
 (F74 K a0 (IntKind.i64.wrap (1+(IntKind.i64.wrap ((a0.Syncs.getD v1.toNat Zp).To.tmod 4))))).bind fun v12 =>
 if v2.length+[(⟨(IntKind.i64.wrap (1+(IntKind.i64.wrap ((a0.Syncs.getD v1.toNat Zp).From.tmod 4)))),(IntKind.i64.wrap (1+(IntKind.i64.wrap ((a0.Syncs.getD v1.toNat Zp).To.tmod 4)))),(IntKind.i64.wrap ((IntKind.i64.wrap (1000+(IntKind.i64.wrap ((a0.Syncs.getD v1.toNat Zp).At.tmod 64))))+v10)),(IntKind.i64.wrap ((IntKind.i64.wrap ((IntKind.i64.wrap (1000+(IntKind.i64.wrap ((a0.Syncs.getD v1.toNat Zp).At.tmod 64))))+(IntKind.i64.wrap ((a0.Syncs.getD v1.toNat Zp).Delay.tmod 16))))+v12)),(if (IntKind.i64.wrap ((IntKind.i64.wrap ((a0.Syncs.getD v1.toNat Zp).Delay.tmod 16)) - (IntKind.i64.wrap ((a0.Syncs.getD v1.toNat Zp).Slack.tmod 4)))) > 0 then (IntKind.i64.wrap ((IntKind.i64.wrap ((a0.Syncs.getD v1.toNat Zp).Delay.tmod 16)) - (IntKind.i64.wrap ((a0.Syncs.getD v1.toNat Zp).Slack.tmod 4)))) else 0)⟩:Z12)].length≤1073741824 then
 (Zgt K a0 c6 k3) (IntKind.i64.wrap (v1+1)) (v2++[(⟨(IntKind.i64.wrap (1+(IntKind.i64.wrap ((a0.Syncs.getD v1.toNat Zp).From.tmod 4)))),(IntKind.i64.wrap (1+(IntKind.i64.wrap ((a0.Syncs.getD v1.toNat Zp).To.tmod 4)))),(IntKind.i64.wrap ((IntKind.i64.wrap (1000+(IntKind.i64.wrap ((a0.Syncs.getD v1.toNat Zp).At.tmod 64))))+v10)),(IntKind.i64.wrap ((IntKind.i64.wrap ((IntKind.i64.wrap (1000+(IntKind.i64.wrap ((a0.Syncs.getD v1.toNat Zp).At.tmod 64))))+(IntKind.i64.wrap ((a0.Syncs.getD v1.toNat Zp).Delay.tmod 16))))+v12)),(if (IntKind.i64.wrap ((IntKind.i64.wrap ((a0.Syncs.getD v1.toNat Zp).Delay.tmod 16)) - (IntKind.i64.wrap ((a0.Syncs.getD v1.toNat Zp).Slack.tmod 4)))) > 0 then (IntKind.i64.wrap ((IntKind.i64.wrap ((a0.Syncs.getD v1.toNat Zp).Delay.tmod 16)) - (IntKind.i64.wrap ((a0.Syncs.getD v1.toNat Zp).Slack.tmod 4)))) else 0)⟩:Z12)])
 else none
 else none
 else
 c6 v2
def F25 (K:Nat) (a0:Zc):Option ((List Z12)) :=
 Zgt K a0 (Zjd K) K 0 []
theorem F25_ok (K:Nat) (a0:Zc) (r:(List Z12)) (h:F25 K a0=some r):ACall P 25 ⟨[(Z1r a0)],[],(.sl 5 (r.map Z37) false),[],[]⟩:=by
 refine ac Tryz.func25 Tryz.results25 Tryz.ntmps25 fun w0 F0 p0 S0 β0 Q hret=>?_
 dsimp only [argT]
 unfold F25 at h
 refine G1 h fun h=>?_
 refine oc (Zh (v:=(.sl 5 [] false)) rfl rfl) ?_
 refine G1 h fun h=>?_
 refine oc (Zh (v:=(.sl 5 [] true)) rfl rfl) ?_
 refine G1 h fun h=>?_
 refine AWp.ghost (fun a w h=>gk ⟨[(1,_),(3,_),(4,_)],[(1,_),(3,_)]⟩ (Z38 (k:=3) (m:=3) (sz:=5) (gk ⟨[(3,_),(1,_),(4,_)],[(1,_)]⟩ h))) ?_
 refine lb (V:=Int×(List Z12)) (X:=(List Z12)) (v:=(_,_)) (fun k v=>Zgt K a0 (Zjd K) k v.1 v.2=some r) (fun v=>Zjd K v=some r) [(1,_),(3,_)] [(1,_)] [(3,_)] [] (fun v t=>(4,(.int .i64 v.1))::t) (fun v s=>(3,(.vec 5 (List.map Z37 v.2)))::s) (fun v t=>t) (fun v s=>(3,(.vec 5 (List.map Z37 v)))::s) h ?_ ?_
 ·intro v h
  revert h
  revert v
  intro v4 h
  try dsimp only at h ⊢
  unfold Zjd at h
  refine G1 h fun h=>?_
  refine AWp.ret<|At.ghost (fun a w h=>gk ⟨[(2,_)],[]⟩ (Z1j (m:=3) (sz:=5) (gk ⟨[(2,_)],[(3,_)]⟩ h))) ?_
  exact RT
 intro N k3 v h IH3 J3
 obtain⟨v1,v2⟩:=v
 try dsimp only at h IH3 J3 ⊢
 cases k3 with
 | zero=>cases h
 | succ k3 =>
  rw [Zgt] at h
  refine Mc h (fun h=>?_) (fun h=>?_)
  ·refine AWp.skip<|At.next<|AWp.seq<|AWp.block ?_
   refine G1 h fun h=>?_
   refine oc (Zm (ds:=_)) ?_
   refine G1 h fun h=>?_
   refine oc (Z2s (b:=4) (c:=((a0.Syncs.getD v1.toNat Zp).From.tmod 4)) rfl rfl rfl rfl (by decide)) ?_
   refine oc (Z2l rfl us5 u3 rfl) ?_
   refine G1 h fun h=>?_
   refine oc (Z2s (b:=4) (c:=((a0.Syncs.getD v1.toNat Zp).To.tmod 4)) rfl rfl rfl rfl (by decide)) ?_
   refine oc (Z2l rfl us5 u3 rfl) ?_
   refine G1 h fun h=>?_
   refine oc (Z1i (vs:=[(0,(.int .i64 (IntKind.i64.wrap (1+(IntKind.i64.wrap ((a0.Syncs.getD v1.toNat Zp).From.tmod 4)))))),(1,(.int .i64 (IntKind.i64.wrap (1+(IntKind.i64.wrap ((a0.Syncs.getD v1.toNat Zp).To.tmod 4))))))]) rfl st165 ⟨rfl,rfl,rfl,rfl,trivial⟩ rfl) ?_
   refine G1 h fun h=>?_
   refine oc (Zm (ds:=[_,_,_,_,_])) ?_
   refine G1 h fun h=>?_
   refine oD (Z2s (b:=64) (c:=((a0.Syncs.getD v1.toNat Zp).At.tmod 64)) rfl rfl rfl rfl (by decide)) ?_
   refine oD (Z2l rfl us5 u3 rfl) ?_
   refine G1 h fun h=>?_
   refine oD (Z2s (b:=16) (c:=((a0.Syncs.getD v1.toNat Zp).Delay.tmod 16)) rfl rfl rfl rfl (by decide)) ?_
   refine oD (Z2l rfl us5 u3 rfl) ?_
   refine G1 h fun h=>?_
   have⟨v10,hv10,h⟩:=Zd h
   refine oD (Z15 Tryz.call74 (F74_ok (h:=hv10))) ?_
   refine G1 h fun h=>?_
   have⟨v12,hv12,h⟩:=Zd h
   refine oD (Z15 Tryz.call74 (F74_ok (h:=hv12))) ?_
   refine G1 h fun h=>?_
   refine oD (Z2s (b:=4) (c:=((a0.Syncs.getD v1.toNat Zp).Slack.tmod 4)) rfl rfl rfl rfl (by decide)) ?_
   refine oD (Z2l rfl us5 u3 rfl) ?_
   refine G1 h fun h=>?_
   refine oD (st_max (k:=.i64) (a:=0) (b:=(IntKind.i64.wrap ((IntKind.i64.wrap ((a0.Syncs.getD v1.toNat Zp).Delay.tmod 16)) - (IntKind.i64.wrap ((a0.Syncs.getD v1.toNat Zp).Slack.tmod 4))))) rfl rfl rfl) ?_
   refine G1 h fun h=>?_
   refine oD (Zm (ds:=[_,_,_,_,_])) ?_
   refine G1 h fun h=>?_
   refine oD (Zm (ds:=[_,_,_,_,_])) ?_
   refine G1 h fun h=>?_
   refine oD (Zm (ds:=[_,_,_,_,_])) ?_
   refine G1 h fun h=>?_
   refine oc (Zj (vs:=[_]) (enc:=Z37) (l:=[(⟨(IntKind.i64.wrap (1+(IntKind.i64.wrap ((a0.Syncs.getD v1.toNat Zp).From.tmod 4)))),(IntKind.i64.wrap (1+(IntKind.i64.wrap ((a0.Syncs.getD v1.toNat Zp).To.tmod 4)))),(IntKind.i64.wrap ((IntKind.i64.wrap (1000+(IntKind.i64.wrap ((a0.Syncs.getD v1.toNat Zp).At.tmod 64))))+v10)),(IntKind.i64.wrap ((IntKind.i64.wrap ((IntKind.i64.wrap (1000+(IntKind.i64.wrap ((a0.Syncs.getD v1.toNat Zp).At.tmod 64))))+(IntKind.i64.wrap ((a0.Syncs.getD v1.toNat Zp).Delay.tmod 16))))+v12)),(if (IntKind.i64.wrap ((IntKind.i64.wrap ((a0.Syncs.getD v1.toNat Zp).Delay.tmod 16)) - (IntKind.i64.wrap ((a0.Syncs.getD v1.toNat Zp).Slack.tmod 4)))) > 0 then (IntKind.i64.wrap ((IntKind.i64.wrap ((a0.Syncs.getD v1.toNat Zp).Delay.tmod 16)) - (IntKind.i64.wrap ((a0.Syncs.getD v1.toNat Zp).Slack.tmod 4)))) else 0)⟩:Z12)]) rfl el67 rfl rfl ⟨rfl,trivial⟩ rfl Z7h rfl rfl rfl rfl) ?_
   have⟨hg13,h⟩:=Zg h
   refine oc (Z1g (m:=3) rfl rfl el67 rfl u67 rfl rfl rfl rfl (oneRead rfl) Z7h hg13) ?_
   refine G2 h fun h=>?_
   refine Z17<|At.next ?_
   exact M2 h (k:=fun h=>wkx (IH3 _ (_,_) Z1p h))
  refine AWp.exit<|Zz ?_
  exact wkx (J3 _ h)
def Ze7 (K:Nat) (v18:(List Z1)):Option ((List Z1)) :=
 (F47 K v18).bind fun v22 =>
 some v22
def Zby (K:Nat) (a1:(List Z12)) (c20:(List Z1)→Option ((List Z1))):Nat→Int→(List Z1)→Option ((List Z1))
 | 0,_,_=>none
 | k17+1,v15,v16 =>
 if (decide (v15<(a1.length:Int)))=true then
 if (0:Int)≤v15∧v15<a1.length then
 if v16.length+[(⟨4,Zs,Zs,(a1.getD v15.toNat Z1k).From,(a1.getD v15.toNat Z1k).To,(a1.getD v15.toNat Z1k).Sent,(a1.getD v15.toNat Z1k).Received,(a1.getD v15.toNat Z1k).Least⟩:Z1)].length≤1073741824 then
 (Zby K a1 c20 k17) (IntKind.i64.wrap (v15+1)) (v16++[(⟨4,Zs,Zs,(a1.getD v15.toNat Z1k).From,(a1.getD v15.toNat Z1k).To,(a1.getD v15.toNat Z1k).Sent,(a1.getD v15.toNat Z1k).Received,(a1.getD v15.toNat Z1k).Least⟩:Z1)])
 else none
 else none
 else
 c20 v16
def Z53 (K:Nat) (a1:(List Z12)) (v12:(List Z1)):Option ((List Z1)) :=
 Zby K a1 (Ze7 K) K 0 v12
def Z99 (_K:Nat) (b26:Int→(List Z1)→Option ((List Z1))) (v9:Int) (v37:(List Z1)):Option ((List Z1)) :=
 b26 (IntKind.i64.wrap (v9+1)) v37
def Zbw (_K:Nat) (b40:Int→(List Z1)→Option ((List Z1))) (v34:Int) (v41:(List Z1)):Option ((List Z1)) :=
 b40 (IntKind.i64.wrap (v34+1)) v41
def Ze8 (K:Nat) (b40:Int→(List Z1)→Option ((List Z1))) (v34:Int) (v44:(List Z1)):Option ((List Z1)) :=
 Zbw K b40 v34 v44
def Z6h (K:Nat) (v2:(List Z2)) (v9:Int) (v6:(List (Zr×Z2))) (v29:Zr) (c39:(List Z1)→Option ((List Z1))):Nat→Int→(List Z1)→Option ((List Z1))
 | 0,_,_=>none
 | k36+1,v34,v35 =>
 if (decide (v34<((v2.getD v9.toNat Z5).Links.length:Int)))=true then
 if (0:Int)≤v34∧v34<(v2.getD v9.toNat Z5).Links.length then
 if (mget Z1f ((v2.getD v9.toNat Z5).Links.getD v34.toNat Zs) v6).isSome=true then
 if (!((((v2.getD v9.toNat Z5).Links.getD v34.toNat Zs).Trace==v29.Trace)&&((((v2.getD v9.toNat Z5).Links.getD v34.toNat Zs).Id==v29.Id)&&true)))=true then
 if v35.length+[(⟨3,((v2.getD v9.toNat Z5).Links.getD v34.toNat Zs),v29,((mget Z1f ((v2.getD v9.toNat Z5).Links.getD v34.toNat Zs) v6).getD Z5).Clock,(v2.getD v9.toNat Z5).Clock,((mget Z1f ((v2.getD v9.toNat Z5).Links.getD v34.toNat Zs) v6).getD Z5).Start,(v2.getD v9.toNat Z5).Start,0⟩:Z1)].length≤1073741824 then
 Ze8 K (Z6h K v2 v9 v6 v29 c39 k36) v34 (v35++[(⟨3,((v2.getD v9.toNat Z5).Links.getD v34.toNat Zs),v29,((mget Z1f ((v2.getD v9.toNat Z5).Links.getD v34.toNat Zs) v6).getD Z5).Clock,(v2.getD v9.toNat Z5).Clock,((mget Z1f ((v2.getD v9.toNat Z5).Links.getD v34.toNat Zs) v6).getD Z5).Start,(v2.getD v9.toNat Z5).Start,0⟩:Z1)])
 else none
 else
 Ze8 K (Z6h K v2 v9 v6 v29 c39 k36) v34 v35
 else
 Zbw K (Z6h K v2 v9 v6 v29 c39 k36) v34 v35
 else none
 else
 c39 v35
def Zbv (K:Nat) (v2:(List Z2)) (v9:Int) (v6:(List (Zr×Z2))) (v29:Zr) (b26:Int→(List Z1)→Option ((List Z1))) (v32:(List Z1)):Option ((List Z1)) :=
 Z6h K v2 v9 v6 v29 (Z99 K b26 v9) K 0 v32
def Zbx (K:Nat) (v10:(List Z1)) (v2:(List Z2)) (v9:Int) (v29:Zr) (v6:(List (Zr×Z2))) (b26:Int→(List Z1)→Option ((List Z1))) (v48:Bool):Option ((List Z1)) :=
 if v48=true then
 if (v10++[(⟨1,(⟨(v2.getD v9.toNat Z5).Trace,(v2.getD v9.toNat Z5).Parent⟩:Zr),v29,((mget Z1f (⟨(v2.getD v9.toNat Z5).Trace,(v2.getD v9.toNat Z5).Parent⟩:Zr) v6).getD Z5).Clock,(v2.getD v9.toNat Z5).Clock,((mget Z1f (⟨(v2.getD v9.toNat Z5).Trace,(v2.getD v9.toNat Z5).Parent⟩:Zr) v6).getD Z5).Start,(v2.getD v9.toNat Z5).Start,0⟩:Z1)]).length+[(⟨2,v29,(⟨(v2.getD v9.toNat Z5).Trace,(v2.getD v9.toNat Z5).Parent⟩:Zr),(v2.getD v9.toNat Z5).Clock,((mget Z1f (⟨(v2.getD v9.toNat Z5).Trace,(v2.getD v9.toNat Z5).Parent⟩:Zr) v6).getD Z5).Clock,(v2.getD v9.toNat Z5).End,((mget Z1f (⟨(v2.getD v9.toNat Z5).Trace,(v2.getD v9.toNat Z5).Parent⟩:Zr) v6).getD Z5).End,0⟩:Z1)].length≤1073741824 then
 Zbv K v2 v9 v6 v29 b26 ((v10++[(⟨1,(⟨(v2.getD v9.toNat Z5).Trace,(v2.getD v9.toNat Z5).Parent⟩:Zr),v29,((mget Z1f (⟨(v2.getD v9.toNat Z5).Trace,(v2.getD v9.toNat Z5).Parent⟩:Zr) v6).getD Z5).Clock,(v2.getD v9.toNat Z5).Clock,((mget Z1f (⟨(v2.getD v9.toNat Z5).Trace,(v2.getD v9.toNat Z5).Parent⟩:Zr) v6).getD Z5).Start,(v2.getD v9.toNat Z5).Start,0⟩:Z1)])++[(⟨2,v29,(⟨(v2.getD v9.toNat Z5).Trace,(v2.getD v9.toNat Z5).Parent⟩:Zr),(v2.getD v9.toNat Z5).Clock,((mget Z1f (⟨(v2.getD v9.toNat Z5).Trace,(v2.getD v9.toNat Z5).Parent⟩:Zr) v6).getD Z5).Clock,(v2.getD v9.toNat Z5).End,((mget Z1f (⟨(v2.getD v9.toNat Z5).Trace,(v2.getD v9.toNat Z5).Parent⟩:Zr) v6).getD Z5).End,0⟩:Z1)])
 else none
 else
 Zbv K v2 v9 v6 v29 b26 (v10++[(⟨1,(⟨(v2.getD v9.toNat Z5).Trace,(v2.getD v9.toNat Z5).Parent⟩:Zr),v29,((mget Z1f (⟨(v2.getD v9.toNat Z5).Trace,(v2.getD v9.toNat Z5).Parent⟩:Zr) v6).getD Z5).Clock,(v2.getD v9.toNat Z5).Clock,((mget Z1f (⟨(v2.getD v9.toNat Z5).Trace,(v2.getD v9.toNat Z5).Parent⟩:Zr) v6).getD Z5).Start,(v2.getD v9.toNat Z5).Start,0⟩:Z1)])
def Z9a (K:Nat) (v10:(List Z1)) (v2:(List Z2)) (v9:Int) (v29:Zr) (v6:(List (Zr×Z2))) (b26:Int→(List Z1)→Option ((List Z1))) (v30:Bool):Option ((List Z1)) :=
 if v30=true then
 if v10.length+[(⟨1,(⟨(v2.getD v9.toNat Z5).Trace,(v2.getD v9.toNat Z5).Parent⟩:Zr),v29,((mget Z1f (⟨(v2.getD v9.toNat Z5).Trace,(v2.getD v9.toNat Z5).Parent⟩:Zr) v6).getD Z5).Clock,(v2.getD v9.toNat Z5).Clock,((mget Z1f (⟨(v2.getD v9.toNat Z5).Trace,(v2.getD v9.toNat Z5).Parent⟩:Zr) v6).getD Z5).Start,(v2.getD v9.toNat Z5).Start,0⟩:Z1)].length≤1073741824 then
 if ((v2.getD v9.toNat Z5).Kind==3)=true then
 if (((mget Z1f (⟨(v2.getD v9.toNat Z5).Trace,(v2.getD v9.toNat Z5).Parent⟩:Zr) v6).getD Z5).Kind==2)=true then
 Zbx K v10 v2 v9 v29 v6 b26 (!((mget Z1f (⟨(v2.getD v9.toNat Z5).Trace,(v2.getD v9.toNat Z5).Parent⟩:Zr) v6).getD Z5).Error)
 else
 Zbx K v10 v2 v9 v29 v6 b26 false
 else
 Zbx K v10 v2 v9 v29 v6 b26 false
 else none
 else
 Zbv K v2 v9 v6 v29 b26 v10
def Z2y (K:Nat) (v2:(List Z2)) (v6:(List (Zr×Z2))) (c14:(List Z1)→Option ((List Z1))):Nat→Int→(List Z1)→Option ((List Z1))
 | 0,_,_=>none
 | k11+1,v9,v10 =>
 if (decide (v9<(v2.length:Int)))=true then
 if (0:Int)≤v9∧v9<v2.length then
 (F67 K (v2.getD v9.toNat Z5)).bind fun v29 =>
 if (mget Z1f (⟨(v2.getD v9.toNat Z5).Trace,(v2.getD v9.toNat Z5).Parent⟩:Zr) v6).isSome=true then
 if ((v2.getD v9.toNat Z5).Parent != 0)=true then
 Z9a K v10 v2 v9 v29 v6 (Z2y K v2 v6 c14 k11) (!(((v2.getD v9.toNat Z5).Trace==v29.Trace)&&(((v2.getD v9.toNat Z5).Parent==v29.Id)&&true)))
 else
 Z9a K v10 v2 v9 v29 v6 (Z2y K v2 v6 c14 k11) false
 else
 Z9a K v10 v2 v9 v29 v6 (Z2y K v2 v6 c14 k11) false
 else none
 else
 c14 v10
def Zjm (K:Nat) (v2:(List Z2)) (a1:(List Z12)) (v6:(List (Zr×Z2))):Option ((List Z1)) :=
 Z2y K v2 v6 (Z53 K a1) K 0 []
def Zh7 (K:Nat) (v2:(List Z2)) (c8:(List (Zr×Z2))→Option ((List Z1))):Nat→Int→(List (Zr×Z2))→Option ((List Z1))
 | 0,_,_=>none
 | k5+1,v3,v4 =>
 if (decide (v3<(v2.length:Int)))=true then
 if (0:Int)≤v3∧v3<v2.length then
 (F67 K (v2.getD v3.toNat Z5)).bind fun v54 =>
 (Zh7 K v2 c8 k5) (IntKind.i64.wrap (v3+1)) (mput Z1f v54 (v2.getD v3.toNat Z5) v4)
 else none
 else
 c8 v4
def F59 (K:Nat) (a0:(List Z2)) (a1:(List Z12)):Option ((List Z1)) :=
 (F134 K a0).bind fun v2 =>
 Zh7 K v2 (Zjm K v2 a1) K 0 ([]:List (Zr×Z2))
theorem F59_ok (K:Nat) (a0:(List Z2)) (a1:(List Z12)) (r:(List Z1)) (h:F59 K a0 a1=some r):ACall P 59 ⟨[(.sl 14 (a0.map Zb) false),(.sl 5 (a1.map Z37) false)],[],.vs 4,[(4,.vec 10 (List.map Z3 r))],[4]⟩:=by
 refine ac Tryz.func59 Tryz.results59 Tryz.ntmps59 fun w0 F0 p0 S0 β0 Q hret=>?_
 dsimp only [argT]
 unfold F59 at h
 refine AWp.seq<|AWp.region ?_
 refine oc (Zh (v:=(.sl 10 [] false)) rfl rfl) ?_
 refine G1 h fun h=>?_
 have⟨v2,hv2,h⟩:=Zd h
 refine oc (Z15 Tryz.call134 (Zge (h:=hv2))) ?_
 refine G1 h fun h=>?_
 refine lb (V:=Int×(List (Zr×Z2))) (X:=(List (Zr×Z2))) (v:=(_,_)) (fun k v=>Zh7 K v2 (Zjm K v2 a1) k v.1 v.2=some r) (fun v=>Zjm K v2 a1 v=some r) [(1,_),(5,_),(6,_),(25,_),(26,_)] [] [(1,_),(5,_),(6,_)] [] (fun v t=>(27,(.int .i64 v.1))::t) (fun v s=>(24,(.map (Zn Z1x Zb v.2)))::s) (fun v t=>t) (fun v s=>(24,(.map (Zn Z1x Zb v)))::s) h ?_ ?_
 ·intro v h
  revert h
  revert v
  intro v6 h
  try dsimp only at h ⊢
  unfold Zjm at h
  refine At.next<|AWp.seq<|AWp.region ?_
  refine oc (Zh (v:=(.sl 10 [] true)) rfl rfl) ?_
  refine G1 h fun h=>?_
  refine AWp.ghost (fun a w h=>gk ⟨[(1,_),(6,_),(9,_),(36,_),(37,_),(38,_)],[(9,_),(24,_)]⟩ (Z38 (k:=9) (m:=9) (sz:=10) (gk ⟨[(9,_),(1,_),(6,_),(36,_),(37,_),(38,_)],[(24,_)]⟩ h))) ?_
  refine lb (V:=Int×(List Z1)) (X:=(List Z1)) (v:=(_,_)) (fun k v=>Z2y K v2 v6 (Z53 K a1) k v.1 v.2=some r) (fun v=>Z53 K a1 v=some r) [(1,_),(6,_),(9,_),(36,_),(37,_)] [(24,_)] [(1,_),(9,_)] [] (fun v t=>(38,(.int .i64 v.1))::t) (fun v s=>(9,(.vec 10 (List.map Z3 v.2)))::s) (fun v t=>t) (fun v s=>(9,(.vec 10 (List.map Z3 v)))::s) h ?_ ?_
  ·intro v h
   revert h
   revert v
   intro v12 h
   try dsimp only at h ⊢
   unfold Z53 at h
   refine G1 h fun h=>?_
   refine lb (V:=Int×(List Z1)) (X:=(List Z1)) (v:=(_,_)) (fun k v=>Zby K a1 (Ze7 K) k v.1 v.2=some r) (fun v=>Ze7 K v=some r) [(9,_),(142,_),(143,_)] [] [(9,_)] [] (fun v t=>(144,(.int .i64 v.1))::t) (fun v s=>(9,(.vec 10 (List.map Z3 v.2)))::s) (fun v t=>t) (fun v s=>(9,(.vec 10 (List.map Z3 v)))::s) h ?_ ?_
   ·intro v h
    revert h
    revert v
    intro v18 h
    try dsimp only at h ⊢
    unfold Ze7 at h
    refine G1 h fun h=>?_
    have⟨v22,hv22,h⟩:=Zd h
    refine oc (Z9w (enc:=Z3) (l:=v22) (rd:=[(9,(.vec 10 (List.map Z3 v18)))]) (ar:=[_]) (caps:=[]) Tryz.call47 ((F47_ok (h:=hv22)).sw 2 164) rfl rfl ⟨rfl,trivial⟩ (Z2f ⟨rfl,trivial⟩) rfl rfl (fun _=>rfl)) ?_
    refine G1 h fun h=>?_
    refine AWp.ret<|At.ghost (fun a w h=>gk ⟨[(4,_)],[(4,_)]⟩ (Z3x (a:=164) (b:=4) (gk ⟨[(4,_)],[(164,_)]⟩ h))) ?_
    exact RT
   intro N k17 v h IH17 J17
   obtain⟨v15,v16⟩:=v
   try dsimp only at h IH17 J17 ⊢
   cases k17 with
   | zero=>cases h
   | succ k17 =>
    rw [Zby] at h
    refine Mc h (fun h=>?_) (fun h=>?_)
    ·refine AWp.skip<|At.next<|AWp.seq<|AWp.block ?_
     refine G1 h fun h=>?_
     refine oc (Zm (ds:=_)) ?_
     refine G1 h fun h=>?_
     refine oc (Z1i (vs:=[(0,(.int .i64 4)),(3,(.int .i64 (a1.getD v15.toNat Z1k).From)),(4,(.int .i64 (a1.getD v15.toNat Z1k).To)),(5,(.int .i64 (a1.getD v15.toNat Z1k).Sent)),(6,(.int .i64 (a1.getD v15.toNat Z1k).Received)),(7,(.int .i64 (a1.getD v15.toNat Z1k).Least))]) rfl Zpw ⟨rfl,rfl,rfl,rfl,rfl,rfl,rfl,rfl,rfl,rfl,rfl,rfl,trivial⟩ rfl) ?_
     refine oc (Zj (vs:=[_]) (enc:=Z3) (l:=[(⟨4,Zs,Zs,(a1.getD v15.toNat Z1k).From,(a1.getD v15.toNat Z1k).To,(a1.getD v15.toNat Z1k).Sent,(a1.getD v15.toNat Z1k).Received,(a1.getD v15.toNat Z1k).Least⟩:Z1)]) rfl Ziu rfl rfl ⟨rfl,trivial⟩ rfl Z16 rfl rfl rfl rfl) ?_
     have⟨hg25,h⟩:=Zg h
     refine oc (Z1g (m:=9) rfl rfl Ziu rfl u35 rfl rfl rfl rfl (oneRead rfl) Z16 hg25) ?_
     refine G2 h fun h=>?_
     refine Z17<|At.next ?_
     exact M2 h (k:=fun h=>wkx (IH17 _ (_,_) Z1p h))
    refine AWp.exit<|Zz ?_
    exact wkx (J17 _ h)
  intro N k11 v h IH11 J11
  obtain⟨v9,v10⟩:=v
  try dsimp only at h IH11 J11 ⊢
  cases k11 with
  | zero=>cases h
  | succ k11 =>
   rw [Z2y] at h
   refine Mc h (fun h=>?_) (fun h=>?_)
   ·refine AWp.skip<|At.next<|AWp.seq<|AWp.block ?_
    refine G1 h fun h=>?_
    refine oc (Z2a rfl z94 rfl rfl rfl) ?_
    refine oc (Zm (ds:=_)) ?_
    refine G1 h fun h=>?_
    have⟨v29,hv29,h⟩:=Zd h
    refine oc (Z15 Tryz.call67 (Zhb (h:=hv29))) ?_
    refine G1 h fun h=>?_
    refine oc (Zm (ds:=_)) ?_
    refine G1 h fun h=>?_
    refine oc (Z1i (vs:=[(0,(.int .i64 (v2.getD v9.toNat Z5).Trace)),(1,(.int .i64 (v2.getD v9.toNat Z5).Parent))]) rfl st57 ⟨rfl,rfl,rfl,rfl,trivial⟩ rfl) ?_
    refine G1 h fun h=>?_
    refine oc (Zm (ds:=[_,_])) ?_
    refine G1 h fun h=>?_
    refine oc (Z33 (a:=(⟨(v2.getD v9.toNat Z5).Trace,(v2.getD v9.toNat Z5).Parent⟩:Zr)) rfl mt250 rfl rfl (.inl rfl) rfl rfl) ?_
    refine G1 h fun h=>?_
    refine oc (Z2a rfl z94 rfl rfl rfl) ?_
    refine oc (Zm (ds:=_)) ?_
    refine G2 h fun h=>?_
    refine At.next<|AWp.seq ?_
    refine jn (V:=Bool) (fun v=>Z9a K v10 v2 v9 v29 v6 (Z2y K v2 v6 (Z53 K a1) k11) v=some r) [(1,_),(6,_),(9,_),(11,_),(12,_),(13,_),(14,_),(36,_),(37,_),(38,_)] [(9,_),(11,_),(12,_),(13,_),(14,_),(24,_)] (fun v t=>(65,(.bool v))::t) (fun v s=>s) ?_ ?_
    ·intro v h
     revert h
     revert v
     intro v30 h
     try dsimp only at h ⊢
     unfold Z9a at h
     refine At.next ?_
     refine jn (V:=(List Z1)) (fun v=>Zbv K v2 v9 v6 v29 (Z2y K v2 v6 (Z53 K a1) k11) v=some r) [(1,_),(6,_),(9,_),(11,_),(12,_),(36,_),(37,_),(38,_)] [(11,_),(12,_),(24,_)] (fun v t=>t) (fun v s=>(9,(.vec 10 (List.map Z3 v)))::s) ?_ ?_
     ·intro v h
      revert h
      revert v
      intro v32 h
      try dsimp only at h ⊢
      unfold Zbv at h
      refine G1 h fun h=>?_
      refine lb (V:=Int×(List Z1)) (X:=(List Z1)) (v:=(_,_)) (fun k v=>Z6h K v2 v9 v6 v29 (Z99 K (Z2y K v2 v6 (Z53 K a1) k11) v9) k v.1 v.2=some r) (fun v=>Z99 K (Z2y K v2 v6 (Z53 K a1) k11) v9 v=some r) [(1,_),(6,_),(9,_),(11,_),(12,_),(36,_),(37,_),(38,_),(108,_),(109,_)] [(11,_),(12,_),(24,_)] [(1,_),(6,_),(9,_),(36,_),(37,_),(38,_)] [(24,_)] (fun v t=>(110,(.int .i64 v.1))::t) (fun v s=>(9,(.vec 10 (List.map Z3 v.2)))::s) (fun v t=>t) (fun v s=>(9,(.vec 10 (List.map Z3 v)))::s) h ?_ ?_
      ·intro v h
       revert h
       revert v
       intro v37 h
       try dsimp only at h ⊢
       unfold Z99 at h
       refine Z17<|At.next ?_
       exact M2 h (k:=fun h=>wkx (IH11 _ (_,_) Z1p h))
      intro N k36 v h IH36 J36
      obtain⟨v34,v35⟩:=v
      try dsimp only at h IH36 J36 ⊢
      cases k36 with
      | zero=>cases h
      | succ k36 =>
       rw [Z6h] at h
       refine Mc h (fun h=>?_) (fun h=>?_)
       ·refine AWp.skip<|At.next<|AWp.seq ?_
        refine bj (V:=(List Z1)) (fun v=>Zbw K (Z6h K v2 v9 v6 v29 (Z99 K (Z2y K v2 v6 (Z53 K a1) k11) v9) k36) v34 v=some r) [(1,_),(6,_),(9,_),(11,_),(12,_),(36,_),(37,_),(38,_),(108,_),(109,_),(110,_)] [(11,_),(12,_),(24,_)] (fun v t=>t) (fun v s=>(9,(.vec 10 (List.map Z3 v)))::s) ?_ ?_
        ·intro v h
         revert h
         revert v
         intro v41 h
         try dsimp only at h ⊢
         unfold Zbw at h
         refine At.next ?_
         exact M2 h (k:=fun h=>wkx (IH36 _ (_,_) Z1p h))
        intro J42
        refine G1 h fun h=>?_
        refine oc (Zm (ds:=_)) ?_
        refine G1 h fun h=>?_
        refine oc (Z33 (a:=((v2.getD v9.toNat Z5).Links.getD v34.toNat Zs)) rfl mt250 rfl rfl (.inl rfl) rfl rfl) ?_
        refine G1 h fun h=>?_
        refine oc (Z2a rfl z94 rfl rfl rfl) ?_
        refine oc (Zm (ds:=_)) ?_
        refine Ms h (fun h=>?_) (fun h=>?_)
        ·refine G1 h fun h=>?_
         refine jn (V:=(List Z1)) (fun v=>Ze8 K (Z6h K v2 v9 v6 v29 (Z99 K (Z2y K v2 v6 (Z53 K a1) k11) v9) k36) v34 v=some r) [(1,_),(6,_),(9,_),(11,_),(12,_),(36,_),(37,_),(38,_),(108,_),(109,_),(110,_)] [(11,_),(12,_),(24,_)] (fun v t=>t) (fun v s=>(9,(.vec 10 (List.map Z3 v)))::s) ?_ ?_
         ·intro v h
          revert h
          revert v
          intro v44 h
          try dsimp only at h ⊢
          unfold Ze8 at h
          refine Z17 ?_
          exact wkx (J42 _ h)
         intro J45
         refine cnd h (fun h=>?_) (fun h=>?_)
         ·refine G1 h fun h=>?_
          refine oc (Z1i (vs:=[(0,(.int .i64 3)),(1,(Z1x ((v2.getD v9.toNat Z5).Links.getD v34.toNat Zs))),(2,(Z1x v29)),(3,(.int .i64 ((mget Z1f ((v2.getD v9.toNat Z5).Links.getD v34.toNat Zs) v6).getD Z5).Clock)),(4,(.int .i64 (v2.getD v9.toNat Z5).Clock)),(5,(.int .i64 ((mget Z1f ((v2.getD v9.toNat Z5).Links.getD v34.toNat Zs) v6).getD Z5).Start)),(6,(.int .i64 (v2.getD v9.toNat Z5).Start))]) rfl Zpw ⟨rfl,rfl,rfl,rfl,rfl,rfl,rfl,rfl,rfl,rfl,rfl,rfl,rfl,rfl,trivial⟩ rfl) ?_
          refine oc (Zj (vs:=[_]) (enc:=Z3) (l:=[(⟨3,((v2.getD v9.toNat Z5).Links.getD v34.toNat Zs),v29,((mget Z1f ((v2.getD v9.toNat Z5).Links.getD v34.toNat Zs) v6).getD Z5).Clock,(v2.getD v9.toNat Z5).Clock,((mget Z1f ((v2.getD v9.toNat Z5).Links.getD v34.toNat Zs) v6).getD Z5).Start,(v2.getD v9.toNat Z5).Start,0⟩:Z1)]) rfl Ziu rfl rfl ⟨rfl,trivial⟩ rfl Z16 rfl rfl rfl rfl) ?_
          have⟨hg46,h⟩:=Zg h
          refine oc (Z1g (m:=9) rfl rfl Ziu rfl u35 rfl rfl rfl rfl (oneRead rfl) Z16 hg46) ?_
          exact M2 h (k:=fun h=>wkx (J45 _ h))
         refine AWp.skip ?_
         exact wkx (J45 _ h)
        refine G1 h fun h=>?_
        refine AWp.cond (b:=false) I (fun hc=>?_) (fun hc=>?_)
        ·cases hc
        refine AWp.skip<|Z17 ?_
        exact wkx (J42 _ h)
       refine AWp.exit<|Zz ?_
       exact wkx (J36 _ h)
     intro J33
     refine cnd h (fun h=>?_) (fun h=>?_)
     ·refine G1 h fun h=>?_
      refine oc (Z1i (vs:=[(0,(.int .i64 1)),(1,(.ag [(.int .i64 (v2.getD v9.toNat Z5).Trace),(.int .i64 (v2.getD v9.toNat Z5).Parent)])),(2,(Z1x v29)),(3,(.int .i64 ((mget Z1f (⟨(v2.getD v9.toNat Z5).Trace,(v2.getD v9.toNat Z5).Parent⟩:Zr) v6).getD Z5).Clock)),(4,(.int .i64 (v2.getD v9.toNat Z5).Clock)),(5,(.int .i64 ((mget Z1f (⟨(v2.getD v9.toNat Z5).Trace,(v2.getD v9.toNat Z5).Parent⟩:Zr) v6).getD Z5).Start)),(6,(.int .i64 (v2.getD v9.toNat Z5).Start))]) rfl Zpw ⟨rfl,rfl,rfl,rfl,rfl,rfl,rfl,rfl,rfl,rfl,rfl,rfl,rfl,rfl,trivial⟩ rfl) ?_
      refine oc (Zj (vs:=[_]) (enc:=Z3) (l:=[(⟨1,(⟨(v2.getD v9.toNat Z5).Trace,(v2.getD v9.toNat Z5).Parent⟩:Zr),v29,((mget Z1f (⟨(v2.getD v9.toNat Z5).Trace,(v2.getD v9.toNat Z5).Parent⟩:Zr) v6).getD Z5).Clock,(v2.getD v9.toNat Z5).Clock,((mget Z1f (⟨(v2.getD v9.toNat Z5).Trace,(v2.getD v9.toNat Z5).Parent⟩:Zr) v6).getD Z5).Start,(v2.getD v9.toNat Z5).Start,0⟩:Z1)]) rfl Ziu rfl rfl ⟨rfl,trivial⟩ rfl Z16 rfl rfl rfl rfl) ?_
      have⟨hg47,h⟩:=Zg h
      refine oc (Z1g (m:=9) rfl rfl Ziu rfl u35 rfl rfl rfl rfl (oneRead rfl) Z16 hg47) ?_
      refine G2 h fun h=>?_
      refine At.next<|AWp.seq ?_
      refine jn (V:=Bool) (fun v=>Zbx K v10 v2 v9 v29 v6 (Z2y K v2 v6 (Z53 K a1) k11) v=some r) [(1,_),(6,_),(9,_),(11,_),(12,_),(13,_),(14,_),(36,_),(37,_),(38,_)] [(9,_),(11,_),(12,_),(13,_),(14,_),(24,_)] (fun v t=>(92,(.bool v))::t) (fun v s=>s) ?_ ?_
      ·intro v h
       revert h
       revert v
       intro v48 h
       try dsimp only at h ⊢
       unfold Zbx at h
       refine At.next ?_
       refine cnd h (fun h=>?_) (fun h=>?_)
       ·refine G1 h fun h=>?_
        refine oc (Z1i (vs:=[(0,(.int .i64 2)),(1,(Z1x v29)),(2,(.ag [(.int .i64 (v2.getD v9.toNat Z5).Trace),(.int .i64 (v2.getD v9.toNat Z5).Parent)])),(3,(.int .i64 (v2.getD v9.toNat Z5).Clock)),(4,(.int .i64 ((mget Z1f (⟨(v2.getD v9.toNat Z5).Trace,(v2.getD v9.toNat Z5).Parent⟩:Zr) v6).getD Z5).Clock)),(5,(.int .i64 (v2.getD v9.toNat Z5).End)),(6,(.int .i64 ((mget Z1f (⟨(v2.getD v9.toNat Z5).Trace,(v2.getD v9.toNat Z5).Parent⟩:Zr) v6).getD Z5).End))]) rfl Zpw ⟨rfl,rfl,rfl,rfl,rfl,rfl,rfl,rfl,rfl,rfl,rfl,rfl,rfl,rfl,trivial⟩ rfl) ?_
        refine oc (Zj (vs:=[_]) (enc:=Z3) (l:=[(⟨2,v29,(⟨(v2.getD v9.toNat Z5).Trace,(v2.getD v9.toNat Z5).Parent⟩:Zr),(v2.getD v9.toNat Z5).Clock,((mget Z1f (⟨(v2.getD v9.toNat Z5).Trace,(v2.getD v9.toNat Z5).Parent⟩:Zr) v6).getD Z5).Clock,(v2.getD v9.toNat Z5).End,((mget Z1f (⟨(v2.getD v9.toNat Z5).Trace,(v2.getD v9.toNat Z5).Parent⟩:Zr) v6).getD Z5).End,0⟩:Z1)]) rfl Ziu rfl rfl ⟨rfl,trivial⟩ rfl Z16 rfl rfl rfl rfl) ?_
        have⟨hg50,h⟩:=Zg h
        refine oc (Z1g (m:=9) rfl rfl Ziu rfl u35 rfl rfl rfl rfl (oneRead rfl) Z16 hg50) ?_
        exact M2 h (k:=fun h=>wkx (J33 _ h))
       refine AWp.skip ?_
       exact wkx (J33 _ h)
      intro J49
      refine Ms h (fun h=>?_) (fun h=>?_)
      ·refine Ms h (fun h=>?_) (fun h=>?_)
       ·exact M2 h (k:=fun h=>wkx (J49 _ h))
       exact M2 h (k:=fun h=>wkx (J49 _ h))
      exact M2 h (k:=fun h=>wkx (J49 _ h))
     refine AWp.skip ?_
     exact wkx (J33 _ h)
    intro J31
    refine Ms h (fun h=>?_) (fun h=>?_)
    ·refine Ms h (fun h=>?_) (fun h=>?_)
     ·exact M2 h (k:=fun h=>wkx (J31 _ h))
     exact M2 h (k:=fun h=>wkx (J31 _ h))
    exact M2 h (k:=fun h=>wkx (J31 _ h))
   refine AWp.exit<|Zz ?_
   exact wkx (J11 _ h)
 intro N k5 v h IH5 J5
 obtain⟨v3,v4⟩:=v
 try dsimp only at h IH5 J5 ⊢
 cases k5 with
 | zero=>cases h
 | succ k5 =>
  rw [Zh7] at h
  refine Mc h (fun h=>?_) (fun h=>?_)
  ·refine AWp.skip<|At.next<|AWp.seq<|AWp.block ?_
   refine G1 h fun h=>?_
   refine oc (Z2a rfl z94 rfl rfl rfl) ?_
   refine oc (Zm (ds:=_)) ?_
   refine G1 h fun h=>?_
   have⟨v54,hv54,h⟩:=Zd h
   refine oD (Z15 Tryz.call67 (Zhb (h:=hv54))) ?_
   refine G1 h fun h=>?_
   refine oD (Z1v (a:=v54) (b:=(v2.getD v3.toNat Z5)) (kv:=(Z1x v54)) (vv:=(Zb (v2.getD v3.toNat Z5))) mt250 rfl rfl rfl rfl rfl rfl) ?_
   refine AOpsE.nil (by kernel_rfl) I ?_
   refine Z17<|At.next ?_
   exact M2 h (k:=fun h=>wkx (IH5 _ (_,_) Z1p h))
  refine AWp.exit<|Zz ?_
  exact wkx (J5 _ h)
def Zgc (_K:Nat) (v4:(List Z1)):Option ((List Z1)) :=
 some v4
def Zj4 (K:Nat) (a0:(List Zu)) (c6:(List Z1)→Option ((List Z1))):Nat→Int→(List Z1)→Option ((List Z1))
 | 0,_,_=>none
 | k3+1,v1,v2 =>
 if (decide (v1<(a0.length:Int)))=true then
 if (decide (v1<8))=true then
 if (0:Int)≤v1∧v1<a0.length then
 if (0:Int)≤v1∧v1<a0.length then
 if (0:Int)≤v1∧v1<a0.length then
 if v2.length+[(⟨4,Zs,Zs,(IntKind.i64.wrap (1+(IntKind.i64.wrap ((a0.getD v1.toNat Z1n).From.tmod 6)))),(IntKind.i64.wrap (1+(IntKind.i64.wrap ((a0.getD v1.toNat Z1n).To.tmod 6)))),100,(IntKind.i64.wrap (100+(IntKind.i64.wrap (a0.getD v1.toNat Z1n).By))),0⟩:Z1)].length≤1073741824 then
 (Zj4 K a0 c6 k3) (IntKind.i64.wrap (v1+1)) (v2++[(⟨4,Zs,Zs,(IntKind.i64.wrap (1+(IntKind.i64.wrap ((a0.getD v1.toNat Z1n).From.tmod 6)))),(IntKind.i64.wrap (1+(IntKind.i64.wrap ((a0.getD v1.toNat Z1n).To.tmod 6)))),100,(IntKind.i64.wrap (100+(IntKind.i64.wrap (a0.getD v1.toNat Z1n).By))),0⟩:Z1)])
 else none
 else none
 else none
 else none
 else
 c6 v2
 else
 c6 v2
def F12 (K:Nat) (a0:(List Zu)):Option ((List Z1)) :=
 Zj4 K a0 (Zgc K) K 0 []
theorem F12_ok (K:Nat) (a0:(List Zu)) (r:(List Z1)) (h:F12 K a0=some r):ACall P 12 ⟨[(.sl 3 (a0.map Z2c) false)],[],(.sl 10 (r.map Z3) false),[],[]⟩:=by
 refine ac Tryz.func12 Tryz.results12 Tryz.ntmps12 fun w0 F0 p0 S0 β0 Q hret=>?_
 dsimp only [argT]
 unfold F12 at h
 refine AWp.seq<|AWp.region ?_
 refine oc (Zh (v:=(.sl 10 [] false)) rfl rfl) ?_
 refine G1 h fun h=>?_
 refine oc (Zh (v:=(.sl 10 [] true)) rfl rfl) ?_
 refine G1 h fun h=>?_
 refine AWp.ghost (fun a w h=>gk ⟨[(0,_),(3,_),(4,_)],[(3,_)]⟩ (Z38 (k:=3) (m:=3) (sz:=10) (gk ⟨[(3,_),(0,_),(4,_)],[]⟩ h))) ?_
 refine lb (V:=Int×(List Z1)) (X:=(List Z1)) (v:=(_,_)) (fun k v=>Zj4 K a0 (Zgc K) k v.1 v.2=some r) (fun v=>Zgc K v=some r) [(0,_),(3,_)] [] [(3,_)] [] (fun v t=>(4,(.int .i64 v.1))::t) (fun v s=>(3,(.vec 10 (List.map Z3 v.2)))::s) (fun v t=>t) (fun v s=>(3,(.vec 10 (List.map Z3 v)))::s) h ?_ ?_
 ·intro v h
  revert h
  revert v
  intro v4 h
  try dsimp only at h ⊢
  unfold Zgc at h
  refine G1 h fun h=>?_
  refine AWp.ret<|At.ghost (fun a w h=>gk ⟨[(2,_)],[]⟩ (Z1j (m:=3) (sz:=10) (gk ⟨[(2,_)],[(3,_)]⟩ h))) ?_
  exact RT
 intro N k3 v h IH3 J3
 obtain⟨v1,v2⟩:=v
 try dsimp only at h IH3 J3 ⊢
 cases k3 with
 | zero=>cases h
 | succ k3 =>
  rw [Zj4] at h
  refine Ms h (fun h=>?_) (fun h=>?_)
  ·refine Mc h (fun h=>?_) (fun h=>?_)
   ·refine AWp.skip<|At.next<|AWp.seq<|AWp.block ?_
    refine G1 h fun h=>?_
    refine oD (Z2s (b:=6) (c:=((a0.getD v1.toNat Z1n).From.tmod 6)) rfl rfl rfl rfl (by decide)) ?_
    refine oD (Z2l rfl us5 u3 rfl) ?_
    refine G1 h fun h=>?_
    refine oD (Z2s (b:=6) (c:=((a0.getD v1.toNat Z1n).To.tmod 6)) rfl rfl rfl rfl (by decide)) ?_
    refine oD (Z2l rfl us5 u3 rfl) ?_
    refine G1 h fun h=>?_
    refine oD (Z2l rfl us23 u3 rfl) ?_
    refine G1 h fun h=>?_
    refine oD (Z1i (vs:=[(0,(.int .i64 4)),(3,(.int .i64 (IntKind.i64.wrap (1+(IntKind.i64.wrap ((a0.getD v1.toNat Z1n).From.tmod 6)))))),(4,(.int .i64 (IntKind.i64.wrap (1+(IntKind.i64.wrap ((a0.getD v1.toNat Z1n).To.tmod 6)))))),(5,(.int .i64 100)),(6,(.int .i64 (IntKind.i64.wrap (100+(IntKind.i64.wrap (a0.getD v1.toNat Z1n).By)))))]) rfl Zpw ⟨rfl,rfl,rfl,rfl,rfl,rfl,rfl,rfl,rfl,rfl,trivial⟩ rfl) ?_
    refine oD (Zj (vs:=[_]) (enc:=Z3) (l:=[(⟨4,Zs,Zs,(IntKind.i64.wrap (1+(IntKind.i64.wrap ((a0.getD v1.toNat Z1n).From.tmod 6)))),(IntKind.i64.wrap (1+(IntKind.i64.wrap ((a0.getD v1.toNat Z1n).To.tmod 6)))),100,(IntKind.i64.wrap (100+(IntKind.i64.wrap (a0.getD v1.toNat Z1n).By))),0⟩:Z1)]) rfl Ziu rfl rfl ⟨rfl,trivial⟩ rfl Z16 rfl rfl rfl rfl) ?_
    have⟨hg11,h⟩:=Zg h
    refine oD (Z1g (m:=3) rfl rfl Ziu rfl u35 rfl rfl rfl rfl (oneRead rfl) Z16 hg11) ?_
    refine G2 h fun h=>?_
    refine Z17<|At.next ?_
    exact M2 h (k:=fun h=>wkx (IH3 _ (_,_) Z1p h))
   refine AWp.exit<|Zz ?_
   exact wkx (J3 _ h)
  refine G1 h fun h=>?_
  refine AWp.cond (b:=false) I (fun hc=>?_) (fun hc=>?_)
  ·cases hc
  refine AWp.exit<|Zz ?_
  exact wkx (J3 _ h)
def F10 (K:Nat) (a0:Zc) (a1:(List Zu)):Option ((List Z1)) :=
 (F24 K a0).bind fun v2 =>
 (F25 K a0).bind fun v4 =>
 (F59 K v2 v4).bind fun v6 =>
 (F12 K a1).bind fun v8 =>
 if v6.length+v8.length≤1073741824 then
 (F47 K (v6++v8)).bind fun v11 =>
 some v11
 else none
theorem F10_ok (K:Nat) (a0:Zc) (a1:(List Zu)) (r:(List Z1)) (h:F10 K a0 a1=some r):ACall P 10 ⟨[(Z1r a0),(.sl 3 (a1.map Z2c) false)],[],(.sl 10 (r.map Z3) false),[],[]⟩:=by
 refine ac Tryz.func10 Tryz.results10 Tryz.ntmps10 fun w0 F0 p0 S0 β0 Q hret=>?_
 dsimp only [argT]
 unfold F10 at h
 refine G1 h fun h=>?_
 refine oc (Zh (v:=(.sl 10 [] false)) rfl rfl) ?_
 refine G1 h fun h=>?_
 have⟨v2,hv2,h⟩:=Zd h
 refine oD (Z15 Tryz.call24 (F24_ok (h:=hv2))) ?_
 refine G1 h fun h=>?_
 have⟨v4,hv4,h⟩:=Zd h
 refine oD (Z15 Tryz.call25 (F25_ok (h:=hv4))) ?_
 have⟨v6,hv6,h⟩:=Zd h
 refine oD (Z30 (sz:=10) (es:=(List.map Z3 v6)) (ar:=[_,_]) (caps:=[]) Tryz.call59 ((F59_ok (h:=hv6)).sw 4 9) rfl rfl ⟨rfl,rfl,trivial⟩ rfl) ?_
 refine G1 h fun h=>?_
 have⟨v8,hv8,h⟩:=Zd h
 refine oD (Z15 Tryz.call12 (F12_ok (h:=hv8))) ?_
 have⟨hg9,h⟩:=Zg h
 refine oD (Z1g (m:=9) rfl rfl Ziu rfl u35 rfl rfl rfl ⟨rfl,rfl,rfl⟩ noReads Z16 hg9) ?_
 have⟨v11,hv11,h⟩:=Zd h
 refine oD (Z9w (enc:=Z3) (l:=v11) (rd:=[(9,(.vec 10 (List.map Z3 (v6++v8))))]) (ar:=[_]) (caps:=[]) Tryz.call47 ((F47_ok (h:=hv11)).sw 2 13) rfl rfl ⟨rfl,trivial⟩ (Z2f ⟨rfl,trivial⟩) rfl rfl (fun _=>rfl)) ?_
 refine G1 h fun h=>?_
 refine AWp.ret<|At.ghost (fun a w h=>gk ⟨[(4,_)],[]⟩ (Z1j (m:=13) (sz:=10) (gk ⟨[(4,_)],[(13,_)]⟩ h))) ?_
 exact RT
def Zdp (_K:Nat) (v1:(List Z1)):Option ((List Z1)) :=
 some v1
def F135 (K:Nat) (a1:Int):Option ((List Z1)) :=
 if (decide (a1<0))=true then
 none
 else
 if (decide ((IntKind.i64.wrap (a1 - (IntKind.i64.wrap (0 - (([]:List Z1).length:Int))))) > 0))=true then
 if 0<(IntKind.i64.wrap (a1 - (IntKind.i64.wrap (0 - (([]:List Z1).length:Int)))))∧(IntKind.i64.wrap (a1 - (IntKind.i64.wrap (0 - (([]:List Z1).length:Int)))))≤1073741824 then
 if (0:Int)≤0∧0≤(([]:List Z1).length:Int)∧(([]:List Z1).length:Int)≤((List.replicate (IntKind.i64.wrap (a1 - (IntKind.i64.wrap (0 - (([]:List Z1).length:Int))))).toNat (Ze:Z1)).length:Nat) then
 if (0+(0:Int).toNat)+((([]:List Z1).length:Int).toNat - (0:Int).toNat)≤(List.replicate (IntKind.i64.wrap (a1 - (IntKind.i64.wrap (0 - (([]:List Z1).length:Int))))).toNat (Ze:Z1)).length then
 if (0+(0:Int).toNat)+((([]:List Z1).length:Int).toNat - (0:Int).toNat)≤(List.replicate (IntKind.i64.wrap (a1 - (IntKind.i64.wrap (0 - (([]:List Z1).length:Int))))).toNat (Ze:Z1)).length then
 Zdp K (((List.replicate (IntKind.i64.wrap (a1 - (IntKind.i64.wrap (0 - (([]:List Z1).length:Int))))).toNat (Ze:Z1)).drop (0+(0:Int).toNat)).take ((([]:List Z1).length:Int).toNat - (0:Int).toNat))
 else none
 else none
 else none
 else none
 else
 Zdp K []
theorem F135_ok (K:Nat) (a1:Int) (r:(List Z1)) (h:F135 K a1=some r):ACall P 135 ⟨[(.sl 10 [] true),(.int .i64 a1)],[],.vs 4,[(4,.vec 10 (List.map Z3 r))],[4]⟩:=by
 refine Zcm Tryz.func135 Tryz.results135 rfl Tryz.ntmps135 rfl rfl rfl ?_
 intro E Q hP hN hro hret
 obtain⟨P',nt',w0,F0,p0,S0,β0,ro0⟩:=E
 simp only at hP hN
 subst hP hN
 dsimp only [argT]
 unfold F135 at h
 refine AWp.seq<|AWp.region<|AOps.cons I (Zh (v:=(.sl 10 [] false)) I I) I<|AOps.nil<|At.next<|AWp.seq<|AWp.seq<|AWp.region<|AOps.cons I (Z1h I I) I<|AOps.cons I (Z8o (b:=0) (c:=(decide (a1<0))) I I I I) I<|AOps.nil<|At.next ?_
 have hif:=Z9p h
 refine AWp.cond I (fun hc=>?_) (fun hc=>?_)
 ·have h:=hif.1 hc
  cases h
 have h:=hif.2 hc
 refine AWp.skip<|At.next<|AWp.seq<|AWp.seq<|AWp.region<|AOps.cons I (Z1h I I) I<|AOps.cons I (Z1h (v:=(.sl 10 [] true)) I I) I<|AOps.cons I (Zes I u35 I) I<|AOps.cons I (Z1h (v:=(.sl 10 [] true)) I I) I<|AOps.cons I (Z8k (l:=([]:List Z1)) (enc:=Z3) I s35 I) I<|AOps.cons I (Z73 (k:=.i64) (a:=0) (b:=(([]:List Z1).length:Int)) (c:=(IntKind.i64.wrap (0 - (([]:List Z1).length:Int)))) I I I I) I<|AOps.cons I (Z73 (k:=.i64) (b:=(IntKind.i64.wrap (0 - (([]:List Z1).length:Int)))) (c:=(IntKind.i64.wrap (a1 - (IntKind.i64.wrap (0 - (([]:List Z1).length:Int)))))) I I I I) I<|AOps.cons I (Zh I I) I<|AOps.nil<|At.next<|AWp.seq<|AWp.region<|AOps.cons I (Z1h I I) I<|AOps.cons I (Z8o (b:=0) (c:=(decide ((IntKind.i64.wrap (a1 - (IntKind.i64.wrap (0 - (([]:List Z1).length:Int))))) > 0))) I I I I) I<|AOps.nil<|At.next ?_
 refine Zfi (V:=(List Z1)) (lp:=fun v=>Zdp K v=some r) (sh:=fun v=>⟨[(0,(.vs 0))],[(0,(.vec 10 (List.map Z3 v)))]⟩) ?_ ?_
 ·intro v h
  revert h
  revert v
  intro v1 h
  try dsimp only at h ⊢
  unfold Zdp at h
  refine At.next<|AWp.seq<|AWp.region<|AOps.cons I (Z1h I I) I<|AOps.cons I (Zh I I) I<|AOps.nil<|At.next<|AWp.ret<|At.ghost (st':=⟨[(4,(.vs 4))],[(4,(.vec 10 (List.map Z3 v1)))]⟩) (fun a w h=>(Z28 _ (Z8c (a:=0) (b:=4) I I a w (Z28 ⟨[(4,(.vs 0))],[(0,(.vec 10 (List.map Z3 v1)))]⟩ h ⟨I,J0⟩ ⟨I,J0⟩)) ⟨I,J0⟩ ⟨I,J0⟩)) ?_
  have h:=Option.some.inj h
  subst h
  refine (hret _ ?_).1
  exact⟨[(.vs 4)],⟨I,J0⟩,I,⟨I,J0⟩⟩
 intro J2
 have hif:=Z9p h
 refine AWp.cond I (fun hc=>?_) (fun hc=>?_)
 ·have h:=hif.1 hc
  refine AWp.region<|AOps.cons I (Z1h (v:=(.sl 10 [] true)) I I) I<|AOps.cons I (Z1h (v:=(.sl 10 [] true)) I I) I<|AOps.cons I (Zes I u35 I) I<|AOps.cons I (Zcf (kh:=.i64) I s35 I I) I<|AOps.cons I (Z1h I I) I ?_
  have⟨hg3,h⟩:=Zg h
  refine AOps.cons I (Z7d (ky:=.i64) (kn:=.i64) (c:=(IntKind.i64.wrap (a1 - (IntKind.i64.wrap (0 - (([]:List Z1).length:Int)))))) (n:=(IntKind.i64.wrap (a1 - (IntKind.i64.wrap (0 - (([]:List Z1).length:Int))))).toNat) I Ziu I u3 ze123 Z16 I I I hg3 I) I<|AOps.cons I (Z1h (v:=(.sl 10 [] true)) I I) I<|AOps.cons I (Z8k (l:=([]:List Z1)) (enc:=Z3) I s35 I) I ?_
  have⟨hg4,h⟩:=Zg h
  have⟨hg5,h⟩:=Zg h
  refine AOps.cons I (Z3i (v:=(.vs 22)) (n:=22) (off:=0) (len:=(List.replicate (IntKind.i64.wrap (a1 - (IntKind.i64.wrap (0 - (([]:List Z1).length:Int))))).toNat (Ze:Z1)).length) (l:=(List.replicate (IntKind.i64.wrap (a1 - (IntKind.i64.wrap (0 - (([]:List Z1).length:Int))))).toNat (Ze:Z1))) (enc:=Z3) (kh:=.i64) (hi:=(([]:List Z1).length:Int)) I s35 I I (Z31 _ _ _) I hg4 I) I<|AOps.cons I (Zh I I) I<|AOps.nil ?_
  have⟨hg6,h⟩:=Zg h
  refine At.ghost (st':=⟨[(0,(.vs 22))],[(22,(.vec 10 (List.map Z3 (((List.replicate (IntKind.i64.wrap (a1 - (IntKind.i64.wrap (0 - (([]:List Z1).length:Int))))).toNat (Ze:Z1)).drop (0+(0:Int).toNat)).take ((([]:List Z1).length:Int).toNat - (0:Int).toNat)))))]⟩) (fun a w h=>(Z28 _ (Z4c (k:=0) (m:=22) (sz:=10) (off:=(0+(0:Int).toNat)) (len:=((([]:List Z1).length:Int).toNat - (0:Int).toNat)) (enc:=Z3) (l:=(List.replicate (IntKind.i64.wrap (a1 - (IntKind.i64.wrap (0 - (([]:List Z1).length:Int))))).toNat (Ze:Z1))) I hg6 a w (Z28 ⟨[(0,(.vsub 22 (0+(0:Int).toNat) ((([]:List Z1).length:Int).toNat - (0:Int).toNat) false))],[(22,(.vec 10 (List.map Z3 (List.replicate (IntKind.i64.wrap (a1 - (IntKind.i64.wrap (0 - (([]:List Z1).length:Int))))).toNat (Ze:Z1)))))]⟩ h ⟨I,J0⟩ ⟨I,J0⟩)) ⟨I,J0⟩ ⟨I,J0⟩))<|At.ghost (st':=⟨[(0,(.vs 0))],[(0,(.vec 10 (List.map Z3 (((List.replicate (IntKind.i64.wrap (a1 - (IntKind.i64.wrap (0 - (([]:List Z1).length:Int))))).toNat (Ze:Z1)).drop (0+(0:Int).toNat)).take ((([]:List Z1).length:Int).toNat - (0:Int).toNat)))))]⟩) (fun a w h=>(Z28 _ (Z8c (a:=22) (b:=0) I I a w (Z28 ⟨[(0,(.vs 22))],[(22,(.vec 10 (List.map Z3 (((List.replicate (IntKind.i64.wrap (a1 - (IntKind.i64.wrap (0 - (([]:List Z1).length:Int))))).toNat (Ze:Z1)).drop (0+(0:Int).toNat)).take ((([]:List Z1).length:Int).toNat - (0:Int).toNat)))))]⟩ h ⟨I,J0⟩ ⟨I,J0⟩)) ⟨I,J0⟩ ⟨I,J0⟩)) ?_
  exact Z5r (J2 _ h) ⟨I,J0⟩ ⟨I,J0⟩
 have h:=hif.2 hc
 refine AWp.skip<|At.ghost (st':=⟨[(0,(.vs 0))],[(0,(.vec 10 (List.map Z3 ([]:List Z1))))]⟩) (fun a w h=>(Z28 _ (Zcu (k:=0) (m:=0) (sz:=10) I I a w (Z28 ⟨[(0,(.sl 10 [] true))],[]⟩ h ⟨I,J0⟩ J0)) ⟨I,J0⟩ ⟨I,J0⟩)) ?_
 exact Z5r (J2 [] h) ⟨I,J0⟩ ⟨I,J0⟩
def Zh8 (_K:Nat) (v12:(List Z1)):Option ((List Z1)) :=
 some v12
def Zbz (K:Nat) (a0:(List (List Z1))) (c14:(List Z1)→Option ((List Z1))):Nat→Int→(List Z1)→Option ((List Z1))
 | 0,_,_=>none
 | k11+1,v9,v10 =>
 if (decide (v9<(a0.length:Int)))=true then
 if (0:Int)≤v9∧v9<a0.length then
 if v10.length+(a0.getD v9.toNat []).length≤1073741824 then
 (Zbz K a0 c14 k11) (IntKind.i64.wrap (v9+1)) (v10++(a0.getD v9.toNat []))
 else none
 else none
 else
 c14 v10
def Zmx (K:Nat) (a0:(List (List Z1))) (v4:Int):Option ((List Z1)) :=
 (F135 K v4).bind fun v8 =>
 Zbz K a0 (Zh8 K) K 0 v8
def Zh9 (K:Nat) (a0:(List (List Z1))) (c6:Int→Option ((List Z1))):Nat→Int→Int→Option ((List Z1))
 | 0,_,_=>none
 | k3+1,v1,v2 =>
 if (decide (v2<(a0.length:Int)))=true then
 if (0:Int)≤v2∧v2<a0.length then
 if (decide ((IntKind.i64.wrap (v1+((a0.getD v2.toNat []).length:Int)))<0))=true then
 none
 else
 (Zh9 K a0 c6 k3) (IntKind.i64.wrap (v1+((a0.getD v2.toNat []).length:Int))) (IntKind.i64.wrap (v2+1))
 else none
 else
 c6 v1
def F60 (K:Nat) (a0:(List (List Z1))):Option ((List Z1)) :=
 Zh9 K a0 (Zmx K a0) K 0 0
theorem F60_ok (K:Nat) (a0:(List (List Z1))) (r:(List Z1)) (h:F60 K a0=some r):ACall P 60 ⟨[(.sl 1 (a0.map Z47) false)],[],.vs 2,[(2,.vec 10 (List.map Z3 r))],[2]⟩:=by
 refine ac Tryz.func60 Tryz.results60 Tryz.ntmps60 fun w0 F0 p0 S0 β0 Q hret=>?_
 dsimp only [argT]
 unfold F60 at h
 refine AWp.seq<|AWp.region ?_
 refine oc (Zh (v:=(.sl 10 [] false)) rfl rfl) ?_
 refine G1 h fun h=>?_
 refine lb (V:=Int×Int) (X:=Int) (v:=(_,_)) (fun k v=>Zh9 K a0 (Zmx K a0) k v.1 v.2=some r) (fun v=>Zmx K a0 v=some r) [(0,_),(9,_),(10,_)] [] [(0,_)] [] (fun v t=>(3,(.int .i64 v.1))::(11,(.int .i64 v.2))::t) (fun v s=>s) (fun v t=>(3,(.int .i64 v))::t) (fun v s=>s) h ?_ ?_
 ·intro v h
  revert h
  revert v
  intro v4 h
  try dsimp only at h ⊢
  unfold Zmx at h
  refine G1 h fun h=>?_
  have⟨v8,hv8,h⟩:=Zd h
  refine oc (Z30 (sz:=10) (es:=(List.map Z3 v8)) (ar:=[(.sl 10 [] true),(.int .i64 v4)]) (caps:=[]) Tryz.call135 ((F135_ok K v4 v8 hv8).sw 4 24) rfl rfl ⟨rfl,rfl,trivial⟩ rfl) ?_
  refine G1 h fun h=>?_
  refine AWp.ghost (fun a w h=>gk ⟨[(6,_),(25,_),(26,_),(27,_)],[(6,_)]⟩ (Z3x (a:=24) (b:=6) (gk ⟨[(6,_),(25,_),(26,_),(27,_)],[(24,_)]⟩ h))) ?_
  refine lb (V:=Int×(List Z1)) (X:=(List Z1)) (v:=(_,_)) (fun k v=>Zbz K a0 (Zh8 K) k v.1 v.2=some r) (fun v=>Zh8 K v=some r) [(6,_),(25,_),(26,_)] [] [(6,_)] [] (fun v t=>(27,(.int .i64 v.1))::t) (fun v s=>(6,(.vec 10 (List.map Z3 v.2)))::s) (fun v t=>t) (fun v s=>(6,(.vec 10 (List.map Z3 v)))::s) h ?_ ?_
  ·intro v h
   revert h
   revert v
   intro v12 h
   try dsimp only at h ⊢
   unfold Zh8 at h
   refine G1 h fun h=>?_
   refine AWp.ret<|At.ghost (fun a w h=>gk ⟨[(2,_)],[(2,_)]⟩ (Z3x (a:=6) (b:=2) (gk ⟨[(2,_)],[(6,_)]⟩ h))) ?_
   exact RT
  intro N k11 v h IH11 J11
  obtain⟨v9,v10⟩:=v
  try dsimp only at h IH11 J11 ⊢
  cases k11 with
  | zero=>cases h
  | succ k11 =>
   rw [Zbz] at h
   refine Mc h (fun h=>?_) (fun h=>?_)
   ·refine AWp.skip<|At.next<|AWp.seq<|AWp.block ?_
    refine G1 h fun h=>?_
    have⟨hg17,h⟩:=Zg h
    refine oc (Z1g (m:=6) rfl rfl Ziu rfl u35 rfl rfl rfl ⟨rfl,rfl,rfl⟩ noReads Z16 hg17) ?_
    refine G2 h fun h=>?_
    refine Z17<|At.next ?_
    exact M2 h (k:=fun h=>wkx (IH11 _ (_,_) Z1p h))
   refine AWp.exit<|Zz ?_
   exact wkx (J11 _ h)
 intro N k3 v h IH3 J3
 obtain⟨v1,v2⟩:=v
 try dsimp only at h IH3 J3 ⊢
 cases k3 with
 | zero=>cases h
 | succ k3 =>
  rw [Zh9] at h
  refine Mc h (fun h=>?_) (fun h=>?_)
  ·refine AWp.skip<|At.next<|AWp.seq<|AWp.block ?_
   refine Mc h (fun h=>?_) (fun h=>?_)
   ·cases h
   refine AWp.skip<|Z17<|At.next ?_
   exact M2 h (k:=fun h=>wkx (IH3 _ (_,_) Z1p h))
  refine AWp.exit<|Zz ?_
  exact wkx (J3 _ h)
noncomputable def F11 (K:Nat) (a0:(List Z1)) (a1:(List Z1)) (_a2:(List Int)) (_a3:(List Z1)) (_a4:(List Z4)) (_a5:(List (List Int))) (_a6:(List (Int×Int))) (_a7:(List Bool)):Option ((List Z1)×(List Int)×(List Z1)×(List Z4)×(List (List Int))×(List (Int×Int))×(List Bool)) :=
 (F60 K [a1,a0]).bind fun v9 =>
 (F9 K v9).bind fun v11 =>
 some (v11.1,v11.2.1,v11.2.2.1,v11.2.2.2.1,v11.2.2.2.2.1,v11.2.2.2.2.2.1,v11.2.2.2.2.2.2)
theorem F11_ok (K:Nat) (a0:(List Z1)) (a1:(List Z1)) (a2:(List Int)) (a3:(List Z1)) (a4:(List Z4)) (a5:(List (List Int))) (a6:(List (Int×Int))) (a7:(List Bool)) (r:(List Z1)×(List Int)×(List Z1)×(List Z4)×(List (List Int))×(List (Int×Int))×(List Bool)) (h:F11 K a0 a1 a2 a3 a4 a5 a6 a7=some r):ACall P 11 ⟨[(.ptr 2000 0),(.sl 10 (a0.map Z3) false)],[(2000,(.box [(.sl 10 (a1.map Z3) false),(.sl 1 (a2.map Z7) false),(.sl 10 (a3.map Z3) false),(.sl 3 (a4.map Z9) false),(.sl 1 (a5.map Z19) false),(.map 2001),(.vs 17)])),(2001,(.map (Zn Z7 Z7 a6))),(17,(.vec 1 (List.map Zt a7)))],(.tup [(.ptr 16 0),(.int .i64 0)]),[(2000,(.box [(.sl 10 (a1.map Z3) false),(.sl 1 (a2.map Z7) false),(.sl 10 (a3.map Z3) false),(.sl 3 (a4.map Z9) false),(.sl 1 (a5.map Z19) false),(.map 2001),(.vs 17)])),(2001,(.map (Zn Z7 Z7 a6))),(17,(.vec 1 (List.map Zt a7))),(12,(.vec 1 (List.map Zt r.2.2.2.2.2.2))),(15,(.map (Zn Z7 Z7 r.2.2.2.2.2.1))),(16,(.box [(.sl 10 (r.1.map Z3) false),(.sl 1 (r.2.1.map Z7) false),(.sl 10 (r.2.2.1.map Z3) false),(.sl 3 (r.2.2.2.1.map Z9) false),(.sl 1 (r.2.2.2.2.1.map Z19) false),(.map 15),(.vs 12)]))],[17,12,15,16]⟩:=by
 refine ac Tryz.func11 Tryz.results11 Tryz.ntmps11 fun w0 F0 p0 S0 β0 Q hret=>?_
 dsimp only [argT]
 unfold F11 at h
 refine G1 h fun h=>?_
 refine oc (Z74 (c:=false) rfl u31 rfl rfl rfl) ?_
 refine AOps.nil<|At.next ?_
 refine AWp.cond (b:=false) I (fun hc=>?_) (fun hc=>?_)
 ·cases hc
 refine G1 h fun h=>?_
 refine oc (Zj (vs:=[_,_]) (enc:=Z47) (l:=[a1,a0]) rfl el251 rfl rfl ⟨rfl,rfl,trivial⟩ rfl Zcr rfl rfl rfl rfl) ?_
 have⟨v9,hv9,h⟩:=Zd h
 refine oc (Z9w (enc:=Z3) (l:=v9) (rd:=[(13,(.vec 1 (List.map Z47 [a1,a0])))]) (ar:=[_]) (caps:=[]) Tryz.call60 ((F60_ok (h:=hv9)).sw 2 14) rfl rfl ⟨rfl,trivial⟩ (Z2f ⟨rfl,trivial⟩) rfl rfl (fun _=>rfl)) ?_
 refine AOps.ghost (fun a w h=>gk ⟨[(4,_),(5,_),(14,_)],[(17,_),(2000,_),(2001,_)]⟩ (Z1j (m:=14) (sz:=10) (gk ⟨[(4,_),(5,_),(14,_)],[(14,_),(17,_),(2000,_),(2001,_)]⟩ h))) ?_
 have⟨v11,hv11,h⟩:=Zd h
 refine oc (Z1d (d:=some 15) (c:=⟨_,[],(.tup [(.ptr 16 0),(.int .i64 0)]),[(15,(.map (Zn Z7 Z7 v11.2.2.2.2.2.1))),(16,(.box [(.sl 10 (v11.1.map Z3) false),(.sl 1 (v11.2.1.map Z7) false),(.sl 10 (v11.2.2.1.map Z3) false),(.sl 3 (v11.2.2.2.1.map Z9) false),(.sl 1 (v11.2.2.2.2.1.map Z19) false),(.map 15),(.vs 12)])),(12,(.vec 1 (List.map Zt v11.2.2.2.2.2.2)))],[15,16,12]⟩) (ar:=[_]) (caps:=[]) (news:=[15,16,12]) (forg:=[]) Tryz.call9 ((((F9_ok (h:=hv11)).sw 35 15).sw 37 16).sw 140 12) rfl rfl ⟨rfl,trivial⟩ rfl trivial rfl) ?_
 exact GR
def F61 (_K:Nat) (a0:(List Int)):Option ((List Int)) :=
 if ([]:List Int).length+a0.length≤1073741824 then
 some a0
 else none
theorem F61_ok (K:Nat) (a0:(List Int)) (r:(List Int)) (h:F61 K a0=some r):ACall P 61 ⟨[(.sl 1 (a0.map Z7) false)],[],.vs 2,[(2,.vec 1 (List.map Z7 r))],[2]⟩:=by
 refine ac Tryz.func61 Tryz.results61 Tryz.ntmps61 fun w0 F0 p0 S0 β0 Q hret=>?_
 dsimp only [argT]
 unfold F61 at h
 refine AWp.seq<|AWp.region ?_
 refine oc (Zh (v:=(.sl 1 [] true)) rfl rfl) ?_
 refine G1 h fun h=>?_
 refine Z5h (enc:=Z7) (es:=a0) (full:=false) I u38 I (fun x1 hbx1=>?_)
 refine AOps.nil<|At.next ?_
 refine AWp.cond I (fun hc=>?_) (fun hc=>?_)
 ·have hz:=hbx1 hc
  have h:(some [])=some r:=by simp only [hz] at h ⊢;simpa using h
  refine AWp.seq<|AWp.region ?_
  refine oc (Zh (v:=(.sl 1 [] true)) rfl rfl) ?_
  refine AOps.nil<|At.next<|AWp.ret<|Z27<|At.ghost (fun a w h=>gk ⟨[(2,_)],[(2,_)]⟩ (Z38 (k:=2) (m:=2) (sz:=1) (gk ⟨[(2,_)],[]⟩ h))) ?_
  exact RT
 refine G1 h fun h=>?_
 refine oc (Zj (vs:=[]) (enc:=Z7) (l:=([]:List Int)) rfl Z65 rfl rfl trivial rfl Z1u rfl rfl rfl rfl) ?_
 refine G1 h fun h=>?_
 have⟨hg2,h⟩:=Zg h
 refine oc (Z1g (m:=5) rfl rfl Z65 rfl u38 rfl rfl rfl ⟨rfl,rfl,rfl⟩ noReads Z1u hg2) ?_
 refine G1 h fun h=>?_
 refine AWp.ret<|At.ghost (fun a w h=>gk ⟨[(2,_)],[(2,_)]⟩ (Z3x (a:=5) (b:=2) (gk ⟨[(2,_)],[(5,_)]⟩ h))) ?_
 exact RT
def F13 (K:Nat) (_a0:(List Z1)) (a1:(List Int)) (_a2:(List Z1)) (_a3:(List Z4)) (_a4:(List (List Int))) (_a5:(List (Int×Int))) (_a6:(List Bool)):Option ((List Int)) :=
 (F61 K a1).bind fun v3 =>
 some v3
theorem F13_ok (K:Nat) (a0:(List Z1)) (a1:(List Int)) (a2:(List Z1)) (a3:(List Z4)) (a4:(List (List Int))) (a5:(List (Int×Int))) (a6:(List Bool)) (r:(List Int)) (h:F13 K a0 a1 a2 a3 a4 a5 a6=some r):ACall P 13 ⟨[(.ptr 2000 0)],[(2000,(.box [(.sl 10 (a0.map Z3) false),(.sl 1 (a1.map Z7) false),(.sl 10 (a2.map Z3) false),(.sl 3 (a3.map Z9) false),(.sl 1 (a4.map Z19) false),(.map 2001),(.vs 8)])),(2001,(.map (Zn Z7 Z7 a5))),(8,(.vec 1 (List.map Zt a6)))],(.sl 1 (r.map Z7) false),[(2000,(.box [(.sl 10 (a0.map Z3) false),(.sl 1 (a1.map Z7) false),(.sl 10 (a2.map Z3) false),(.sl 3 (a3.map Z9) false),(.sl 1 (a4.map Z19) false),(.map 2001),(.vs 8)])),(2001,(.map (Zn Z7 Z7 a5))),(8,(.vec 1 (List.map Zt a6)))],[8]⟩:=by
 refine ac Tryz.func13 Tryz.results13 Tryz.ntmps13 fun w0 F0 p0 S0 β0 Q hret=>?_
 dsimp only [argT]
 unfold F13 at h
 refine AWp.seq<|AWp.region ?_
 refine oc (Zh (v:=(.sl 1 [] false)) rfl rfl) ?_
 refine G1 h fun h=>?_
 refine oc (Z74 (c:=false) rfl u31 rfl rfl rfl) ?_
 refine AOps.nil<|At.next ?_
 refine AWp.cond (b:=false) I (fun hc=>?_) (fun hc=>?_)
 ·cases hc
 refine G1 h fun h=>?_
 have⟨v3,hv3,h⟩:=Zd h
 refine oc (Z30 (sz:=1) (es:=(List.map Z7 v3)) (ar:=[_]) (caps:=[]) Tryz.call61 ((F61_ok (h:=hv3)).sw 2 9) rfl rfl ⟨rfl,trivial⟩ rfl) ?_
 refine G1 h fun h=>?_
 refine AWp.ret<|At.ghost (fun a w h=>gk ⟨[(2,_)],[(8,_),(2000,_),(2001,_)]⟩ (Z1j (m:=9) (sz:=1) (gk ⟨[(2,_)],[(9,_),(8,_),(2000,_),(2001,_)]⟩ h))) ?_
 exact RT
def Z8n (_K:Nat) (v1:Bool):Option (Bool) :=
 some v1
def F15 (K:Nat) (a0:Zx) (a1:Zx):Option (Bool) :=
 if (!a0.Above)=true then
 if (!a0.Below)=true then
 Z8n K true
 else
 if a1.Below=true then
 Z8n K (decide (a1.Low ≥ a0.Low))
 else
 Z8n K false
 else
 if a1.Above=true then
 if (decide (a1.High≤a0.High))=true then
 if (!a0.Below)=true then
 Z8n K true
 else
 if a1.Below=true then
 Z8n K (decide (a1.Low ≥ a0.Low))
 else
 Z8n K false
 else
 Z8n K false
 else
 Z8n K false
theorem Zqb (K:Nat) (a0:Zx) (a1:Zx) (r:Bool) (h:F15 K a0 a1=some r):ACall P 15 ⟨[(Z1l a0),(Z1l a1)],[],(.bool r),[],[]⟩:=by
 refine ac Tryz.func15 Tryz.results15 Tryz.ntmps15 fun w0 F0 p0 S0 β0 Q hret=>?_
 dsimp only [argT]
 unfold F15 at h
 refine G2 h fun h=>?_
 refine At.next<|AWp.seq ?_
 refine jn (V:=Bool) (fun v=>Z8n K v=some r) [] [] (fun v t=>(4,(.bool v))::t) (fun v s=>s) ?_ ?_
 ·intro v h
  revert h
  revert v
  intro v1 h
  try dsimp only at h ⊢
  unfold Z8n at h
  refine At.next ?_
  exact RT
 intro J2
 refine Ms h (fun h=>?_) (fun h=>?_)
 ·refine Ms h (fun h=>?_) (fun h=>?_)
  ·exact M2 h (k:=fun h=>wkx (J2 _ h))
  refine Ms h (fun h=>?_) (fun h=>?_)
  ·exact M2 h (k:=fun h=>wkx (J2 _ h))
  exact M2 h (k:=fun h=>wkx (J2 _ h))
 refine Ms h (fun h=>?_) (fun h=>?_)
 ·refine Ms h (fun h=>?_) (fun h=>?_)
  ·refine Ms h (fun h=>?_) (fun h=>?_)
   ·exact M2 h (k:=fun h=>wkx (J2 _ h))
   refine Ms h (fun h=>?_) (fun h=>?_)
   ·exact M2 h (k:=fun h=>wkx (J2 _ h))
   exact M2 h (k:=fun h=>wkx (J2 _ h))
  exact M2 h (k:=fun h=>wkx (J2 _ h))
 exact M2 h (k:=fun h=>wkx (J2 _ h))
def Zgk (_K:Nat) (v6:(List Z25)):Option ((List Z25)) :=
 some v6
def Zgl (K:Nat) (v2:(List Z2)) (c8:(List Z25)→Option ((List Z25))):Nat→Int→(List Z25)→Option ((List Z25))
 | 0,_,_=>none
 | k5+1,v3,v4 =>
 if (decide (v3<(v2.length:Int)))=true then
 if (0:Int)≤v3∧v3<v2.length then
 (F67 K (v2.getD v3.toNat Z5)).bind fun v12 =>
 (F67 K (v2.getD v3.toNat Z5)).bind fun v14 =>
 if v4.length+[(⟨v12,false⟩:Z25),(⟨v14,true⟩:Z25)].length≤1073741824 then
 (Zgl K v2 c8 k5) (IntKind.i64.wrap (v3+1)) (v4++[(⟨v12,false⟩:Z25),(⟨v14,true⟩:Z25)])
 else none
 else none
 else
 c8 v4
def F17 (K:Nat) (a0:(List Z2)) (a1:Int):Option ((List Z25)) :=
 (F66 K a0 a1).bind fun v2 =>
 Zgl K v2 (Zgk K) K 0 []
theorem F17_ok (K:Nat) (a0:(List Z2)) (a1:Int) (r:(List Z25)) (h:F17 K a0 a1=some r):ACall P 17 ⟨[(.sl 14 (a0.map Zb) false),(.int .i64 a1)],[],(.sl 3 (r.map Z4i) false),[],[]⟩:=by
 refine ac Tryz.func17 Tryz.results17 Tryz.ntmps17 fun w0 F0 p0 S0 β0 Q hret=>?_
 dsimp only [argT]
 unfold F17 at h
 refine AWp.seq<|AWp.region ?_
 refine oc (Zh (v:=(.sl 3 [] false)) rfl rfl) ?_
 refine G1 h fun h=>?_
 refine oc (Zh (v:=(.sl 3 [] true)) rfl rfl) ?_
 refine G1 h fun h=>?_
 have⟨v2,hv2,h⟩:=Zd h
 refine oc (Z15 Tryz.call66 (F66_ok (h:=hv2))) ?_
 refine G1 h fun h=>?_
 refine AWp.ghost (fun a w h=>gk ⟨[(5,_),(10,_),(11,_),(12,_)],[(5,_)]⟩ (Z38 (k:=5) (m:=5) (sz:=3) (gk ⟨[(5,_),(10,_),(11,_),(12,_)],[]⟩ h))) ?_
 refine lb (V:=Int×(List Z25)) (X:=(List Z25)) (v:=(_,_)) (fun k v=>Zgl K v2 (Zgk K) k v.1 v.2=some r) (fun v=>Zgk K v=some r) [(5,_),(10,_),(11,_)] [] [(5,_)] [] (fun v t=>(12,(.int .i64 v.1))::t) (fun v s=>(5,(.vec 3 (List.map Z4i v.2)))::s) (fun v t=>t) (fun v s=>(5,(.vec 3 (List.map Z4i v)))::s) h ?_ ?_
 ·intro v h
  revert h
  revert v
  intro v6 h
  try dsimp only at h ⊢
  unfold Zgk at h
  refine G1 h fun h=>?_
  refine AWp.ret<|At.ghost (fun a w h=>gk ⟨[(4,_)],[]⟩ (Z1j (m:=5) (sz:=3) (gk ⟨[(4,_)],[(5,_)]⟩ h))) ?_
  exact RT
 intro N k5 v h IH5 J5
 obtain⟨v3,v4⟩:=v
 try dsimp only at h IH5 J5 ⊢
 cases k5 with
 | zero=>cases h
 | succ k5 =>
  rw [Zgl] at h
  refine Mc h (fun h=>?_) (fun h=>?_)
  ·refine AWp.skip<|At.next<|AWp.seq<|AWp.block ?_
   refine G1 h fun h=>?_
   refine oc (Z2a rfl z94 rfl rfl rfl) ?_
   refine oc (Zm (ds:=_)) ?_
   refine G1 h fun h=>?_
   have⟨v12,hv12,h⟩:=Zd h
   refine oD (Z15 Tryz.call67 (Zhb (h:=hv12))) ?_
   refine oD (Z1i (vs:=[(0,(Z1x v12))]) rfl st59 ⟨rfl,rfl,trivial⟩ rfl) ?_
   refine G1 h fun h=>?_
   have⟨v14,hv14,h⟩:=Zd h
   refine oD (Z15 Tryz.call67 (Zhb (h:=hv14))) ?_
   refine oD (Z1i (vs:=[(0,(Z1x v14)),(1,(.bool true))]) rfl st59 ⟨rfl,rfl,rfl,rfl,trivial⟩ rfl) ?_
   refine oD (Zj (vs:=[_,_]) (enc:=Z4i) (l:=[(⟨v12,false⟩:Z25),(⟨v14,true⟩:Z25)]) rfl el50 rfl rfl ⟨rfl,rfl,trivial⟩ rfl Zb0 rfl rfl rfl rfl) ?_
   have⟨hg15,h⟩:=Zg h
   refine oD (Z1g (m:=5) rfl rfl el50 rfl u50 rfl rfl rfl rfl (oneRead rfl) Zb0 hg15) ?_
   refine G2 h fun h=>?_
   refine Z17<|At.next ?_
   exact M2 h (k:=fun h=>wkx (IH5 _ (_,_) Z1p h))
  refine AWp.exit<|Zz ?_
  exact wkx (J5 _ h)
def Zcl (K:Nat) (a0:(List Z2)) (v4:Int):Option (Z2×Bool) :=
 if (decide (v4<0))=true then
 some (Z5,false)
 else
 if (0:Int)≤v4∧v4<a0.length then
 (F144 K (a0.getD v4.toNat Z5)).bind fun v9 =>
 some (v9,true)
 else none
def Z9b (_K:Nat) (b10:Int→Int→Option (Z2×Bool)) (v2:Int) (v14:Int):Option (Z2×Bool) :=
 b10 v14 (IntKind.i64.wrap (v2+1))
def Z87 (K:Nat) (b10:Int→Int→Option (Z2×Bool)) (v2:Int) (v1:Int) (v12:Bool):Option (Z2×Bool) :=
 if v12=true then
 Z9b K b10 v2 v2
 else
 Z9b K b10 v2 v1
def Z6z (K:Nat) (a0:(List Z2)) (a1:Zr) (c6:Int→Option (Z2×Bool)):Nat→Int→Int→Option (Z2×Bool)
 | 0,_,_=>none
 | k3+1,v1,v2 =>
 if (decide (v2<(a0.length:Int)))=true then
 if (0:Int)≤v2∧v2<a0.length then
 (F67 K (a0.getD v2.toNat Z5)).bind fun v17 =>
 if ((v17.Trace==a1.Trace)&&((v17.Id==a1.Id)&&true))=true then
 if (decide (v1<0))=true then
 Z87 K (Z6z K a0 a1 c6 k3) v2 v1 true
 else
 if (0:Int)≤v1∧v1<a0.length then
 (F143 K (a0.getD v1.toNat Z5) (a0.getD v2.toNat Z5)).bind fun v20 =>
 Z87 K (Z6z K a0 a1 c6 k3) v2 v1 (decide (v20<0))
 else none
 else
 Z87 K (Z6z K a0 a1 c6 k3) v2 v1 false
 else none
 else
 c6 v1
def F68 (K:Nat) (a0:(List Z2)) (a1:Zr):Option (Z2×Bool) :=
 Z6z K a0 a1 (Zcl K a0) K (Int.negSucc 0) 0
theorem F68_ok (K:Nat) (a0:(List Z2)) (a1:Zr) (r:Z2×Bool) (h:F68 K a0 a1=some r):ACall P 68 ⟨[(.sl 14 (a0.map Zb) false),(Z1x a1)],[],(.tup [(Zb r.1),(.bool r.2)]),[],[]⟩:=by
 refine ac Tryz.func68 Tryz.results68 Tryz.ntmps68 fun w0 F0 p0 S0 β0 Q hret=>?_
 dsimp only [argT]
 unfold F68 at h
 refine G1 h fun h=>?_
 refine oc (Z2a rfl z94 rfl rfl rfl) ?_
 refine G1 h fun h=>?_
 refine lb (V:=Int×Int) (X:=Int) (v:=(_,_)) (fun k v=>Z6z K a0 a1 (Zcl K a0) k v.1 v.2=some r) (fun v=>Zcl K a0 v=some r) [(0,_),(3,_),(4,_),(9,_),(10,_)] [(3,_),(4,_)] [(0,_),(4,_)] [(4,_)] (fun v t=>(6,(.int .i64 v.1))::(11,(.int .i64 v.2))::t) (fun v s=>s) (fun v t=>(6,(.int .i64 v))::t) (fun v s=>s) h ?_ ?_
 ·intro v h
  revert h
  revert v
  intro v4 h
  try dsimp only at h ⊢
  unfold Zcl at h
  refine Mc h (fun h=>?_) (fun h=>?_)
  ·refine AWp.seq<|AWp.region ?_
   refine oc (Z1i (vs:=[]) rfl st94 trivial rfl) ?_
   refine oc (Zm (ds:=[_,_,_,_,_,_,_,_,_,_,_,_,_,_])) ?_
   refine G1 h fun h=>?_
   refine AWp.ret<|Z27 ?_
   have h:=Option.some.inj h
   subst h
   refine (hret _ ?_).1
   exact⟨[(.ag [(.int .i64 0),(.int .i64 0),(.int .i64 0),(.int .i64 0),(.int .i64 0),(.int .i64 0),(.str []),(.str []),(.str []),(.int .i64 0),(.int .i64 0),(.bool false),(.sl 4 [] false),(.sl 2 [] false)]),(.bool false)],⟨⟨4,_,I,I,.inr ⟨_,a94,I,I⟩⟩,I,J0⟩,I,J0⟩
  refine G1 h fun h=>?_
  have⟨v9,hv9,h⟩:=Zd h
  refine oc (Z15 Tryz.call144 (Zor (h:=hv9))) ?_
  refine oc (Zm (ds:=_)) ?_
  refine G1 h fun h=>?_
  refine AWp.ret ?_
  have h:=Option.some.inj h
  subst h
  refine (hret _ ?_).1
  exact⟨[(Zb v9),(.bool true)],⟨⟨4,_,I,I,.inr ⟨_,a94,I,I⟩⟩,I,J0⟩,I,J0⟩
 intro N k3 v h IH3 J3
 obtain⟨v1,v2⟩:=v
 try dsimp only at h IH3 J3 ⊢
 cases k3 with
 | zero=>cases h
 | succ k3 =>
  rw [Z6z] at h
  refine Mc h (fun h=>?_) (fun h=>?_)
  ·refine AWp.skip<|At.next<|AWp.seq<|AWp.block ?_
   refine G1 h fun h=>?_
   refine oc (Z2a rfl z94 rfl rfl rfl) ?_
   refine G1 h fun h=>?_
   refine oc (Zm (ds:=_)) ?_
   refine AOps.nil<|At.next<|AWp.seq ?_
   refine jn (V:=Bool) (fun v=>Z87 K (Z6z K a0 a1 (Zcl K a0) k3) v2 v1 v=some r) [(0,_),(3,_),(4,_),(6,_),(7,_),(9,_),(10,_),(11,_)] [(3,_),(4,_)] (fun v t=>(32,(.bool v))::t) (fun v s=>s) ?_ ?_
   ·intro v h
    revert h
    revert v
    intro v12 h
    try dsimp only at h ⊢
    unfold Z87 at h
    refine At.next ?_
    refine jn (V:=Int) (fun v=>Z9b K (Z6z K a0 a1 (Zcl K a0) k3) v2 v=some r) [(0,_),(3,_),(4,_),(9,_),(10,_),(11,_)] [(3,_),(4,_)] (fun v t=>(6,(.int .i64 v))::t) (fun v s=>s) ?_ ?_
    ·intro v h
     revert h
     revert v
     intro v14 h
     try dsimp only at h ⊢
     unfold Z9b at h
     refine Z17<|At.next ?_
     exact M2 h (k:=fun h=>wkx (IH3 _ (_,_) Z1p h))
    intro J15
    refine cnd h (fun h=>?_) (fun h=>?_)
    ·exact M2 h (k:=fun h=>wkx (J15 _ h))
    refine AWp.skip ?_
    exact wkx (J15 _ h)
   intro J13
   refine G1 h fun h=>?_
   have⟨v17,hv17,h⟩:=Zd h
   refine oD (Z15 Tryz.call67 (Zhb (h:=hv17))) ?_
   refine M1 h (k:=fun h=>splD h (fun h=>?_) (fun h=>?_))
   ·refine M1 h (k:=fun h=>splD h (fun h=>?_) (fun h=>?_))
    ·exact M2 h (k:=fun h=>wkx (J13 _ h))
    refine G1 h fun h=>?_
    have⟨v20,hv20,h⟩:=Zd h
    refine oU (Z15 Tryz.call143 (Zoq (h:=hv20))) ?_
    exact M2 h (k:=fun h=>wkx (J13 _ h))
   exact M2 h (k:=fun h=>wkx (J13 _ h))
  refine AWp.exit<|Zz ?_
  exact wkx (J3 _ h)
def F69 (_K:Nat) (a0:Z2) (a1:Bool):Option (Int) :=
 if a1=true then
 some a0.End
 else
 some a0.Start
theorem F69_ok (K:Nat) (a0:Z2) (a1:Bool) (r:Int) (h:F69 K a0 a1=some r):ACall P 69 ⟨[(Zb a0),(.bool a1)],[],(.int .i64 r),[],[]⟩:=by
 refine ac Tryz.func69 Tryz.results69 Tryz.ntmps69 fun w0 F0 p0 S0 β0 Q hret=>?_
 dsimp only [argT]
 unfold F69 at h
 refine Mc h (fun h=>?_) (fun h=>?_)
 ·exact GR
 exact GR
def F18 (K:Nat) (a0:(List Z2)) (a1:Z25):Option (Z1q×Int) :=
 (F68 K a0 a1.Span).bind fun v2 =>
 if (!v2.2)=true then
 some (Ziz,10)
 else
 (F69 K v2.1 a1.End).bind fun v4 =>
 some ((⟨v2.1.Clock,v4⟩:Z1q),0)
theorem F18_ok (K:Nat) (a0:(List Z2)) (a1:Z25) (r:Z1q×Int) (h:F18 K a0 a1=some r):ACall P 18 ⟨[(.sl 14 (a0.map Zb) false),(Z4i a1)],[],(.tup [(Z3m r.1),(.int .i64 r.2)]),[],[]⟩:=by
 refine ac Tryz.func18 Tryz.results18 Tryz.ntmps18 fun w0 F0 p0 S0 β0 Q hret=>?_
 dsimp only [argT]
 unfold F18 at h
 refine G1 h fun h=>?_
 have⟨v2,hv2,h⟩:=Zd h
 refine oc (Z15 Tryz.call68 (F68_ok (h:=hv2))) ?_
 refine G1 h fun h=>?_
 refine oc (Z2a rfl z94 rfl rfl rfl) ?_
 refine oc (Zm (ds:=_)) ?_
 refine Mc h (fun h=>?_) (fun h=>?_)
 ·refine AWp.seq<|AWp.region ?_
  refine oc (Z1i (vs:=[]) rfl st53 trivial rfl) ?_
  refine oc (Zm (ds:=[_,_])) ?_
  refine G1 h fun h=>?_
  refine AWp.ret<|Z27 ?_
  have h:=Option.some.inj h
  subst h
  refine (hret _ ?_).1
  exact⟨[(.ag [(.int .i64 0),(.int .i64 0)]),(.int .i64 10)],⟨⟨4,_,I,I,.inr ⟨_,a53,I,I⟩⟩,I,J0⟩,I,J0⟩
 refine G1 h fun h=>?_
 have⟨v4,hv4,h⟩:=Zd h
 refine oD (Z15 Tryz.call69 (F69_ok (h:=hv4))) ?_
 refine oD (Z1i (vs:=[(0,(.int .i64 v2.1.Clock)),(1,(.int .i64 v4))]) rfl st53 ⟨rfl,rfl,rfl,rfl,trivial⟩ rfl) ?_
 refine oD (Zm (ds:=[_,_])) ?_
 refine G1 h fun h=>?_
 refine AWp.ret ?_
 have h:=Option.some.inj h
 subst h
 refine (hret _ ?_).1
 exact⟨[(.ag [(.int .i64 v2.1.Clock),(.int .i64 v4)]),(.int .i64 0)],⟨⟨4,_,I,I,.inr ⟨_,a53,I,I⟩⟩,I,J0⟩,I,J0⟩
def F71 (_K:Nat) (a0:Z1q):Option (Int) :=
 if (decide (a0.Clock<1))=true then
 some 2
 else
 if (decide (a0.Clock > 1048576))=true then
 some 2
 else
 if (decide (a0.Time<(Int.negSucc 1099511627775)))=true then
 some 32
 else
 if (decide (a0.Time > 1099511627776))=true then
 some 32
 else
 some 0
theorem F71_ok (K:Nat) (a0:Z1q) (r:Int) (h:F71 K a0=some r):ACall P 71 ⟨[(Z3m a0)],[],(.int .i64 r),[],[]⟩:=by
 refine ac Tryz.func71 Tryz.results71 Tryz.ntmps71 fun w0 F0 p0 S0 β0 Q hret=>?_
 dsimp only [argT]
 unfold F71 at h
 refine Ms h (fun h=>?_) (fun h=>?_)
 ·refine G1 h fun h=>?_
  refine AWp.cond (b:=true) I (fun hc=>?_) (fun hc=>?_)
  rotate_left
  ·cases hc
  exact GR
 refine Mc h (fun h=>?_) (fun h=>?_)
 ·exact GR
 refine Ms h (fun h=>?_) (fun h=>?_)
 ·refine G1 h fun h=>?_
  refine AWp.cond (b:=true) I (fun hc=>?_) (fun hc=>?_)
  rotate_left
  ·cases hc
  exact GR
 refine Mc h (fun h=>?_) (fun h=>?_)
 ·exact GR
 exact GR
def F145 (K:Nat) (a0:Int) (a1:(List Z1)) (a2:(List Int)) (a3:(List Z1)) (a4:(List Z4)) (a5:(List (List Int))) (a6:(List (Int×Int))) (a7:(List Bool)):Option (Bool×Int) :=
 (F136 K a0 a1 a2 a3 a4 a5 a6 a7).bind fun v4 =>
 if (v4.2==0)=true then
 if (0:Int)≤v4.1∧v4.1<(a7.length:Nat) then
 if v4.1.toNat<a7.length then
 some ((!(a7.getD v4.1.toNat false)),v4.2)
 else none
 else none
 else
 some (false,v4.2)
theorem F145_ok (K:Nat) (a0:Int) (a1:(List Z1)) (a2:(List Int)) (a3:(List Z1)) (a4:(List Z4)) (a5:(List (List Int))) (a6:(List (Int×Int))) (a7:(List Bool)) (r:Bool×Int) (h:F145 K a0 a1 a2 a3 a4 a5 a6 a7=some r):ACall P 145 ⟨[(.ptr 2000 0),(.int .i64 a0)],[(2000,(.box [(.sl 10 (a1.map Z3) false),(.sl 1 (a2.map Z7) false),(.sl 10 (a3.map Z3) false),(.sl 3 (a4.map Z9) false),(.sl 1 (a5.map Z19) false),(.map 2001),(.vs 26)])),(2001,(.map (Zn Z7 Z7 a6))),(26,(.vec 1 (List.map Zt a7)))],(.tup [(.bool r.1),(.int .i64 r.2)]),[(2000,(.box [(.sl 10 (a1.map Z3) false),(.sl 1 (a2.map Z7) false),(.sl 10 (a3.map Z3) false),(.sl 3 (a4.map Z9) false),(.sl 1 (a5.map Z19) false),(.map 2001),(.vs 26)])),(2001,(.map (Zn Z7 Z7 a6))),(26,(.vec 1 (List.map Zt a7)))],[26]⟩:=by
 refine ac Tryz.func145 Tryz.results145 Tryz.ntmps145 fun w0 F0 p0 S0 β0 Q hret=>?_
 dsimp only [argT]
 unfold F145 at h
 refine G1 h fun h=>?_
 have⟨v4,hv4,h⟩:=Zd h
 refine oc (Z1d (d:=some 11) (c:=⟨_,[(2000,_),(2001,_),(26,_)],(.tup [(.int .i64 v4.1),(.int .i64 v4.2)]),[(2000,(.box [(.sl 10 (a1.map Z3) false),(.sl 1 (a2.map Z7) false),(.sl 10 (a3.map Z3) false),(.sl 3 (a4.map Z9) false),(.sl 1 (a5.map Z19) false),(.map 2001),(.vs 26)])),(2001,(.map (Zn Z7 Z7 a6))),(26,(.vec 1 (List.map Zt a7)))],[26]⟩) (ar:=[_,_]) (caps:=[]) (news:=[]) (forg:=[26]) Tryz.call136 ((Zkt (h:=hv4)).sw 21 26) rfl rfl ⟨rfl,rfl,trivial⟩ rfl ⟨rfl,rfl,rfl,trivial⟩ rfl) ?_
 refine Ms h (fun h=>?_) (fun h=>?_)
 ·exact GR
 exact GR
def F72 (K:Nat) (a0:Int) (a1:(List Z1)) (a2:(List Int)) (a3:(List Z1)) (a4:(List Z4)) (a5:(List (List Int))) (a6:(List (Int×Int))) (a7:(List Bool)):Option (Int) :=
 (F145 K a0 a1 a2 a3 a4 a5 a6 a7).bind fun v3 =>
 if (v3.2==0)=true then
 if (!v3.1)=true then
 some 21
 else
 some 0
 else
 some 0
theorem F72_ok (K:Nat) (a0:Int) (a1:(List Z1)) (a2:(List Int)) (a3:(List Z1)) (a4:(List Z4)) (a5:(List (List Int))) (a6:(List (Int×Int))) (a7:(List Bool)) (r:Int) (h:F72 K a0 a1 a2 a3 a4 a5 a6 a7=some r):ACall P 72 ⟨[(.ptr 2000 0),(.int .i64 a0)],[(2000,(.box [(.sl 10 (a1.map Z3) false),(.sl 1 (a2.map Z7) false),(.sl 10 (a3.map Z3) false),(.sl 3 (a4.map Z9) false),(.sl 1 (a5.map Z19) false),(.map 2001),(.vs 18)])),(2001,(.map (Zn Z7 Z7 a6))),(18,(.vec 1 (List.map Zt a7)))],(.int .i64 r),[(2000,(.box [(.sl 10 (a1.map Z3) false),(.sl 1 (a2.map Z7) false),(.sl 10 (a3.map Z3) false),(.sl 3 (a4.map Z9) false),(.sl 1 (a5.map Z19) false),(.map 2001),(.vs 18)])),(2001,(.map (Zn Z7 Z7 a6))),(18,(.vec 1 (List.map Zt a7)))],[18]⟩:=by
 refine ac Tryz.func72 Tryz.results72 Tryz.ntmps72 fun w0 F0 p0 S0 β0 Q hret=>?_
 dsimp only [argT]
 unfold F72 at h
 refine G1 h fun h=>?_
 have⟨v3,hv3,h⟩:=Zd h
 refine oc (Z1d (d:=some 10) (c:=⟨_,[(2000,_),(2001,_),(18,_)],(.tup [(.bool v3.1),(.int .i64 v3.2)]),[(2000,(.box [(.sl 10 (a1.map Z3) false),(.sl 1 (a2.map Z7) false),(.sl 10 (a3.map Z3) false),(.sl 3 (a4.map Z9) false),(.sl 1 (a5.map Z19) false),(.map 2001),(.vs 18)])),(2001,(.map (Zn Z7 Z7 a6))),(18,(.vec 1 (List.map Zt a7)))],[18]⟩) (ar:=[_,_]) (caps:=[]) (news:=[]) (forg:=[18]) Tryz.call145 ((F145_ok (h:=hv3)).sw 26 18) rfl rfl ⟨rfl,rfl,trivial⟩ rfl ⟨rfl,rfl,rfl,trivial⟩ rfl) ?_
 refine Ms h (fun h=>?_) (fun h=>?_)
 ·refine Mc h (fun h=>?_) (fun h=>?_)
  ·exact GR
  exact GR
 refine G1 h fun h=>?_
 refine AWp.cond (b:=false) I (fun hc=>?_) (fun hc=>?_)
 ·cases hc
 exact GR
end Go.AM.Tp
