/- What these functions compute, each with its walk: F75, F45, F7, F8, F64, F199, F138, F200, F139, F74, F65, F16, F24. -/
import Derived.Test.YtkafecfipfnljaaGreatTpT
import Derived.Test.YtkafecfipfnljaaGreatTpG4
namespace Go.AM.Tp
open Go Go.AM Go.Proofs
set_option maxRecDepth 100000
set_option maxHeartbeats 2000000
attribute [local irreducible] Z11 TyOne TyAgg TySl TyZero TyStruct TyEl TyEq AWp AOps AOpsD At
def Zhe (_K:Nat) (v17:(List Z1m)):Option ((List Z1m)×Int) :=
 some (v17,0)
def Zhf (K:Nat) (v11:Int×(List Z1m)) (c19:(List Z1m)→Option ((List Z1m)×Int)):Nat→Int→(List Z1m)→Option ((List Z1m)×Int)
 | 0,_,_=>none
 | k16+1,v14,v15 =>
 if (decide (v14<(v11.2.length:Int)))=true then
 if (0:Int)≤v14∧v14<(v15.length:Nat) then
 if v14.toNat<v15.length then
 if (0:Int)≤v14∧v14<(v15.length:Nat) then
 if v14.toNat<v15.length then
 (Zhf K v11 c19 k16) (IntKind.i64.wrap (v14+1)) (v15.set v14.toNat (⟨(v15.getD v14.toNat Z23).Clock,(IntKind.i64.wrap ((v15.getD v14.toNat Z23).Value - (v11.2.getD (0:Int).toNat Z23).Value))⟩:Z1m))
 else none
 else none
 else none
 else none
 else
 c19 v15
noncomputable def F75 (K:Nat) (a0:Int) (a1:(List Z1)) (a2:(List Int)) (a3:(List Z1)) (a4:(List Z4)) (a5:(List (List Int))) (a6:(List (Int×Int))) (a7:(List Bool)):Option ((List Z1m)×Int) :=
 (F136 K a0 a1 a2 a3 a4 a5 a6 a7).bind fun v4 =>
 if (v4.2 != 0)=true then
 some ([],v4.2)
 else
 if (0:Int)≤v4.1∧v4.1<(a7.length:Nat) then
 if v4.1.toNat<a7.length then
 if (a7.getD v4.1.toNat false)=true then
 some ([],21)
 else
 if (0:Int)≤v4.1∧v4.1<a5.length then
 if (((a5.getD v4.1.toNat []).length:Int)==1)=true then
 some ([(⟨a0,0⟩:Z1m)],0)
 else
 (Zh2 K v4.1 a1 a2 a3 a4 a5 a6 a7).bind fun v9 =>
 (F149 K v9.1).bind fun v11 =>
 if (v11.1 != 0)=true then
 some ([],v11.1)
 else
 if (0:Int)≤0∧(0:Int)<(v11.2.length:Nat) then
 if (0:Int).toNat<v11.2.length then
 Zhf K v11 (Zhe K) K 0 v11.2
 else none
 else none
 else none
 else none
 else none
theorem F75_ok (K:Nat) (a0:Int) (a1:(List Z1)) (a2:(List Int)) (a3:(List Z1)) (a4:(List Z4)) (a5:(List (List Int))) (a6:(List (Int×Int))) (a7:(List Bool)) (r:(List Z1m)×Int) (h:F75 K a0 a1 a2 a3 a4 a5 a6 a7=some r):ACall P 75 ⟨[(.ptr 2000 0),(.int .i64 a0)],[(2000,(.box [(.sl 10 (a1.map Z3) false),(.sl 1 (a2.map Z7) false),(.sl 10 (a3.map Z3) false),(.sl 3 (a4.map Z9) false),(.sl 1 (a5.map Z19) false),(.map 2001),(.vs 77)])),(2001,(.map (Zn Z7 Z7 a6))),(77,(.vec 1 (List.map Zt a7)))],(.tup [(.sl 2 (r.1.map Z21) false),(.int .i64 r.2)]),[(2000,(.box [(.sl 10 (a1.map Z3) false),(.sl 1 (a2.map Z7) false),(.sl 10 (a3.map Z3) false),(.sl 3 (a4.map Z9) false),(.sl 1 (a5.map Z19) false),(.map 2001),(.vs 77)])),(2001,(.map (Zn Z7 Z7 a6))),(77,(.vec 1 (List.map Zt a7)))],[77]⟩:=by
 refine ac Tryz.func75 Tryz.results75 Tryz.ntmps75 fun w0 F0 p0 S0 β0 Q hret=>?_
 dsimp only [argT]
 unfold F75 at h
 refine AWp.seq<|AWp.region ?_
 refine oc (Zh (v:=(.sl 2 [] false)) rfl rfl) ?_
 refine G1 h fun h=>?_
 have⟨v4,hv4,h⟩:=Zd h
 refine oc (Z1d (d:=some 16) (c:=⟨_,[(2000,_),(2001,_),(77,_)],(.tup [(.int .i64 v4.1),(.int .i64 v4.2)]),[(2000,(.box [(.sl 10 (a1.map Z3) false),(.sl 1 (a2.map Z7) false),(.sl 10 (a3.map Z3) false),(.sl 3 (a4.map Z9) false),(.sl 1 (a5.map Z19) false),(.map 2001),(.vs 77)])),(2001,(.map (Zn Z7 Z7 a6))),(77,(.vec 1 (List.map Zt a7)))],[77]⟩) (ar:=[_,_]) (caps:=[]) (news:=[]) (forg:=[77]) Tryz.call136 ((Zkt (h:=hv4)).sw 21 77) rfl rfl ⟨rfl,rfl,trivial⟩ rfl ⟨rfl,rfl,rfl,trivial⟩ rfl) ?_
 refine G1 h fun h=>?_
 refine AWp.block ?_
 refine Mc h (fun h=>?_) (fun h=>?_)
 ·refine G1 h fun h=>?_
  refine oc (Zh (v:=(.sl 2 [] false)) rfl rfl) ?_
  exact GR
 refine Mc h (fun h=>?_) (fun h=>?_)
 ·refine AWp.seq<|AWp.region ?_
  refine oc (Zh (v:=(.sl 2 [] false)) rfl rfl) ?_
  exact GR
 refine Mc h (fun h=>?_) (fun h=>?_)
 ·refine G1 h fun h=>?_
  refine oc (Z1i (vs:=[(0,(.int .i64 a0))]) rfl st170 ⟨rfl,rfl,trivial⟩ rfl) ?_
  refine oc (Zj (vs:=[_]) (enc:=Z21) (l:=[(⟨a0,0⟩:Z1m)]) rfl el69 rfl rfl ⟨rfl,trivial⟩ rfl Z4q rfl rfl rfl rfl) ?_
  refine G1 h fun h=>?_
  refine AWp.ret<|Z3e<|Z27<|At.ghost (fun a w h=>gk ⟨[(4,_),(5,_)],[(77,_),(2000,_),(2001,_)]⟩ (Z1j (m:=43) (sz:=2) (gk ⟨[(4,_),(5,_)],[(43,_),(77,_),(2000,_),(2001,_)]⟩ h))) ?_
  have h:=Option.some.inj h
  subst h
  refine (hret _ ?_).1
  exact⟨[(.sl 2 ([(⟨a0,0⟩:Z1m)].map Z21) false),(.int .i64 0)],⟨I,I,J0⟩,I,⟨I,I,I,J0⟩⟩
 refine G1 h fun h=>?_
 have⟨v9,hv9,h⟩:=Zd h
 refine oc (Z1d (d:=some 47) (c:=⟨_,[(2000,_),(2001,_),(77,_)],(.tup [(.sl 3 (v9.1.map Z9) false),(.sl 10 (v9.2.map Z3) false)]),[(2000,(.box [(.sl 10 (a1.map Z3) false),(.sl 1 (a2.map Z7) false),(.sl 10 (a3.map Z3) false),(.sl 3 (a4.map Z9) false),(.sl 1 (a5.map Z19) false),(.map 2001),(.vs 77)])),(2001,(.map (Zn Z7 Z7 a6))),(77,(.vec 1 (List.map Zt a7)))],[77]⟩) (ar:=[_,_]) (caps:=[]) (news:=[]) (forg:=[77]) Tryz.call57 ((Zmv (h:=hv9)).sw 57 77) rfl rfl ⟨rfl,rfl,trivial⟩ rfl ⟨rfl,rfl,rfl,trivial⟩ rfl) ?_
 refine G1 h fun h=>?_
 have⟨v11,hv11,h⟩:=Zd h
 refine oc (Z1d (d:=some 52) (c:=⟨_,[],(.tup [(.vs 52),(.int .i64 v11.1)]),[(52,(.vec 2 (List.map Z21 v11.2)))],[52]⟩) (ar:=[_]) (caps:=[]) (news:=[52]) (forg:=[]) Tryz.call149 ((F149_ok (h:=hv11)).sw 2 52) rfl rfl ⟨rfl,trivial⟩ rfl trivial rfl) ?_
 refine Mc h (fun h=>?_) (fun h=>?_)
 ·refine G1 h fun h=>?_
  refine oc (Zh (v:=(.sl 2 [] false)) rfl rfl) ?_
  exact GR
 refine G1 h fun h=>?_
 refine oc (Z2t rfl u69 rfl rfl) ?_
 refine G1 h fun h=>?_
 refine AWp.ghost (fun a w h=>gk ⟨[(10,_),(11,_),(63,_),(64,_)],[(10,_),(77,_),(2000,_),(2001,_)]⟩ (Z3x (a:=52) (b:=10) (gk ⟨[(10,_),(11,_),(63,_),(64,_)],[(52,_),(77,_),(2000,_),(2001,_)]⟩ h))) ?_
 refine lb (V:=Int×(List Z1m)) (X:=(List Z1m)) (v:=(_,_)) (fun k v=>Zhf K v11 (Zhe K) k v.1 v.2=some r) (fun v=>Zhe K v=some r) [(10,_),(11,_),(63,_)] [(77,_),(2000,_),(2001,_)] [(10,_)] [(77,_),(2000,_),(2001,_)] (fun v t=>(64,(.int .i64 v.1))::t) (fun v s=>(10,(.vec 2 (List.map Z21 v.2)))::s) (fun v t=>t) (fun v s=>(10,(.vec 2 (List.map Z21 v)))::s) h ?_ ?_
 ·intro v h
  revert h
  revert v
  intro v17 h
  try dsimp only at h ⊢
  unfold Zhe at h
  refine G1 h fun h=>?_
  refine AWp.ret<|At.ghost (fun a w h=>gk ⟨[(4,_),(5,_)],[(77,_),(2000,_),(2001,_)]⟩ (Z1j (m:=10) (sz:=2) (gk ⟨[(4,_),(5,_)],[(10,_),(77,_),(2000,_),(2001,_)]⟩ h))) ?_
  exact RT
 intro N k16 v h IH16 J16
 obtain⟨v14,v15⟩:=v
 try dsimp only at h IH16 J16 ⊢
 cases k16 with
 | zero=>cases h
 | succ k16 =>
  rw [Zhf] at h
  refine Mc h (fun h=>?_) (fun h=>?_)
  ·refine AWp.skip<|At.next<|AWp.seq<|AWp.block ?_
   refine G1 h fun h=>?_
   have⟨hg24,h⟩:=Zg h
   refine oc (Z4u (l:=v15) (enc:=Z21) (z:=Z23) (a:=(⟨(v15.getD v14.toNat Z23).Clock,(IntKind.i64.wrap ((v15.getD v14.toNat Z23).Value - (v11.2.getD (0:Int).toNat Z23).Value))⟩:Z1m)) (v:=(.int .i64 (IntKind.i64.wrap ((v15.getD v14.toNat Z23).Value - (v11.2.getD (0:Int).toNat Z23).Value)))) sz3 rfl rfl hg24 rfl Z4q rfl rfl rfl rfl) ?_
   refine AOps.nil<|Z17<|At.next ?_
   exact M2 h (k:=fun h=>wkx (IH16 _ (_,_) Z1p h))
  refine AWp.exit<|Zz ?_
  exact wkx (J16 _ h)
def Zez (_K:Nat) (v7:Bool):Option (Bool) :=
 some v7
noncomputable def F45 (K:Nat):Option (Bool) :=
 (F9 K [(⟨4,Zs,Zs,1,2,10,112,0⟩:Z1),(⟨4,Zs,Zs,2,1,130,40,0⟩:Z1)]).bind fun v2 =>
 if (0 != 0)=true then
 some false
 else
 (F14 K 1 2 v2.1 v2.2.1 v2.2.2.1 v2.2.2.2.1 v2.2.2.2.2.1 v2.2.2.2.2.2.1 v2.2.2.2.2.2.2).bind fun v4 =>
 (F75 K 2 v2.1 v2.2.1 v2.2.2.1 v2.2.2.2.1 v2.2.2.2.2.1 v2.2.2.2.2.2.1 v2.2.2.2.2.2.2).bind fun v6 =>
 if (v4.1==0)=true then
 if ((v4.2.Low==90)&&((v4.2.High==102)&&((v4.2.Below==true)&&((v4.2.Above==true)&&true))))=true then
 if (v6.2==0)=true then
 if ((v6.1.length:Int)==2)=true then
 if (0:Int)≤1∧(1:Int)<v6.1.length then
 Zez K (((v6.1.getD (1:Int).toNat Z23).Clock==2)&&(((v6.1.getD (1:Int).toNat Z23).Value==90)&&true))
 else none
 else
 Zez K false
 else
 Zez K false
 else
 Zez K false
 else
 Zez K false
theorem F45_ok (K:Nat) (r:Bool) (h:F45 K=some r):ACall P 45 ⟨[],[],(.bool r),[],[]⟩:=by
 refine Zcm Tryz.func45 Tryz.results45 rfl Tryz.ntmps45 rfl rfl rfl ?_
 intro E Q hP hN hro hret
 obtain⟨P',nt',w0,F0,p0,S0,β0,ro0⟩:=E
 simp only at hP hN
 subst hP hN
 dsimp only [argT]
 unfold F45 at h
 refine AWp.seq<|AWp.region<|AOps.cons I (Zh (v:=(.bool false)) I I) I<|AOps.nil<|At.next<|AWp.seq<|AWp.region<|AOps.cons I (Z1i (vs:=[(0,(.int .i64 4)),(3,(.int .i64 1)),(4,(.int .i64 2)),(5,(.int .i64 10)),(6,(.int .i64 112))]) I Zpw ⟨I,I,I,I,I,I,I,I,I,I,J0⟩ I) I<|AOps.cons I (Z1i (vs:=[(0,(.int .i64 4)),(3,(.int .i64 2)),(4,(.int .i64 1)),(5,(.int .i64 130)),(6,(.int .i64 40))]) I Zpw ⟨I,I,I,I,I,I,I,I,I,I,J0⟩ I) I<|AOps.cons I (Zj (vs:=[_,_]) (enc:=Z3) (l:=[(⟨4,Zs,Zs,1,2,10,112,0⟩:Z1),(⟨4,Zs,Zs,2,1,130,40,0⟩:Z1)]) I Ziu I I ⟨I,I,J0⟩ I Z16 I I I I) I<|AOps.ghost (st':=⟨[(10,(.sl 10 ([(⟨4,Zs,Zs,1,2,10,112,0⟩:Z1),(⟨4,Zs,Zs,2,1,130,40,0⟩:Z1)].map Z3) false))],[]⟩) (fun a w h=>(Z28 _ (Zfc (m:=10) (sz:=10) (es:=(List.map Z3 [(⟨4,Zs,Zs,1,2,10,112,0⟩:Z1),(⟨4,Zs,Zs,2,1,130,40,0⟩:Z1)])) a w (Z28 ⟨[(10,(.vs 10))],[(10,(.vec 10 (List.map Z3 [(⟨4,Zs,Zs,1,2,10,112,0⟩:Z1),(⟨4,Zs,Zs,2,1,130,40,0⟩:Z1)])))]⟩ h ⟨I,J0⟩ ⟨I,J0⟩)) ⟨I,J0⟩ J0)) ?_
 have⟨v2,hv2,h⟩:=Zd h
 refine AOps.cons I (Z1d (d:=some 11) (c:=⟨_,[],(.tup [(.ptr 52 0),(.int .i64 0)]),[(11,(.map (Zn Z7 Z7 v2.2.2.2.2.2.1))),(52,(.box [(.sl 10 (v2.1.map Z3) false),(.sl 1 (v2.2.1.map Z7) false),(.sl 10 (v2.2.2.1.map Z3) false),(.sl 3 (v2.2.2.2.1.map Z9) false),(.sl 1 (v2.2.2.2.2.1.map Z19) false),(.map 11),(.vs 51)])),(51,(.vec 1 (List.map Zt v2.2.2.2.2.2.2)))],[11,52,51]⟩) (ar:=[_]) (caps:=[]) (news:=[11,52,51]) (forg:=[]) Tryz.call9 ((((F9_ok (h:=hv2)).sw 35 11).sw 37 52).sw 140 51) I I ⟨I,J0⟩ I J0 I) I<|AOps.cons I (Z1h I I) I<|AOps.cons I (Z2b I I I) I<|AOps.cons I (Z2b I I I) I<|AOps.cons I (Zh I I) I<|AOps.cons I (Zh (v:=(.int .i64 0)) I I) I<|AOps.nil<|At.next<|AWp.seq<|AWp.seq<|AWp.region<|AOps.cons I (Z1h (v:=(.int .i64 0)) I I) I<|AOps.cons I (Z8o (k:=.i64) (a:=0) (b:=0) (c:=(0 != 0)) I I I I) I<|AOps.cons I (Z1h (v:=(.bool (0 != 0))) I I) I ?_
 have hif:=Z9p h
 refine AOps.split (fun hc=>?_) (fun hc=>?_)
 ·have h:=hif.1 hc
  refine AOps.consF I I I I I I I<|AOps.consF I I I I I I I<|AOps.cons I (Z8i (v:=(.bool true)) I I I) I<|AOps.nil<|At.next ?_
  refine AWp.cond (b:=true) I (fun hc=>?_) (fun hc=>?_)
  rotate_left
  ·cases hc
  refine AWp.seq<|AWp.region<|AOps.cons I (Zh (v:=(.bool false)) I I) I<|AOps.nil<|At.next<|AWp.ret<|Z27 ?_
  have h:=Option.some.inj h
  subst h
  refine (hret _ ?_).1
  exact⟨[(.bool false)],⟨I,J0⟩,I,J0⟩
 have h:=hif.2 hc
 refine AOps.consT I I I I (Z1h I I) I<|AOps.consT I I I I (Z74 (c:=false) I u31 I I I) I<|AOps.cons I (Z40 (v:=(.bool false)) I I I) I<|AOps.nil<|At.next ?_
 refine AWp.cond (b:=false) I (fun hc=>?_) (fun hc=>?_)
 ·cases hc
 refine AWp.skip<|At.next<|AWp.seq<|AWp.region<|AOps.cons I (Z1h I I) I ?_
 have⟨v4,hv4,h⟩:=Zd h
 refine AOps.cons I (Z1d (d:=some 22) (c:=⟨[(.ptr 52 0),(.int .i64 1),(.int .i64 2)]++[],[(52,(.box [(.sl 10 (v2.1.map Z3) false),(.sl 1 (v2.2.1.map Z7) false),(.sl 10 (v2.2.2.1.map Z3) false),(.sl 3 (v2.2.2.2.1.map Z9) false),(.sl 1 (v2.2.2.2.2.1.map Z19) false),(.map 11),(.vs 51)])),(11,(.map (Zn Z7 Z7 v2.2.2.2.2.2.1))),(51,(.vec 1 (List.map Zt v2.2.2.2.2.2.2)))],(.tup [(Z1l v4.2),(.int .i64 v4.1)]),[(52,(.box [(.sl 10 (v2.1.map Z3) false),(.sl 1 (v2.2.1.map Z7) false),(.sl 10 (v2.2.2.1.map Z3) false),(.sl 3 (v2.2.2.2.1.map Z9) false),(.sl 1 (v2.2.2.2.2.1.map Z19) false),(.map 11),(.vs 51)])),(11,(.map (Zn Z7 Z7 v2.2.2.2.2.2.1))),(51,(.vec 1 (List.map Zt v2.2.2.2.2.2.2)))],[51]⟩) (ar:=[(.ptr 52 0),(.int .i64 1),(.int .i64 2)]) (caps:=[]) (news:=[]) (forg:=[51]) Tryz.call14 ((((Zqa K 1 2 v2.1 v2.2.1 v2.2.2.1 v2.2.2.2.1 v2.2.2.2.2.1 v2.2.2.2.2.2.1 v2.2.2.2.2.2.2 v4 hv4).sw 2000 52).sw 2001 11).sw 56 51) I I ⟨I,I,I,J0⟩ I ⟨I,I,I,J0⟩ I) I<|AOps.cons I (Z1h I I) I<|AOps.cons I (Z2b I I I) I<|AOps.cons I (Z2b I I I) I<|AOps.cons I (Z2a I z41 I I I) I<|AOps.cons I (Z9x sz41 I I I I I I I I) I<|AOps.cons I (Zh I I) I<|AOps.nil<|At.next<|AWp.seq<|AWp.region<|AOps.cons I (Z1h I I) I ?_
 have⟨v6,hv6,h⟩:=Zd h
 refine AOps.cons I (Z1d (d:=some 27) (c:=⟨[(.ptr 52 0),(.int .i64 2)]++[],[(52,(.box [(.sl 10 (v2.1.map Z3) false),(.sl 1 (v2.2.1.map Z7) false),(.sl 10 (v2.2.2.1.map Z3) false),(.sl 3 (v2.2.2.2.1.map Z9) false),(.sl 1 (v2.2.2.2.2.1.map Z19) false),(.map 11),(.vs 51)])),(11,(.map (Zn Z7 Z7 v2.2.2.2.2.2.1))),(51,(.vec 1 (List.map Zt v2.2.2.2.2.2.2)))],(.tup [(.sl 2 (v6.1.map Z21) false),(.int .i64 v6.2)]),[(52,(.box [(.sl 10 (v2.1.map Z3) false),(.sl 1 (v2.2.1.map Z7) false),(.sl 10 (v2.2.2.1.map Z3) false),(.sl 3 (v2.2.2.2.1.map Z9) false),(.sl 1 (v2.2.2.2.2.1.map Z19) false),(.map 11),(.vs 51)])),(11,(.map (Zn Z7 Z7 v2.2.2.2.2.2.1))),(51,(.vec 1 (List.map Zt v2.2.2.2.2.2.2)))],[51]⟩) (ar:=[(.ptr 52 0),(.int .i64 2)]) (caps:=[]) (news:=[]) (forg:=[51]) Tryz.call75 ((((F75_ok K 2 v2.1 v2.2.1 v2.2.2.1 v2.2.2.2.1 v2.2.2.2.2.1 v2.2.2.2.2.2.1 v2.2.2.2.2.2.2 v6 hv6).sw 2000 52).sw 2001 11).sw 77 51) I I ⟨I,I,J0⟩ I ⟨I,I,I,J0⟩ I) I<|AOps.cons I (Z1h I I) I<|AOps.cons I (Z2b I I I) I<|AOps.cons I (Z2b I I I) I<|AOps.cons I (Zh I I) I<|AOps.cons I (Zh I I) I<|AOps.nil<|At.next<|AWp.seq ?_
 refine Zfi (V:=Bool) (lp:=fun v=>Zez K v=some r) (sh:=fun v=>⟨[(0,(.bool v))],[]⟩) ?_ ?_
 ·intro v h
  revert h
  revert v
  intro v7 h
  try dsimp only at h ⊢
  unfold Zez at h
  refine At.next<|AWp.ret ?_
  have h:=Option.some.inj h
  subst h
  refine (hret _ ?_).1
  exact⟨[(.bool v7)],⟨I,J0⟩,I,J0⟩
 intro J8
 refine AWp.region<|AOps.cons I (Z1h I I) I<|AOps.cons I (Z8o (b:=0) (c:=(v4.1==0)) I I I I) I<|AOps.cons I (Z1h I I) I ?_
 have hif:=Z9p h
 refine AOps.split (fun hc=>?_) (fun hc=>?_)
 ·have h:=hif.1 hc
  refine AOps.consT I I I I (Zim I a41 I I I I) I<|AOps.consT I I I I (Z1i (vs:=[(0,(.int .i64 90)),(1,(.int .i64 102)),(2,(.bool true)),(3,(.bool true))]) I st41 ⟨I,I,I,I,I,I,I,I,J0⟩ I) I<|AOps.consT I I I I (Zme (xs:=(Z1l v4.2).cells) (ys:=[(.int .i64 90),(.int .i64 102),(.bool true),(.bool true)]) (b:=((v4.2.Low==90)&&((v4.2.High==102)&&((v4.2.Below==true)&&((v4.2.Above==true)&&true))))) (c:=((v4.2.Low==90)&&((v4.2.High==102)&&((v4.2.Below==true)&&((v4.2.Above==true)&&true))))) I eq41 I I I I) I<|AOps.cons I (Z8i I I I) I<|AOps.cons I (Z1h I I) I ?_
  have hif:=Z9p h
  refine AOps.split (fun hc=>?_) (fun hc=>?_)
  ·have h:=hif.1 hc
   refine AOps.consT I I I I (Z1h I I) I<|AOps.consT I I I I (Z8o (b:=0) (c:=(v6.2==0)) I I I I) I<|AOps.cons I (Z8i I I I) I<|AOps.cons I (Z1h I I) I ?_
   have hif:=Z9p h
   refine AOps.split (fun hc=>?_) (fun hc=>?_)
   ·have h:=hif.1 hc
    refine AOps.consT I I I I (Z1h I I) I<|AOps.consT I I I I (Z8k (l:=v6.1) (enc:=Z21) I s69 I) I<|AOps.consT I I I I (Z8o (b:=2) (c:=((v6.1.length:Int)==2)) I I I I) I<|AOps.cons I (Z8i I I I) I<|AOps.cons I (Z1h I I) I ?_
    have hif:=Z9p h
    refine AOps.split (fun hc=>?_) (fun hc=>?_)
    ·have h:=hif.1 hc
     refine AOps.consT I I I I (Z1h I I) I ?_
     have⟨hg9,h⟩:=Zg h
     refine AOps.consT I I I I (Zrh (k:=.i64) (l:=v6.1) (enc:=Z21) (z:=Z23) (n:=1) (full:=false) I s69 I I hg9 I) I<|AOps.consT I I I I (Zil I a170 I I I) I<|AOps.consT I I I I (Z1i (vs:=[(0,(.int .i64 2)),(1,(.int .i64 90))]) I st170 ⟨I,I,I,I,J0⟩ I) I<|AOps.consT I I I I (Zme (xs:=(Z21 (v6.1.getD (1:Int).toNat Z23)).cells) (ys:=[(.int .i64 2),(.int .i64 90)]) (b:=(((v6.1.getD (1:Int).toNat Z23).Clock==2)&&(((v6.1.getD (1:Int).toNat Z23).Value==90)&&true))) (c:=(((v6.1.getD (1:Int).toNat Z23).Clock==2)&&(((v6.1.getD (1:Int).toNat Z23).Value==90)&&true))) I eq170 I I I I) I<|AOps.cons I (Z8i I I I) I<|AOps.cons I (Zh I I) I<|AOps.nil ?_
     exact Z5r (J8 _ h) ⟨I,J0⟩ trivial
    have h:=hif.2 hc
    iterate 5 refine AOps.consF I I I I I I I ?_
    refine AOps.cons I (Z40 (v:=(.bool false)) I I I) I<|AOps.cons I (Zh (v:=(.bool false)) I I) I<|AOps.nil ?_
    exact Z5r (J8 _ h) ⟨I,J0⟩ trivial
   have h:=hif.2 hc
   refine AOps.consF I I I I I I I<|AOps.consF I I I I I I I<|AOps.consF I I I I I I I<|AOps.cons I (Z40 (v:=(.bool false)) I I I) I<|AOps.cons I (Z1h (v:=(.bool false)) I I) I ?_
   iterate 5 refine AOps.consF I I I I I I I ?_
   refine AOps.cons I (Z40 (v:=(.bool false)) I I I) I<|AOps.cons I (Zh (v:=(.bool false)) I I) I<|AOps.nil ?_
   exact Z5r (J8 _ h) ⟨I,J0⟩ trivial
  have h:=hif.2 hc
  refine AOps.consF I I I I I I I<|AOps.consF I I I I I I I<|AOps.cons I (Z40 (v:=(.bool false)) I I I) I<|AOps.cons I (Z1h (v:=(.bool false)) I I) I<|AOps.consF I I I I I I I<|AOps.consF I I I I I I I<|AOps.consF I I I I I I I<|AOps.cons I (Z40 (v:=(.bool false)) I I I) I<|AOps.cons I (Z1h (v:=(.bool false)) I I) I ?_
  iterate 5 refine AOps.consF I I I I I I I ?_
  refine AOps.cons I (Z40 (v:=(.bool false)) I I I) I<|AOps.cons I (Zh (v:=(.bool false)) I I) I<|AOps.nil ?_
  exact Z5r (J8 _ h) ⟨I,J0⟩ trivial
 have h:=hif.2 hc
 refine AOps.consF I I I I I I I<|AOps.consF I I I I I I I<|AOps.consF I I I I I I I<|AOps.cons I (Z40 (v:=(.bool false)) I I I) I<|AOps.cons I (Z1h (v:=(.bool false)) I I) I<|AOps.consF I I I I I I I<|AOps.consF I I I I I I I<|AOps.cons I (Z40 (v:=(.bool false)) I I I) I<|AOps.cons I (Z1h (v:=(.bool false)) I I) I<|AOps.consF I I I I I I I<|AOps.consF I I I I I I I<|AOps.consF I I I I I I I<|AOps.cons I (Z40 (v:=(.bool false)) I I I) I<|AOps.cons I (Z1h (v:=(.bool false)) I I) I ?_
 iterate 5 refine AOps.consF I I I I I I I ?_
 refine AOps.cons I (Z40 (v:=(.bool false)) I I I) I<|AOps.cons I (Zh (v:=(.bool false)) I I) I<|AOps.nil ?_
 exact Z5r (J8 _ h) ⟨I,J0⟩ trivial
noncomputable def F7 (K:Nat):Option (Bool) :=
 (F45 K).bind fun v2 =>
 some v2
theorem F7_ok (K:Nat) (r:Bool) (h:F7 K=some r):ACall P 7 ⟨[],[],(.bool r),[],[]⟩:=by
 refine ac Tryz.func7 Tryz.results7 Tryz.ntmps7 fun w0 F0 p0 S0 β0 Q hret=>?_
 dsimp only [argT]
 unfold F7 at h
 refine G1 h fun h=>?_
 have⟨v2,hv2,h⟩:=Zd h
 refine oc (Z15 Tryz.call45 (F45_ok (h:=hv2))) ?_
 exact GR
def Zrw (_K:Nat) (a0:Zc):Option (Bool) :=
 if (decide ((a0.Trees.length:Int)≤3))=true then
 some (decide ((a0.Syncs.length:Int)≤6))
 else
 some false
def Zoz (K:Nat) (a0:Zc) (c4:Option (Bool)):Nat→Int→Option (Bool)
 | 0,_=>none
 | k2+1,v1 =>
 if (decide (v1<(a0.Trees.length:Int)))=true then
 if (0:Int)≤v1∧v1<a0.Trees.length then
 if (decide (((a0.Trees.getD v1.toNat Zf).Calls.length:Int) > 8))=true then
 some false
 else
 (Zoz K a0 c4 k2) (IntKind.i64.wrap (v1+1))
 else none
 else
 c4
def F8 (K:Nat) (a0:Zc):Option (Bool) :=
 Zoz K a0 (Zrw K a0) K 0
theorem F8_ok (K:Nat) (a0:Zc) (r:Bool) (h:F8 K a0=some r):ACall P 8 ⟨[(Z1r a0)],[],(.bool r),[],[]⟩:=by
 refine ac Tryz.func8 Tryz.results8 Tryz.ntmps8 fun w0 F0 p0 S0 β0 Q hret=>?_
 dsimp only [argT]
 unfold F8 at h
 refine G1 h fun h=>?_
 refine lb (V:=Int) (X:=Unit) (v:=_) (fun k v=>Zoz K a0 (Zrw K a0) k v=some r) (fun v=>Zrw K a0=some r) [(1,_)] [(1,_)] [(1,_)] [(1,_)] (fun v t=>(3,(.int .i64 v))::t) (fun v s=>s) (fun v t=>t) (fun v s=>s) h ?_ ?_
 ·intro v h
  try dsimp only at h ⊢
  unfold Zrw at h
  refine Ms h (fun h=>?_) (fun h=>?_)
  ·exact GR
  exact GR
 intro N k2 v h IH2 J2
 revert h
 revert v
 intro v1 h
 try dsimp only at h IH2 J2 ⊢
 cases k2 with
 | zero=>cases h
 | succ k2 =>
  rw [Zoz] at h
  refine Mc h (fun h=>?_) (fun h=>?_)
  ·refine AWp.skip<|At.next<|AWp.seq<|AWp.block ?_
   refine Mc h (fun h=>?_) (fun h=>?_)
   ·exact GR
   refine AWp.skip<|Z17<|At.next ?_
   exact M2 h (k:=fun h=>wkx (IH2 _ _ Z1p h))
  refine AWp.exit<|Zz ?_
  exact wkx (J2 () h)
def F64 (_K:Nat) (a0:Zc) (a1:Int):Option (Int) :=
 if (0:Int)≤a1∧a1<a0.Trees.length then
 if (0:Int)≤20 then
 some (IntKind.i64.wrap ((IntKind.i64.wrap ((IntKind.i64.wrap ((IntKind.i64.wrap ((a0.Trees.getD a1.toNat Zf).Slot.tmod 64)) * 2 ^ (min (20:Int).toNat IntKind.i64.bits)))+1))+a1))
 else none
 else none
theorem F64_ok (K:Nat) (a0:Zc) (a1:Int) (r:Int) (h:F64 K a0 a1=some r):ACall P 64 ⟨[(Z1r a0),(.int .i64 a1)],[],(.int .i64 r),[],[]⟩:=by
 refine ac Tryz.func64 Tryz.results64 Tryz.ntmps64 fun w0 F0 p0 S0 β0 Q hret=>?_
 dsimp only [argT]
 unfold F64 at h
 refine G1 h fun h=>?_
 refine oc (Z2s (b:=64) (c:=((a0.Trees.getD a1.toNat Zf).Slot.tmod 64)) rfl rfl rfl rfl (by decide)) ?_
 refine oc (Z2l rfl us5 u3 rfl) ?_
 have⟨hg2,h⟩:=Zg h
 refine oc (Zrj (k:=.i64) (j:=.u64) (a:=(IntKind.i64.wrap ((a0.Trees.getD a1.toNat Zf).Slot.tmod 64))) (b:=20) (c:=(IntKind.i64.wrap ((IntKind.i64.wrap ((a0.Trees.getD a1.toNat Zf).Slot.tmod 64)) * 2 ^ (min (20:Int).toNat IntKind.i64.bits)))) rfl rfl rfl rfl hg2) ?_
 exact GR
def F199 (_K:Nat) (a0:Z1c):Option (Int) :=
 some (IntKind.i64.wrap (1+(IntKind.i64.wrap (a0.Kind.tmod 5))))
theorem Zov (K:Nat) (a0:Z1c) (r:Int) (h:F199 K a0=some r):ACall P 199 ⟨[(Z2z a0)],[],(.int .i64 r),[],[]⟩:=by
 refine ac Tryz.func199 Tryz.results199 Tryz.ntmps199 fun w0 F0 p0 S0 β0 Q hret=>?_
 dsimp only [argT]
 unfold F199 at h
 refine G1 h fun h=>?_
 refine oc (Z2s (b:=5) (c:=(a0.Kind.tmod 5)) rfl rfl rfl rfl (by decide)) ?_
 refine oc (Z2l rfl us5 u3 rfl) ?_
 exact GR
def Z6x (_K:Nat) (v5:(List Int)) (v12:(List Int)):Option ((List Int)×(List Int)) :=
 some (v5,v12)
def Za7 (_K:Nat) (b15:Int→(List Int)→Option ((List Int)×(List Int))) (v9:Int) (v20:(List Int)):Option ((List Int)×(List Int)) :=
 b15 (IntKind.i64.wrap (v9 - 1)) v20
def Z5v (K:Nat) (a0:Zk) (v9:Int) (v10:(List Int)) (b15:Int→(List Int)→Option ((List Int)×(List Int))) (v18:Bool):Option ((List Int)×(List Int)) :=
 if v18=true then
 if (0:Int)≤((IntKind.i64.wrap (a0.Calls.getD v9.toNat Za).Parent).tmod (IntKind.i64.wrap (v9+1)))∧((IntKind.i64.wrap (a0.Calls.getD v9.toNat Za).Parent).tmod (IntKind.i64.wrap (v9+1)))<(v10.length:Nat) then
 if ((IntKind.i64.wrap (a0.Calls.getD v9.toNat Za).Parent).tmod (IntKind.i64.wrap (v9+1))).toNat<v10.length then
 if (0:Int)≤v9∧v9<(v10.length:Nat) then
 if v9.toNat<v10.length then
 if (0:Int)≤((IntKind.i64.wrap (a0.Calls.getD v9.toNat Za).Parent).tmod (IntKind.i64.wrap (v9+1)))∧((IntKind.i64.wrap (a0.Calls.getD v9.toNat Za).Parent).tmod (IntKind.i64.wrap (v9+1)))<(v10.length:Nat) then
 if ((IntKind.i64.wrap (a0.Calls.getD v9.toNat Za).Parent).tmod (IntKind.i64.wrap (v9+1))).toNat<v10.length then
 Za7 K b15 v9 (v10.set ((IntKind.i64.wrap (a0.Calls.getD v9.toNat Za).Parent).tmod (IntKind.i64.wrap (v9+1))).toNat (if (v10.getD v9.toNat 0) > (v10.getD ((IntKind.i64.wrap (a0.Calls.getD v9.toNat Za).Parent).tmod (IntKind.i64.wrap (v9+1))).toNat 0) then (v10.getD v9.toNat 0) else (v10.getD ((IntKind.i64.wrap (a0.Calls.getD v9.toNat Za).Parent).tmod (IntKind.i64.wrap (v9+1))).toNat 0)))
 else none
 else none
 else none
 else none
 else none
 else none
 else
 Za7 K b15 v9 v10
def Z3o (K:Nat) (a0:Zk) (c14:(List Int)→Option ((List Int)×(List Int))):Nat→Int→(List Int)→Option ((List Int)×(List Int))
 | 0,_,_=>none
 | k11+1,v9,v10 =>
 if (decide (v9 > 0))=true then
 if (0:Int)≤v9∧v9<a0.Calls.length then
 if (IntKind.i64.wrap (v9+1))≠0 then
 if (decide (((IntKind.i64.wrap (a0.Calls.getD v9.toNat Za).Parent).tmod (IntKind.i64.wrap (v9+1)))<v9))=true then
 if (0:Int)≤v9∧v9<a0.Calls.length then
 (F199 K (a0.Calls.getD v9.toNat Za)).bind fun v30 =>
 if (v30==3)=true then
 if (0:Int)≤((IntKind.i64.wrap (a0.Calls.getD v9.toNat Za).Parent).tmod (IntKind.i64.wrap (v9+1)))∧((IntKind.i64.wrap (a0.Calls.getD v9.toNat Za).Parent).tmod (IntKind.i64.wrap (v9+1)))<a0.Calls.length then
 (F199 K (a0.Calls.getD ((IntKind.i64.wrap (a0.Calls.getD v9.toNat Za).Parent).tmod (IntKind.i64.wrap (v9+1))).toNat Za)).bind fun v33 =>
 if (v33==2)=true then
 if (0:Int)≤((IntKind.i64.wrap (a0.Calls.getD v9.toNat Za).Parent).tmod (IntKind.i64.wrap (v9+1)))∧((IntKind.i64.wrap (a0.Calls.getD v9.toNat Za).Parent).tmod (IntKind.i64.wrap (v9+1)))<a0.Calls.length then
 Z5v K a0 v9 v10 (Z3o K a0 c14 k11) (!(a0.Calls.getD ((IntKind.i64.wrap (a0.Calls.getD v9.toNat Za).Parent).tmod (IntKind.i64.wrap (v9+1))).toNat Za).Fail)
 else none
 else
 Z5v K a0 v9 v10 (Z3o K a0 c14 k11) false
 else none
 else
 Z5v K a0 v9 v10 (Z3o K a0 c14 k11) false
 else none
 else
 Z5v K a0 v9 v10 (Z3o K a0 c14 k11) false
 else none
 else none
 else
 c14 v10
def Z8y (K:Nat) (a0:Zk) (v5:(List Int)) (v6:(List Int)):Option ((List Int)×(List Int)) :=
 Z3o K a0 (Z6x K v5) K (IntKind.i64.wrap ((a0.Calls.length:Int) - 1)) v6
def Za9 (_K:Nat) (v2:(List Int)) (v3:(List Int)) (a0:Zk) (v1:Int) (b35:Int→(List Int)→(List Int)→Option ((List Int)×(List Int))) (v40:Int):Option ((List Int)×(List Int)) :=
 if v2.length+[v40].length≤1073741824 then
 if v3.length+[(IntKind.i64.wrap (v40+(IntKind.i64.wrap ((a0.Calls.getD v1.toNat Za).Long.tmod 32))))].length≤1073741824 then
 b35 (IntKind.i64.wrap (v1+1)) (v2++[v40]) (v3++[(IntKind.i64.wrap (v40+(IntKind.i64.wrap ((a0.Calls.getD v1.toNat Za).Long.tmod 32))))])
 else none
 else none
def Za8 (K:Nat) (v1:Int) (v2:(List Int)) (v3:(List Int)) (a0:Zk) (b35:Int→(List Int)→(List Int)→Option ((List Int)×(List Int))) (v38:Int):Option ((List Int)×(List Int)) :=
 if (decide (v1 > 0))=true then
 Za9 K v2 v3 a0 v1 b35 (IntKind.i64.wrap (v38+(IntKind.i64.wrap ((a0.Calls.getD v1.toNat Za).Wait.tmod 32))))
 else
 Za9 K v2 v3 a0 v1 b35 v38
def Z5p (K:Nat) (a0:Zk) (c8:(List Int)→(List Int)→Option ((List Int)×(List Int))):Nat→Int→(List Int)→(List Int)→Option ((List Int)×(List Int))
 | 0,_,_,_=>none
 | k4+1,v1,v2,v3 =>
 if (decide (v1<(a0.Calls.length:Int)))=true then
 if (0:Int)≤v1∧v1<a0.Calls.length then
 if (IntKind.i64.wrap (v1+1))≠0 then
 if (decide (((IntKind.i64.wrap (a0.Calls.getD v1.toNat Za).Parent).tmod (IntKind.i64.wrap (v1+1)))<v1))=true then
 if (0:Int)≤((IntKind.i64.wrap (a0.Calls.getD v1.toNat Za).Parent).tmod (IntKind.i64.wrap (v1+1)))∧((IntKind.i64.wrap (a0.Calls.getD v1.toNat Za).Parent).tmod (IntKind.i64.wrap (v1+1)))<(v2.length:Nat) then
 if ((IntKind.i64.wrap (a0.Calls.getD v1.toNat Za).Parent).tmod (IntKind.i64.wrap (v1+1))).toNat<v2.length then
 Za8 K v1 v2 v3 a0 (Z5p K a0 c8 k4) (v2.getD ((IntKind.i64.wrap (a0.Calls.getD v1.toNat Za).Parent).tmod (IntKind.i64.wrap (v1+1))).toNat 0)
 else none
 else none
 else
 Za8 K v1 v2 v3 a0 (Z5p K a0 c8 k4) (IntKind.i64.wrap (1000+(IntKind.i64.wrap (a0.Start.tmod 32))))
 else none
 else none
 else
 c8 v2 v3
def F138 (K:Nat) (a0:Zk):Option ((List Int)×(List Int)) :=
 Z5p K a0 (Z8y K a0) K 0 [] []
theorem F138_ok (K:Nat) (a0:Zk) (r:(List Int)×(List Int)) (h:F138 K a0=some r):ACall P 138 ⟨[(Z3f a0)],[],(.tup [(.sl 1 (r.1.map Z7) false),(.sl 1 (r.2.map Z7) false)]),[],[]⟩:=by
 refine ac Tryz.func138 Tryz.results138 Tryz.ntmps138 fun w0 F0 p0 S0 β0 Q hret=>?_
 dsimp only [argT]
 unfold F138 at h
 refine G1 h fun h=>?_
 refine oc (Zh (v:=(.sl 1 [] true)) rfl rfl) ?_
 refine oc (Zh (v:=(.sl 1 [] true)) rfl rfl) ?_
 refine G1 h fun h=>?_
 refine AWp.ghost (fun a w h=>gk ⟨[(1,_),(2,_),(3,_),(4,_)],[(1,_),(2,_),(3,_)]⟩ (Z38 (k:=3) (m:=3) (sz:=1) (gk ⟨[(3,_),(1,_),(2,_),(4,_)],[(1,_),(2,_)]⟩ (gk ⟨[(1,_),(2,_),(3,_),(4,_)],[(1,_),(2,_)]⟩ (Z38 (k:=2) (m:=2) (sz:=1) (gk ⟨[(2,_),(1,_),(3,_),(4,_)],[(1,_)]⟩ h)))))) ?_
 refine lb (V:=Int×(List Int)×(List Int)) (X:=(List Int)×(List Int)) (v:=(_,_,_)) (fun k v=>Z5p K a0 (Z8y K a0) k v.1 v.2.1 v.2.2=some r) (fun v=>Z8y K a0 v.1 v.2=some r) [(1,_),(2,_),(3,_)] [(1,_)] [(1,_),(2,_),(3,_)] [(1,_)] (fun v t=>(4,(.int .i64 v.1))::t) (fun v s=>(2,(.vec 1 (List.map Z7 v.2.1)))::(3,(.vec 1 (List.map Z7 v.2.2)))::s) (fun v t=>t) (fun v s=>(2,(.vec 1 (List.map Z7 v.1)))::(3,(.vec 1 (List.map Z7 v.2)))::s) h ?_ ?_
 ·intro v h
  obtain⟨v5,v6⟩:=v
  try dsimp only at h ⊢
  unfold Z8y at h
  refine G1 h fun h=>?_
  refine lb (V:=Int×(List Int)) (X:=(List Int)) (v:=(_,_)) (fun k v=>Z3o K a0 (Z6x K v5) k v.1 v.2=some r) (fun v=>Z6x K v5 v=some r) [(1,_),(2,_),(3,_)] [(1,_),(2,_)] [(2,_),(3,_)] [(2,_)] (fun v t=>(8,(.int .i64 v.1))::t) (fun v s=>(3,(.vec 1 (List.map Z7 v.2)))::s) (fun v t=>t) (fun v s=>(3,(.vec 1 (List.map Z7 v)))::s) h ?_ ?_
  ·intro v h
   revert h
   revert v
   intro v12 h
   try dsimp only at h ⊢
   unfold Z6x at h
   refine G1 h fun h=>?_
   refine AWp.ret<|At.ghost (fun a w h=>gk ⟨[(2,_),(3,_)],[]⟩ (Z1j (m:=3) (sz:=1) (gk ⟨[(2,_),(3,_)],[(3,_)]⟩ (gk ⟨[(2,(.sl 1 (v5.map Z7) false)),(3,(.vs 3))],[(3,(.vec 1 (List.map Z7 v12)))]⟩ (Z1j (m:=2) (sz:=1) (gk ⟨[(2,_),(3,_)],[(2,_),(3,_)]⟩ h)))))) ?_
   exact RT
  intro N k11 v h IH11 J11
  obtain⟨v9,v10⟩:=v
  try dsimp only at h IH11 J11 ⊢
  cases k11 with
  | zero=>cases h
  | succ k11 =>
   rw [Z3o] at h
   refine Mc h (fun h=>?_) (fun h=>?_)
   ·refine AWp.skip<|At.next<|AWp.seq<|AWp.block ?_
    refine G1 h fun h=>?_
    refine oc (Z2l rfl us5 u3 rfl) ?_
    refine G1 h fun h=>?_
    have⟨hg17,h⟩:=Zg h
    refine oc (Z2s (c:=((IntKind.i64.wrap (a0.Calls.getD v9.toNat Za).Parent).tmod (IntKind.i64.wrap (v9+1)))) rfl rfl rfl rfl hg17) ?_
    refine G2 h fun h=>?_
    refine At.next<|AWp.seq ?_
    refine jn (V:=Bool) (fun v=>Z5v K a0 v9 v10 (Z3o K a0 (Z6x K v5) k11) v=some r) [(1,_),(2,_),(3,_),(8,_),(9,_)] [(1,_),(2,_),(3,_)] (fun v t=>(108,(.bool v))::t) (fun v s=>s) ?_ ?_
    ·intro v h
     revert h
     revert v
     intro v18 h
     try dsimp only at h ⊢
     unfold Z5v at h
     refine At.next ?_
     refine jn (V:=(List Int)) (fun v=>Za7 K (Z3o K a0 (Z6x K v5) k11) v9 v=some r) [(1,_),(2,_),(3,_),(8,_)] [(1,_),(2,_)] (fun v t=>t) (fun v s=>(3,(.vec 1 (List.map Z7 v)))::s) ?_ ?_
     ·intro v h
      revert h
      revert v
      intro v20 h
      try dsimp only at h ⊢
      unfold Za7 at h
      refine Z17<|At.next ?_
      exact M2 h (k:=fun h=>wkx (IH11 _ (_,_) Z1p h))
     intro J21
     refine cnd h (fun h=>?_) (fun h=>?_)
     ·refine G1 h fun h=>?_
      refine oD (st_max (k:=.i64) (a:=(v10.getD ((IntKind.i64.wrap (a0.Calls.getD v9.toNat Za).Parent).tmod (IntKind.i64.wrap (v9+1))).toNat 0)) (b:=(v10.getD v9.toNat 0)) rfl rfl rfl) ?_
      refine G1 h fun h=>?_
      have⟨hg27,h⟩:=Zg h
      refine oD (Z4u (l:=v10) (enc:=Z7) (z:=0) (a:=(if (v10.getD v9.toNat 0) > (v10.getD ((IntKind.i64.wrap (a0.Calls.getD v9.toNat Za).Parent).tmod (IntKind.i64.wrap (v9+1))).toNat 0) then (v10.getD v9.toNat 0) else (v10.getD ((IntKind.i64.wrap (a0.Calls.getD v9.toNat Za).Parent).tmod (IntKind.i64.wrap (v9+1))).toNat 0))) (v:=(.int .i64 (if (v10.getD v9.toNat 0) > (v10.getD ((IntKind.i64.wrap (a0.Calls.getD v9.toNat Za).Parent).tmod (IntKind.i64.wrap (v9+1))).toNat 0) then (v10.getD v9.toNat 0) else (v10.getD ((IntKind.i64.wrap (a0.Calls.getD v9.toNat Za).Parent).tmod (IntKind.i64.wrap (v9+1))).toNat 0)))) sz3 rfl rfl hg27 rfl Z1u rfl rfl rfl rfl) ?_
      refine AOpsE.nil (by kernel_rfl) I ?_
      exact wkx (J21 _ h)
     refine AWp.skip ?_
     exact wkx (J21 _ h)
    intro J19
    refine Ms h (fun h=>?_) (fun h=>?_)
    ·refine G1 h fun h=>?_
     have⟨v30,hv30,h⟩:=Zd h
     refine oT (Z15 Tryz.call199 (Zov (h:=hv30))) ?_
     refine Ms h (fun h=>?_) (fun h=>?_)
     ·refine G1 h fun h=>?_
      have⟨v33,hv33,h⟩:=Zd h
      refine oT (Z15 Tryz.call199 (Zov (h:=hv33))) ?_
      refine Ms h (fun h=>?_) (fun h=>?_)
      ·exact M2 h (k:=fun h=>wkx (J19 _ h))
      exact M2 h (k:=fun h=>wkx (J19 _ h))
     exact M2 h (k:=fun h=>wkx (J19 _ h))
    exact M2 h (k:=fun h=>wkx (J19 _ h))
   refine AWp.exit<|Zz ?_
   exact wkx (J11 _ h)
 intro N k4 v h IH4 J4
 obtain⟨v1,v2,v3⟩:=v
 try dsimp only at h IH4 J4 ⊢
 cases k4 with
 | zero=>cases h
 | succ k4 =>
  rw [Z5p] at h
  refine Mc h (fun h=>?_) (fun h=>?_)
  ·refine AWp.skip<|At.next<|AWp.seq<|AWp.block ?_
   refine G1 h fun h=>?_
   refine oc (Zm (ds:=_)) ?_
   refine G1 h fun h=>?_
   refine oc (Z2s (b:=32) (c:=(a0.Start.tmod 32)) rfl rfl rfl rfl (by decide)) ?_
   refine oc (Z2l rfl us5 u3 rfl) ?_
   refine G1 h fun h=>?_
   refine oc (Z2l rfl us5 u3 rfl) ?_
   refine G1 h fun h=>?_
   have⟨hg37,h⟩:=Zg h
   refine oc (Z2s (c:=((IntKind.i64.wrap (a0.Calls.getD v1.toNat Za).Parent).tmod (IntKind.i64.wrap (v1+1)))) rfl rfl rfl rfl hg37) ?_
   refine G1 h fun h=>?_
   refine jn (V:=Int) (fun v=>Za8 K v1 v2 v3 a0 (Z5p K a0 (Z8y K a0) k4) v=some r) [(1,_),(2,_),(3,_),(4,_),(5,_)] [(1,_),(2,_),(3,_),(5,_)] (fun v t=>(6,(.int .i64 v))::t) (fun v s=>s) ?_ ?_
   ·intro v h
    revert h
    revert v
    intro v38 h
    try dsimp only at h ⊢
    unfold Za8 at h
    refine G1 h fun h=>?_
    refine jn (V:=Int) (fun v=>Za9 K v2 v3 a0 v1 (Z5p K a0 (Z8y K a0) k4) v=some r) [(1,_),(2,_),(3,_),(4,_),(5,_)] [(1,_),(2,_),(3,_),(5,_)] (fun v t=>(6,(.int .i64 v))::t) (fun v s=>s) ?_ ?_
    ·intro v h
     revert h
     revert v
     intro v40 h
     try dsimp only at h ⊢
     unfold Za9 at h
     refine G1 h fun h=>?_
     refine oD (Zj (vs:=[_]) (enc:=Z7) (l:=[v40]) rfl Z65 rfl rfl ⟨rfl,trivial⟩ rfl Z1u rfl rfl rfl rfl) ?_
     have⟨hg42,h⟩:=Zg h
     refine oD (Z1g (m:=2) rfl rfl Z65 rfl u38 rfl rfl rfl rfl (oneRead rfl) Z1u hg42) ?_
     refine G1 h fun h=>?_
     refine oD (Z2s (b:=32) (c:=((a0.Calls.getD v1.toNat Za).Long.tmod 32)) rfl rfl rfl rfl (by decide)) ?_
     refine oD (Z2l rfl us5 u3 rfl) ?_
     refine G1 h fun h=>?_
     refine oD (Zj (vs:=[_]) (enc:=Z7) (l:=[(IntKind.i64.wrap (v40+(IntKind.i64.wrap ((a0.Calls.getD v1.toNat Za).Long.tmod 32))))]) rfl Z65 rfl rfl ⟨rfl,trivial⟩ rfl Z1u rfl rfl rfl rfl) ?_
     have⟨hg43,h⟩:=Zg h
     refine oD (Z1g (m:=3) rfl rfl Z65 rfl u38 rfl rfl rfl rfl (oneRead rfl) Z1u hg43) ?_
     refine G2 h fun h=>?_
     refine Z17<|At.next ?_
     exact M2 h (k:=fun h=>wkx (IH4 _ (_,_,_) Z1p h))
    intro J41
    refine cnd h (fun h=>?_) (fun h=>?_)
    ·refine G1 h fun h=>?_
     refine oc (Z2s (b:=32) (c:=((a0.Calls.getD v1.toNat Za).Wait.tmod 32)) rfl rfl rfl rfl (by decide)) ?_
     refine oc (Z2l rfl us5 u3 rfl) ?_
     exact M2 h (k:=fun h=>wkx (J41 _ h))
    refine AWp.skip ?_
    exact wkx (J41 _ h)
   intro J39
   refine cnd h (fun h=>?_) (fun h=>?_)
   ·exact M2 h (k:=fun h=>wkx (J39 _ h))
   refine AWp.skip ?_
   exact wkx (J39 _ h)
  refine AWp.exit<|Zz ?_
  exact wkx (J4 (_,_) h)
def F200 (_K:Nat) (a0:Z1c):Option ((List Z10)) :=
 if (0:Int)≤((IntKind.u8.wrap (a0.Tag.tdiv 8)).tmod 3)∧((IntKind.u8.wrap (a0.Tag.tdiv 8)).tmod 3)<(([[97],[98],[119,101,115,116,32,49]]:List Str).length:Nat) then
 if ((IntKind.u8.wrap (a0.Tag.tdiv 8)).tmod 3).toNat<([[97],[98],[119,101,115,116,32,49]]:List Str).length then
 if (0:Int)≤0∧0≤(a0.Tag.tmod 4)∧(a0.Tag.tmod 4)≤(([(⟨[111,107],(⟨3,[],(IntKind.i64.wrap ((IntKind.u8.wrap (a0.Tag.tdiv 4)).tmod 2))⟩:Z1e)⟩:Z10),(⟨[115,105,122,101],(⟨2,[],(IntKind.i64.wrap ((IntKind.i64.wrap a0.Tag) - 100))⟩:Z1e)⟩:Z10),(⟨[122,111,110,101],(⟨1,(([[97],[98],[119,101,115,116,32,49]]:List Str).getD ((IntKind.u8.wrap (a0.Tag.tdiv 8)).tmod 3).toNat []),0⟩:Z1e)⟩:Z10)]).length:Nat) then
 if (0+(0:Int).toNat)+((a0.Tag.tmod 4).toNat - (0:Int).toNat)≤([(⟨[111,107],(⟨3,[],(IntKind.i64.wrap ((IntKind.u8.wrap (a0.Tag.tdiv 4)).tmod 2))⟩:Z1e)⟩:Z10),(⟨[115,105,122,101],(⟨2,[],(IntKind.i64.wrap ((IntKind.i64.wrap a0.Tag) - 100))⟩:Z1e)⟩:Z10),(⟨[122,111,110,101],(⟨1,(([[97],[98],[119,101,115,116,32,49]]:List Str).getD ((IntKind.u8.wrap (a0.Tag.tdiv 8)).tmod 3).toNat []),0⟩:Z1e)⟩:Z10)]).length then
 some ((([(⟨[111,107],(⟨3,[],(IntKind.i64.wrap ((IntKind.u8.wrap (a0.Tag.tdiv 4)).tmod 2))⟩:Z1e)⟩:Z10),(⟨[115,105,122,101],(⟨2,[],(IntKind.i64.wrap ((IntKind.i64.wrap a0.Tag) - 100))⟩:Z1e)⟩:Z10),(⟨[122,111,110,101],(⟨1,(([[97],[98],[119,101,115,116,32,49]]:List Str).getD ((IntKind.u8.wrap (a0.Tag.tdiv 8)).tmod 3).toNat []),0⟩:Z1e)⟩:Z10)]).drop (0+(0:Int).toNat)).take ((a0.Tag.tmod 4).toNat - (0:Int).toNat))
 else none
 else none
 else none
 else none
theorem F200_ok (K:Nat) (a0:Z1c) (r:(List Z10)) (h:F200 K a0=some r):ACall P 200 ⟨[(Z2z a0)],[],(.sl 4 (r.map Z24) false),[],[]⟩:=by
 refine ac Tryz.func200 Tryz.results200 Tryz.ntmps200 fun w0 F0 p0 S0 β0 Q hret=>?_
 dsimp only [argT]
 unfold F200 at h
 refine G1 h fun h=>?_
 refine oc (Zh (v:=(.sl 4 [] false)) rfl rfl) ?_
 refine G1 h fun h=>?_
 refine oD (Z2s (b:=4) (c:=(IntKind.u8.wrap (a0.Tag.tdiv 4))) rfl rfl rfl rfl (by decide)) ?_
 refine oD (Z2s (b:=2) (c:=((IntKind.u8.wrap (a0.Tag.tdiv 4)).tmod 2)) rfl rfl rfl rfl (by decide)) ?_
 refine oD (Z2l rfl us5 u3 rfl) ?_
 refine oD (Z1i (vs:=[(0,(.int .i64 3)),(2,(.int .i64 (IntKind.i64.wrap ((IntKind.u8.wrap (a0.Tag.tdiv 4)).tmod 2))))]) rfl st340 ⟨rfl,rfl,rfl,rfl,trivial⟩ rfl) ?_
 refine oD (Z1i (vs:=[(0,(.str [111,107])),(1,(.ag [(.int .i64 3),(.str []),(.int .i64 (IntKind.i64.wrap ((IntKind.u8.wrap (a0.Tag.tdiv 4)).tmod 2)))]))]) rfl st342 ⟨rfl,rfl,rfl,rfl,trivial⟩ rfl) ?_
 refine G1 h fun h=>?_
 refine oD (Z2l rfl us5 u3 rfl) ?_
 refine G1 h fun h=>?_
 refine oD (Z1i (vs:=[(0,(.int .i64 2)),(2,(.int .i64 (IntKind.i64.wrap ((IntKind.i64.wrap a0.Tag) - 100))))]) rfl st340 ⟨rfl,rfl,rfl,rfl,trivial⟩ rfl) ?_
 refine oD (Z1i (vs:=[(0,(.str [115,105,122,101])),(1,(.ag [(.int .i64 2),(.str []),(.int .i64 (IntKind.i64.wrap ((IntKind.i64.wrap a0.Tag) - 100)))]))]) rfl st342 ⟨rfl,rfl,rfl,rfl,trivial⟩ rfl) ?_
 refine oD (Zj (vs:=[(.str [97]),(.str [98]),(.str [119,101,115,116,32,49])]) (enc:=e_str) (l:=([[97],[98],[119,101,115,116,32,49]]:List Str)) rfl el332 rfl rfl ⟨rfl,rfl,rfl,trivial⟩ rfl Zlu rfl rfl rfl rfl) ?_
 refine G1 h fun h=>?_
 refine oD (Z2s (b:=8) (c:=(IntKind.u8.wrap (a0.Tag.tdiv 8))) rfl rfl rfl rfl (by decide)) ?_
 refine oD (Z2s (b:=3) (c:=((IntKind.u8.wrap (a0.Tag.tdiv 8)).tmod 3)) rfl rfl rfl rfl (by decide)) ?_
 refine G1 h fun h=>?_
 refine oD (Z1i (vs:=[(0,(.int .i64 1)),(1,(.str (([[97],[98],[119,101,115,116,32,49]]:List Str).getD ((IntKind.u8.wrap (a0.Tag.tdiv 8)).tmod 3).toNat [])))]) rfl st340 ⟨rfl,rfl,rfl,rfl,trivial⟩ rfl) ?_
 refine oD (Z1i (vs:=[(0,(.str [122,111,110,101])),(1,(.ag [(.int .i64 1),(.str (([[97],[98],[119,101,115,116,32,49]]:List Str).getD ((IntKind.u8.wrap (a0.Tag.tdiv 8)).tmod 3).toNat [])),(.int .i64 0)]))]) rfl st342 ⟨rfl,rfl,rfl,rfl,trivial⟩ rfl) ?_
 refine oD (Zj (vs:=[_,_,_]) (enc:=Z24) (l:=[(⟨[111,107],(⟨3,[],(IntKind.i64.wrap ((IntKind.u8.wrap (a0.Tag.tdiv 4)).tmod 2))⟩:Z1e)⟩:Z10),(⟨[115,105,122,101],(⟨2,[],(IntKind.i64.wrap ((IntKind.i64.wrap a0.Tag) - 100))⟩:Z1e)⟩:Z10),(⟨[122,111,110,101],(⟨1,(([[97],[98],[119,101,115,116,32,49]]:List Str).getD ((IntKind.u8.wrap (a0.Tag.tdiv 8)).tmod 3).toNat []),0⟩:Z1e)⟩:Z10)]) rfl el91 rfl rfl ⟨rfl,rfl,rfl,trivial⟩ rfl Z89 rfl rfl rfl rfl) ?_
 refine G1 h fun h=>?_
 refine oc (Z2s (b:=4) (c:=(a0.Tag.tmod 4)) rfl rfl rfl rfl (by decide)) ?_
 have⟨hg3,h⟩:=Zg h
 have⟨hg4,h⟩:=Zg h
 refine oc (Z3i (v:=(.vs 26)) (n:=26) (off:=0) (len:=([(⟨[111,107],(⟨3,[],(IntKind.i64.wrap ((IntKind.u8.wrap (a0.Tag.tdiv 4)).tmod 2))⟩:Z1e)⟩:Z10),(⟨[115,105,122,101],(⟨2,[],(IntKind.i64.wrap ((IntKind.i64.wrap a0.Tag) - 100))⟩:Z1e)⟩:Z10),(⟨[122,111,110,101],(⟨1,(([[97],[98],[119,101,115,116,32,49]]:List Str).getD ((IntKind.u8.wrap (a0.Tag.tdiv 8)).tmod 3).toNat []),0⟩:Z1e)⟩:Z10)]).length) (l:=([(⟨[111,107],(⟨3,[],(IntKind.i64.wrap ((IntKind.u8.wrap (a0.Tag.tdiv 4)).tmod 2))⟩:Z1e)⟩:Z10),(⟨[115,105,122,101],(⟨2,[],(IntKind.i64.wrap ((IntKind.i64.wrap a0.Tag) - 100))⟩:Z1e)⟩:Z10),(⟨[122,111,110,101],(⟨1,(([[97],[98],[119,101,115,116,32,49]]:List Str).getD ((IntKind.u8.wrap (a0.Tag.tdiv 8)).tmod 3).toNat []),0⟩:Z1e)⟩:Z10)])) (enc:=Z24) (kh:=.u8) (hi:=(a0.Tag.tmod 4)) rfl s91 rfl rfl (Z31 _ _ _) rfl hg3 rfl) ?_
 refine G1 h fun h=>?_
 refine AWp.ret<|At.ghost (st':=⟨[(2,(.sl 4 (((([(⟨[111,107],(⟨3,[],(IntKind.i64.wrap ((IntKind.u8.wrap (a0.Tag.tdiv 4)).tmod 2))⟩:Z1e)⟩:Z10),(⟨[115,105,122,101],(⟨2,[],(IntKind.i64.wrap ((IntKind.i64.wrap a0.Tag) - 100))⟩:Z1e)⟩:Z10),(⟨[122,111,110,101],(⟨1,(([[97],[98],[119,101,115,116,32,49]]:List Str).getD ((IntKind.u8.wrap (a0.Tag.tdiv 8)).tmod 3).toNat []),0⟩:Z1e)⟩:Z10)]).drop (0+(0:Int).toNat)).take ((a0.Tag.tmod 4).toNat - (0:Int).toNat)).map Z24) false))],[]⟩) (fun a w h=>(Z28 _ (Z1j (m:=26) (sz:=4) (gk ⟨[(2,_)],[(26,_)]⟩ h)) ⟨(congrArg some (frz_sub hg4)),J0⟩ J0)) ?_
 have h:=Option.some.inj h
 subst h
 refine (hret _ ?_).1
 exact⟨[(.sl 4 (((([(⟨[111,107],(⟨3,[],(IntKind.i64.wrap ((IntKind.u8.wrap (a0.Tag.tdiv 4)).tmod 2))⟩:Z1e)⟩:Z10),(⟨[115,105,122,101],(⟨2,[],(IntKind.i64.wrap ((IntKind.i64.wrap a0.Tag) - 100))⟩:Z1e)⟩:Z10),(⟨[122,111,110,101],(⟨1,(([[97],[98],[119,101,115,116,32,49]]:List Str).getD ((IntKind.u8.wrap (a0.Tag.tdiv 8)).tmod 3).toNat []),0⟩:Z1e)⟩:Z10)]).drop (0+(0:Int).toNat)).take ((a0.Tag.tmod 4).toNat - (0:Int).toNat)).map Z24) false)],⟨I,J0⟩,I,J0⟩
def Zaa (K:Nat) (a0:Zc) (a1:Int) (a2:Int) (v16:Z2) (v20:(List Zr)):Option (Z2) :=
 (F200 K ((a0.Trees.getD a1.toNat Zf).Calls.getD a2.toNat Za)).bind fun v23 =>
 some (⟨v16.Trace,v16.Id,v16.Parent,v16.Revision,v16.Clock,v16.Kind,v16.Service,v16.Version,v16.Operation,v16.Start,v16.End,v16.Error,v23,v20⟩:Z2)
def Z82 (K:Nat) (a0:Zc) (a1:Int) (a2:Int) (a3:(List Int)) (v16:Z2):Option (Z2) :=
 if (decide ((IntKind.i64.wrap (((a0.Trees.getD a1.toNat Zf).Calls.getD a2.toNat Za).Link.tmod 16))<a2))=true then
 if (0:Int)≤(IntKind.i64.wrap (((a0.Trees.getD a1.toNat Zf).Calls.getD a2.toNat Za).Link.tmod 16))∧(IntKind.i64.wrap (((a0.Trees.getD a1.toNat Zf).Calls.getD a2.toNat Za).Link.tmod 16))<a3.length then
 if (0:Int)≤a2∧a2<a3.length then
 if (decide ((a3.getD (IntKind.i64.wrap (((a0.Trees.getD a1.toNat Zf).Calls.getD a2.toNat Za).Link.tmod 16)).toNat 0)≤(a3.getD a2.toNat 0)))=true then
 Zaa K a0 a1 a2 v16 [(⟨v16.Trace,(IntKind.i64.wrap ((IntKind.i64.wrap (((a0.Trees.getD a1.toNat Zf).Calls.getD a2.toNat Za).Link.tmod 16))+1))⟩:Zr)]
 else
 Zaa K a0 a1 a2 v16 v16.Links
 else none
 else none
 else
 (F200 K ((a0.Trees.getD a1.toNat Zf).Calls.getD a2.toNat Za)).bind fun v25 =>
 some (⟨v16.Trace,v16.Id,v16.Parent,v16.Revision,v16.Clock,v16.Kind,v16.Service,v16.Version,v16.Operation,v16.Start,v16.End,v16.Error,v25,v16.Links⟩:Z2)
def F139 (K:Nat) (a0:Zc) (a1:Int) (a2:Int) (a3:(List Int)) (a4:(List Int)):Option (Z2) :=
 if (0:Int)≤a1∧a1<a0.Trees.length then
 if (0:Int)≤a2∧a2<(a0.Trees.getD a1.toNat Zf).Calls.length then
 (F64 K a0 a1).bind fun v4 =>
 (F199 K ((a0.Trees.getD a1.toNat Zf).Calls.getD a2.toNat Za)).bind fun v6 =>
 if (0:Int)≤a2∧a2<a3.length then
 if (0:Int)≤a2∧a2<a4.length then
 if (0:Int)≤(((a0.Trees.getD a1.toNat Zf).Calls.getD a2.toNat Za).Service.tmod 4)∧(((a0.Trees.getD a1.toNat Zf).Calls.getD a2.toNat Za).Service.tmod 4)<(([[97,112,105],[100,98],[119,101,98],[99,97,99,104,101]]:List Str).length:Nat) then
 if (((a0.Trees.getD a1.toNat Zf).Calls.getD a2.toNat Za).Service.tmod 4).toNat<([[97,112,105],[100,98],[119,101,98],[99,97,99,104,101]]:List Str).length then
 if (0:Int)≤(((a0.Trees.getD a1.toNat Zf).Calls.getD a2.toNat Za).Version.tmod 3)∧(((a0.Trees.getD a1.toNat Zf).Calls.getD a2.toNat Za).Version.tmod 3)<(([[118,49],[118,50],[]]:List Str).length:Nat) then
 if (((a0.Trees.getD a1.toNat Zf).Calls.getD a2.toNat Za).Version.tmod 3).toNat<([[118,49],[118,50],[]]:List Str).length then
 if (0:Int)≤(((a0.Trees.getD a1.toNat Zf).Calls.getD a2.toNat Za).Operation.tmod 3)∧(((a0.Trees.getD a1.toNat Zf).Calls.getD a2.toNat Za).Operation.tmod 3)<(([[103,101,116],[112,117,116],[108,105,115,116]]:List Str).length:Nat) then
 if (((a0.Trees.getD a1.toNat Zf).Calls.getD a2.toNat Za).Operation.tmod 3).toNat<([[103,101,116],[112,117,116],[108,105,115,116]]:List Str).length then
 if (IntKind.i64.wrap (a2+1))≠0 then
 if (decide (((IntKind.i64.wrap ((a0.Trees.getD a1.toNat Zf).Calls.getD a2.toNat Za).Parent).tmod (IntKind.i64.wrap (a2+1)))<a2))=true then
 Z82 K a0 a1 a2 a3 (⟨v4,(IntKind.i64.wrap (a2+1)),(IntKind.i64.wrap (((IntKind.i64.wrap ((a0.Trees.getD a1.toNat Zf).Calls.getD a2.toNat Za).Parent).tmod (IntKind.i64.wrap (a2+1)))+1)),0,(IntKind.i64.wrap (1+(IntKind.i64.wrap (((a0.Trees.getD a1.toNat Zf).Calls.getD a2.toNat Za).Clock.tmod 4)))),v6,(([[97,112,105],[100,98],[119,101,98],[99,97,99,104,101]]:List Str).getD (((a0.Trees.getD a1.toNat Zf).Calls.getD a2.toNat Za).Service.tmod 4).toNat []),(([[118,49],[118,50],[]]:List Str).getD (((a0.Trees.getD a1.toNat Zf).Calls.getD a2.toNat Za).Version.tmod 3).toNat []),(([[103,101,116],[112,117,116],[108,105,115,116]]:List Str).getD (((a0.Trees.getD a1.toNat Zf).Calls.getD a2.toNat Za).Operation.tmod 3).toNat []),(a3.getD a2.toNat 0),(a4.getD a2.toNat 0),((a0.Trees.getD a1.toNat Zf).Calls.getD a2.toNat Za).Fail,[],[]⟩:Z2)
 else
 if (decide (a2 > 0))=true then
 Z82 K a0 a1 a2 a3 (⟨v4,(IntKind.i64.wrap (a2+1)),100,0,(IntKind.i64.wrap (1+(IntKind.i64.wrap (((a0.Trees.getD a1.toNat Zf).Calls.getD a2.toNat Za).Clock.tmod 4)))),v6,(([[97,112,105],[100,98],[119,101,98],[99,97,99,104,101]]:List Str).getD (((a0.Trees.getD a1.toNat Zf).Calls.getD a2.toNat Za).Service.tmod 4).toNat []),(([[118,49],[118,50],[]]:List Str).getD (((a0.Trees.getD a1.toNat Zf).Calls.getD a2.toNat Za).Version.tmod 3).toNat []),(([[103,101,116],[112,117,116],[108,105,115,116]]:List Str).getD (((a0.Trees.getD a1.toNat Zf).Calls.getD a2.toNat Za).Operation.tmod 3).toNat []),(a3.getD a2.toNat 0),(a4.getD a2.toNat 0),((a0.Trees.getD a1.toNat Zf).Calls.getD a2.toNat Za).Fail,[],[]⟩:Z2)
 else
 Z82 K a0 a1 a2 a3 (⟨v4,(IntKind.i64.wrap (a2+1)),0,0,(IntKind.i64.wrap (1+(IntKind.i64.wrap (((a0.Trees.getD a1.toNat Zf).Calls.getD a2.toNat Za).Clock.tmod 4)))),v6,(([[97,112,105],[100,98],[119,101,98],[99,97,99,104,101]]:List Str).getD (((a0.Trees.getD a1.toNat Zf).Calls.getD a2.toNat Za).Service.tmod 4).toNat []),(([[118,49],[118,50],[]]:List Str).getD (((a0.Trees.getD a1.toNat Zf).Calls.getD a2.toNat Za).Version.tmod 3).toNat []),(([[103,101,116],[112,117,116],[108,105,115,116]]:List Str).getD (((a0.Trees.getD a1.toNat Zf).Calls.getD a2.toNat Za).Operation.tmod 3).toNat []),(a3.getD a2.toNat 0),(a4.getD a2.toNat 0),((a0.Trees.getD a1.toNat Zf).Calls.getD a2.toNat Za).Fail,[],[]⟩:Z2)
 else none
 else none
 else none
 else none
 else none
 else none
 else none
 else none
 else none
 else none
 else none
theorem F139_ok (K:Nat) (a0:Zc) (a1:Int) (a2:Int) (a3:(List Int)) (a4:(List Int)) (r:Z2) (h:F139 K a0 a1 a2 a3 a4=some r):ACall P 139 ⟨[(Z1r a0),(.int .i64 a1),(.int .i64 a2),(.sl 1 (a3.map Z7) false),(.sl 1 (a4.map Z7) false)],[],(Zb r),[],[]⟩:=by
 refine ac Tryz.func139 Tryz.results139 Tryz.ntmps139 fun w0 F0 p0 S0 β0 Q hret=>?_
 dsimp only [argT]
 unfold F139 at h
 refine G1 h fun h=>?_
 refine oc (Z2a rfl z94 rfl rfl rfl) ?_
 refine G1 h fun h=>?_
 refine oc (Zm (ds:=_)) ?_
 refine G1 h fun h=>?_
 have⟨v4,hv4,h⟩:=Zd h
 refine oD (Z15 Tryz.call64 (F64_ok (h:=hv4))) ?_
 refine G1 h fun h=>?_
 refine oD (Z2s (k:=.u8) (a:=((a0.Trees.getD a1.toNat Zf).Calls.getD a2.toNat Za).Clock) (b:=4) (c:=(((a0.Trees.getD a1.toNat Zf).Calls.getD a2.toNat Za).Clock.tmod 4)) rfl rfl rfl rfl (by decide)) ?_
 refine oD (Z2l rfl us5 u3 rfl) ?_
 refine G1 h fun h=>?_
 have⟨v6,hv6,h⟩:=Zd h
 refine oD (Z15 Tryz.call199 (Zov (h:=hv6))) ?_
 refine G1 h fun h=>?_
 refine oD (Z1i (vs:=[(0,(.int .i64 v4)),(1,(.int .i64 (IntKind.i64.wrap (a2+1)))),(4,(.int .i64 (IntKind.i64.wrap (1+(IntKind.i64.wrap (((a0.Trees.getD a1.toNat Zf).Calls.getD a2.toNat Za).Clock.tmod 4)))))),(5,(.int .i64 v6)),(11,(.bool ((a0.Trees.getD a1.toNat Zf).Calls.getD a2.toNat Za).Fail)),(9,(.int .i64 (a3.getD a2.toNat 0))),(10,(.int .i64 (a4.getD a2.toNat 0)))]) (cs:=[(.int .i64 v4),(.int .i64 (IntKind.i64.wrap (a2+1))),(.int .i64 0),(.int .i64 0),(.int .i64 (IntKind.i64.wrap (1+(IntKind.i64.wrap (((a0.Trees.getD a1.toNat Zf).Calls.getD a2.toNat Za).Clock.tmod 4))))),(.int .i64 v6),(.str []),(.str []),(.str []),(.int .i64 (a3.getD a2.toNat 0)),(.int .i64 (a4.getD a2.toNat 0)),(.bool ((a0.Trees.getD a1.toNat Zf).Calls.getD a2.toNat Za).Fail),(.sl 4 [] false),(.sl 2 [] false)]) rfl st94 ⟨rfl,rfl,rfl,rfl,rfl,rfl,rfl,rfl,rfl,rfl,rfl,rfl,rfl,rfl,trivial⟩ rfl) ?_
 refine oD (Z2a rfl z94 rfl rfl rfl) ?_
 refine oD (Zm (ds:=[_,_,_,_,_,_,_,_,_,_,_,_,_,_])) ?_
 refine G1 h fun h=>?_
 refine oc (Zj (vs:=[(.str [97,112,105]),(.str [100,98]),(.str [119,101,98]),(.str [99,97,99,104,101])]) (enc:=e_str) (l:=([[97,112,105],[100,98],[119,101,98],[99,97,99,104,101]]:List Str)) rfl el332 rfl rfl ⟨rfl,rfl,rfl,rfl,trivial⟩ rfl Zlu rfl rfl rfl rfl) ?_
 refine G1 h fun h=>?_
 refine oc (Z2s (k:=.u8) (a:=((a0.Trees.getD a1.toNat Zf).Calls.getD a2.toNat Za).Service) (b:=4) (c:=(((a0.Trees.getD a1.toNat Zf).Calls.getD a2.toNat Za).Service.tmod 4)) rfl rfl rfl rfl (by decide)) ?_
 refine G1 h fun h=>?_
 refine oc (Zm (ds:=[_,_,_,_,_,_,_,_,_,_,_,_,_,_])) ?_
 refine G1 h fun h=>?_
 refine oc (Zj (vs:=[(.str [118,49]),(.str [118,50]),(.str [])]) (enc:=e_str) (l:=([[118,49],[118,50],[]]:List Str)) rfl el332 rfl rfl ⟨rfl,rfl,rfl,trivial⟩ rfl Zlu rfl rfl rfl rfl) ?_
 refine G1 h fun h=>?_
 refine oc (Z2s (k:=.u8) (a:=((a0.Trees.getD a1.toNat Zf).Calls.getD a2.toNat Za).Version) (b:=3) (c:=(((a0.Trees.getD a1.toNat Zf).Calls.getD a2.toNat Za).Version.tmod 3)) rfl rfl rfl rfl (by decide)) ?_
 refine G1 h fun h=>?_
 refine oc (Zm (ds:=[_,_,_,_,_,_,_,_,_,_,_,_,_,_])) ?_
 refine G1 h fun h=>?_
 refine oc (Zj (vs:=[(.str [103,101,116]),(.str [112,117,116]),(.str [108,105,115,116])]) (enc:=e_str) (l:=([[103,101,116],[112,117,116],[108,105,115,116]]:List Str)) rfl el332 rfl rfl ⟨rfl,rfl,rfl,trivial⟩ rfl Zlu rfl rfl rfl rfl) ?_
 refine G1 h fun h=>?_
 refine oc (Z2s (k:=.u8) (a:=((a0.Trees.getD a1.toNat Zf).Calls.getD a2.toNat Za).Operation) (b:=3) (c:=(((a0.Trees.getD a1.toNat Zf).Calls.getD a2.toNat Za).Operation.tmod 3)) rfl rfl rfl rfl (by decide)) ?_
 refine G1 h fun h=>?_
 refine oc (Zm (ds:=[_,_,_,_,_,_,_,_,_,_,_,_,_,_])) ?_
 refine G1 h fun h=>?_
 refine oc (Z2l rfl us5 u3 rfl) ?_
 refine G1 h fun h=>?_
 have⟨hg15,h⟩:=Zg h
 refine oc (Z2s (k:=.i64) (a:=(IntKind.i64.wrap ((a0.Trees.getD a1.toNat Zf).Calls.getD a2.toNat Za).Parent)) (b:=(IntKind.i64.wrap (a2+1))) (c:=((IntKind.i64.wrap ((a0.Trees.getD a1.toNat Zf).Calls.getD a2.toNat Za).Parent).tmod (IntKind.i64.wrap (a2+1)))) rfl rfl rfl rfl hg15) ?_
 refine G1 h fun h=>?_
 refine jn (V:=Z2) (fun v=>Z82 K a0 a1 a2 a3 v=some r) [(2,_),(3,_),(10,_),(11,_),(12,_)] [(10,_),(11,_)] (fun v t=>t) (fun v s=>(12,(.box (Zb v).cells))::s) ?_ ?_
 ·intro v h
  revert h
  revert v
  intro v16 h
  try dsimp only at h ⊢
  unfold Z82 at h
  refine G1 h fun h=>?_
  refine oc (Z2s (k:=.u8) (a:=((a0.Trees.getD a1.toNat Zf).Calls.getD a2.toNat Za).Link) (b:=16) (c:=(((a0.Trees.getD a1.toNat Zf).Calls.getD a2.toNat Za).Link.tmod 16)) rfl rfl rfl rfl (by decide)) ?_
  refine oc (Z2l rfl us5 u3 rfl) ?_
  refine M1 h (k:=fun h=>splD h (fun h=>?_) (fun h=>?_))
  ·refine G1 h fun h=>?_
   refine jn (V:=(List Zr)) (fun v=>Zaa K a0 a1 a2 v16 v=some r) [(10,_),(11,_),(12,_)] [(10,_),(11,_)] (fun v t=>t) (fun v s=>(12,(.box [(.int .i64 v16.Trace),(.int .i64 v16.Id),(.int .i64 v16.Parent),(.int .i64 v16.Revision),(.int .i64 v16.Clock),(.int .i64 v16.Kind),(.str v16.Service),(.str v16.Version),(.str v16.Operation),(.int .i64 v16.Start),(.int .i64 v16.End),(.bool v16.Error),(.sl 4 (v16.Attrs.map Z24) false),(.sl 2 (v.map Z1x) false)]))::s) ?_ ?_
   ·intro v h
    revert h
    revert v
    intro v20 h
    try dsimp only at h ⊢
    unfold Zaa at h
    refine G1 h fun h=>?_
    have⟨v23,hv23,h⟩:=Zd h
    refine oc (Z15 Tryz.call200 (F200_ok (h:=hv23))) ?_
    refine G1 h fun h=>?_
    refine oc (Zm (ds:=[_,_,_,_,_,_,_,_,_,_,_,_,_,_])) ?_
    refine G1 h fun h=>?_
    refine oc (Zm (ds:=[_,_,_,_,_,_,_,_,_,_,_,_,_,_])) ?_
    refine AOps.nil<|At.next<|AWp.ret ?_
    have h:=Option.some.inj h
    subst h
    refine (hret _ ?_).1
    exact⟨[(.ag [(.int .i64 v16.Trace),(.int .i64 v16.Id),(.int .i64 v16.Parent),(.int .i64 v16.Revision),(.int .i64 v16.Clock),(.int .i64 v16.Kind),(.str v16.Service),(.str v16.Version),(.str v16.Operation),(.int .i64 v16.Start),(.int .i64 v16.End),(.bool v16.Error),(.sl 4 (v23.map Z24) false),(.sl 2 (v20.map Z1x) false)])],⟨⟨10,_,I,I,.inr ⟨_,a94,I,I⟩⟩,J0⟩,I,J0⟩
   intro J21
   refine cnd h (fun h=>?_) (fun h=>?_)
   ·refine G1 h fun h=>?_
    refine oc (Z1i (vs:=[(0,(.int .i64 v16.Trace)),(1,(.int .i64 (IntKind.i64.wrap ((IntKind.i64.wrap (((a0.Trees.getD a1.toNat Zf).Calls.getD a2.toNat Za).Link.tmod 16))+1))))]) (cs:=[(.int .i64 v16.Trace),(.int .i64 (IntKind.i64.wrap ((IntKind.i64.wrap (((a0.Trees.getD a1.toNat Zf).Calls.getD a2.toNat Za).Link.tmod 16))+1)))]) rfl st57 ⟨rfl,rfl,rfl,rfl,trivial⟩ rfl) ?_
    refine oc (Zj (vs:=[_]) (enc:=Z1x) (l:=[(⟨v16.Trace,(IntKind.i64.wrap ((IntKind.i64.wrap (((a0.Trees.getD a1.toNat Zf).Calls.getD a2.toNat Za).Link.tmod 16))+1))⟩:Zr)]) rfl el92 rfl rfl ⟨rfl,trivial⟩ rfl Z9j rfl rfl rfl rfl) ?_
    refine G1 h fun h=>?_
    refine oc (Zm (ds:=[_,_,_,_,_,_,_,_,_,_,_,_,_,_])) ?_
    refine AOps.nil<|At.ghost (fun a w h=>gk ⟨[(10,_),(11,_),(12,_)],[(10,_),(11,_),(12,_)]⟩ (Z1j (m:=106) (sz:=2) (gk ⟨[(10,_),(11,_),(12,_)],[(106,_),(10,_),(11,_),(12,_)]⟩ h))) ?_
    exact wkx (J21 [_] h)
   refine AWp.skip ?_
   exact wkx (J21 _ h)
  refine G1 h fun h=>?_
  refine AWp.cond (b:=false) I (fun hc=>?_) (fun hc=>?_)
  ·cases hc
  refine G1 h fun h=>?_
  have⟨v25,hv25,h⟩:=Zd h
  refine oc (Z15 Tryz.call200 (F200_ok (h:=hv25))) ?_
  refine G1 h fun h=>?_
  refine oc (Zm (ds:=[_,_,_,_,_,_,_,_,_,_,_,_,_,_])) ?_
  refine G1 h fun h=>?_
  refine oc (Zm (ds:=[_,_,_,_,_,_,_,_,_,_,_,_,_,_])) ?_
  refine AOps.nil<|At.next<|AWp.ret ?_
  have h:=Option.some.inj h
  subst h
  refine (hret _ ?_).1
  exact⟨[(.ag [(.int .i64 v16.Trace),(.int .i64 v16.Id),(.int .i64 v16.Parent),(.int .i64 v16.Revision),(.int .i64 v16.Clock),(.int .i64 v16.Kind),(.str v16.Service),(.str v16.Version),(.str v16.Operation),(.int .i64 v16.Start),(.int .i64 v16.End),(.bool v16.Error),(.sl 4 (v25.map Z24) false),(.sl 2 (v16.Links.map Z1x) false)])],⟨⟨10,_,I,I,.inr ⟨_,a94,I,I⟩⟩,J0⟩,I,J0⟩
 intro J17
 refine cnd h (fun h=>?_) (fun h=>?_)
 ·refine G1 h fun h=>?_
  refine oc (Zm (ds:=[_,_,_,_,_,_,_,_,_,_,_,_,_,_])) ?_
  refine AOps.nil ?_
  exact wkx (J17 _ h)
 refine Mc h (fun h=>?_) (fun h=>?_)
 ·refine G1 h fun h=>?_
  refine oc (Zm (ds:=[_,_,_,_,_,_,_,_,_,_,_,_,_,_])) ?_
  refine AOps.nil ?_
  exact wkx (J17 _ h)
 refine AWp.skip ?_
 exact wkx (J17 _ h)
def F74 (_K:Nat) (a0:Zc) (a1:Int):Option (Int) :=
 if (0:Int)≤((IntKind.u64.wrap ((IntKind.u64.wrap a1)+3)).tmod 4)∧((IntKind.u64.wrap ((IntKind.u64.wrap a1)+3)).tmod 4)<(4:Nat) then
 some ((IntKind.i64.wrap (([a0.Offsets.e0,a0.Offsets.e1,a0.Offsets.e2,a0.Offsets.e3]:List Int).getD ((IntKind.u64.wrap ((IntKind.u64.wrap a1)+3)).tmod 4).toNat 0)).tmod 21)
 else none
theorem F74_ok (K:Nat) (a0:Zc) (a1:Int) (r:Int) (h:F74 K a0 a1=some r):ACall P 74 ⟨[(Z1r a0),(.int .i64 a1)],[],(.int .i64 r),[],[]⟩:=by
 refine ac Tryz.func74 Tryz.results74 Tryz.ntmps74 fun w0 F0 p0 S0 β0 Q hret=>?_
 dsimp only [argT]
 unfold F74 at h
 refine G1 h fun h=>?_
 refine oc (Z2l rfl us3 u241 rfl) ?_
 refine G1 h fun h=>?_
 refine oc (Z2s (b:=4) (c:=((IntKind.u64.wrap ((IntKind.u64.wrap a1)+3)).tmod 4)) rfl rfl rfl rfl (by decide)) ?_
 refine G1 h fun h=>?_
 refine AOps.ghost (fun a w h=>gk ⟨[(4,_),(8,_),(9,_)],[]⟩ (Z3h (m:=2) (cs:=(Z1r a0).cells) I a w (gk ⟨[(4,_),(8,_),(9,_)],[(2,_)]⟩ h))) ?_
 have⟨hg1,h⟩:=Zg h
 refine oc (Z7w (k:=.u64) (j:=((IntKind.u64.wrap ((IntKind.u64.wrap a1)+3)).tmod 4)) (l:=[a0.Offsets.e0,a0.Offsets.e1,a0.Offsets.e2,a0.Offsets.e3]) (enc:=e_i8) (z:=0) (ds:=[(.int .i8 (([a0.Offsets.e0,a0.Offsets.e1,a0.Offsets.e2,a0.Offsets.e3]:List Int).getD ((IntKind.u64.wrap ((IntKind.u64.wrap a1)+3)).tmod 4).toNat 0))]) rfl u24 sz23 rfl rfl rfl rfl els_i8 hg1 rfl) ?_
 refine G1 h fun h=>?_
 refine oc (Z2l rfl us23 u3 rfl) ?_
 refine oc (Z2s (b:=21) (c:=((IntKind.i64.wrap (([a0.Offsets.e0,a0.Offsets.e1,a0.Offsets.e2,a0.Offsets.e3]:List Int).getD ((IntKind.u64.wrap ((IntKind.u64.wrap a1)+3)).tmod 4).toNat 0)).tmod 21)) rfl rfl rfl rfl (by decide)) ?_
 exact GR
def Zf2 (_K:Nat) (v7:(List Z2)):Option ((List Z2)) :=
 some v7
def Zha (_K:Nat) (v5:(List Z2)) (b10:Int→(List Z2)→Option ((List Z2))) (v4:Int) (v14:Z2):Option ((List Z2)) :=
 if v5.length+[v14].length≤1073741824 then
 b10 (IntKind.i64.wrap (v4+1)) (v5++[v14])
 else none
def Ze9 (K:Nat) (v5:(List Z2)) (b10:Int→(List Z2)→Option ((List Z2))) (v4:Int) (v13:Z2) (v21:Int):Option ((List Z2)) :=
 Zha K v5 b10 v4 (⟨v13.Trace,v13.Id,v13.Parent,v13.Revision,v13.Clock,v13.Kind,v13.Service,v13.Version,v13.Operation,(IntKind.i64.wrap (v13.Start+v21)),(IntKind.i64.wrap (v13.End+v21)),v13.Error,v13.Attrs,v13.Links⟩:Z2)
def Zc0 (K:Nat) (v5:(List Z2)) (b10:Int→(List Z2)→Option ((List Z2))) (v4:Int) (v13:Z2) (v18:Int) (v19:Bool):Option ((List Z2)) :=
 if v19=true then
 Ze9 K v5 b10 v4 v13 (IntKind.i64.wrap (v18+500))
 else
 Ze9 K v5 b10 v4 v13 v18
def Z6i (K:Nat) (a1:Int) (a0:Zc) (v3:(List Int)×(List Int)) (a2:Bool) (c9:(List Z2)→Option ((List Z2))):Nat→Int→(List Z2)→Option ((List Z2))
 | 0,_,_=>none
 | k6+1,v4,v5 =>
 if (0:Int)≤a1∧a1<a0.Trees.length then
 if (decide (v4<((a0.Trees.getD a1.toNat Zf).Calls.length:Int)))=true then
 (F139 K a0 a1 v4 v3.1 v3.2).bind fun v13 =>
 if (!a2)=true then
 (F74 K a0 v13.Clock).bind fun v18 =>
 if (decide (a0.Wrong > 0))=true then
 if (((IntKind.i64.wrap a0.Wrong).tmod 8)==v4)=true then
 Zc0 K v5 (Z6i K a1 a0 v3 a2 c9 k6) v4 v13 v18 (((IntKind.i64.wrap ((IntKind.i64.wrap a0.Wrong).tdiv 8)).tmod 3)==a1)
 else
 Zc0 K v5 (Z6i K a1 a0 v3 a2 c9 k6) v4 v13 v18 false
 else
 Zc0 K v5 (Z6i K a1 a0 v3 a2 c9 k6) v4 v13 v18 false
 else
 Zha K v5 (Z6i K a1 a0 v3 a2 c9 k6) v4 v13
 else
 c9 v5
 else none
def F65 (K:Nat) (a0:Zc) (a1:Int) (a2:Bool):Option ((List Z2)) :=
 if (0:Int)≤a1∧a1<a0.Trees.length then
 (F138 K (a0.Trees.getD a1.toNat Zf)).bind fun v3 =>
 Z6i K a1 a0 v3 a2 (Zf2 K) K 0 []
 else none
theorem F65_ok (K:Nat) (a0:Zc) (a1:Int) (a2:Bool) (r:(List Z2)) (h:F65 K a0 a1 a2=some r):ACall P 65 ⟨[(Z1r a0),(.int .i64 a1),(.bool a2)],[],(.sl 14 (r.map Zb) false),[],[]⟩:=by
 refine ac Tryz.func65 Tryz.results65 Tryz.ntmps65 fun w0 F0 p0 S0 β0 Q hret=>?_
 dsimp only [argT]
 unfold F65 at h
 refine G1 h fun h=>?_
 refine oc (Zh (v:=(.sl 14 [] false)) rfl rfl) ?_
 refine G1 h fun h=>?_
 refine oc (Zh (v:=(.sl 14 [] true)) rfl rfl) ?_
 refine G1 h fun h=>?_
 have⟨v3,hv3,h⟩:=Zd h
 refine oc (Z15 Tryz.call138 (F138_ok (h:=hv3))) ?_
 refine G1 h fun h=>?_
 refine AWp.ghost (fun a w h=>gk ⟨[(1,_),(2,_),(3,_),(7,_),(8,_),(9,_),(10,_)],[(3,_),(7,_)]⟩ (Z38 (k:=7) (m:=7) (sz:=14) (gk ⟨[(7,_),(1,_),(2,_),(3,_),(8,_),(9,_),(10,_)],[(3,_)]⟩ h))) ?_
 refine lb (V:=Int×(List Z2)) (X:=(List Z2)) (v:=(_,_)) (fun k v=>Z6i K a1 a0 v3 a2 (Zf2 K) k v.1 v.2=some r) (fun v=>Zf2 K v=some r) [(1,_),(2,_),(3,_),(7,_),(8,_),(9,_)] [(3,_)] [(7,_)] [] (fun v t=>(10,(.int .i64 v.1))::t) (fun v s=>(7,(.vec 14 (List.map Zb v.2)))::s) (fun v t=>t) (fun v s=>(7,(.vec 14 (List.map Zb v)))::s) h ?_ ?_
 ·intro v h
  revert h
  revert v
  intro v7 h
  try dsimp only at h ⊢
  unfold Zf2 at h
  refine G1 h fun h=>?_
  refine AWp.ret<|At.ghost (fun a w h=>gk ⟨[(6,_)],[]⟩ (Z1j (m:=7) (sz:=14) (gk ⟨[(6,_)],[(7,_)]⟩ h))) ?_
  exact RT
 intro N k6 v h IH6 J6
 obtain⟨v4,v5⟩:=v
 try dsimp only at h IH6 J6 ⊢
 cases k6 with
 | zero=>cases h
 | succ k6 =>
  rw [Z6i] at h
  refine Mc h (fun h=>?_) (fun h=>?_)
  ·refine AWp.skip<|At.next<|AWp.seq<|AWp.block ?_
   refine G1 h fun h=>?_
   have⟨v13,hv13,h⟩:=Zd h
   refine oc (Z15 Tryz.call139 (F139_ok (h:=hv13))) ?_
   refine oc (Z2a rfl z94 rfl rfl rfl) ?_
   refine oc (Zm (ds:=_)) ?_
   refine G1 h fun h=>?_
   refine jn (V:=Z2) (fun v=>Zha K v5 (Z6i K a1 a0 v3 a2 (Zf2 K) k6) v4 v=some r) [(1,_),(2,_),(3,_),(7,_),(8,_),(9,_),(10,_),(11,_)] [(3,_),(7,_)] (fun v t=>t) (fun v s=>(11,(.box (Zb v).cells))::s) ?_ ?_
   ·intro v h
    revert h
    revert v
    intro v14 h
    try dsimp only at h ⊢
    unfold Zha at h
    refine G1 h fun h=>?_
    refine oc (Zj (vs:=[_]) (enc:=Zb) (l:=[v14]) rfl Zlr rfl rfl ⟨rfl,trivial⟩ rfl Z1t rfl rfl rfl rfl) ?_
    have⟨hg16,h⟩:=Zg h
    refine oc (Z1g (m:=7) rfl rfl Zlr rfl u47 rfl rfl rfl rfl (oneRead rfl) Z1t hg16) ?_
    refine G2 h fun h=>?_
    refine Z17<|At.next ?_
    exact M2 h (k:=fun h=>wkx (IH6 _ (_,_) Z1p h))
   intro J15
   refine cnd h (fun h=>?_) (fun h=>?_)
   ·refine G1 h fun h=>?_
    have⟨v18,hv18,h⟩:=Zd h
    refine oc (Z15 Tryz.call74 (F74_ok (h:=hv18))) ?_
    refine G2 h fun h=>?_
    refine At.next<|AWp.seq<|AWp.seq ?_
    refine jn (V:=Bool) (fun v=>Zc0 K v5 (Z6i K a1 a0 v3 a2 (Zf2 K) k6) v4 v13 v18 v=some r) [(1,_),(2,_),(3,_),(7,_),(8,_),(9,_),(10,_),(11,_),(12,_)] [(3,_),(7,_),(11,_)] (fun v t=>(64,(.bool v))::t) (fun v s=>s) ?_ ?_
    ·intro v h
     revert h
     revert v
     intro v19 h
     try dsimp only at h ⊢
     unfold Zc0 at h
     refine At.next ?_
     refine jn (V:=Int) (fun v=>Ze9 K v5 (Z6i K a1 a0 v3 a2 (Zf2 K) k6) v4 v13 v=some r) [(1,_),(2,_),(3,_),(7,_),(8,_),(9,_),(10,_),(11,_)] [(3,_),(7,_),(11,_)] (fun v t=>(12,(.int .i64 v))::t) (fun v s=>s) ?_ ?_
     ·intro v h
      revert h
      revert v
      intro v21 h
      try dsimp only at h ⊢
      unfold Ze9 at h
      refine G1 h fun h=>?_
      refine oc (Zm (ds:=[_,_,_,_,_,_,_,_,_,_,_,_,_,_])) ?_
      refine G1 h fun h=>?_
      refine oc (Zm (ds:=[_,_,_,_,_,_,_,_,_,_,_,_,_,_])) ?_
      refine AOps.nil ?_
      exact wkx (J15 _ h)
     intro J22
     refine cnd h (fun h=>?_) (fun h=>?_)
     ·exact M2 h (k:=fun h=>wkx (J22 _ h))
     refine AWp.skip ?_
     exact wkx (J22 _ h)
    intro J20
    refine Ms h (fun h=>?_) (fun h=>?_)
    ·refine G1 h fun h=>?_
     refine oT (Z2l rfl us5 u3 rfl) ?_
     refine oT (Z2s (b:=8) (c:=((IntKind.i64.wrap a0.Wrong).tmod 8)) rfl rfl rfl rfl (by decide)) ?_
     refine Ms h (fun h=>?_) (fun h=>?_)
     ·refine G1 h fun h=>?_
      refine oT (Z2l rfl us5 u3 rfl) ?_
      refine oT (Z2s (b:=8) (c:=(IntKind.i64.wrap ((IntKind.i64.wrap a0.Wrong).tdiv 8))) rfl rfl rfl rfl (by decide)) ?_
      refine oT (Z2s (b:=3) (c:=((IntKind.i64.wrap ((IntKind.i64.wrap a0.Wrong).tdiv 8)).tmod 3)) rfl rfl rfl rfl (by decide)) ?_
      exact M2 h (k:=fun h=>wkx (J20 _ h))
     exact M2 h (k:=fun h=>wkx (J20 _ h))
    exact M2 h (k:=fun h=>wkx (J20 _ h))
   refine AWp.skip ?_
   exact wkx (J15 _ h)
  refine AWp.exit<|Zz ?_
  exact wkx (J6 _ h)
def Zew (_K:Nat) (v4:(List Zy)):Option ((List Zy)) :=
 some v4
def Zj6 (_K:Nat) (b7:Int→(List Zy)→Option ((List Zy))) (v1:Int) (v8:(List Zy)):Option ((List Zy)) :=
 b7 (IntKind.i64.wrap (v1+1)) v8
def Zdr (K:Nat) (v2:(List Zy)) (v12:Int) (v14:(List Z2)) (b7:Int→(List Zy)→Option ((List Zy))) (v1:Int) (v17:Int):Option ((List Zy)) :=
 if (0:Int)≤0∧0≤v17∧v17≤(v2.length:Nat) then
 if (0+(0:Int).toNat)+(v17.toNat - (0:Int).toNat)≤v2.length then
 if (0+(0:Int).toNat)+(v17.toNat - (0:Int).toNat)≤v2.length then
 if ([]:List Zy).length+((v2.drop (0+(0:Int).toNat)).take (v17.toNat - (0:Int).toNat)).length≤1073741824 then
 if ((v2.drop (0+(0:Int).toNat)).take (v17.toNat - (0:Int).toNat)).length+[(⟨v12,1,v14⟩:Zy)].length≤1073741824 then
 if (0:Int)≤v17∧v17≤(v2.length:Int)∧(v2.length:Int)≤(v2.length:Nat) then
 if (0+v17.toNat)+((v2.length:Int).toNat - v17.toNat)≤v2.length then
 if (0+v17.toNat)+((v2.length:Int).toNat - v17.toNat)≤v2.length then
 if (((v2.drop (0+(0:Int).toNat)).take (v17.toNat - (0:Int).toNat))++[(⟨v12,1,v14⟩:Zy)]).length+((v2.drop (0+v17.toNat)).take ((v2.length:Int).toNat - v17.toNat)).length≤1073741824 then
 Zj6 K b7 v1 ((((v2.drop (0+(0:Int).toNat)).take (v17.toNat - (0:Int).toNat))++[(⟨v12,1,v14⟩:Zy)])++((v2.drop (0+v17.toNat)).take ((v2.length:Int).toNat - v17.toNat)))
 else none
 else none
 else none
 else none
 else none
 else none
 else none
 else none
 else none
def Zbl (K:Nat) (v2:(List Zy)) (v12:Int) (c19:Int→Option ((List Zy))):Nat→Int→Option ((List Zy))
 | 0,_=>none
 | k16+1,v15 =>
 if (decide (v15 > 0))=true then
 if (0:Int)≤(IntKind.i64.wrap (v15 - 1))∧(IntKind.i64.wrap (v15 - 1))<(v2.length:Nat) then
 if (IntKind.i64.wrap (v15 - 1)).toNat<v2.length then
 if (decide ((v2.getD (IntKind.i64.wrap (v15 - 1)).toNat Z1s).Id > v12))=true then
 (Zbl K v2 v12 c19 k16) (IntKind.i64.wrap (v15 - 1))
 else
 c19 v15
 else none
 else none
 else
 c19 v15
def Z90 (K:Nat) (a0:Zc) (c6:(List Zy)→Option ((List Zy))):Nat→Int→(List Zy)→Option ((List Zy))
 | 0,_,_=>none
 | k3+1,v1,v2 =>
 if (decide (v1<(a0.Trees.length:Int)))=true then
 if (0:Int)≤v1∧v1<a0.Trees.length then
 if (((a0.Trees.getD v1.toNat Zf).Calls.length:Int)==0)=true then
 Zj6 K (Z90 K a0 c6 k3) v1 v2
 else
 (F64 K a0 v1).bind fun v12 =>
 (F65 K a0 v1 false).bind fun v14 =>
 Zbl K v2 v12 (Zdr K v2 v12 v14 (Z90 K a0 c6 k3) v1) K (v2.length:Int)
 else none
 else
 c6 v2
def F16 (K:Nat) (a0:Zc):Option ((List Zy)) :=
 Z90 K a0 (Zew K) K 0 []
theorem F16_ok (K:Nat) (a0:Zc) (r:(List Zy)) (h:F16 K a0=some r):ACall P 16 ⟨[(Z1r a0)],[],.vs 2,[(2,.vec 3 (List.map Z2o r))],[2]⟩:=by
 refine ac Tryz.func16 Tryz.results16 Tryz.ntmps16 fun w0 F0 p0 S0 β0 Q hret=>?_
 dsimp only [argT]
 unfold F16 at h
 refine G1 h fun h=>?_
 refine oc (Zh (v:=(.sl 3 [] false)) rfl rfl) ?_
 refine G1 h fun h=>?_
 refine oc (Zh (v:=(.sl 3 [] true)) rfl rfl) ?_
 refine G1 h fun h=>?_
 refine AWp.ghost (fun a w h=>gk ⟨[(1,_),(3,_),(4,_)],[(1,_),(3,_)]⟩ (Z38 (k:=3) (m:=3) (sz:=3) (gk ⟨[(3,_),(1,_),(4,_)],[(1,_)]⟩ h))) ?_
 refine lb (V:=Int×(List Zy)) (X:=(List Zy)) (v:=(_,_)) (fun k v=>Z90 K a0 (Zew K) k v.1 v.2=some r) (fun v=>Zew K v=some r) [(1,_),(3,_)] [(1,_)] [(3,_)] [] (fun v t=>(4,(.int .i64 v.1))::t) (fun v s=>(3,(.vec 3 (List.map Z2o v.2)))::s) (fun v t=>t) (fun v s=>(3,(.vec 3 (List.map Z2o v)))::s) h ?_ ?_
 ·intro v h
  revert h
  revert v
  intro v4 h
  try dsimp only at h ⊢
  unfold Zew at h
  refine G1 h fun h=>?_
  refine AWp.ret<|At.ghost (fun a w h=>gk ⟨[(2,_)],[(2,_)]⟩ (Z3x (a:=3) (b:=2) (gk ⟨[(2,_)],[(3,_)]⟩ h))) ?_
  exact RT
 intro N k3 v h IH3 J3
 obtain⟨v1,v2⟩:=v
 try dsimp only at h IH3 J3 ⊢
 cases k3 with
 | zero=>cases h
 | succ k3 =>
  rw [Z90] at h
  refine Mc h (fun h=>?_) (fun h=>?_)
  ·refine AWp.skip<|At.next<|AWp.seq ?_
   refine bj (V:=(List Zy)) (fun v=>Zj6 K (Z90 K a0 (Zew K) k3) v1 v=some r) [(1,_),(3,_),(4,_)] [(1,_)] (fun v t=>t) (fun v s=>(3,(.vec 3 (List.map Z2o v)))::s) ?_ ?_
   ·intro v h
    revert h
    revert v
    intro v8 h
    try dsimp only at h ⊢
    unfold Zj6 at h
    refine At.next ?_
    exact M2 h (k:=fun h=>wkx (IH3 _ (_,_) Z1p h))
   intro J9
   refine Mc h (fun h=>?_) (fun h=>?_)
   ·refine AWp.exit<|Zz<|At.out ?_
    exact wkx (J9 _ h)
   refine G1 h fun h=>?_
   have⟨v12,hv12,h⟩:=Zd h
   refine oD (Z15 Tryz.call64 (F64_ok (h:=hv12))) ?_
   refine G1 h fun h=>?_
   have⟨v14,hv14,h⟩:=Zd h
   refine oD (Z15 Tryz.call65 (F65_ok (h:=hv14))) ?_
   refine oD (Z1i (vs:=[(0,(.int .i64 v12)),(1,(.int .i64 1)),(2,(.sl 14 (v14.map Zb) false))]) rfl st49 ⟨rfl,rfl,rfl,rfl,rfl,rfl,trivial⟩ rfl) ?_
   refine G1 h fun h=>?_
   refine oD (Zm (ds:=[_,_,_])) ?_
   refine G1 h fun h=>?_
   refine oc (Z2t rfl u45 rfl rfl) ?_
   refine G1 h fun h=>?_
   refine lb (V:=Int) (X:=Int) (v:=_) (fun k v=>Zbl K v2 v12 (Zdr K v2 v12 v14 (Z90 K a0 (Zew K) k3) v1) k v=some r) (fun v=>Zdr K v2 v12 v14 (Z90 K a0 (Zew K) k3) v1 v=some r) [(1,_),(3,_),(4,_),(5,_)] [(1,_),(3,_),(5,_)] [(1,_),(3,_),(4,_),(5,_)] [(1,_),(3,_),(5,_)] (fun v t=>(6,(.int .i64 v))::t) (fun v s=>s) (fun v t=>(6,(.int .i64 v))::t) (fun v s=>s) h ?_ ?_
   ·intro v h
    revert h
    revert v
    intro v17 h
    try dsimp only at h ⊢
    unfold Zdr at h
    refine At.next<|Z3d mixed ?_
    refine oD (Zj (vs:=[]) (enc:=Z2o) (l:=([]:List Zy)) rfl el45 rfl rfl trivial rfl Z42 rfl rfl rfl rfl) ?_
    refine G1 h fun h=>?_
    have⟨hg20,h⟩:=Zg h
    have⟨hg21,h⟩:=Zg h
    refine oD (Z3i (v:=(.vs 3)) (n:=3) (off:=0) (len:=v2.length) (l:=v2) (enc:=Z2o) (kh:=.i64) (hi:=v17) rfl s45 rfl rfl (Z31 _ _ _) rfl hg20 rfl) ?_
    have⟨hg22,h⟩:=Zg h
    have⟨hg23,h⟩:=Zg h
    refine oD (Z1g (m:=46) rfl rfl el45 rfl u45 rfl rfl rfl (Zo6 hg22) (oneRead rfl) Z42 hg23) ?_
    refine G1 h fun h=>?_
    refine oD (Zj (vs:=[_]) (enc:=Z2o) (l:=[(⟨v12,1,v14⟩:Zy)]) rfl el45 rfl rfl ⟨rfl,trivial⟩ rfl Z42 rfl rfl rfl rfl) ?_
    have⟨hg24,h⟩:=Zg h
    refine oD (Z1g (m:=46) rfl rfl el45 rfl u45 rfl rfl rfl rfl (oneRead rfl) Z42 hg24) ?_
    refine G1 h fun h=>?_
    have⟨hg25,h⟩:=Zg h
    have⟨hg26,h⟩:=Zg h
    refine oD (Z3v (v:=(.vs 3)) (n:=3) (off:=0) (len:=v2.length) (l:=v2) (enc:=Z2o) (kl:=.i64) (lo:=v17) rfl s45 rfl rfl (Z31 _ _ _) rfl hg25 rfl) ?_
    have⟨hg27,h⟩:=Zg h
    have⟨hg28,h⟩:=Zg h
    refine oD (Z1g (m:=46) rfl rfl el45 rfl u45 rfl rfl rfl (Zo6 hg27) (oneRead rfl) Z42 hg28) ?_
    refine G2 h fun h=>?_
    refine Z17<|At.ghost (fun a w h=>gk ⟨[(1,_),(3,_),(4,_)],[(1,_),(3,_)]⟩ (Z3x (a:=46) (b:=3) (gk ⟨[(1,_),(3,_),(4,_)],[(1,_),(46,_)]⟩ h))) ?_
    exact wkx (J9 _ h)
   intro N k16 v h IH16 J16
   revert h
   revert v
   intro v15 h
   try dsimp only at h IH16 J16 ⊢
   cases k16 with
   | zero=>cases h
   | succ k16 =>
    rw [Zbl] at h
    refine M1 h (k:=fun h=>splD h (fun h=>?_) (fun h=>?_))
    ·refine Mc h (fun h=>?_) (fun h=>?_)
     ·refine AWp.skip<|At.next<|AWp.block ?_
      refine G2 h fun h=>?_
      refine Z17 ?_
      exact wkx (IH16 _ _ Z1p h)
     refine AWp.exit<|Zz ?_
     exact wkx (J16 _ h)
    refine G1 h fun h=>?_
    refine AWp.cond (b:=false) I (fun hc=>?_) (fun hc=>?_)
    ·cases hc
    refine AWp.exit<|Zz ?_
    exact wkx (J16 _ h)
  refine AWp.exit<|Zz ?_
  exact wkx (J3 _ h)
def Zjb (_K:Nat) (v6:(List Z2)):Option ((List Z2)) :=
 some v6
def Zgs (K:Nat) (v2:(List Zy)) (c8:(List Z2)→Option ((List Z2))):Nat→Int→(List Z2)→Option ((List Z2))
 | 0,_,_=>none
 | k5+1,v3,v4 =>
 if (decide (v3<(v2.length:Int)))=true then
 if (0:Int)≤v3∧v3<(v2.length:Nat) then
 if v3.toNat<v2.length then
 if v4.length+(v2.getD v3.toNat Z1s).Spans.length≤1073741824 then
 (Zgs K v2 c8 k5) (IntKind.i64.wrap (v3+1)) (v4++(v2.getD v3.toNat Z1s).Spans)
 else none
 else none
 else none
 else
 c8 v4
def F24 (K:Nat) (a0:Zc):Option ((List Z2)) :=
 (F16 K a0).bind fun v2 =>
 Zgs K v2 (Zjb K) K 0 []
theorem F24_ok (K:Nat) (a0:Zc) (r:(List Z2)) (h:F24 K a0=some r):ACall P 24 ⟨[(Z1r a0)],[],(.sl 14 (r.map Zb) false),[],[]⟩:=by
 refine ac Tryz.func24 Tryz.results24 Tryz.ntmps24 fun w0 F0 p0 S0 β0 Q hret=>?_
 dsimp only [argT]
 unfold F24 at h
 refine G1 h fun h=>?_
 refine oc (Zh (v:=(.sl 14 [] false)) rfl rfl) ?_
 refine G1 h fun h=>?_
 refine oc (Zh (v:=(.sl 14 [] true)) rfl rfl) ?_
 refine G1 h fun h=>?_
 have⟨v2,hv2,h⟩:=Zd h
 refine oc (Z30 (sz:=3) (es:=(List.map Z2o v2)) (ar:=[_]) (caps:=[]) Tryz.call16 ((F16_ok (h:=hv2)).sw 2 7) rfl rfl ⟨rfl,trivial⟩ rfl) ?_
 refine G1 h fun h=>?_
 refine AWp.ghost (fun a w h=>gk ⟨[(3,_),(4,_),(5,_)],[(3,_),(4,_)]⟩ (Z3x (a:=7) (b:=4) (gk ⟨[(3,_),(4,_),(5,_)],[(3,_),(7,_)]⟩ (gk ⟨[(3,_),(4,_),(5,_)],[(3,_),(7,_)]⟩ (Z38 (k:=3) (m:=3) (sz:=14) (gk ⟨[(3,_),(4,_),(5,_)],[(7,_)]⟩ h)))))) ?_
 refine lb (V:=Int×(List Z2)) (X:=(List Z2)) (v:=(_,_)) (fun k v=>Zgs K v2 (Zjb K) k v.1 v.2=some r) (fun v=>Zjb K v=some r) [(3,_),(4,_)] [(4,_)] [(3,_)] [] (fun v t=>(5,(.int .i64 v.1))::t) (fun v s=>(3,(.vec 14 (List.map Zb v.2)))::s) (fun v t=>t) (fun v s=>(3,(.vec 14 (List.map Zb v)))::s) h ?_ ?_
 ·intro v h
  revert h
  revert v
  intro v6 h
  try dsimp only at h ⊢
  unfold Zjb at h
  refine G1 h fun h=>?_
  refine AWp.ret<|At.ghost (fun a w h=>gk ⟨[(2,_)],[]⟩ (Z1j (m:=3) (sz:=14) (gk ⟨[(2,_)],[(3,_)]⟩ h))) ?_
  exact RT
 intro N k5 v h IH5 J5
 obtain⟨v3,v4⟩:=v
 try dsimp only at h IH5 J5 ⊢
 cases k5 with
 | zero=>cases h
 | succ k5 =>
  rw [Zgs] at h
  refine G1 h fun h=>?_
  refine oc (Z2t rfl u45 rfl rfl) ?_
  refine Mc h (fun h=>?_) (fun h=>?_)
  ·refine AWp.skip<|At.next<|AWp.seq<|AWp.block ?_
   refine G1 h fun h=>?_
   have⟨hg12,h⟩:=Zg h
   refine oc (Z1g (m:=3) rfl rfl Zlr rfl u47 rfl rfl rfl ⟨rfl,rfl,rfl⟩ noReads Z1t hg12) ?_
   refine G2 h fun h=>?_
   refine Z17<|At.next ?_
   exact M2 h (k:=fun h=>wkx (IH5 _ (_,_) Z1p h))
  refine AWp.exit<|Zz ?_
  exact wkx (J5 _ h)
end Go.AM.Tp
