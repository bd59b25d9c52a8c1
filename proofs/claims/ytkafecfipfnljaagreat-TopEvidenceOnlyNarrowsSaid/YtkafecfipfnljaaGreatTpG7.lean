/- What these functions compute, each with its walk: F20, F70, F19, F21, F3. -/
import Derived.Test.YtkafecfipfnljaaGreatTpT
import Derived.Test.YtkafecfipfnljaaGreatTpG2
import Derived.Test.YtkafecfipfnljaaGreatTpG4
import Derived.Test.YtkafecfipfnljaaGreatTpG5
import Derived.Test.YtkafecfipfnljaaGreatTpG6
namespace Go.AM.Tp
open Go Go.AM Go.Proofs
set_option maxRecDepth 100000
set_option maxHeartbeats 2000000
attribute [local irreducible] Z11 TyOne TyAgg TySl TyZero TyStruct TyEl TyEq AWp AOps AOpsD At
def Z94 (_K:Nat) (v19:Zx):Option (Int×Zx) :=
 some (0,v19)
def Z93 (K:Nat) (v16:Int×Zx) (a1:Z1q) (a0:Z1q) (v17:Zx):Option (Int×Zx) :=
 if v16.2.Below=true then
 Z94 K (⟨v17.Low,(IntKind.i64.wrap ((IntKind.i64.wrap (a1.Time - a0.Time)) - v16.2.Low)),v17.Below,true⟩:Zx)
 else
 Z94 K v17
noncomputable def Zgn (K:Nat) (a0:Z1q) (a1:Z1q) (a2:(List Z1)) (a3:(List Int)) (a4:(List Z1)) (a5:(List Z4)) (a6:(List (List Int))) (a7:(List (Int×Int))) (a8:(List Bool)):Option (Int×Zx) :=
 if (a0.Clock==a1.Clock)=true then
 some (0,(⟨(IntKind.i64.wrap (a1.Time - a0.Time)),(IntKind.i64.wrap (a1.Time - a0.Time)),true,true⟩:Zx))
 else
 (F14 K a0.Clock a1.Clock a2 a3 a4 a5 a6 a7 a8).bind fun v16 =>
 if (v16.1 != 0)=true then
 some (0,Z1y)
 else
 if v16.2.Above=true then
 Z93 K v16 a1 a0 (⟨(IntKind.i64.wrap ((IntKind.i64.wrap (a1.Time - a0.Time)) - v16.2.High)),0,true,false⟩:Zx)
 else
 Z93 K v16 a1 a0 Z1y
def Z78 (K:Nat) (v4:Int) (v6:Int) (v8:Int) (v10:Int) (c14:Option (Int×Zx)):Nat→Int→Option (Int×Zx)
 | 0,_=>none
 | k12+1,v11 =>
 if (decide (v11<4))=true then
 if (0:Int)≤v11∧v11<(4:Nat) then
 if ((([v4,v6,v8,v10]:List Int).getD v11.toNat 0) != 0)=true then
 some ((([v4,v6,v8,v10]:List Int).getD v11.toNat 0),Z1y)
 else
 (Z78 K v4 v6 v8 v10 c14 k12) (IntKind.i64.wrap (v11+1))
 else none
 else
 c14
noncomputable def F20 (K:Nat) (a0:Z1q) (a1:Z1q) (a2:(List Z1)) (a3:(List Int)) (a4:(List Z1)) (a5:(List Z4)) (a6:(List (List Int))) (a7:(List (Int×Int))) (a8:(List Bool)):Option (Int×Zx) :=
 (F71 K a0).bind fun v4 =>
 (F71 K a1).bind fun v6 =>
 (F72 K a0.Clock a2 a3 a4 a5 a6 a7 a8).bind fun v8 =>
 (F72 K a1.Clock a2 a3 a4 a5 a6 a7 a8).bind fun v10 =>
 Z78 K v4 v6 v8 v10 (Zgn K a0 a1 a2 a3 a4 a5 a6 a7 a8) K 0
theorem F20_ok (K:Nat) (a0:Z1q) (a1:Z1q) (a2:(List Z1)) (a3:(List Int)) (a4:(List Z1)) (a5:(List Z4)) (a6:(List (List Int))) (a7:(List (Int×Int))) (a8:(List Bool)) (r:Int×Zx) (h:F20 K a0 a1 a2 a3 a4 a5 a6 a7 a8=some r):ACall P 20 ⟨[(.ptr 2000 0),(Z3m a0),(Z3m a1)],[(2000,(.box [(.sl 10 (a2.map Z3) false),(.sl 1 (a3.map Z7) false),(.sl 10 (a4.map Z3) false),(.sl 3 (a5.map Z9) false),(.sl 1 (a6.map Z19) false),(.map 2001),(.vs 79)])),(2001,(.map (Zn Z7 Z7 a7))),(79,(.vec 1 (List.map Zt a8)))],(.tup [(Z1l r.2),(.int .i64 r.1)]),[(2000,(.box [(.sl 10 (a2.map Z3) false),(.sl 1 (a3.map Z7) false),(.sl 10 (a4.map Z3) false),(.sl 3 (a5.map Z9) false),(.sl 1 (a6.map Z19) false),(.map 2001),(.vs 79)])),(2001,(.map (Zn Z7 Z7 a7))),(79,(.vec 1 (List.map Zt a8)))],[79]⟩:=by
 refine ac Tryz.func20 Tryz.results20 Tryz.ntmps20 fun w0 F0 p0 S0 β0 Q hret=>?_
 dsimp only [argT]
 unfold F20 at h
 refine G1 h fun h=>?_
 refine oc (Z74 (c:=false) rfl u31 rfl rfl rfl) ?_
 refine AOps.nil<|At.next ?_
 refine AWp.cond (b:=false) I (fun hc=>?_) (fun hc=>?_)
 ·cases hc
 refine G1 h fun h=>?_
 have⟨v4,hv4,h⟩:=Zd h
 refine oD (Z15 Tryz.call71 (F71_ok (h:=hv4))) ?_
 refine G1 h fun h=>?_
 have⟨v6,hv6,h⟩:=Zd h
 refine oD (Z15 Tryz.call71 (F71_ok (h:=hv6))) ?_
 refine G1 h fun h=>?_
 have⟨v8,hv8,h⟩:=Zd h
 refine oD (Z1d (d:=some 24) (c:=⟨_,[(2000,_),(2001,_),(79,_)],(.int .i64 v8),[(2000,(.box [(.sl 10 (a2.map Z3) false),(.sl 1 (a3.map Z7) false),(.sl 10 (a4.map Z3) false),(.sl 3 (a5.map Z9) false),(.sl 1 (a6.map Z19) false),(.map 2001),(.vs 79)])),(2001,(.map (Zn Z7 Z7 a7))),(79,(.vec 1 (List.map Zt a8)))],[79]⟩) (ar:=[_,_]) (caps:=[]) (news:=[]) (forg:=[79]) Tryz.call72 ((F72_ok (h:=hv8)).sw 18 79) rfl rfl ⟨rfl,rfl,trivial⟩ rfl ⟨rfl,rfl,rfl,trivial⟩ rfl) ?_
 refine G1 h fun h=>?_
 have⟨v10,hv10,h⟩:=Zd h
 refine oD (Z1d (d:=some 28) (c:=⟨_,[(2000,_),(2001,_),(79,_)],(.int .i64 v10),[(2000,(.box [(.sl 10 (a2.map Z3) false),(.sl 1 (a3.map Z7) false),(.sl 10 (a4.map Z3) false),(.sl 3 (a5.map Z9) false),(.sl 1 (a6.map Z19) false),(.map 2001),(.vs 79)])),(2001,(.map (Zn Z7 Z7 a7))),(79,(.vec 1 (List.map Zt a8)))],[79]⟩) (ar:=[_,_]) (caps:=[]) (news:=[]) (forg:=[79]) Tryz.call72 ((F72_ok (h:=hv10)).sw 18 79) rfl rfl ⟨rfl,rfl,trivial⟩ rfl ⟨rfl,rfl,rfl,trivial⟩ rfl) ?_
 refine oD (Z4k (vs:=[(0,(.int .i64 v4)),(1,(.int .i64 v6)),(2,(.int .i64 v8)),(3,(.int .i64 v10))]) rfl ar161 ⟨rfl,rfl,rfl,rfl,rfl,rfl,rfl,rfl,trivial⟩ rfl) ?_
 refine G1 h fun h=>?_
 refine lb (V:=Int) (X:=Unit) (v:=_) (fun k v=>Z78 K v4 v6 v8 v10 (Zgn K a0 a1 a2 a3 a4 a5 a6 a7 a8) k v=some r) (fun v=>Zgn K a0 a1 a2 a3 a4 a5 a6 a7 a8=some r) [(0,_),(4,_),(5,_),(6,_),(29,_)] [(4,_),(5,_),(6,_),(79,_),(2000,_),(2001,_)] [(0,_),(4,_),(5,_),(6,_)] [(4,_),(5,_),(6,_),(79,_),(2000,_),(2001,_)] (fun v t=>(30,(.int .i64 v))::t) (fun v s=>s) (fun v t=>t) (fun v s=>s) h ?_ ?_
 ·intro v h
  try dsimp only at h ⊢
  unfold Zgn at h
  refine Mc h (fun h=>?_) (fun h=>?_)
  ·refine G1 h fun h=>?_
   refine oc (Z1i (vs:=[(0,(.int .i64 (IntKind.i64.wrap (a1.Time - a0.Time)))),(1,(.int .i64 (IntKind.i64.wrap (a1.Time - a0.Time)))),(2,(.bool true)),(3,(.bool true))]) rfl st41 ⟨rfl,rfl,rfl,rfl,rfl,rfl,rfl,rfl,trivial⟩ rfl) ?_
   refine oc (Zm (ds:=[_,_,_,_])) ?_
   refine G1 h fun h=>?_
   refine AWp.ret<|Z27 ?_
   have h:=Option.some.inj h
   subst h
   refine (hret _ ?_).1
   exact⟨[(Z1l (⟨(IntKind.i64.wrap (a1.Time - a0.Time)),(IntKind.i64.wrap (a1.Time - a0.Time)),true,true⟩:Zx)),(.int .i64 0)],⟨⟨6,_,I,I,.inr ⟨_,a41,I,I⟩⟩,I,J0⟩,I,⟨I,I,I,J0⟩⟩
  refine G1 h fun h=>?_
  have⟨v16,hv16,h⟩:=Zd h
  refine oc (Z1d (d:=some 57) (c:=⟨_,[(2000,_),(2001,_),(79,_)],(.tup [(Z1l v16.2),(.int .i64 v16.1)]),[(2000,(.box [(.sl 10 (a2.map Z3) false),(.sl 1 (a3.map Z7) false),(.sl 10 (a4.map Z3) false),(.sl 3 (a5.map Z9) false),(.sl 1 (a6.map Z19) false),(.map 2001),(.vs 79)])),(2001,(.map (Zn Z7 Z7 a7))),(79,(.vec 1 (List.map Zt a8)))],[79]⟩) (ar:=[_,_,_]) (caps:=[]) (news:=[]) (forg:=[79]) Tryz.call14 ((Zqa (h:=hv16)).sw 56 79) rfl rfl ⟨rfl,rfl,rfl,trivial⟩ rfl ⟨rfl,rfl,rfl,trivial⟩ rfl) ?_
  refine G1 h fun h=>?_
  refine oc (Zm (ds:=_)) ?_
  refine Mc h (fun h=>?_) (fun h=>?_)
  ·refine AWp.seq<|AWp.region ?_
   refine oc (Z1i (vs:=[]) rfl st41 trivial rfl) ?_
   refine oc (Zm (ds:=[_,_,_,_])) ?_
   refine G1 h fun h=>?_
   refine AWp.ret<|Z27 ?_
   have h:=Option.some.inj h
   subst h
   refine (hret _ ?_).1
   exact⟨[(Z1l Z1y),(.int .i64 0)],⟨⟨6,_,I,I,.inr ⟨_,a41,I,I⟩⟩,I,J0⟩,I,⟨I,I,I,J0⟩⟩
  refine G1 h fun h=>?_
  refine jn (V:=Zx) (fun v=>Z93 K v16 a1 a0 v=some r) [(6,_),(10,_),(11,_),(13,_)] [(6,_),(11,_),(79,_),(2000,_),(2001,_)] (fun v t=>t) (fun v s=>(13,(.box (Z1l v).cells))::s) ?_ ?_
  ·intro v h
   revert h
   revert v
   intro v17 h
   try dsimp only at h ⊢
   unfold Z93 at h
   refine G1 h fun h=>?_
   refine jn (V:=Zx) (fun v=>Z94 K v=some r) [(6,_),(13,_)] [(6,_),(79,_),(2000,_),(2001,_)] (fun v t=>t) (fun v s=>(13,(.box (Z1l v).cells))::s) ?_ ?_
   ·intro v h
    revert h
    revert v
    intro v19 h
    try dsimp only at h ⊢
    unfold Z94 at h
    refine G1 h fun h=>?_
    refine oc (Zm (ds:=_)) ?_
    refine G1 h fun h=>?_
    refine AWp.ret ?_
    have h:=Option.some.inj h
    subst h
    refine (hret _ ?_).1
    exact⟨[(Z1l v19),(.int .i64 0)],⟨⟨6,_,I,I,.inr ⟨_,a41,I,I⟩⟩,I,J0⟩,I,⟨I,I,I,J0⟩⟩
   intro J20
   refine cnd h (fun h=>?_) (fun h=>?_)
   ·refine G1 h fun h=>?_
    refine oc (Zm (ds:=[_,_,_,_])) ?_
    refine G1 h fun h=>?_
    refine oc (Zm (ds:=[_,_,_,_])) ?_
    refine AOps.nil ?_
    exact wkx (J20 _ h)
   refine AWp.skip ?_
   exact wkx (J20 _ h)
  intro J18
  refine cnd h (fun h=>?_) (fun h=>?_)
  ·refine G1 h fun h=>?_
   refine oc (Zm (ds:=[_,_,_,_])) ?_
   refine G1 h fun h=>?_
   refine oc (Zm (ds:=[_,_,_,_])) ?_
   refine AOps.nil ?_
   exact wkx (J18 _ h)
  refine AWp.skip ?_
  exact wkx (J18 _ h)
 intro N k12 v h IH12 J12
 revert h
 revert v
 intro v11 h
 try dsimp only at h IH12 J12 ⊢
 cases k12 with
 | zero=>cases h
 | succ k12 =>
  rw [Z78] at h
  refine Mc h (fun h=>?_) (fun h=>?_)
  ·refine AWp.skip<|At.next<|AWp.seq<|AWp.block<|AWp.seq<|AWp.region ?_
   have⟨hg22,h⟩:=Zg h
   refine oc (Zsr (xs:=([v4,v6,v8,v10]:List Int)) (j:=.i64) (k:=.i64) (n:=v11) rfl u161 o32 rfl rfl rfl hg22) ?_
   refine Mc h (fun h=>?_) (fun h=>?_)
   ·refine AWp.seq<|AWp.region ?_
    refine oc (Z1i (vs:=[]) rfl st41 trivial rfl) ?_
    refine G1 h fun h=>?_
    refine oc (Zm (ds:=[_,_,_,_])) ?_
    refine G1 h fun h=>?_
    refine AWp.ret<|Z3e<|Z27 ?_
    refine Z27 (Z3e ?_)
    refine Z27 ?_
    have h:=Option.some.inj h
    subst h
    refine (hret _ ?_).1
    exact⟨[(Z1l Z1y),(.int .i64 (([v4,v6,v8,v10]:List Int).getD v11.toNat 0))],⟨⟨6,_,I,I,.inr ⟨_,a41,I,I⟩⟩,I,J0⟩,I,⟨I,I,I,J0⟩⟩
   refine AWp.skip<|Z17<|At.next ?_
   exact M2 h (k:=fun h=>wkx (IH12 _ _ Z1p h))
  refine AWp.exit<|Zz ?_
  exact wkx (J12 () h)
def Zjp (_K:Nat):Option (Int) :=
 some 0
def Z9c (K:Nat):Option (Int) :=
 Zjp K
def Zhc (K:Nat):Option (Int) :=
 Zjp K
def Zhd (K:Nat):Option (Int) :=
 Zjp K
def F70 (K:Nat) (a0:Zx):Option (Int) :=
 if a0.Below=true then
 if (decide (a0.Low > 0))=true then
 some 1
 else
 if a0.Above=true then
 if (decide (a0.High<0))=true then
 some 2
 else
 if ((a0.Low==0)&&((a0.High==0)&&((a0.Below==true)&&((a0.Above==true)&&true))))=true then
 some 3
 else
 if a0.Below=true then
 if (a0.Low==0)=true then
 some 4
 else
 if a0.Above=true then
 if (a0.High==0)=true then
 some 5
 else
 Z9c K
 else
 Z9c K
 else
 if a0.Above=true then
 if (a0.High==0)=true then
 some 5
 else
 Z9c K
 else
 Z9c K
 else
 if ((a0.Low==0)&&((a0.High==0)&&((a0.Below==true)&&((a0.Above==true)&&true))))=true then
 some 3
 else
 if a0.Below=true then
 if (a0.Low==0)=true then
 some 4
 else
 if a0.Above=true then
 if (a0.High==0)=true then
 some 5
 else
 Z9c K
 else
 Z9c K
 else
 if a0.Above=true then
 if (a0.High==0)=true then
 some 5
 else
 Z9c K
 else
 Z9c K
 else
 if a0.Above=true then
 if (decide (a0.High<0))=true then
 some 2
 else
 if ((a0.Low==0)&&((a0.High==0)&&((a0.Below==true)&&((a0.Above==true)&&true))))=true then
 some 3
 else
 if a0.Below=true then
 if (a0.Low==0)=true then
 some 4
 else
 if a0.Above=true then
 if (a0.High==0)=true then
 some 5
 else
 Zhc K
 else
 Zhc K
 else
 if a0.Above=true then
 if (a0.High==0)=true then
 some 5
 else
 Zhc K
 else
 Zhc K
 else
 if ((a0.Low==0)&&((a0.High==0)&&((a0.Below==true)&&((a0.Above==true)&&true))))=true then
 some 3
 else
 if a0.Below=true then
 if (a0.Low==0)=true then
 some 4
 else
 if a0.Above=true then
 if (a0.High==0)=true then
 some 5
 else
 Zhd K
 else
 Zhd K
 else
 if a0.Above=true then
 if (a0.High==0)=true then
 some 5
 else
 Zhd K
 else
 Zhd K
theorem F70_ok (K:Nat) (a0:Zx) (r:Int) (h:F70 K a0=some r):ACall P 70 ⟨[(Z1l a0)],[],(.int .i64 r),[],[]⟩:=by
 refine ac Tryz.func70 Tryz.results70 Tryz.ntmps70 fun w0 F0 p0 S0 β0 Q hret=>?_
 dsimp only [argT]
 unfold F70 at h
 refine G1 h fun h=>?_
 refine bj (V:=Unit) (fun v=>Zjp K=some r) [] [] (fun v t=>t) (fun v s=>s) ?_ ?_
 ·intro v h
  try dsimp only at h ⊢
  unfold Zjp at h
  exact GR
 intro J1
 refine Ms h (fun h=>?_) (fun h=>?_)
 ·refine G1 h fun h=>?_
  refine jn (V:=Unit) (fun v=>Z9c K=some r) [] [] (fun v t=>t) (fun v s=>s) ?_ ?_
  ·intro v h
   try dsimp only at h ⊢
   unfold Z9c at h
   refine Z17 ?_
   exact wkx (J1 () h)
  intro J2
  refine cnd h (fun h=>?_) (fun h=>?_)
  ·exact GR
  refine Ms h (fun h=>?_) (fun h=>?_)
  ·refine Mc h (fun h=>?_) (fun h=>?_)
   ·exact GR
   refine G1 h fun h=>?_
   refine oc (Z1i (vs:=[(2,(.bool true)),(3,(.bool true))]) rfl st41 ⟨rfl,rfl,rfl,rfl,trivial⟩ rfl) ?_
   refine Mc h (fun h=>?_) (fun h=>?_)
   ·exact GR
   refine Ms h (fun h=>?_) (fun h=>?_)
   ·refine Mc h (fun h=>?_) (fun h=>?_)
    ·exact GR
    refine Ms h (fun h=>?_) (fun h=>?_)
    ·refine Mc h (fun h=>?_) (fun h=>?_)
     ·exact GR
     refine AWp.skip ?_
     exact wkx (J2 () h)
    refine G1 h fun h=>?_
    refine AWp.cond (b:=false) I (fun hc=>?_) (fun hc=>?_)
    ·cases hc
    refine AWp.skip ?_
    exact wkx (J2 () h)
   refine G1 h fun h=>?_
   refine AWp.cond (b:=false) I (fun hc=>?_) (fun hc=>?_)
   ·cases hc
   refine Ms h (fun h=>?_) (fun h=>?_)
   ·refine Mc h (fun h=>?_) (fun h=>?_)
    ·exact GR
    refine AWp.skip ?_
    exact wkx (J2 () h)
   refine G1 h fun h=>?_
   refine AWp.cond (b:=false) I (fun hc=>?_) (fun hc=>?_)
   ·cases hc
   refine AWp.skip ?_
   exact wkx (J2 () h)
  refine G1 h fun h=>?_
  refine AWp.cond (b:=false) I (fun hc=>?_) (fun hc=>?_)
  ·cases hc
  refine G1 h fun h=>?_
  refine oc (Z1i (vs:=[(2,(.bool true)),(3,(.bool true))]) rfl st41 ⟨rfl,rfl,rfl,rfl,trivial⟩ rfl) ?_
  refine Mc h (fun h=>?_) (fun h=>?_)
  ·exact GR
  refine Ms h (fun h=>?_) (fun h=>?_)
  ·refine Mc h (fun h=>?_) (fun h=>?_)
   ·exact GR
   refine Ms h (fun h=>?_) (fun h=>?_)
   ·refine Mc h (fun h=>?_) (fun h=>?_)
    ·exact GR
    refine AWp.skip ?_
    exact wkx (J2 () h)
   refine G1 h fun h=>?_
   refine AWp.cond (b:=false) I (fun hc=>?_) (fun hc=>?_)
   ·cases hc
   refine AWp.skip ?_
   exact wkx (J2 () h)
  refine G1 h fun h=>?_
  refine AWp.cond (b:=false) I (fun hc=>?_) (fun hc=>?_)
  ·cases hc
  refine Ms h (fun h=>?_) (fun h=>?_)
  ·refine Mc h (fun h=>?_) (fun h=>?_)
   ·exact GR
   refine AWp.skip ?_
   exact wkx (J2 () h)
  refine G1 h fun h=>?_
  refine AWp.cond (b:=false) I (fun hc=>?_) (fun hc=>?_)
  ·cases hc
  refine AWp.skip ?_
  exact wkx (J2 () h)
 refine G1 h fun h=>?_
 refine AWp.cond (b:=false) I (fun hc=>?_) (fun hc=>?_)
 ·cases hc
 refine Ms h (fun h=>?_) (fun h=>?_)
 ·refine G1 h fun h=>?_
  refine jn (V:=Unit) (fun v=>Zhc K=some r) [] [] (fun v t=>t) (fun v s=>s) ?_ ?_
  ·intro v h
   try dsimp only at h ⊢
   unfold Zhc at h
   refine Z17 ?_
   exact wkx (J1 () h)
  intro J3
  refine cnd h (fun h=>?_) (fun h=>?_)
  ·exact GR
  refine G1 h fun h=>?_
  refine oc (Z1i (vs:=[(2,(.bool true)),(3,(.bool true))]) rfl st41 ⟨rfl,rfl,rfl,rfl,trivial⟩ rfl) ?_
  refine Mc h (fun h=>?_) (fun h=>?_)
  ·exact GR
  refine Ms h (fun h=>?_) (fun h=>?_)
  ·refine Mc h (fun h=>?_) (fun h=>?_)
   ·exact GR
   refine Ms h (fun h=>?_) (fun h=>?_)
   ·refine Mc h (fun h=>?_) (fun h=>?_)
    ·exact GR
    refine AWp.skip ?_
    exact wkx (J3 () h)
   refine G1 h fun h=>?_
   refine AWp.cond (b:=false) I (fun hc=>?_) (fun hc=>?_)
   ·cases hc
   refine AWp.skip ?_
   exact wkx (J3 () h)
  refine G1 h fun h=>?_
  refine AWp.cond (b:=false) I (fun hc=>?_) (fun hc=>?_)
  ·cases hc
  refine Ms h (fun h=>?_) (fun h=>?_)
  ·refine Mc h (fun h=>?_) (fun h=>?_)
   ·exact GR
   refine AWp.skip ?_
   exact wkx (J3 () h)
  refine G1 h fun h=>?_
  refine AWp.cond (b:=false) I (fun hc=>?_) (fun hc=>?_)
  ·cases hc
  refine AWp.skip ?_
  exact wkx (J3 () h)
 refine G1 h fun h=>?_
 refine AWp.cond (b:=false) I (fun hc=>?_) (fun hc=>?_)
 ·cases hc
 refine G1 h fun h=>?_
 refine oc (Z1i (vs:=[(2,(.bool true)),(3,(.bool true))]) rfl st41 ⟨rfl,rfl,rfl,rfl,trivial⟩ rfl) ?_
 refine G1 h fun h=>?_
 refine jn (V:=Unit) (fun v=>Zhd K=some r) [] [] (fun v t=>t) (fun v s=>s) ?_ ?_
 ·intro v h
  try dsimp only at h ⊢
  unfold Zhd at h
  refine Z17 ?_
  exact wkx (J1 () h)
 intro J4
 refine cnd h (fun h=>?_) (fun h=>?_)
 ·exact GR
 refine Ms h (fun h=>?_) (fun h=>?_)
 ·refine Mc h (fun h=>?_) (fun h=>?_)
  ·exact GR
  refine Ms h (fun h=>?_) (fun h=>?_)
  ·refine Mc h (fun h=>?_) (fun h=>?_)
   ·exact GR
   refine AWp.skip ?_
   exact wkx (J4 () h)
  refine G1 h fun h=>?_
  refine AWp.cond (b:=false) I (fun hc=>?_) (fun hc=>?_)
  ·cases hc
  refine AWp.skip ?_
  exact wkx (J4 () h)
 refine G1 h fun h=>?_
 refine AWp.cond (b:=false) I (fun hc=>?_) (fun hc=>?_)
 ·cases hc
 refine Ms h (fun h=>?_) (fun h=>?_)
 ·refine Mc h (fun h=>?_) (fun h=>?_)
  ·exact GR
  refine AWp.skip ?_
  exact wkx (J4 () h)
 refine G1 h fun h=>?_
 refine AWp.cond (b:=false) I (fun hc=>?_) (fun hc=>?_)
 ·cases hc
 refine AWp.skip ?_
 exact wkx (J4 () h)
noncomputable def F19 (K:Nat) (a0:Z1q) (a1:Z1q) (a2:(List Z1)) (a3:(List Int)) (a4:(List Z1)) (a5:(List Z4)) (a6:(List (List Int))) (a7:(List (Int×Int))) (a8:(List Bool)):Option (Int×Int) :=
 (F20 K a0 a1 a2 a3 a4 a5 a6 a7 a8).bind fun v4 =>
 if (v4.1 != 0)=true then
 some (0,v4.1)
 else
 (F70 K v4.2).bind fun v6 =>
 some (v6,0)
theorem F19_ok (K:Nat) (a0:Z1q) (a1:Z1q) (a2:(List Z1)) (a3:(List Int)) (a4:(List Z1)) (a5:(List Z4)) (a6:(List (List Int))) (a7:(List (Int×Int))) (a8:(List Bool)) (r:Int×Int) (h:F19 K a0 a1 a2 a3 a4 a5 a6 a7 a8=some r):ACall P 19 ⟨[(.ptr 2000 0),(Z3m a0),(Z3m a1)],[(2000,(.box [(.sl 10 (a2.map Z3) false),(.sl 1 (a3.map Z7) false),(.sl 10 (a4.map Z3) false),(.sl 3 (a5.map Z9) false),(.sl 1 (a6.map Z19) false),(.map 2001),(.vs 20)])),(2001,(.map (Zn Z7 Z7 a7))),(20,(.vec 1 (List.map Zt a8)))],(.tup [(.int .i64 r.1),(.int .i64 r.2)]),[(2000,(.box [(.sl 10 (a2.map Z3) false),(.sl 1 (a3.map Z7) false),(.sl 10 (a4.map Z3) false),(.sl 3 (a5.map Z9) false),(.sl 1 (a6.map Z19) false),(.map 2001),(.vs 20)])),(2001,(.map (Zn Z7 Z7 a7))),(20,(.vec 1 (List.map Zt a8)))],[20]⟩:=by
 refine ac Tryz.func19 Tryz.results19 Tryz.ntmps19 fun w0 F0 p0 S0 β0 Q hret=>?_
 dsimp only [argT]
 unfold F19 at h
 refine G1 h fun h=>?_
 have⟨v4,hv4,h⟩:=Zd h
 refine oc (Z1d (d:=some 14) (c:=⟨_,[(2000,_),(2001,_),(20,_)],(.tup [(Z1l v4.2),(.int .i64 v4.1)]),[(2000,(.box [(.sl 10 (a2.map Z3) false),(.sl 1 (a3.map Z7) false),(.sl 10 (a4.map Z3) false),(.sl 3 (a5.map Z9) false),(.sl 1 (a6.map Z19) false),(.map 2001),(.vs 20)])),(2001,(.map (Zn Z7 Z7 a7))),(20,(.vec 1 (List.map Zt a8)))],[20]⟩) (ar:=[_,_,_]) (caps:=[]) (news:=[]) (forg:=[20]) Tryz.call20 ((F20_ok (h:=hv4)).sw 79 20) rfl rfl ⟨rfl,rfl,rfl,trivial⟩ rfl ⟨rfl,rfl,rfl,trivial⟩ rfl) ?_
 refine G1 h fun h=>?_
 refine oc (Zm (ds:=_)) ?_
 refine Mc h (fun h=>?_) (fun h=>?_)
 ·exact GR
 refine G1 h fun h=>?_
 have⟨v6,hv6,h⟩:=Zd h
 refine oc (Z15 Tryz.call70 (F70_ok (h:=hv6))) ?_
 exact GR
def Zj9 (_K:Nat) (v1:Bool):Option (Bool) :=
 some v1
def Zja (_K:Nat) (v3:Bool):Option (Bool) :=
 some v3
def F21 (K:Nat) (a0:Int) (a1:Int):Option (Bool) :=
 if (a0==0)=true then
 some true
 else
 if (a0==4)=true then
 if (a1==4)=true then
 Zj9 K true
 else
 if (a1==1)=true then
 Zj9 K true
 else
 Zj9 K (a1==3)
 else
 if (a0==5)=true then
 if (a1==5)=true then
 Zja K true
 else
 if (a1==2)=true then
 Zja K true
 else
 Zja K (a1==3)
 else
 some (a0==a1)
theorem F21_ok (K:Nat) (a0:Int) (a1:Int) (r:Bool) (h:F21 K a0 a1=some r):ACall P 21 ⟨[(.int .i64 a0),(.int .i64 a1)],[],(.bool r),[],[]⟩:=by
 refine ac Tryz.func21 Tryz.results21 Tryz.ntmps21 fun w0 F0 p0 S0 β0 Q hret=>?_
 dsimp only [argT]
 unfold F21 at h
 refine G1 h fun h=>?_
 refine AWp.block ?_
 refine Mc h (fun h=>?_) (fun h=>?_)
 ·exact GR
 refine Mc h (fun h=>?_) (fun h=>?_)
 ·refine AWp.seq ?_
  refine jn (V:=Bool) (fun v=>Zj9 K v=some r) [] [] (fun v t=>(4,(.bool v))::t) (fun v s=>s) ?_ ?_
  ·intro v h
   revert h
   revert v
   intro v1 h
   try dsimp only at h ⊢
   unfold Zj9 at h
   refine At.next ?_
   exact RT
  intro J2
  refine Ms h (fun h=>?_) (fun h=>?_)
  ·exact M2 h (k:=fun h=>wkx (J2 _ h))
  refine Ms h (fun h=>?_) (fun h=>?_)
  ·exact M2 h (k:=fun h=>wkx (J2 _ h))
  exact M2 h (k:=fun h=>wkx (J2 _ h))
 refine Mc h (fun h=>?_) (fun h=>?_)
 ·refine AWp.seq ?_
  refine jn (V:=Bool) (fun v=>Zja K v=some r) [] [] (fun v t=>(4,(.bool v))::t) (fun v s=>s) ?_ ?_
  ·intro v h
   revert h
   revert v
   intro v3 h
   try dsimp only at h ⊢
   unfold Zja at h
   refine At.next ?_
   exact RT
  intro J4
  refine Ms h (fun h=>?_) (fun h=>?_)
  ·exact M2 h (k:=fun h=>wkx (J4 _ h))
  refine Ms h (fun h=>?_) (fun h=>?_)
  ·exact M2 h (k:=fun h=>wkx (J4 _ h))
  exact M2 h (k:=fun h=>wkx (J4 _ h))
 exact GR
def Zey (_K:Nat):Option (Bool) :=
 some true
def Zjf (_K:Nat) (b33:Int→Option (Bool)) (v29:Int):Option (Bool) :=
 b33 (IntKind.i64.wrap (v29+1))
def Z4o (_K:Nat) (b41:Int→Option (Bool)) (v37:Int) (v53:Bool):Option (Bool) :=
 if v53=true then
 some false
 else
 b41 (IntKind.i64.wrap (v37+1))
noncomputable def Z3j (K:Nat) (v28:(List Z25)) (v22:(List Zy)) (v36:Z1q×Int) (v10:(List Z1)×(List Int)×(List Z1)×(List Z4)×(List (List Int))×(List (Int×Int))×(List Bool)) (v14:(List Z1)×(List Int)×(List Z1)×(List Z4)×(List (List Int))×(List (Int×Int))×(List Bool)) (c40:Option (Bool)):Nat→Int→Option (Bool)
 | 0,_=>none
 | k38+1,v37 =>
 if (decide (v37<(v28.length:Int)))=true then
 if (0:Int)≤v37∧v37<v28.length then
 (F18 K (v22.getD (0:Int).toNat Z1s).Spans (v28.getD v37.toNat Z5o)).bind fun v44 =>
 (F19 K v36.1 v44.1 v10.1 v10.2.1 v10.2.2.1 v10.2.2.2.1 v10.2.2.2.2.1 v10.2.2.2.2.2.1 v10.2.2.2.2.2.2).bind fun v46 =>
 (F19 K v36.1 v44.1 v14.1 v14.2.1 v14.2.2.1 v14.2.2.2.1 v14.2.2.2.2.1 v14.2.2.2.2.2.1 v14.2.2.2.2.2.2).bind fun v48 =>
 (F20 K v36.1 v44.1 v10.1 v10.2.1 v10.2.2.1 v10.2.2.2.1 v10.2.2.2.2.1 v10.2.2.2.2.2.1 v10.2.2.2.2.2.2).bind fun v50 =>
 (F20 K v36.1 v44.1 v14.1 v14.2.1 v14.2.2.1 v14.2.2.2.1 v14.2.2.2.2.1 v14.2.2.2.2.2.1 v14.2.2.2.2.2.2).bind fun v52 =>
 if (v36.2 != 0)=true then
 Z4o K (Z3j K v28 v22 v36 v10 v14 c40 k38) v37 true
 else
 if (v44.2 != 0)=true then
 Z4o K (Z3j K v28 v22 v36 v10 v14 c40 k38) v37 true
 else
 if (v46.2 != 0)=true then
 if (v48.2==0)=true then
 Z4o K (Z3j K v28 v22 v36 v10 v14 c40 k38) v37 true
 else
 if (v48.2==0)=true then
 (F21 K v46.1 v48.1).bind fun v56 =>
 if (!v56)=true then
 Z4o K (Z3j K v28 v22 v36 v10 v14 c40 k38) v37 true
 else
 (F15 K v50.2 v52.2).bind fun v58 =>
 if (!v58)=true then
 Z4o K (Z3j K v28 v22 v36 v10 v14 c40 k38) v37 true
 else
 if (v48.2 != 0)=true then
 Z4o K (Z3j K v28 v22 v36 v10 v14 c40 k38) v37 (v48.2 != 21)
 else
 Z4o K (Z3j K v28 v22 v36 v10 v14 c40 k38) v37 false
 else
 if (v48.2 != 0)=true then
 Z4o K (Z3j K v28 v22 v36 v10 v14 c40 k38) v37 (v48.2 != 21)
 else
 Z4o K (Z3j K v28 v22 v36 v10 v14 c40 k38) v37 false
 else
 if (v48.2==0)=true then
 (F21 K v46.1 v48.1).bind fun v60 =>
 if (!v60)=true then
 Z4o K (Z3j K v28 v22 v36 v10 v14 c40 k38) v37 true
 else
 (F15 K v50.2 v52.2).bind fun v62 =>
 if (!v62)=true then
 Z4o K (Z3j K v28 v22 v36 v10 v14 c40 k38) v37 true
 else
 if (v48.2 != 0)=true then
 Z4o K (Z3j K v28 v22 v36 v10 v14 c40 k38) v37 (v48.2 != 21)
 else
 Z4o K (Z3j K v28 v22 v36 v10 v14 c40 k38) v37 false
 else
 if (v48.2 != 0)=true then
 Z4o K (Z3j K v28 v22 v36 v10 v14 c40 k38) v37 (v48.2 != 21)
 else
 Z4o K (Z3j K v28 v22 v36 v10 v14 c40 k38) v37 false
 else none
 else
 c40
noncomputable def Z98 (K:Nat) (v28:(List Z25)) (v22:(List Zy)) (v10:(List Z1)×(List Int)×(List Z1)×(List Z4)×(List (List Int))×(List (Int×Int))×(List Bool)) (v14:(List Z1)×(List Int)×(List Z1)×(List Z4)×(List (List Int))×(List (Int×Int))×(List Bool)) (c32:Option (Bool)):Nat→Int→Option (Bool)
 | 0,_=>none
 | k30+1,v29 =>
 if (decide (v29<(v28.length:Int)))=true then
 if (0:Int)≤v29∧v29<v28.length then
 (F18 K (v22.getD (0:Int).toNat Z1s).Spans (v28.getD v29.toNat Z5o)).bind fun v36 =>
 Z3j K v28 v22 v36 v10 v14 (Zjf K (Z98 K v28 v22 v10 v14 c32 k30) v29) K 0
 else none
 else
 c32
noncomputable def Zex (K:Nat) (a0:Zc) (v10:(List Z1)×(List Int)×(List Z1)×(List Z4)×(List (List Int))×(List (Int×Int))×(List Bool)) (v14:(List Z1)×(List Int)×(List Z1)×(List Z4)×(List (List Int))×(List (Int×Int))×(List Bool)):Option (Bool) :=
 (F16 K a0).bind fun v22 =>
 if ((v22.length:Int)==0)=true then
 some true
 else
 if (0:Int)≤0∧(0:Int)<(v22.length:Nat) then
 if (0:Int).toNat<v22.length then
 if (0:Int)≤0∧(0:Int)<(v22.length:Nat) then
 if (0:Int).toNat<v22.length then
 (F17 K (v22.getD (0:Int).toNat Z1s).Spans (v22.getD (0:Int).toNat Z1s).Id).bind fun v28 =>
 Z98 K v28 v22 v10 v14 (Zey K) K 0
 else none
 else none
 else none
 else none
def Zjg (_K:Nat) (b63:Int→Option (Bool)) (v17:Int):Option (Bool) :=
 b63 (IntKind.i64.wrap (v17+1))
def Zcj (_K:Nat) (b68:Int→Option (Bool)) (v64:Int) (v77:Bool):Option (Bool) :=
 if v77=true then
 some false
 else
 b68 (IntKind.i64.wrap (v64+1))
noncomputable def Z6g (K:Nat) (v16:(List Int)) (v17:Int) (v10:(List Z1)×(List Int)×(List Z1)×(List Z4)×(List (List Int))×(List (Int×Int))×(List Bool)) (v14:(List Z1)×(List Int)×(List Z1)×(List Z4)×(List (List Int))×(List (Int×Int))×(List Bool)) (c67:Option (Bool)):Nat→Int→Option (Bool)
 | 0,_=>none
 | k65+1,v64 =>
 if (decide (v64<(v16.length:Int)))=true then
 if (0:Int)≤v17∧v17<v16.length then
 if (0:Int)≤v64∧v64<v16.length then
 (F14 K (v16.getD v17.toNat 0) (v16.getD v64.toNat 0) v10.1 v10.2.1 v10.2.2.1 v10.2.2.2.1 v10.2.2.2.2.1 v10.2.2.2.2.2.1 v10.2.2.2.2.2.2).bind fun v72 =>
 if (0:Int)≤v17∧v17<v16.length then
 if (0:Int)≤v64∧v64<v16.length then
 (F14 K (v16.getD v17.toNat 0) (v16.getD v64.toNat 0) v14.1 v14.2.1 v14.2.2.1 v14.2.2.2.1 v14.2.2.2.2.1 v14.2.2.2.2.2.1 v14.2.2.2.2.2.2).bind fun v76 =>
 if (v72.1 != 0)=true then
 if (v76.1==0)=true then
 Zcj K (Z6g K v16 v17 v10 v14 c67 k65) v64 true
 else
 if (v76.1==0)=true then
 (F15 K v72.2 v76.2).bind fun v80 =>
 Zcj K (Z6g K v16 v17 v10 v14 c67 k65) v64 (!v80)
 else
 Zcj K (Z6g K v16 v17 v10 v14 c67 k65) v64 false
 else
 if (v76.1==0)=true then
 (F15 K v72.2 v76.2).bind fun v82 =>
 Zcj K (Z6g K v16 v17 v10 v14 c67 k65) v64 (!v82)
 else
 Zcj K (Z6g K v16 v17 v10 v14 c67 k65) v64 false
 else none
 else none
 else none
 else none
 else
 c67
noncomputable def Z97 (K:Nat) (v16:(List Int)) (v10:(List Z1)×(List Int)×(List Z1)×(List Z4)×(List (List Int))×(List (Int×Int))×(List Bool)) (v14:(List Z1)×(List Int)×(List Z1)×(List Z4)×(List (List Int))×(List (Int×Int))×(List Bool)) (c20:Option (Bool)):Nat→Int→Option (Bool)
 | 0,_=>none
 | k18+1,v17 =>
 if (decide (v17<(v16.length:Int)))=true then
 Z6g K v16 v17 v10 v14 (Zjg K (Z97 K v16 v10 v14 c20 k18) v17) K 0
 else
 c20
noncomputable def Zrv (K:Nat) (a0:Zc) (a1:(List Zu)) (a2:(List Zu)) (v1:Bool):Option (Bool) :=
 if v1=true then
 (F6 K).bind fun v4 =>
 if v4=true then
 (F7 K).bind fun v6 =>
 some v6
 else
 some false
 else
 (F10 K a0 a1).bind fun v8 =>
 (F9 K v8).bind fun v10 =>
 if (0 != 0)=true then
 some false
 else
 (F12 K a2).bind fun v12 =>
 (F11 K v12 v10.1 v10.2.1 v10.2.2.1 v10.2.2.2.1 v10.2.2.2.2.1 v10.2.2.2.2.2.1 v10.2.2.2.2.2.2).bind fun v14 =>
 if (0 != 0)=true then
 some false
 else
 (F13 K v10.1 v10.2.1 v10.2.2.1 v10.2.2.2.1 v10.2.2.2.2.1 v10.2.2.2.2.2.1 v10.2.2.2.2.2.2).bind fun v16 =>
 Z97 K v16 v10 v14 (Zex K a0 v10 v14) K 0
noncomputable def F3 (K:Nat) (a0:Zc) (a1:(List Zu)) (a2:(List Zu)):Option (Bool) :=
 (F6 K).bind fun v84 =>
 if (!v84)=true then
 Zrv K a0 a1 a2 true
 else
 (F7 K).bind fun v86 =>
 if (!v86)=true then
 Zrv K a0 a1 a2 true
 else
 (F8 K a0).bind fun v88 =>
 Zrv K a0 a1 a2 (!v88)
theorem F3_ok (K:Nat) (a0:Zc) (a1:(List Zu)) (a2:(List Zu)) (r:Bool) (h:F3 K a0 a1 a2=some r):ACall P 3 ⟨[(Z1r a0),(.sl 3 (a1.map Z2c) false),(.sl 3 (a2.map Z2c) false)],[],(.bool r),[],[]⟩:=by
 refine ac Tryz.func3 Tryz.results3 Tryz.ntmps3 fun w0 F0 p0 S0 β0 Q hret=>?_
 dsimp only [argT]
 unfold F3 at h
 refine G2 h fun h=>?_
 refine At.next<|AWp.seq<|AWp.seq ?_
 refine jn (V:=Bool) (fun v=>Zrv K a0 a1 a2 v=some r) [(1,_),(2,_),(3,_)] [(3,_)] (fun v t=>(45,(.bool v))::t) (fun v s=>s) ?_ ?_
 ·intro v h
  revert h
  revert v
  intro v1 h
  try dsimp only at h ⊢
  unfold Zrv at h
  refine At.next ?_
  refine cnd h (fun h=>?_) (fun h=>?_)
  ·refine AWp.seq<|AWp.region ?_
   have⟨v4,hv4,h⟩:=Zd h
   refine oc (Z15 Tryz.call6 (F6_ok (h:=hv4))) ?_
   refine Ms h (fun h=>?_) (fun h=>?_)
   ·have⟨v6,hv6,h⟩:=Zd h
    refine oT (Z15 Tryz.call7 (F7_ok (h:=hv6))) ?_
    exact GR
   exact GR
  refine G1 h fun h=>?_
  have⟨v8,hv8,h⟩:=Zd h
  refine oc (Z15 Tryz.call10 (F10_ok (h:=hv8))) ?_
  have⟨v10,hv10,h⟩:=Zd h
  refine oc (Z1d (d:=some 54) (c:=⟨_,[],(.tup [(.ptr 234 0),(.int .i64 0)]),[(54,(.map (Zn Z7 Z7 v10.2.2.2.2.2.1))),(234,(.box [(.sl 10 (v10.1.map Z3) false),(.sl 1 (v10.2.1.map Z7) false),(.sl 10 (v10.2.2.1.map Z3) false),(.sl 3 (v10.2.2.2.1.map Z9) false),(.sl 1 (v10.2.2.2.2.1.map Z19) false),(.map 54),(.vs 233)])),(233,(.vec 1 (List.map Zt v10.2.2.2.2.2.2)))],[54,234,233]⟩) (ar:=[_]) (caps:=[]) (news:=[54,234,233]) (forg:=[]) Tryz.call9 ((((F9_ok (h:=hv10)).sw 35 54).sw 37 234).sw 140 233) rfl rfl ⟨rfl,trivial⟩ rfl trivial rfl) ?_
  refine Mc h (fun h=>?_) (fun h=>?_)
  ·exact GR
  refine G1 h fun h=>?_
  have⟨v12,hv12,h⟩:=Zd h
  refine oc (Z15 Tryz.call12 (F12_ok (h:=hv12))) ?_
  have⟨v14,hv14,h⟩:=Zd h
  refine oc (Z1d (d:=some 63) (c:=⟨_,[(234,_),(54,_),(233,_)],(.tup [(.ptr 231 0),(.int .i64 0)]),[(234,(.box [(.sl 10 (v10.1.map Z3) false),(.sl 1 (v10.2.1.map Z7) false),(.sl 10 (v10.2.2.1.map Z3) false),(.sl 3 (v10.2.2.2.1.map Z9) false),(.sl 1 (v10.2.2.2.2.1.map Z19) false),(.map 54),(.vs 233)])),(54,(.map (Zn Z7 Z7 v10.2.2.2.2.2.1))),(233,(.vec 1 (List.map Zt v10.2.2.2.2.2.2))),(63,(.vec 1 (List.map Zt v14.2.2.2.2.2.2))),(232,(.map (Zn Z7 Z7 v14.2.2.2.2.2.1))),(231,(.box [(.sl 10 (v14.1.map Z3) false),(.sl 1 (v14.2.1.map Z7) false),(.sl 10 (v14.2.2.1.map Z3) false),(.sl 3 (v14.2.2.2.1.map Z9) false),(.sl 1 (v14.2.2.2.2.1.map Z19) false),(.map 232),(.vs 63)]))],[233,63,232,231]⟩) (ar:=[_,_]) (caps:=[]) (news:=[63,232,231]) (forg:=[233]) Tryz.call11 (((((((F11_ok (h:=hv14)).sw 2000 234).sw 2001 54).sw 17 233).sw 12 63).sw 15 232).sw 16 231) rfl rfl ⟨rfl,rfl,trivial⟩ rfl ⟨rfl,rfl,rfl,trivial⟩ rfl) ?_
  refine Mc h (fun h=>?_) (fun h=>?_)
  ·exact GR
  refine G1 h fun h=>?_
  have⟨v16,hv16,h⟩:=Zd h
  refine oc (Z1d (d:=some 69) (c:=⟨_,[(234,_),(54,_),(233,_)],(.sl 1 (v16.map Z7) false),[(234,(.box [(.sl 10 (v10.1.map Z3) false),(.sl 1 (v10.2.1.map Z7) false),(.sl 10 (v10.2.2.1.map Z3) false),(.sl 3 (v10.2.2.2.1.map Z9) false),(.sl 1 (v10.2.2.2.2.1.map Z19) false),(.map 54),(.vs 233)])),(54,(.map (Zn Z7 Z7 v10.2.2.2.2.2.1))),(233,(.vec 1 (List.map Zt v10.2.2.2.2.2.2)))],[233]⟩) (ar:=[_]) (caps:=[]) (news:=[]) (forg:=[233]) Tryz.call13 ((((F13_ok (h:=hv16)).sw 2000 234).sw 2001 54).sw 8 233) rfl rfl ⟨rfl,trivial⟩ rfl ⟨rfl,rfl,rfl,trivial⟩ rfl) ?_
  refine G1 h fun h=>?_
  refine AWp.ghost (fun a w h=>gk ⟨[(3,_),(7,_),(9,_),(11,_),(12,_)],[(3,_),(54,_),(229,_),(230,_),(231,_),(232,_),(234,_)]⟩ (Z3x (a:=233) (b:=230) (gk ⟨[(3,_),(7,_),(9,_),(11,_),(12,_)],[(3,_),(54,_),(229,_),(231,_),(232,_),(233,_),(234,_)]⟩ (gk ⟨[(3,(.ptr 3 0)),(7,(.ptr 234 0)),(9,(.ptr 231 0)),(11,(.sl 1 (v16.map Z7) false)),(12,(.int .i64 0))],[(3,(.box (Z1r a0).cells)),(54,(.map (Zn Z7 Z7 v10.2.2.2.2.2.1))),(229,(.vec 1 (List.map Zt v14.2.2.2.2.2.2))),(231,(.box [(.sl 10 (v14.1.map Z3) false),(.sl 1 (v14.2.1.map Z7) false),(.sl 10 (v14.2.2.1.map Z3) false),(.sl 3 (v14.2.2.2.1.map Z9) false),(.sl 1 (v14.2.2.2.2.1.map Z19) false),(.map 232),(.vs 229)])),(232,(.map (Zn Z7 Z7 v14.2.2.2.2.2.1))),(233,(.vec 1 (List.map Zt v10.2.2.2.2.2.2))),(234,(.box [(.sl 10 (v10.1.map Z3) false),(.sl 1 (v10.2.1.map Z7) false),(.sl 10 (v10.2.2.1.map Z3) false),(.sl 3 (v10.2.2.2.1.map Z9) false),(.sl 1 (v10.2.2.2.2.1.map Z19) false),(.map 54),(.vs 233)]))]⟩ (Z3x (a:=63) (b:=229) (gk ⟨[(3,_),(7,_),(9,_),(11,_),(12,_)],[(3,_),(54,_),(63,_),(231,_),(232,_),(233,_),(234,_)]⟩ h)))))) ?_
  refine lb (V:=Int) (X:=Unit) (v:=_) (fun k v=>Z97 K v16 v10 v14 (Zex K a0 v10 v14) k v=some r) (fun v=>Zex K a0 v10 v14=some r) [(3,_),(7,_),(9,_),(11,_)] [(3,_),(54,_),(229,_),(230,_),(231,_),(232,_),(234,_)] [(3,_),(7,_),(9,_)] [(3,_),(54,_),(229,_),(230,_),(231,_),(232,_),(234,_)] (fun v t=>(12,(.int .i64 v))::t) (fun v s=>s) (fun v t=>t) (fun v s=>s) h ?_ ?_
  ·intro v h
   try dsimp only at h ⊢
   unfold Zex at h
   refine G1 h fun h=>?_
   have⟨v22,hv22,h⟩:=Zd h
   refine oc (Z30 (sz:=3) (es:=(List.map Z2o v22)) (ar:=[_]) (caps:=[]) Tryz.call16 ((F16_ok (h:=hv22)).sw 2 125) rfl rfl ⟨rfl,trivial⟩ rfl) ?_
   refine G1 h fun h=>?_
   refine oc (Z2t rfl u45 rfl rfl) ?_
   refine Mc h (fun h=>?_) (fun h=>?_)
   ·exact GR
   refine G1 h fun h=>?_
   have⟨v28,hv28,h⟩:=Zd h
   refine oc (Z15 Tryz.call17 (F17_ok (h:=hv28))) ?_
   refine G1 h fun h=>?_
   refine lb (V:=Int) (X:=Unit) (v:=_) (fun k v=>Z98 K v28 v22 v10 v14 (Zey K) k v=some r) (fun v=>Zey K=some r) [(7,_),(9,_),(19,_),(20,_)] [(54,_),(229,_),(230,_),(231,_),(232,_),(234,_)] [] [] (fun v t=>(21,(.int .i64 v))::t) (fun v s=>s) (fun v t=>t) (fun v s=>s) h ?_ ?_
   ·intro v h
    try dsimp only at h ⊢
    unfold Zey at h
    exact GR
   intro N k30 v h IH30 J30
   revert h
   revert v
   intro v29 h
   try dsimp only at h IH30 J30 ⊢
   cases k30 with
   | zero=>cases h
   | succ k30 =>
    rw [Z98] at h
    refine Mc h (fun h=>?_) (fun h=>?_)
    ·refine AWp.skip<|At.next<|AWp.seq<|AWp.block ?_
     refine G1 h fun h=>?_
     have⟨v36,hv36,h⟩:=Zd h
     refine oc (Z15 Tryz.call18 (F18_ok (h:=hv36))) ?_
     refine G1 h fun h=>?_
     refine oc (Zm (ds:=_)) ?_
     refine G1 h fun h=>?_
     refine lb (V:=Int) (X:=Unit) (v:=_) (fun k v=>Z3j K v28 v22 v36 v10 v14 (Zjf K (Z98 K v28 v22 v10 v14 (Zey K) k30) v29) k v=some r) (fun v=>Zjf K (Z98 K v28 v22 v10 v14 (Zey K) k30) v29=some r) [(7,_),(9,_),(19,_),(20,_),(21,_),(22,_),(23,_)] [(22,_),(54,_),(229,_),(230,_),(231,_),(232,_),(234,_)] [(7,_),(9,_),(19,_),(20,_),(21,_)] [(54,_),(229,_),(230,_),(231,_),(232,_),(234,_)] (fun v t=>(24,(.int .i64 v))::t) (fun v s=>s) (fun v t=>t) (fun v s=>s) h ?_ ?_
     ·intro v h
      try dsimp only at h ⊢
      unfold Zjf at h
      refine Z17<|At.next ?_
      exact M2 h (k:=fun h=>wkx (IH30 _ _ Z1p h))
     intro N k38 v h IH38 J38
     revert h
     revert v
     intro v37 h
     try dsimp only at h IH38 J38 ⊢
     cases k38 with
     | zero=>cases h
     | succ k38 =>
      rw [Z3j] at h
      refine Mc h (fun h=>?_) (fun h=>?_)
      ·refine AWp.skip<|At.next<|AWp.seq<|AWp.block ?_
       refine G1 h fun h=>?_
       have⟨v44,hv44,h⟩:=Zd h
       refine oc (Z15 Tryz.call18 (F18_ok (h:=hv44))) ?_
       refine G1 h fun h=>?_
       refine oc (Zm (ds:=_)) ?_
       refine G1 h fun h=>?_
       have⟨v46,hv46,h⟩:=Zd h
       refine oc (Z1d (d:=some 173) (c:=⟨_,[(234,_),(54,_),(230,_)],(.tup [(.int .i64 v46.1),(.int .i64 v46.2)]),[(234,(.box [(.sl 10 (v10.1.map Z3) false),(.sl 1 (v10.2.1.map Z7) false),(.sl 10 (v10.2.2.1.map Z3) false),(.sl 3 (v10.2.2.2.1.map Z9) false),(.sl 1 (v10.2.2.2.2.1.map Z19) false),(.map 54),(.vs 230)])),(54,(.map (Zn Z7 Z7 v10.2.2.2.2.2.1))),(230,(.vec 1 (List.map Zt v10.2.2.2.2.2.2)))],[230]⟩) (ar:=[_,_,_]) (caps:=[]) (news:=[]) (forg:=[230]) Tryz.call19 ((((F19_ok (h:=hv46)).sw 2000 234).sw 2001 54).sw 20 230) rfl rfl ⟨rfl,rfl,rfl,trivial⟩ rfl ⟨rfl,rfl,rfl,trivial⟩ rfl) ?_
       refine G1 h fun h=>?_
       have⟨v48,hv48,h⟩:=Zd h
       refine oc (Z1d (d:=some 180) (c:=⟨_,[(231,_),(232,_),(229,_)],(.tup [(.int .i64 v48.1),(.int .i64 v48.2)]),[(231,(.box [(.sl 10 (v14.1.map Z3) false),(.sl 1 (v14.2.1.map Z7) false),(.sl 10 (v14.2.2.1.map Z3) false),(.sl 3 (v14.2.2.2.1.map Z9) false),(.sl 1 (v14.2.2.2.2.1.map Z19) false),(.map 232),(.vs 229)])),(232,(.map (Zn Z7 Z7 v14.2.2.2.2.2.1))),(229,(.vec 1 (List.map Zt v14.2.2.2.2.2.2)))],[229]⟩) (ar:=[_,_,_]) (caps:=[]) (news:=[]) (forg:=[229]) Tryz.call19 ((((F19_ok (h:=hv48)).sw 2000 231).sw 2001 232).sw 20 229) rfl rfl ⟨rfl,rfl,rfl,trivial⟩ rfl ⟨rfl,rfl,rfl,trivial⟩ rfl) ?_
       refine G1 h fun h=>?_
       have⟨v50,hv50,h⟩:=Zd h
       refine oc (Z1d (d:=some 187) (c:=⟨_,[(234,_),(54,_),(230,_)],(.tup [(Z1l v50.2),(.int .i64 v50.1)]),[(234,(.box [(.sl 10 (v10.1.map Z3) false),(.sl 1 (v10.2.1.map Z7) false),(.sl 10 (v10.2.2.1.map Z3) false),(.sl 3 (v10.2.2.2.1.map Z9) false),(.sl 1 (v10.2.2.2.2.1.map Z19) false),(.map 54),(.vs 230)])),(54,(.map (Zn Z7 Z7 v10.2.2.2.2.2.1))),(230,(.vec 1 (List.map Zt v10.2.2.2.2.2.2)))],[230]⟩) (ar:=[_,_,_]) (caps:=[]) (news:=[]) (forg:=[230]) Tryz.call20 ((((F20_ok (h:=hv50)).sw 2000 234).sw 2001 54).sw 79 230) rfl rfl ⟨rfl,rfl,rfl,trivial⟩ rfl ⟨rfl,rfl,rfl,trivial⟩ rfl) ?_
       refine G1 h fun h=>?_
       refine oc (Zm (ds:=_)) ?_
       refine G1 h fun h=>?_
       have⟨v52,hv52,h⟩:=Zd h
       refine oc (Z1d (d:=some 194) (c:=⟨_,[(231,_),(232,_),(229,_)],(.tup [(Z1l v52.2),(.int .i64 v52.1)]),[(231,(.box [(.sl 10 (v14.1.map Z3) false),(.sl 1 (v14.2.1.map Z7) false),(.sl 10 (v14.2.2.1.map Z3) false),(.sl 3 (v14.2.2.2.1.map Z9) false),(.sl 1 (v14.2.2.2.2.1.map Z19) false),(.map 232),(.vs 229)])),(232,(.map (Zn Z7 Z7 v14.2.2.2.2.2.1))),(229,(.vec 1 (List.map Zt v14.2.2.2.2.2.2)))],[229]⟩) (ar:=[_,_,_]) (caps:=[]) (news:=[]) (forg:=[229]) Tryz.call20 ((((F20_ok (h:=hv52)).sw 2000 231).sw 2001 232).sw 79 229) rfl rfl ⟨rfl,rfl,rfl,trivial⟩ rfl ⟨rfl,rfl,rfl,trivial⟩ rfl) ?_
       refine G1 h fun h=>?_
       refine oc (Zm (ds:=_)) ?_
       refine G2 h fun h=>?_
       refine At.next<|AWp.seq ?_
       refine jn (V:=Bool) (fun v=>Z4o K (Z3j K v28 v22 v36 v10 v14 (Zjf K (Z98 K v28 v22 v10 v14 (Zey K) k30) v29) k38) v37 v=some r) [(7,_),(9,_),(19,_),(20,_),(21,_),(22,_),(23,_),(24,_)] [(22,_),(54,_),(229,_),(230,_),(231,_),(232,_),(234,_)] (fun v t=>(234,(.bool v))::t) (fun v s=>s) ?_ ?_
       ·intro v h
        revert h
        revert v
        intro v53 h
        try dsimp only at h ⊢
        unfold Z4o at h
        refine At.next ?_
        refine cnd h (fun h=>?_) (fun h=>?_)
        ·exact GR
        refine AWp.skip<|Z17<|At.next ?_
        exact M2 h (k:=fun h=>wkx (IH38 _ _ Z1p h))
       intro J54
       refine Ms h (fun h=>?_) (fun h=>?_)
       ·exact M2 h (k:=fun h=>wkx (J54 _ h))
       refine Ms h (fun h=>?_) (fun h=>?_)
       ·exact M2 h (k:=fun h=>wkx (J54 _ h))
       refine Ms h (fun h=>?_) (fun h=>?_)
       ·refine Ms h (fun h=>?_) (fun h=>?_)
        ·exact M2 h (k:=fun h=>wkx (J54 _ h))
        refine Ms h (fun h=>?_) (fun h=>?_)
        ·refine G1 h fun h=>?_
         have⟨v56,hv56,h⟩:=Zd h
         refine oT (Z15 Tryz.call21 (F21_ok (h:=hv56))) ?_
         refine Ms h (fun h=>?_) (fun h=>?_)
         ·exact M2 h (k:=fun h=>wkx (J54 _ h))
         refine G1 h fun h=>?_
         have⟨v58,hv58,h⟩:=Zd h
         refine oT (Z15 Tryz.call15 (Zqb (h:=hv58))) ?_
         refine Ms h (fun h=>?_) (fun h=>?_)
         ·exact M2 h (k:=fun h=>wkx (J54 _ h))
         refine Ms h (fun h=>?_) (fun h=>?_)
         ·exact M2 h (k:=fun h=>wkx (J54 _ h))
         exact M2 h (k:=fun h=>wkx (J54 _ h))
        refine Ms h (fun h=>?_) (fun h=>?_)
        ·exact M2 h (k:=fun h=>wkx (J54 _ h))
        exact M2 h (k:=fun h=>wkx (J54 _ h))
       refine Ms h (fun h=>?_) (fun h=>?_)
       ·refine G1 h fun h=>?_
        have⟨v60,hv60,h⟩:=Zd h
        refine oT (Z15 Tryz.call21 (F21_ok (h:=hv60))) ?_
        refine Ms h (fun h=>?_) (fun h=>?_)
        ·exact M2 h (k:=fun h=>wkx (J54 _ h))
        refine G1 h fun h=>?_
        have⟨v62,hv62,h⟩:=Zd h
        refine oT (Z15 Tryz.call15 (Zqb (h:=hv62))) ?_
        refine Ms h (fun h=>?_) (fun h=>?_)
        ·exact M2 h (k:=fun h=>wkx (J54 _ h))
        refine Ms h (fun h=>?_) (fun h=>?_)
        ·exact M2 h (k:=fun h=>wkx (J54 _ h))
        exact M2 h (k:=fun h=>wkx (J54 _ h))
       refine Ms h (fun h=>?_) (fun h=>?_)
       ·exact M2 h (k:=fun h=>wkx (J54 _ h))
       exact M2 h (k:=fun h=>wkx (J54 _ h))
      refine AWp.exit<|Zz ?_
      exact wkx (J38 () h)
    refine AWp.exit<|Zz ?_
    exact wkx (J30 () h)
  intro N k18 v h IH18 J18
  revert h
  revert v
  intro v17 h
  try dsimp only at h IH18 J18 ⊢
  cases k18 with
  | zero=>cases h
  | succ k18 =>
   rw [Z97] at h
   refine Mc h (fun h=>?_) (fun h=>?_)
   ·refine AWp.skip<|At.next<|AWp.seq<|AWp.block ?_
    refine G1 h fun h=>?_
    refine lb (V:=Int) (X:=Unit) (v:=_) (fun k v=>Z6g K v16 v17 v10 v14 (Zjg K (Z97 K v16 v10 v14 (Zex K a0 v10 v14) k18) v17) k v=some r) (fun v=>Zjg K (Z97 K v16 v10 v14 (Zex K a0 v10 v14) k18) v17=some r) [(3,_),(7,_),(9,_),(11,_),(12,_)] [(3,_),(54,_),(229,_),(230,_),(231,_),(232,_),(234,_)] [(3,_),(7,_),(9,_),(11,_),(12,_)] [(3,_),(54,_),(229,_),(230,_),(231,_),(232,_),(234,_)] (fun v t=>(13,(.int .i64 v))::t) (fun v s=>s) (fun v t=>t) (fun v s=>s) h ?_ ?_
    ·intro v h
     try dsimp only at h ⊢
     unfold Zjg at h
     refine Z17<|At.next ?_
     exact M2 h (k:=fun h=>wkx (IH18 _ _ Z1p h))
    intro N k65 v h IH65 J65
    revert h
    revert v
    intro v64 h
    try dsimp only at h IH65 J65 ⊢
    cases k65 with
    | zero=>cases h
    | succ k65 =>
     rw [Z6g] at h
     refine Mc h (fun h=>?_) (fun h=>?_)
     ·refine AWp.skip<|At.next<|AWp.seq<|AWp.block ?_
      refine G1 h fun h=>?_
      have⟨v72,hv72,h⟩:=Zd h
      refine oD (Z1d (d:=some 92) (c:=⟨_,[(234,_),(54,_),(230,_)],(.tup [(Z1l v72.2),(.int .i64 v72.1)]),[(234,(.box [(.sl 10 (v10.1.map Z3) false),(.sl 1 (v10.2.1.map Z7) false),(.sl 10 (v10.2.2.1.map Z3) false),(.sl 3 (v10.2.2.2.1.map Z9) false),(.sl 1 (v10.2.2.2.2.1.map Z19) false),(.map 54),(.vs 230)])),(54,(.map (Zn Z7 Z7 v10.2.2.2.2.2.1))),(230,(.vec 1 (List.map Zt v10.2.2.2.2.2.2)))],[230]⟩) (ar:=[_,_,_]) (caps:=[]) (news:=[]) (forg:=[230]) Tryz.call14 ((((Zqa (h:=hv72)).sw 2000 234).sw 2001 54).sw 56 230) rfl rfl ⟨rfl,rfl,rfl,trivial⟩ rfl ⟨rfl,rfl,rfl,trivial⟩ rfl) ?_
      refine G1 h fun h=>?_
      refine oD (Zm (ds:=_)) ?_
      refine G1 h fun h=>?_
      have⟨v76,hv76,h⟩:=Zd h
      refine oD (Z1d (d:=some 105) (c:=⟨_,[(231,_),(232,_),(229,_)],(.tup [(Z1l v76.2),(.int .i64 v76.1)]),[(231,(.box [(.sl 10 (v14.1.map Z3) false),(.sl 1 (v14.2.1.map Z7) false),(.sl 10 (v14.2.2.1.map Z3) false),(.sl 3 (v14.2.2.2.1.map Z9) false),(.sl 1 (v14.2.2.2.2.1.map Z19) false),(.map 232),(.vs 229)])),(232,(.map (Zn Z7 Z7 v14.2.2.2.2.2.1))),(229,(.vec 1 (List.map Zt v14.2.2.2.2.2.2)))],[229]⟩) (ar:=[_,_,_]) (caps:=[]) (news:=[]) (forg:=[229]) Tryz.call14 ((((Zqa (h:=hv76)).sw 2000 231).sw 2001 232).sw 56 229) rfl rfl ⟨rfl,rfl,rfl,trivial⟩ rfl ⟨rfl,rfl,rfl,trivial⟩ rfl) ?_
      refine G1 h fun h=>?_
      refine oD (Zm (ds:=_)) ?_
      refine G2 h fun h=>?_
      refine At.next<|AWp.seq ?_
      refine jn (V:=Bool) (fun v=>Zcj K (Z6g K v16 v17 v10 v14 (Zjg K (Z97 K v16 v10 v14 (Zex K a0 v10 v14) k18) v17) k65) v64 v=some r) [(3,_),(7,_),(9,_),(11,_),(12,_),(13,_)] [(3,_),(54,_),(229,_),(230,_),(231,_),(232,_),(234,_)] (fun v t=>(123,(.bool v))::t) (fun v s=>s) ?_ ?_
      ·intro v h
       revert h
       revert v
       intro v77 h
       try dsimp only at h ⊢
       unfold Zcj at h
       refine At.next ?_
       refine cnd h (fun h=>?_) (fun h=>?_)
       ·exact GR
       refine AWp.skip<|Z17<|At.next ?_
       exact M2 h (k:=fun h=>wkx (IH65 _ _ Z1p h))
      intro J78
      refine Ms h (fun h=>?_) (fun h=>?_)
      ·refine Ms h (fun h=>?_) (fun h=>?_)
       ·exact M2 h (k:=fun h=>wkx (J78 _ h))
       refine Ms h (fun h=>?_) (fun h=>?_)
       ·refine G1 h fun h=>?_
        have⟨v80,hv80,h⟩:=Zd h
        refine oT (Z15 Tryz.call15 (Zqb (h:=hv80))) ?_
        exact M2 h (k:=fun h=>wkx (J78 _ h))
       exact M2 h (k:=fun h=>wkx (J78 _ h))
      refine Ms h (fun h=>?_) (fun h=>?_)
      ·refine G1 h fun h=>?_
       have⟨v82,hv82,h⟩:=Zd h
       refine oT (Z15 Tryz.call15 (Zqb (h:=hv82))) ?_
       exact M2 h (k:=fun h=>wkx (J78 _ h))
      exact M2 h (k:=fun h=>wkx (J78 _ h))
     refine AWp.exit<|Zz ?_
     exact wkx (J65 () h)
   refine AWp.exit<|Zz ?_
   exact wkx (J18 () h)
 intro J2
 refine AWp.region ?_
 have⟨v84,hv84,h⟩:=Zd h
 refine oc (Z15 Tryz.call6 (F6_ok (h:=hv84))) ?_
 refine Ms h (fun h=>?_) (fun h=>?_)
 ·exact M2 h (k:=fun h=>wkx (J2 _ h))
 have⟨v86,hv86,h⟩:=Zd h
 refine oT (Z15 Tryz.call7 (F7_ok (h:=hv86))) ?_
 refine Ms h (fun h=>?_) (fun h=>?_)
 ·exact M2 h (k:=fun h=>wkx (J2 _ h))
 refine G1 h fun h=>?_
 have⟨v88,hv88,h⟩:=Zd h
 refine oT (Z15 Tryz.call8 (F8_ok (h:=hv88))) ?_
 exact M2 h (k:=fun h=>wkx (J2 _ h))
end Go.AM.Tp
