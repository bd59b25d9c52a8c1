/- What these functions compute, each with its walk: F98, F141, F142, F201, F140_i1, F223, F280, F302, F278, F181, F116, F56, F215, F158, F202, F115, F264, F263, F262, F203, F179, F204, F143, F222, F176, F260, F195, F67, F197, F205, F206, F144, F196, F134, F66, F194, F133, F124, F123. -/
import Derived.Test.YtkafecfipfnljaaGreatTpT
namespace Go.AM.Tp
open Go Go.AM Go.Proofs
set_option maxRecDepth 100000
set_option maxHeartbeats 2000000
attribute [local irreducible] Z11 TyOne TyAgg TySl TyZero TyStruct TyEl TyEq AWp AOps AOpsD At
def Zqg (_K:Nat) (v4:(List Z2)):Option ((List Z2)) :=
 some v4
def Zqh (K:Nat) (a0:(List Z32)) (c6:(List Z2)→Option ((List Z2))):Nat→Int→(List Z2)→Option ((List Z2))
 | 0,_,_=>none
 | k3+1,v1,v2 =>
 if (decide (v1<(a0.length:Int)))=true then
 if (decide (v1<12))=true then
 if (0:Int)≤v1∧v1<a0.length then
 if (0:Int)≤0∧(0:Int)<(4:Nat) then
 if (0:Int)≤v1∧v1<a0.length then
 if (0:Int)≤1∧(1:Int)<(4:Nat) then
 if (0:Int)≤v1∧v1<a0.length then
 if (0:Int)≤2∧(2:Int)<(4:Nat) then
 if (0:Int)≤v1∧v1<a0.length then
 if (0:Int)≤3∧(3:Int)<(4:Nat) then
 if v2.length+([(⟨(IntKind.i64.wrap (1+(IntKind.i64.wrap ((([(a0.getD v1.toNat Zi).e0,(a0.getD v1.toNat Zi).e1,(a0.getD v1.toNat Zi).e2,(a0.getD v1.toNat Zi).e3]:List Int).getD (0:Int).toNat 0).tmod 2)))),(IntKind.i64.wrap (1+(IntKind.i64.wrap ((([(a0.getD v1.toNat Zi).e0,(a0.getD v1.toNat Zi).e1,(a0.getD v1.toNat Zi).e2,(a0.getD v1.toNat Zi).e3]:List Int).getD (1:Int).toNat 0).tmod 6)))),(IntKind.i64.wrap ((([(a0.getD v1.toNat Zi).e0,(a0.getD v1.toNat Zi).e1,(a0.getD v1.toNat Zi).e2,(a0.getD v1.toNat Zi).e3]:List Int).getD (2:Int).toNat 0).tmod 8)),(IntKind.i64.wrap ((([(a0.getD v1.toNat Zi).e0,(a0.getD v1.toNat Zi).e1,(a0.getD v1.toNat Zi).e2,(a0.getD v1.toNat Zi).e3]:List Int).getD (3:Int).toNat 0).tmod 3)),1,1,[115],[],[111],0,0,false,[],[]⟩:Z2)]).length≤1073741824 then
 (Zqh K a0 c6 k3) (IntKind.i64.wrap (v1+1)) (v2++([(⟨(IntKind.i64.wrap (1+(IntKind.i64.wrap ((([(a0.getD v1.toNat Zi).e0,(a0.getD v1.toNat Zi).e1,(a0.getD v1.toNat Zi).e2,(a0.getD v1.toNat Zi).e3]:List Int).getD (0:Int).toNat 0).tmod 2)))),(IntKind.i64.wrap (1+(IntKind.i64.wrap ((([(a0.getD v1.toNat Zi).e0,(a0.getD v1.toNat Zi).e1,(a0.getD v1.toNat Zi).e2,(a0.getD v1.toNat Zi).e3]:List Int).getD (1:Int).toNat 0).tmod 6)))),(IntKind.i64.wrap ((([(a0.getD v1.toNat Zi).e0,(a0.getD v1.toNat Zi).e1,(a0.getD v1.toNat Zi).e2,(a0.getD v1.toNat Zi).e3]:List Int).getD (2:Int).toNat 0).tmod 8)),(IntKind.i64.wrap ((([(a0.getD v1.toNat Zi).e0,(a0.getD v1.toNat Zi).e1,(a0.getD v1.toNat Zi).e2,(a0.getD v1.toNat Zi).e3]:List Int).getD (3:Int).toNat 0).tmod 3)),1,1,[115],[],[111],0,0,false,[],[]⟩:Z2)]))
 else none
 else none
 else none
 else none
 else none
 else none
 else none
 else none
 else none
 else
 c6 v2
 else
 c6 v2
def F98 (K:Nat) (a0:(List Z32)):Option ((List Z2)) :=
 Zqh K a0 (Zqg K) K 0 []
theorem F98_ok (K:Nat) (a0:(List Z32)) (r:(List Z2)) (h:F98 K a0=some r):ACall P 98 ⟨[(.sl 4 (a0.map Zef) false)],[],(.sl 14 (r.map Zb) false),[],[]⟩:=by
 refine ac Tryz.func98 Tryz.results98 Tryz.ntmps98 fun w0 F0 p0 S0 β0 Q hret=>?_
 dsimp only [argT]
 unfold F98 at h
 refine AWp.seq<|AWp.region ?_
 refine oc (Zh (v:=(.sl 14 [] false)) rfl rfl) ?_
 refine G1 h fun h=>?_
 refine oc (Zh (v:=(.sl 14 [] true)) rfl rfl) ?_
 refine G1 h fun h=>?_
 refine AWp.ghost (fun a w h=>gk ⟨[(0,_),(3,_),(4,_)],[(3,_)]⟩ (Z38 (k:=3) (m:=3) (sz:=14) (gk ⟨[(3,_),(0,_),(4,_)],[]⟩ h))) ?_
 refine lb (V:=Int×(List Z2)) (X:=(List Z2)) (v:=(_,_)) (fun k v=>Zqh K a0 (Zqg K) k v.1 v.2=some r) (fun v=>Zqg K v=some r) [(0,_),(3,_)] [] [(3,_)] [] (fun v t=>(4,(.int .i64 v.1))::t) (fun v s=>(3,(.vec 14 (List.map Zb v.2)))::s) (fun v t=>t) (fun v s=>(3,(.vec 14 (List.map Zb v)))::s) h ?_ ?_
 ·intro v h
  revert h
  revert v
  intro v4 h
  try dsimp only at h ⊢
  unfold Zqg at h
  refine G1 h fun h=>?_
  refine AWp.ret<|At.ghost (fun a w h=>gk ⟨[(2,_)],[]⟩ (Z1j (m:=3) (sz:=14) (gk ⟨[(2,_)],[(3,_)]⟩ h))) ?_
  exact RT
 intro N k3 v h IH3 J3
 obtain⟨v1,v2⟩:=v
 try dsimp only at h IH3 J3 ⊢
 cases k3 with
 | zero=>cases h
 | succ k3 =>
  rw [Zqh] at h
  refine Ms h (fun h=>?_) (fun h=>?_)
  ·refine Mc h (fun h=>?_) (fun h=>?_)
   ·refine AWp.skip<|At.next<|AWp.seq<|AWp.block ?_
    refine G1 h fun h=>?_
    have⟨hg9,h⟩:=Zg h
    refine oD (Z7w (k:=.i64) (j:=(0:Int)) (l:=[(a0.getD v1.toNat Zi).e0,(a0.getD v1.toNat Zi).e1,(a0.getD v1.toNat Zi).e2,(a0.getD v1.toNat Zi).e3]) (enc:=e_u8) (z:=0) (ds:=[(.int .u8 (([(a0.getD v1.toNat Zi).e0,(a0.getD v1.toNat Zi).e1,(a0.getD v1.toNat Zi).e2,(a0.getD v1.toNat Zi).e3]:List Int).getD (0:Int).toNat 0))]) rfl u90 sz5 rfl rfl rfl rfl Zqq hg9 rfl) ?_
    refine G1 h fun h=>?_
    refine oD (Z2s (b:=2) (c:=((([(a0.getD v1.toNat Zi).e0,(a0.getD v1.toNat Zi).e1,(a0.getD v1.toNat Zi).e2,(a0.getD v1.toNat Zi).e3]:List Int).getD (0:Int).toNat 0).tmod 2)) rfl rfl rfl rfl (by decide)) ?_
    refine oD (Z2l rfl us5 u3 rfl) ?_
    refine G1 h fun h=>?_
    have⟨hg11,h⟩:=Zg h
    refine oD (Z7w (k:=.i64) (j:=(1:Int)) (l:=[(a0.getD v1.toNat Zi).e0,(a0.getD v1.toNat Zi).e1,(a0.getD v1.toNat Zi).e2,(a0.getD v1.toNat Zi).e3]) (enc:=e_u8) (z:=0) (ds:=[(.int .u8 (([(a0.getD v1.toNat Zi).e0,(a0.getD v1.toNat Zi).e1,(a0.getD v1.toNat Zi).e2,(a0.getD v1.toNat Zi).e3]:List Int).getD (1:Int).toNat 0))]) rfl u90 sz5 rfl rfl rfl rfl Zqq hg11 rfl) ?_
    refine G1 h fun h=>?_
    refine oD (Z2s (b:=6) (c:=((([(a0.getD v1.toNat Zi).e0,(a0.getD v1.toNat Zi).e1,(a0.getD v1.toNat Zi).e2,(a0.getD v1.toNat Zi).e3]:List Int).getD (1:Int).toNat 0).tmod 6)) rfl rfl rfl rfl (by decide)) ?_
    refine oD (Z2l rfl us5 u3 rfl) ?_
    refine G1 h fun h=>?_
    have⟨hg13,h⟩:=Zg h
    refine oD (Z7w (k:=.i64) (j:=(2:Int)) (l:=[(a0.getD v1.toNat Zi).e0,(a0.getD v1.toNat Zi).e1,(a0.getD v1.toNat Zi).e2,(a0.getD v1.toNat Zi).e3]) (enc:=e_u8) (z:=0) (ds:=[(.int .u8 (([(a0.getD v1.toNat Zi).e0,(a0.getD v1.toNat Zi).e1,(a0.getD v1.toNat Zi).e2,(a0.getD v1.toNat Zi).e3]:List Int).getD (2:Int).toNat 0))]) rfl u90 sz5 rfl rfl rfl rfl Zqq hg13 rfl) ?_
    refine G1 h fun h=>?_
    refine oD (Z2s (b:=8) (c:=((([(a0.getD v1.toNat Zi).e0,(a0.getD v1.toNat Zi).e1,(a0.getD v1.toNat Zi).e2,(a0.getD v1.toNat Zi).e3]:List Int).getD (2:Int).toNat 0).tmod 8)) rfl rfl rfl rfl (by decide)) ?_
    refine oD (Z2l rfl us5 u3 rfl) ?_
    refine G1 h fun h=>?_
    have⟨hg15,h⟩:=Zg h
    refine oD (Z7w (k:=.i64) (j:=(3:Int)) (l:=[(a0.getD v1.toNat Zi).e0,(a0.getD v1.toNat Zi).e1,(a0.getD v1.toNat Zi).e2,(a0.getD v1.toNat Zi).e3]) (enc:=e_u8) (z:=0) (ds:=[(.int .u8 (([(a0.getD v1.toNat Zi).e0,(a0.getD v1.toNat Zi).e1,(a0.getD v1.toNat Zi).e2,(a0.getD v1.toNat Zi).e3]:List Int).getD (3:Int).toNat 0))]) rfl u90 sz5 rfl rfl rfl rfl Zqq hg15 rfl) ?_
    refine G1 h fun h=>?_
    refine oD (Z2s (b:=3) (c:=((([(a0.getD v1.toNat Zi).e0,(a0.getD v1.toNat Zi).e1,(a0.getD v1.toNat Zi).e2,(a0.getD v1.toNat Zi).e3]:List Int).getD (3:Int).toNat 0).tmod 3)) rfl rfl rfl rfl (by decide)) ?_
    refine oD (Z2l rfl us5 u3 rfl) ?_
    refine oD (Z1i (vs:=[(0,(.int .i64 (IntKind.i64.wrap (1+(IntKind.i64.wrap ((([(a0.getD v1.toNat Zi).e0,(a0.getD v1.toNat Zi).e1,(a0.getD v1.toNat Zi).e2,(a0.getD v1.toNat Zi).e3]:List Int).getD (0:Int).toNat 0).tmod 2)))))),(1,(.int .i64 (IntKind.i64.wrap (1+(IntKind.i64.wrap ((([(a0.getD v1.toNat Zi).e0,(a0.getD v1.toNat Zi).e1,(a0.getD v1.toNat Zi).e2,(a0.getD v1.toNat Zi).e3]:List Int).getD (1:Int).toNat 0).tmod 6)))))),(2,(.int .i64 (IntKind.i64.wrap ((([(a0.getD v1.toNat Zi).e0,(a0.getD v1.toNat Zi).e1,(a0.getD v1.toNat Zi).e2,(a0.getD v1.toNat Zi).e3]:List Int).getD (2:Int).toNat 0).tmod 8)))),(3,(.int .i64 (IntKind.i64.wrap ((([(a0.getD v1.toNat Zi).e0,(a0.getD v1.toNat Zi).e1,(a0.getD v1.toNat Zi).e2,(a0.getD v1.toNat Zi).e3]:List Int).getD (3:Int).toNat 0).tmod 3)))),(4,(.int .i64 1)),(5,(.int .i64 1)),(6,(.str [115])),(8,(.str [111]))]) rfl st94 ⟨rfl,rfl,rfl,rfl,rfl,rfl,rfl,rfl,rfl,rfl,rfl,rfl,rfl,rfl,rfl,rfl,trivial⟩ rfl) ?_
    refine oD (Zj (vs:=[_]) (enc:=Zb) (l:=[(⟨(IntKind.i64.wrap (1+(IntKind.i64.wrap ((([(a0.getD v1.toNat Zi).e0,(a0.getD v1.toNat Zi).e1,(a0.getD v1.toNat Zi).e2,(a0.getD v1.toNat Zi).e3]:List Int).getD (0:Int).toNat 0).tmod 2)))),(IntKind.i64.wrap (1+(IntKind.i64.wrap ((([(a0.getD v1.toNat Zi).e0,(a0.getD v1.toNat Zi).e1,(a0.getD v1.toNat Zi).e2,(a0.getD v1.toNat Zi).e3]:List Int).getD (1:Int).toNat 0).tmod 6)))),(IntKind.i64.wrap ((([(a0.getD v1.toNat Zi).e0,(a0.getD v1.toNat Zi).e1,(a0.getD v1.toNat Zi).e2,(a0.getD v1.toNat Zi).e3]:List Int).getD (2:Int).toNat 0).tmod 8)),(IntKind.i64.wrap ((([(a0.getD v1.toNat Zi).e0,(a0.getD v1.toNat Zi).e1,(a0.getD v1.toNat Zi).e2,(a0.getD v1.toNat Zi).e3]:List Int).getD (3:Int).toNat 0).tmod 3)),1,1,[115],[],[111],0,0,false,[],[]⟩:Z2)]) rfl Zlr rfl rfl ⟨rfl,trivial⟩ rfl Z1t rfl rfl rfl rfl) ?_
    have⟨hg16,h⟩:=Zg h
    refine oD (Z1g (m:=3) rfl rfl Zlr rfl u47 rfl rfl rfl rfl (oneRead rfl) Z1t hg16) ?_
    refine G2 h fun h=>?_
    refine Z17<|At.next ?_
    exact M2 h (k:=fun h=>wkx (IH3 _ (_,_) Z1p h))
   refine AWp.exit<|Zz ?_
   exact wkx (J3 _ h)
  refine G1 h fun h=>?_
  refine AWp.cond (b:=false) I (fun hc=>?_) (fun hc=>?_)
  ·cases hc
  refine AWp.exit<|Zz ?_
  exact wkx (J3 _ h)
def F141 (_K:Nat) (a0:(List Z2)):Option ((List Z2)) :=
 if ([]:List Z2).length+a0.length≤1073741824 then
 some a0
 else none
theorem F141_ok (K:Nat) (a0:(List Z2)) (r:(List Z2)) (h:F141 K a0=some r):ACall P 141 ⟨[(.sl 14 (a0.map Zb) false)],[],.vs 2,[(2,.vec 14 (List.map Zb r))],[2]⟩:=by
 refine ac Tryz.func141 Tryz.results141 Tryz.ntmps141 fun w0 F0 p0 S0 β0 Q hret=>?_
 dsimp only [argT]
 unfold F141 at h
 refine AWp.seq<|AWp.region ?_
 refine oc (Zh (v:=(.sl 14 [] true)) rfl rfl) ?_
 refine G1 h fun h=>?_
 refine Z5h (enc:=Zb) (es:=a0) (full:=false) I u47 I (fun x1 hbx1=>?_)
 refine AOps.nil<|At.next ?_
 refine AWp.cond I (fun hc=>?_) (fun hc=>?_)
 ·have hz:=hbx1 hc
  have h:(some [])=some r:=by simp only [hz] at h ⊢;simpa using h
  refine AWp.seq<|AWp.region ?_
  refine oc (Zh (v:=(.sl 14 [] true)) rfl rfl) ?_
  refine AOps.nil<|At.next<|AWp.ret<|Z27<|At.ghost (fun a w h=>gk ⟨[(2,_)],[(2,_)]⟩ (Z38 (k:=2) (m:=2) (sz:=14) (gk ⟨[(2,_)],[]⟩ h))) ?_
  exact RT
 refine G1 h fun h=>?_
 refine oc (Zj (vs:=[]) (enc:=Zb) (l:=([]:List Z2)) rfl Zlr rfl rfl trivial rfl Z1t rfl rfl rfl rfl) ?_
 refine G1 h fun h=>?_
 have⟨hg2,h⟩:=Zg h
 refine oc (Z1g (m:=5) rfl rfl Zlr rfl u47 rfl rfl rfl ⟨rfl,rfl,rfl⟩ noReads Z1t hg2) ?_
 refine G1 h fun h=>?_
 refine AWp.ret<|At.ghost (fun a w h=>gk ⟨[(2,_)],[(2,_)]⟩ (Z3x (a:=5) (b:=2) (gk ⟨[(2,_)],[(5,_)]⟩ h))) ?_
 exact RT
def F142 (_K:Nat) (a0:Z2) (a1:Int):Option (Bool) :=
 some (a0.Trace != a1)
theorem F142_ok (K:Nat) (a0:Z2) (a1:Int) (r:Bool) (h:F142 K a0 a1=some r):ACall P 142 ⟨[(Zb a0),(.ip [(.int .i64 a1)])],[],(.bool r),[],[]⟩:=by
 refine ac Tryz.func142 Tryz.results142 Tryz.ntmps142 fun w0 F0 p0 S0 β0 Q hret=>?_
 dsimp only [argT]
 unfold F142 at h
 exact GR
def Zdu (_K:Nat):Option (Int) :=
 some (Int.negSucc 0)
def Zbo (K:Nat) (a0:(List Z2)) (a100:Int) (c4:Option (Int)):Nat→Int→Option (Int)
 | 0,_=>none
 | k2+1,v1 =>
 if (decide (v1<(a0.length:Int)))=true then
 if (0:Int)≤v1∧v1<a0.length then
 (F142 K (a0.getD v1.toNat Z5) a100).bind fun v8 =>
 if v8=true then
 some v1
 else
 (Zbo K a0 a100 c4 k2) (IntKind.i64.wrap (v1+1))
 else none
 else
 c4
def F201 (K:Nat) (a0:(List Z2)) (a100:Int):Option (Int) :=
 Zbo K a0 a100 (Zdu K) K 0
theorem F201_ok (K:Nat) (a0:(List Z2)) (a100:Int) (r:Int) (h:F201 K a0 a100=some r):ACall P 201 ⟨[(.sl 14 (a0.map Zb) false),(.clo 142 [(.ip [(.int .i64 a100)])])],[],(.int .i64 r),[],[]⟩:=by
 refine ac Tryz.func201 Tryz.results201 Tryz.ntmps201 fun w0 F0 p0 S0 β0 Q hret=>?_
 dsimp only [argT]
 unfold F201 at h
 refine G1 h fun h=>?_
 refine lb (V:=Int) (X:=Unit) (v:=_) (fun k v=>Zbo K a0 a100 (Zdu K) k v=some r) (fun v=>Zdu K=some r) [(0,_),(1,_),(7,_)] [] [] [] (fun v t=>(8,(.int .i64 v))::t) (fun v s=>s) (fun v t=>t) (fun v s=>s) h ?_ ?_
 ·intro v h
  try dsimp only at h ⊢
  unfold Zdu at h
  exact GR
 intro N k2 v h IH2 J2
 revert h
 revert v
 intro v1 h
 try dsimp only at h IH2 J2 ⊢
 cases k2 with
 | zero=>cases h
 | succ k2 =>
  rw [Zbo] at h
  refine Mc h (fun h=>?_) (fun h=>?_)
  ·refine AWp.skip<|At.next<|AWp.seq<|AWp.block ?_
   refine G1 h fun h=>?_
   have⟨v8,hv8,h⟩:=Zd h
   refine oc (Zg5 (ar:=[(Zb (a0.getD v1.toNat Z5))]) Tryz.call142 (F142_ok (h:=hv8)) rfl rfl ⟨rfl,trivial⟩ rfl) ?_
   refine AOps.nil<|At.next ?_
   refine cnd h (fun h=>?_) (fun h=>?_)
   ·exact GR
   refine AWp.skip<|Z17<|At.next ?_
   exact M2 h (k:=fun h=>wkx (IH2 _ _ Z1p h))
  refine AWp.exit<|Zz ?_
  exact wkx (J2 () h)
def Z6f (_K:Nat) (v8:Int) (v9:(List Z2)):Option ((List Z2)) :=
 if (0:Int)≤v8∧v8≤(v9.length:Int)∧(v9.length:Int)≤(v9.length:Nat) then
 if (0+v8.toNat)+((v9.length:Int).toNat - v8.toNat)≤v9.length then
 if (0+v8.toNat)+((v9.length:Int).toNat - v8.toNat)≤v9.length then
 if (0:Int)≤0∧0≤v8∧v8≤((v9.take (0+v8.toNat)++List.replicate ((v9.length:Int).toNat - v8.toNat) Z5++v9.drop ((0+v8.toNat)+((v9.length:Int).toNat - v8.toNat))).length:Nat) then
 if (0+(0:Int).toNat)+(v8.toNat - (0:Int).toNat)≤(v9.take (0+v8.toNat)++List.replicate ((v9.length:Int).toNat - v8.toNat) Z5++v9.drop ((0+v8.toNat)+((v9.length:Int).toNat - v8.toNat))).length then
 if (0+(0:Int).toNat)+(v8.toNat - (0:Int).toNat)≤(v9.take (0+v8.toNat)++List.replicate ((v9.length:Int).toNat - v8.toNat) Z5++v9.drop ((0+v8.toNat)+((v9.length:Int).toNat - v8.toNat))).length then
 some (((v9.take (0+v8.toNat)++List.replicate ((v9.length:Int).toNat - v8.toNat) Z5++v9.drop ((0+v8.toNat)+((v9.length:Int).toNat - v8.toNat))).drop (0+(0:Int).toNat)).take (v8.toNat - (0:Int).toNat))
 else none
 else none
 else none
 else none
 else none
 else none
def Z83 (_K:Nat) (b18:Int→Int→(List Z2)→Option ((List Z2))) (v5:Int) (v23:Int) (v24:(List Z2)):Option ((List Z2)) :=
 b18 v23 (IntKind.i64.wrap (v5+1)) v24
def Z62 (K:Nat) (a1:Int) (c11:Int→(List Z2)→Option ((List Z2))):Nat→Int→Int→(List Z2)→Option ((List Z2))
 | 0,_,_,_=>none
 | k7+1,v4,v5,v6 =>
 if (decide (v5<(v6.length:Int)))=true then
 if (0:Int)≤v5∧v5<(v6.length:Nat) then
 if v5.toNat<v6.length then
 (F142 K (v6.getD v5.toNat Z5) a1).bind fun v22 =>
 if (!v22)=true then
 if (0:Int)≤v4∧v4<(v6.length:Nat) then
 if v4.toNat<v6.length then
 Z83 K (Z62 K a1 c11 k7) v5 (IntKind.i64.wrap (v4+1)) (v6.set v4.toNat (v6.getD v5.toNat Z5))
 else none
 else none
 else
 Z83 K (Z62 K a1 c11 k7) v5 v4 v6
 else none
 else none
 else
 c11 v4 v6
def Zgg (K:Nat) (a0:(List Z2)) (a1:Int):Option ((List Z2)) :=
 (F201 K a0 a1).bind fun v3 =>
 if (v3==(Int.negSucc 0))=true then
 some a0
 else
 Z62 K a1 (Z6f K) K v3 (IntKind.i64.wrap (v3+1)) a0
theorem Zrt (K:Nat) (a0:(List Z2)) (a1:Int) (r:(List Z2)) (h:Zgg K a0 a1=some r):ACall P 140 ⟨[(.vs 41),(.clo 142 [(.ptr 2001 0)])],[(41,(.vec 14 (List.map Zb a0))),(2001,(.box [(.int .i64 a1)]))],(.vs 41),[(41,(.vec 14 (List.map Zb r))),(2001,(.box [(.int .i64 a1)]))],[41]⟩:=by
 refine ac Tryz.func140 Tryz.results140 Tryz.ntmps140 fun w0 F0 p0 S0 β0 Q hret=>?_
 dsimp only [argT]
 unfold Zgg at h
 refine AWp.seq<|AWp.region ?_
 refine oc (Zh (v:=(.sl 14 [] false)) rfl rfl) ?_
 refine G1 h fun h=>?_
 have⟨v3,hv3,h⟩:=Zd h
 refine oc (Z2r (rd:=[(41,(.vec 14 (List.map Zb a0))),(2001,(.box [(.int .i64 a1)]))]) (ar:=[_,_]) Tryz.call201 (F201_ok (h:=hv3)) rfl rfl ⟨rfl,rfl,trivial⟩ (Z2f ⟨rfl,rfl,trivial⟩) rfl rfl rfl) ?_
 refine Mc h (fun h=>?_) (fun h=>?_)
 ·exact GR
 refine G1 h fun h=>?_
 refine lb (V:=Int×Int×(List Z2)) (X:=Int×(List Z2)) (v:=(_,_,_)) (fun k v=>Z62 K a1 (Z6f K) k v.1 v.2.1 v.2.2=some r) (fun v=>Z6f K v.1 v.2=some r) [(0,_),(1,_)] [(2001,_)] [(0,_)] [(2001,_)] (fun v t=>(5,(.int .i64 v.1))::(6,(.int .i64 v.2.1))::t) (fun v s=>(41,(.vec 14 (List.map Zb v.2.2)))::s) (fun v t=>(5,(.int .i64 v.1))::t) (fun v s=>(41,(.vec 14 (List.map Zb v.2)))::s) h ?_ ?_
 ·intro v h
  obtain⟨v8,v9⟩:=v
  try dsimp only at h ⊢
  unfold Z6f at h
  refine G1 h fun h=>?_
  have⟨hg12,h⟩:=Zg h
  have⟨hg13,h⟩:=Zg h
  refine oc (Z3v (v:=(.vs 41)) (n:=41) (off:=0) (len:=v9.length) (l:=v9) (enc:=Zb) (kl:=.i64) (lo:=v8) rfl s47 rfl rfl (Z31 _ _ _) rfl hg12 rfl) ?_
  have⟨hg14,h⟩:=Zg h
  refine oc (Zg6 (v:=(.vsub 41 (0+v8.toNat) ((v9.length:Int).toNat - v8.toNat) false)) (n:=41) (off:=(0+v8.toNat)) (len:=((v9.length:Int).toNat - v8.toNat)) (l:=v9) (enc:=Zb) Zlr ze94 rfl rfl rfl (Z36 hg14) Z1t) ?_
  refine G1 h fun h=>?_
  have⟨hg15,h⟩:=Zg h
  have⟨hg16,h⟩:=Zg h
  refine oc (Z3i (v:=(.vs 41)) (n:=41) (off:=0) (len:=(v9.take (0+v8.toNat)++List.replicate ((v9.length:Int).toNat - v8.toNat) Z5++v9.drop ((0+v8.toNat)+((v9.length:Int).toNat - v8.toNat))).length) (l:=(v9.take (0+v8.toNat)++List.replicate ((v9.length:Int).toNat - v8.toNat) Z5++v9.drop ((0+v8.toNat)+((v9.length:Int).toNat - v8.toNat)))) (enc:=Zb) (kh:=.i64) (hi:=v8) rfl s47 rfl rfl (Z31 _ _ _) rfl hg15 rfl) ?_
  refine G1 h fun h=>?_
  refine AWp.ret ?_
  have⟨hg17,h⟩:=Zg h
  refine At.ghost (fun a w h=>gk ⟨[(4,_)],[(41,_),(2001,_)]⟩ (Z4c (k:=4) (m:=41) (sz:=14) (off:=(0+(0:Int).toNat)) (len:=(v8.toNat - (0:Int).toNat)) (enc:=Zb) (l:=(v9.take (0+v8.toNat)++List.replicate ((v9.length:Int).toNat - v8.toNat) Z5++v9.drop ((0+v8.toNat)+((v9.length:Int).toNat - v8.toNat)))) I hg17 a w (gk ⟨[(4,_)],[(41,_),(2001,_)]⟩ h))) ?_
  exact RT
 intro N k7 v h IH7 J7
 obtain⟨v4,v5,v6⟩:=v
 try dsimp only at h IH7 J7 ⊢
 cases k7 with
 | zero=>cases h
 | succ k7 =>
  rw [Z62] at h
  refine G1 h fun h=>?_
  refine oc (Z2t rfl u47 rfl rfl) ?_
  refine Mc h (fun h=>?_) (fun h=>?_)
  ·refine AWp.skip<|At.next<|AWp.seq<|AWp.block ?_
   refine G1 h fun h=>?_
   refine oc (Z2a rfl z94 rfl rfl rfl) ?_
   refine oc (Zm (ds:=_)) ?_
   refine G1 h fun h=>?_
   have⟨v22,hv22,h⟩:=Zd h
   refine oc (Z2r (rd:=[(2001,(.box [(.int .i64 a1)]))]) (ar:=[_]) Tryz.call142 (F142_ok (h:=hv22)) rfl rfl ⟨rfl,trivial⟩ (Z2f ⟨rfl,trivial⟩) rfl rfl rfl) ?_
   refine G1 h fun h=>?_
   refine jn (V:=Int×(List Z2)) (fun v=>Z83 K (Z62 K a1 (Z6f K) k7) v5 v.1 v.2=some r) [(0,_),(1,_),(6,_)] [(2001,_)] (fun v t=>(5,(.int .i64 v.1))::t) (fun v s=>(41,(.vec 14 (List.map Zb v.2)))::s) ?_ ?_
   ·intro v h
    obtain⟨v23,v24⟩:=v
    try dsimp only at h ⊢
    unfold Z83 at h
    refine Z17<|At.next ?_
    exact M2 h (k:=fun h=>wkx (IH7 _ (_,_,_) Z1p h))
   intro J25
   refine cnd h (fun h=>?_) (fun h=>?_)
   ·refine G1 h fun h=>?_
    have⟨hg27,h⟩:=Zg h
    refine oc (Z4u (l:=v6) (enc:=Zb) (z:=Z5) (a:=(v6.getD v5.toNat Z5)) (v:=(Zb (v6.getD v5.toNat Z5))) sz94 rfl rfl hg27 rfl Z1t rfl rfl rfl rfl) ?_
    refine AOps.nil<|At.next ?_
    exact M2 h (k:=fun h=>wkx (J25 (_,_) h))
   refine AWp.skip ?_
   exact wkx (J25 (_,_) h)
  refine AWp.exit<|Zz ?_
  exact wkx (J7 (_,_) h)
def F223 (_K:Nat) (a0:(List Z2)):Option ((List Z2)) :=
 some a0
theorem F223_ok (K:Nat) (a0:(List Z2)) (r:(List Z2)) (h:F223 K a0=some r):ACall P 223 ⟨[(.sl 14 (a0.map Zb) false)],[],(.clo 280 [(.ip [(.sl 14 (r.map Zb) false)])]),[],[]⟩:=by
 refine ac Tryz.func223 Tryz.results223 Tryz.ntmps223 fun w0 F0 p0 S0 β0 Q hret=>?_
 dsimp only [argT]
 unfold F223 at h
 refine G1 h fun h=>?_
 refine oc (Z2k (vs:=[(.ptr 1 0)]) rfl ⟨rfl,trivial⟩) ?_
 refine G1 h fun h=>?_
 refine AWp.ret<|At.ghost (fun a w h=>gk ⟨[(2,_)],[]⟩ (Z3h (m:=1) (cs:=[(.sl 14 (a0.map Zb) false)]) I a w (gk ⟨[(2,_)],[(1,_)]⟩ h))) ?_
 have h:=Option.some.inj h
 subst h
 refine (hret _ ?_).1
 exact⟨[(.clo 280 [(.ip [(.sl 14 (a0.map Zb) false)])])],⟨I,J0⟩,I,J0⟩
def Ze1 (_K:Nat) (v4:(List Z2)):Option ((List Z2)) :=
 some v4
def Zbq (K:Nat) (a1:(List Z2)) (a899:Z2→(List Z2)→Option ((List Z2))) (c6:(List Z2)→Option ((List Z2))):Nat→Int→(List Z2)→Option ((List Z2))
 | 0,_,_=>none
 | k3+1,v1,v2 =>
 if (decide (v1<(a1.length:Int)))=true then
 if (0:Int)≤v1∧v1<a1.length then
 (a899 (a1.getD v1.toNat Z5) v2).bind fun v9 =>
 (Zbq K a1 a899 c6 k3) (IntKind.i64.wrap (v1+1)) v9
 else none
 else
 c6 v2
def F280 (K:Nat) (a899:Z2→(List Z2)→Option ((List Z2))) (a900:(List Z2)) (a1:(List Z2)):Option ((List Z2)) :=
 Zbq K a1 a899 (Ze1 K) K 0 a900
theorem F280_ok (K:Nat) (a899:Z2→(List Z2)→Option ((List Z2))) (a900:(List Z2)) (a1:(List Z2)) (r:(List Z2)) (lr:Go.Loop) (h:F280 K a899 a900 a1=some r) (hps:lr.params.size=1) (hy:∀(x0:Z2) (a900:(List Z2)) (w:(List Z2)),a899 x0 a900=some w→YCall P lr 1000 ⟨[(Zb x0)],[(1000,(.loop lr [2] [(.ptr 1001 0)])),(0,(.vec 14 (List.map Zb a900))),(1001,(.box [(.vs 0)]))],.bool true,[(1000,(.loop lr [2] [(.ptr 1001 0)])),(0,(.vec 14 (List.map Zb w))),(1001,(.box [(.vs 0)]))],[0]⟩):ACall P 280 ⟨[(.yld 1000),(.ip [(.sl 14 (a1.map Zb) false)])],[(1000,(.loop lr [2] [(.ptr 1001 0)])),(0,(.vec 14 (List.map Zb a900))),(1001,(.box [(.vs 0)]))],.tup [],[(1000,(.loop lr [2] [(.ptr 1001 0)])),(0,(.vec 14 (List.map Zb r))),(1001,(.box [(.vs 0)]))],[0]⟩:=by
 refine ac Tryz.func280 Tryz.results280 Tryz.ntmps280 fun w0 F0 p0 S0 β0 Q hret=>?_
 dsimp only [argT]
 unfold F280 at h
 refine G1 h fun h=>?_
 refine lb (V:=Int×(List Z2)) (X:=(List Z2)) (v:=(_,_)) (fun k v=>Zbq K a1 a899 (Ze1 K) k v.1 v.2=some r) (fun v=>Ze1 K v=some r) [(0,_),(5,_),(6,_)] [(1000,_),(1001,_)] [] [(1000,_),(1001,_)] (fun v t=>(7,(.int .i64 v.1))::t) (fun v s=>(0,(.vec 14 (List.map Zb v.2)))::s) (fun v t=>t) (fun v s=>(0,(.vec 14 (List.map Zb v)))::s) h ?_ ?_
 ·intro v h
  revert h
  revert v
  intro v4 h
  try dsimp only at h ⊢
  unfold Ze1 at h
  have h:=Option.some.inj h
  subst h
  refine (hret _ ?_).2
  exact⟨[],J0,I,⟨I,I,I,J0⟩⟩
 intro N k3 v h IH3 J3
 obtain⟨v1,v2⟩:=v
 try dsimp only at h IH3 J3 ⊢
 cases k3 with
 | zero=>cases h
 | succ k3 =>
  rw [Zbq] at h
  refine Mc h (fun h=>?_) (fun h=>?_)
  ·refine AWp.skip<|At.next<|AWp.seq<|AWp.block ?_
   refine G1 h fun h=>?_
   refine oc (Z2a rfl z94 rfl rfl rfl) ?_
   refine oc (Zm (ds:=_)) ?_
   refine G1 h fun h=>?_
   have⟨v9,hv9,h⟩:=Zd h
   refine oc (Zdc (d:=some 13) (ks:=[2]) (vs:=[(.ptr 1001 0)]) (c:=⟨[(Zb (a1.getD v1.toNat Z5))],[(1000,(.loop lr [2] [(.ptr 1001 0)])),(0,(.vec 14 (List.map Zb v2))),(1001,(.box [(.vs 0)]))],.bool true,[(1000,(.loop lr [2] [(.ptr 1001 0)])),(0,(.vec 14 (List.map Zb v9))),(1001,(.box [(.vs 0)]))],[0]⟩) (ar:=[(Zb (a1.getD v1.toNat Z5))]) (news:=[]) (forg:=[0]) (hy (a1.getD v1.toNat Z5) v2 _ hv9) rfl hps rfl rfl ⟨rfl,trivial⟩ rfl ⟨rfl,rfl,rfl,trivial⟩ rfl) ?_
   refine G1 h fun h=>?_
   refine AWp.cond (b:=false) I (fun hc=>?_) (fun hc=>?_)
   ·cases hc
   refine AWp.skip<|Z17<|At.next ?_
   exact M2 h (k:=fun h=>wkx (IH3 _ (_,_) Z1p h))
  refine AWp.exit<|Zz ?_
  exact wkx (J3 _ h)
def Ze2 (_K:Nat) (x2:Z2) (v1:(List Z2)):Option ((List Z2)) :=
 if v1.length+[x2].length≤1073741824 then
 some (v1++[x2])
 else none
def F302 (K:Nat) (a100:(List Z2)):Option ((List Z2)) :=
 (F280 K (Ze2 K) [] a100).bind fun v5 =>
 some v5
theorem F302_ok (K:Nat) (a100:(List Z2)) (r:(List Z2)) (h:F302 K a100=some r):ACall P 302 ⟨[(.sl 14 [] true),(.clo 280 [(.ip [(.sl 14 (a100.map Zb) false)])])],[],.vs 4,[(4,.vec 14 (List.map Zb r))],[4]⟩:=by
 refine ac Tryz.func302 Tryz.results302 Tryz.ntmps302 fun w0 F0 p0 S0 β0 Q hret=>?_
 dsimp only [argT]
 unfold F302 at h
 refine AWp.seq<|AWp.region ?_
 refine oc (Zij rfl rfl rfl rfl rfl) ?_
 refine oc (Zh (v:=(.sl 14 [] false)) rfl rfl) ?_
 refine G1 h fun h=>?_
 refine AWp.block<|AWp.ghost (fun a w h=>gk ⟨[(2,_),(6,_)],[(2,_),(12,_)]⟩ (Zc8 (n:=2) (m:=12) (sz:=14) (j:=0) (gk ⟨[(2,_),(6,_)],[(2,_)]⟩ h))) ?_
 have⟨v5,hv5,h⟩:=Zd h
 refine ww (st':=⟨[(2,_),(6,_)],[(2,_),(12,_)]⟩) ?_
 refine AWp.rangeFunc (n:=1) (f:=280) (caps:=[(.ip [(.sl 14 (a100.map Zb) false)])]) (ks:=[2]) (vs:=[(.ptr 2 0)]) (ins:=[(12,(.vec 14 (List.map Zb []))),(2,(.box [(.vs 12)]))]) (outs:=[(12,(.vec 14 (List.map Zb v5))),(2,(.box [(.vs 12)]))]) (res:=.tup []) (mv:=[12]) (forg:=[12]) (jump:=none) I Tryz.call280 I I I I ⟨I,J0⟩ ⟨I,I,J0⟩ I I I I (fun lr hst hpe hpr has hbd hsz=>?_) (fun _=>?_) (fun c hc=>by cases hc)
 ·have hend:=Z6n hst hpe
  rw [hend]
  have hps:lr.params.size=1∧True:=⟨by rw [hpr];rfl,trivial⟩
  have hy:∀(x2:Z2) (v1:(List Z2)) (w:(List Z2)),Ze2 K x2 v1=some w→YCall P lr 1000 ⟨[(Zb x2)],[(1000,.loop lr [2] [(.ptr 1001 0)]),(0,(.vec 14 (List.map Zb v1))),(1001,(.box [(.vs 0)]))],.bool true,[(1000,.loop lr [2] [(.ptr 1001 0)]),(0,(.vec 14 (List.map Zb w))),(1001,(.box [(.vs 0)]))],[0]⟩:=by
   intro x2 v1 r h
   unfold Ze2 at h
   refine Zde (ks:=[2]) (vs:=[(.ptr 1001 0)]) (ps:=[7]) rfl hst hsz hpr rfl (by decide) rfl rfl rfl ?_
   intro E Qa Qb hP hN hmid hfin
   obtain⟨P',nt',w0,F0,p0,S0,β0,ro0⟩:=E
   simp only at hP hN
   subst hP hN
   refine Z5c has ?_
   dsimp only [List.zip,List.zipWith,List.cons_append,List.nil_append]
   refine AWp.region ?_
   refine oc (Z2a rfl z94 rfl rfl rfl) ?_
   refine oc (Zm (ds:=_)) ?_
   refine AOps.nil ?_
   refine hmid _ _ _ rfl ?_
   refine Z5c hbd<|AWp.block ?_
   refine G1 h fun h=>?_
   refine oc (Zj (vs:=[_]) (enc:=Zb) (l:=[x2]) rfl Zlr rfl rfl ⟨rfl,trivial⟩ rfl Z1t rfl rfl rfl rfl) ?_
   have⟨hg3,h⟩:=Zg h
   refine oc (Z1g (m:=0) rfl rfl Zlr rfl u47 rfl rfl rfl rfl (oneRead rfl) Z1t hg3) ?_
   refine oc (Zm (ds:=[_])) ?_
   refine AOps.nil<|Z17 ?_
   have h:=Option.some.inj h
   subst h
   refine hfin _ _ _ none .normal rfl rfl rfl ?_
   rw [hend]
   exact⟨I,I,I,J0⟩
  exact (((F280_ok K (Ze2 K) [] a100 v5 lr hv5 hps.1 hy).sw 1000 1).sw 0 12).sw 1001 2
 refine At.weaken (st':=⟨[(2,(.ptr 2 0)),(6,(.clo 280 [(.ip [(.sl 14 (a100.map Zb) false)])]))],[(2,(.box [(.vs 12)])),(12,(.vec 14 (List.map Zb v5)))]⟩) ⟨I,I,J0⟩ ⟨I,I,J0⟩ ?_
 refine G1 h fun h=>?_
 refine AWp.ret<|At.ghost (fun a w h=>gk ⟨[(4,_)],[(4,_)]⟩ (Z3x (a:=12) (b:=4) (gk ⟨[(4,_)],[(12,_)]⟩ h))) ?_
 exact RT
def F278 (K:Nat) (a000:(List Z2)):Option ((List Z2)) :=
 (F302 K a000).bind fun v2 =>
 some v2
theorem F278_ok (K:Nat) (a000:(List Z2)) (r:(List Z2)) (h:F278 K a000=some r):ACall P 278 ⟨[(.clo 280 [(.ip [(.sl 14 (a000.map Zb) false)])])],[],.vs 2,[(2,.vec 14 (List.map Zb r))],[2]⟩:=by
 refine ac Tryz.func278 Tryz.results278 Tryz.ntmps278 fun w0 F0 p0 S0 β0 Q hret=>?_
 dsimp only [argT]
 unfold F278 at h
 refine AWp.seq<|AWp.region ?_
 refine oc (Zh (v:=(.sl 14 [] false)) rfl rfl) ?_
 refine G1 h fun h=>?_
 have⟨v2,hv2,h⟩:=Zd h
 refine oc (Z30 (sz:=14) (es:=(List.map Zb v2)) (ar:=[(.sl 14 [] true),(.clo 280 [(.ip [(.sl 14 (a000.map Zb) false)])])]) (caps:=[]) Tryz.call302 ((F302_ok K a000 v2 hv2).sw 4 4) rfl rfl ⟨rfl,rfl,trivial⟩ rfl) ?_
 refine G1 h fun h=>?_
 refine AWp.ret<|At.ghost (fun a w h=>gk ⟨[(2,_)],[(2,_)]⟩ (Z3x (a:=4) (b:=2) (gk ⟨[(2,_)],[(4,_)]⟩ h))) ?_
 exact RT
def F181 (_K:Nat) (a0:Int):Option (Bool) :=
 some (a0 != a0)
theorem F181_ok (K:Nat) (a0:Int) (r:Bool) (h:F181 K a0=some r):ACall P 181 ⟨[(.int .i64 a0)],[],(.bool r),[],[]⟩:=by
 refine ac Tryz.func181 Tryz.results181 Tryz.ntmps181 fun w0 F0 p0 S0 β0 Q hret=>?_
 dsimp only [argT]
 unfold F181 at h
 exact GR
def Zit (K:Nat) (a0:Int) (a1:Int):Option (Int) :=
 (F181 K a0).bind fun v2 =>
 (F181 K a1).bind fun v4 =>
 if v2=true then
 if v4=true then
 some 0
 else
 some (Int.negSucc 0)
 else
 if v4=true then
 some 1
 else
 if (decide (a0<a1))=true then
 some (Int.negSucc 0)
 else
 if (decide (a0 > a1))=true then
 some 1
 else
 some 0
theorem Z3p (K:Nat) (a0:Int) (a1:Int) (r:Int) (h:Zit K a0 a1=some r):ACall P 116 ⟨[(.int .i64 a0),(.int .i64 a1)],[],(.int .i64 r),[],[]⟩:=by
 refine ac Tryz.func116 Tryz.results116 Tryz.ntmps116 fun w0 F0 p0 S0 β0 Q hret=>?_
 dsimp only [argT]
 unfold Zit at h
 refine G1 h fun h=>?_
 have⟨v2,hv2,h⟩:=Zd h
 refine oc (Z15 Tryz.call181 (F181_ok (h:=hv2))) ?_
 refine G1 h fun h=>?_
 have⟨v4,hv4,h⟩:=Zd h
 refine oc (Z15 Tryz.call181 (F181_ok (h:=hv4))) ?_
 refine Mc h (fun h=>?_) (fun h=>?_)
 ·refine Mc h (fun h=>?_) (fun h=>?_)
  ·exact GR
  exact GR
 refine Mc h (fun h=>?_) (fun h=>?_)
 ·exact GR
 refine Mc h (fun h=>?_) (fun h=>?_)
 ·exact GR
 refine Mc h (fun h=>?_) (fun h=>?_)
 ·exact GR
 exact GR
def Zjk (_K:Nat) (a0:(List Int)) (a1:(List Int)):Option (Int) :=
 if (decide ((a0.length:Int)<(a1.length:Int)))=true then
 some (Int.negSucc 0)
 else
 some 0
def Zf1 (K:Nat) (a0:(List Int)) (a1:(List Int)) (c4:Option (Int)):Nat→Int→Option (Int)
 | 0,_=>none
 | k2+1,v1 =>
 if (decide (v1<(a0.length:Int)))=true then
 if (0:Int)≤v1∧v1<a0.length then
 if (decide (v1 ≥ (a1.length:Int)))=true then
 some 1
 else
 if (0:Int)≤v1∧v1<a1.length then
 (Zit K (a0.getD v1.toNat 0) (a1.getD v1.toNat 0)).bind fun v9 =>
 if (v9 != 0)=true then
 some v9
 else
 (Zf1 K a0 a1 c4 k2) (IntKind.i64.wrap (v1+1))
 else none
 else none
 else
 c4
def F56 (K:Nat) (a0:(List Int)) (a1:(List Int)):Option (Int) :=
 Zf1 K a0 a1 (Zjk K a0 a1) K 0
theorem F56_ok (K:Nat) (a0:(List Int)) (a1:(List Int)) (r:Int) (h:F56 K a0 a1=some r):ACall P 56 ⟨[(.sl 1 (a0.map Z7) false),(.sl 1 (a1.map Z7) false)],[],(.int .i64 r),[],[]⟩:=by
 refine ac Tryz.func56 Tryz.results56 Tryz.ntmps56 fun w0 F0 p0 S0 β0 Q hret=>?_
 dsimp only [argT]
 unfold F56 at h
 refine G1 h fun h=>?_
 refine lb (V:=Int) (X:=Unit) (v:=_) (fun k v=>Zf1 K a0 a1 (Zjk K a0 a1) k v=some r) (fun v=>Zjk K a0 a1=some r) [(0,_),(1,_),(9,_),(10,_)] [] [(0,_),(1,_)] [] (fun v t=>(11,(.int .i64 v))::t) (fun v s=>s) (fun v t=>t) (fun v s=>s) h ?_ ?_
 ·intro v h
  try dsimp only at h ⊢
  unfold Zjk at h
  refine Mc h (fun h=>?_) (fun h=>?_)
  ·exact GR
  exact GR
 intro N k2 v h IH2 J2
 revert h
 revert v
 intro v1 h
 try dsimp only at h IH2 J2 ⊢
 cases k2 with
 | zero=>cases h
 | succ k2 =>
  rw [Zf1] at h
  refine Mc h (fun h=>?_) (fun h=>?_)
  ·refine AWp.skip<|At.next<|AWp.seq<|AWp.block ?_
   refine Mc h (fun h=>?_) (fun h=>?_)
   ·exact GR
   refine G1 h fun h=>?_
   have⟨v9,hv9,h⟩:=Zd h
   refine oc (Z15 Tryz.call116 (Z3p (h:=hv9))) ?_
   refine Mc h (fun h=>?_) (fun h=>?_)
   ·exact GR
   refine AWp.skip<|Z17<|At.next ?_
   exact M2 h (k:=fun h=>wkx (IH2 _ _ Z1p h))
  refine AWp.exit<|Zz ?_
  exact wkx (J2 () h)
def F215 (_K:Nat) (a0:Str):Option (Bool) :=
 some (!(a0==a0))
theorem F215_ok (K:Nat) (a0:Str) (r:Bool) (h:F215 K a0=some r):ACall P 215 ⟨[(.str a0)],[],(.bool r),[],[]⟩:=by
 refine ac Tryz.func215 Tryz.results215 Tryz.ntmps215 fun w0 F0 p0 S0 β0 Q hret=>?_
 dsimp only [argT]
 unfold F215 at h
 exact GR
def F158 (K:Nat) (a0:Str) (a1:Str):Option (Int) :=
 (F215 K a0).bind fun v2 =>
 (F215 K a1).bind fun v4 =>
 if v2=true then
 if v4=true then
 some 0
 else
 some (Int.negSucc 0)
 else
 if v4=true then
 some 1
 else
 if (slt a0 a1)=true then
 some (Int.negSucc 0)
 else
 if (!(slt a0 a1||a0==a1))=true then
 some 1
 else
 some 0
theorem Zgi (K:Nat) (a0:Str) (a1:Str) (r:Int) (h:F158 K a0 a1=some r):ACall P 158 ⟨[(.str a0),(.str a1)],[],(.int .i64 r),[],[]⟩:=by
 refine ac Tryz.func158 Tryz.results158 Tryz.ntmps158 fun w0 F0 p0 S0 β0 Q hret=>?_
 dsimp only [argT]
 unfold F158 at h
 refine G1 h fun h=>?_
 have⟨v2,hv2,h⟩:=Zd h
 refine oc (Z15 Tryz.call215 (F215_ok (h:=hv2))) ?_
 refine G1 h fun h=>?_
 have⟨v4,hv4,h⟩:=Zd h
 refine oc (Z15 Tryz.call215 (F215_ok (h:=hv4))) ?_
 refine Mc h (fun h=>?_) (fun h=>?_)
 ·refine Mc h (fun h=>?_) (fun h=>?_)
  ·exact GR
  exact GR
 refine Mc h (fun h=>?_) (fun h=>?_)
 ·exact GR
 refine Mc h (fun h=>?_) (fun h=>?_)
 ·exact GR
 refine Mc h (fun h=>?_) (fun h=>?_)
 ·exact GR
 exact GR
def F202 (_K:Nat) (a0:Bool):Option (Int) :=
 if a0=true then
 some 1
 else
 some 0
theorem F202_ok (K:Nat) (a0:Bool) (r:Int) (h:F202 K a0=some r):ACall P 202 ⟨[(.bool a0)],[],(.int .i64 r),[],[]⟩:=by
 refine ac Tryz.func202 Tryz.results202 Tryz.ntmps202 fun w0 F0 p0 S0 β0 Q hret=>?_
 dsimp only [argT]
 unfold F202 at h
 refine Mc h (fun h=>?_) (fun h=>?_)
 ·exact GR
 exact GR
def Zdh (_K:Nat):Option (Int) :=
 some 0
def Zb9 (K:Nat) (a0:(List Int)) (c4:Option (Int)):Nat→Int→Option (Int)
 | 0,_=>none
 | k2+1,v1 =>
 if (decide (v1<(a0.length:Int)))=true then
 if (0:Int)≤v1∧v1<a0.length then
 if ((a0.getD v1.toNat 0) != 0)=true then
 some (a0.getD v1.toNat 0)
 else
 (Zb9 K a0 c4 k2) (IntKind.i64.wrap (v1+1))
 else none
 else
 c4
def F115 (K:Nat) (a0:(List Int)):Option (Int) :=
 Zb9 K a0 (Zdh K) K 0
theorem Zdi (K:Nat) (a0:(List Int)) (r:Int) (h:F115 K a0=some r):ACall P 115 ⟨[(.sl 1 (a0.map Z7) false)],[],(.int .i64 r),[],[]⟩:=by
 refine ac Tryz.func115 Tryz.results115 Tryz.ntmps115 fun w0 F0 p0 S0 β0 Q hret=>?_
 dsimp only [argT]
 unfold F115 at h
 refine G1 h fun h=>?_
 refine lb (V:=Int) (X:=Unit) (v:=_) (fun k v=>Zb9 K a0 (Zdh K) k v=some r) (fun v=>Zdh K=some r) [(3,_),(6,_),(7,_)] [] [(3,_)] [] (fun v t=>(8,(.int .i64 v))::t) (fun v s=>s) (fun v t=>t) (fun v s=>s) h ?_ ?_
 ·intro v h
  try dsimp only at h ⊢
  unfold Zdh at h
  exact GR
 intro N k2 v h IH2 J2
 revert h
 revert v
 intro v1 h
 try dsimp only at h IH2 J2 ⊢
 cases k2 with
 | zero=>cases h
 | succ k2 =>
  rw [Zb9] at h
  refine Mc h (fun h=>?_) (fun h=>?_)
  ·refine AWp.skip<|At.next<|AWp.seq<|AWp.block ?_
   refine Mc h (fun h=>?_) (fun h=>?_)
   ·exact GR
   refine AWp.skip<|Z17<|At.next ?_
   exact M2 h (k:=fun h=>wkx (IH2 _ _ Z1p h))
  refine AWp.exit<|Zz ?_
  exact wkx (J2 () h)
def F264 (K:Nat) (a0:Z1e) (a1:Z1e):Option (Int) :=
 (Zit K a0.Kind a1.Kind).bind fun v2 =>
 (F158 K a0.Text a1.Text).bind fun v4 =>
 (Zit K a0.Int a1.Int).bind fun v6 =>
 (F115 K [v2,v4,v6]).bind fun v8 =>
 some v8
theorem F264_ok (K:Nat) (a0:Z1e) (a1:Z1e) (r:Int) (h:F264 K a0 a1=some r):ACall P 264 ⟨[(Z9i a0),(Z9i a1)],[],(.int .i64 r),[],[]⟩:=by
 refine ac Tryz.func264 Tryz.results264 Tryz.ntmps264 fun w0 F0 p0 S0 β0 Q hret=>?_
 dsimp only [argT]
 unfold F264 at h
 refine G1 h fun h=>?_
 have⟨v2,hv2,h⟩:=Zd h
 refine oD (Z15 Tryz.call116 (Z3p (h:=hv2))) ?_
 refine G1 h fun h=>?_
 have⟨v4,hv4,h⟩:=Zd h
 refine oD (Z15 Tryz.call158 (Zgi (h:=hv4))) ?_
 refine G1 h fun h=>?_
 have⟨v6,hv6,h⟩:=Zd h
 refine oD (Z15 Tryz.call116 (Z3p (h:=hv6))) ?_
 refine oD (Zj (vs:=[_,_,_]) (enc:=Z7) (l:=[v2,v4,v6]) rfl Z65 rfl rfl ⟨rfl,rfl,rfl,trivial⟩ rfl Z1u rfl rfl rfl rfl) ?_
 have⟨v8,hv8,h⟩:=Zd h
 refine oD (Z2r (rd:=[(20,(.vec 1 (List.map Z7 [v2,v4,v6])))]) (ar:=[_]) Tryz.call115 (Zdi (h:=hv8)) rfl rfl ⟨rfl,trivial⟩ (Z2f ⟨rfl,trivial⟩) rfl rfl rfl) ?_
 exact GR
def F263 (K:Nat) (a0:Z10) (a1:Z10):Option (Int) :=
 (F158 K a0.Key a1.Key).bind fun v2 =>
 (F264 K a0.Value a1.Value).bind fun v4 =>
 (F115 K [v2,v4]).bind fun v6 =>
 some v6
theorem F263_ok (K:Nat) (a0:Z10) (a1:Z10) (r:Int) (h:F263 K a0 a1=some r):ACall P 263 ⟨[(Z24 a0),(Z24 a1)],[],(.int .i64 r),[],[]⟩:=by
 refine ac Tryz.func263 Tryz.results263 Tryz.ntmps263 fun w0 F0 p0 S0 β0 Q hret=>?_
 dsimp only [argT]
 unfold F263 at h
 refine G1 h fun h=>?_
 have⟨v2,hv2,h⟩:=Zd h
 refine oD (Z15 Tryz.call158 (Zgi (h:=hv2))) ?_
 refine G1 h fun h=>?_
 have⟨v4,hv4,h⟩:=Zd h
 refine oD (Z15 Tryz.call264 (F264_ok (h:=hv4))) ?_
 refine oD (Zj (vs:=[_,_]) (enc:=Z7) (l:=[v2,v4]) rfl Z65 rfl rfl ⟨rfl,rfl,trivial⟩ rfl Z1u rfl rfl rfl rfl) ?_
 have⟨v6,hv6,h⟩:=Zd h
 refine oD (Z2r (rd:=[(15,(.vec 1 (List.map Z7 [v2,v4])))]) (ar:=[_]) Tryz.call115 (Zdi (h:=hv6)) rfl rfl ⟨rfl,trivial⟩ (Z2f ⟨rfl,trivial⟩) rfl rfl rfl) ?_
 exact GR
def Ze0 (_K:Nat) (a0:(List Z10)) (a1:(List Z10)):Option (Int) :=
 if (decide ((a0.length:Int)<(a1.length:Int)))=true then
 some (Int.negSucc 0)
 else
 some 0
def Z96 (K:Nat) (a0:(List Z10)) (a1:(List Z10)) (c4:Option (Int)):Nat→Int→Option (Int)
 | 0,_=>none
 | k2+1,v1 =>
 if (decide (v1<(a0.length:Int)))=true then
 if (0:Int)≤v1∧v1<a0.length then
 if (decide (v1 ≥ (a1.length:Int)))=true then
 some 1
 else
 if (0:Int)≤v1∧v1<a1.length then
 (F263 K (a0.getD v1.toNat Z2v) (a1.getD v1.toNat Z2v)).bind fun v9 =>
 if (v9 != 0)=true then
 some v9
 else
 (Z96 K a0 a1 c4 k2) (IntKind.i64.wrap (v1+1))
 else none
 else none
 else
 c4
def F262 (K:Nat) (a0:(List Z10)) (a1:(List Z10)):Option (Int) :=
 Z96 K a0 a1 (Ze0 K a0 a1) K 0
theorem F262_ok (K:Nat) (a0:(List Z10)) (a1:(List Z10)) (r:Int) (h:F262 K a0 a1=some r):ACall P 262 ⟨[(.sl 4 (a0.map Z24) false),(.sl 4 (a1.map Z24) false),(.clo 263 [])],[],(.int .i64 r),[],[]⟩:=by
 refine ac Tryz.func262 Tryz.results262 Tryz.ntmps262 fun w0 F0 p0 S0 β0 Q hret=>?_
 dsimp only [argT]
 unfold F262 at h
 refine G1 h fun h=>?_
 refine lb (V:=Int) (X:=Unit) (v:=_) (fun k v=>Z96 K a0 a1 (Ze0 K a0 a1) k v=some r) (fun v=>Ze0 K a0 a1=some r) [(0,_),(1,_),(2,_),(11,_),(12,_)] [] [(0,_),(1,_)] [] (fun v t=>(13,(.int .i64 v))::t) (fun v s=>s) (fun v t=>t) (fun v s=>s) h ?_ ?_
 ·intro v h
  try dsimp only at h ⊢
  unfold Ze0 at h
  refine Mc h (fun h=>?_) (fun h=>?_)
  ·exact GR
  exact GR
 intro N k2 v h IH2 J2
 revert h
 revert v
 intro v1 h
 try dsimp only at h IH2 J2 ⊢
 cases k2 with
 | zero=>cases h
 | succ k2 =>
  rw [Z96] at h
  refine Mc h (fun h=>?_) (fun h=>?_)
  ·refine AWp.skip<|At.next<|AWp.seq<|AWp.block ?_
   refine G1 h fun h=>?_
   refine oc (Zm (ds:=_)) ?_
   refine Mc h (fun h=>?_) (fun h=>?_)
   ·exact GR
   refine G1 h fun h=>?_
   refine oc (Zm (ds:=_)) ?_
   refine G1 h fun h=>?_
   have⟨v9,hv9,h⟩:=Zd h
   refine oc (Z15 Tryz.call263 (F263_ok (h:=hv9))) ?_
   refine Mc h (fun h=>?_) (fun h=>?_)
   ·exact GR
   refine AWp.skip<|Z17<|At.next ?_
   exact M2 h (k:=fun h=>wkx (IH2 _ _ Z1p h))
  refine AWp.exit<|Zz ?_
  exact wkx (J2 () h)
def F203 (K:Nat) (a0:(List Z10)) (a1:(List Z10)):Option (Int) :=
 (F262 K a0 a1).bind fun v2 =>
 some v2
theorem F203_ok (K:Nat) (a0:(List Z10)) (a1:(List Z10)) (r:Int) (h:F203 K a0 a1=some r):ACall P 203 ⟨[(.sl 4 (a0.map Z24) false),(.sl 4 (a1.map Z24) false)],[],(.int .i64 r),[],[]⟩:=by
 refine ac Tryz.func203 Tryz.results203 Tryz.ntmps203 fun w0 F0 p0 S0 β0 Q hret=>?_
 dsimp only [argT]
 unfold F203 at h
 refine G1 h fun h=>?_
 have⟨v2,hv2,h⟩:=Zd h
 refine oc (Z15 Tryz.call262 (F262_ok (h:=hv2))) ?_
 exact GR
def F179 (K:Nat) (a0:Zr) (a1:Zr):Option (Int) :=
 (Zit K a0.Trace a1.Trace).bind fun v2 =>
 (Zit K a0.Id a1.Id).bind fun v4 =>
 (F115 K [v2,v4]).bind fun v6 =>
 some v6
theorem Zkz (K:Nat) (a0:Zr) (a1:Zr) (r:Int) (h:F179 K a0 a1=some r):ACall P 179 ⟨[(Z1x a0),(Z1x a1)],[],(.int .i64 r),[],[]⟩:=by
 refine ac Tryz.func179 Tryz.results179 Tryz.ntmps179 fun w0 F0 p0 S0 β0 Q hret=>?_
 dsimp only [argT]
 unfold F179 at h
 refine G1 h fun h=>?_
 have⟨v2,hv2,h⟩:=Zd h
 refine oD (Z15 Tryz.call116 (Z3p (h:=hv2))) ?_
 refine G1 h fun h=>?_
 have⟨v4,hv4,h⟩:=Zd h
 refine oD (Z15 Tryz.call116 (Z3p (h:=hv4))) ?_
 refine oD (Zj (vs:=[_,_]) (enc:=Z7) (l:=[v2,v4]) rfl Z65 rfl rfl ⟨rfl,rfl,trivial⟩ rfl Z1u rfl rfl rfl rfl) ?_
 have⟨v6,hv6,h⟩:=Zd h
 refine oD (Z2r (rd:=[(15,(.vec 1 (List.map Z7 [v2,v4])))]) (ar:=[_]) Tryz.call115 (Zdi (h:=hv6)) rfl rfl ⟨rfl,trivial⟩ (Z2f ⟨rfl,trivial⟩) rfl rfl rfl) ?_
 exact GR
def Zdv (_K:Nat) (a0:(List Zr)) (a1:(List Zr)):Option (Int) :=
 if (decide ((a0.length:Int)<(a1.length:Int)))=true then
 some (Int.negSucc 0)
 else
 some 0
def Z92 (K:Nat) (a0:(List Zr)) (a1:(List Zr)) (c4:Option (Int)):Nat→Int→Option (Int)
 | 0,_=>none
 | k2+1,v1 =>
 if (decide (v1<(a0.length:Int)))=true then
 if (0:Int)≤v1∧v1<a0.length then
 if (decide (v1 ≥ (a1.length:Int)))=true then
 some 1
 else
 if (0:Int)≤v1∧v1<a1.length then
 (F179 K (a0.getD v1.toNat Zs) (a1.getD v1.toNat Zs)).bind fun v9 =>
 if (v9 != 0)=true then
 some v9
 else
 (Z92 K a0 a1 c4 k2) (IntKind.i64.wrap (v1+1))
 else none
 else none
 else
 c4
def F204 (K:Nat) (a0:(List Zr)) (a1:(List Zr)):Option (Int) :=
 Z92 K a0 a1 (Zdv K a0 a1) K 0
theorem F204_ok (K:Nat) (a0:(List Zr)) (a1:(List Zr)) (r:Int) (h:F204 K a0 a1=some r):ACall P 204 ⟨[(.sl 2 (a0.map Z1x) false),(.sl 2 (a1.map Z1x) false),(.clo 179 [])],[],(.int .i64 r),[],[]⟩:=by
 refine ac Tryz.func204 Tryz.results204 Tryz.ntmps204 fun w0 F0 p0 S0 β0 Q hret=>?_
 dsimp only [argT]
 unfold F204 at h
 refine G1 h fun h=>?_
 refine lb (V:=Int) (X:=Unit) (v:=_) (fun k v=>Z92 K a0 a1 (Zdv K a0 a1) k v=some r) (fun v=>Zdv K a0 a1=some r) [(0,_),(1,_),(2,_),(11,_),(12,_)] [] [(0,_),(1,_)] [] (fun v t=>(13,(.int .i64 v))::t) (fun v s=>s) (fun v t=>t) (fun v s=>s) h ?_ ?_
 ·intro v h
  try dsimp only at h ⊢
  unfold Zdv at h
  refine Mc h (fun h=>?_) (fun h=>?_)
  ·exact GR
  exact GR
 intro N k2 v h IH2 J2
 revert h
 revert v
 intro v1 h
 try dsimp only at h IH2 J2 ⊢
 cases k2 with
 | zero=>cases h
 | succ k2 =>
  rw [Z92] at h
  refine Mc h (fun h=>?_) (fun h=>?_)
  ·refine AWp.skip<|At.next<|AWp.seq<|AWp.block ?_
   refine G1 h fun h=>?_
   refine oc (Zm (ds:=_)) ?_
   refine Mc h (fun h=>?_) (fun h=>?_)
   ·exact GR
   refine G1 h fun h=>?_
   refine oc (Zm (ds:=_)) ?_
   refine G1 h fun h=>?_
   have⟨v9,hv9,h⟩:=Zd h
   refine oc (Z15 Tryz.call179 (Zkz (h:=hv9))) ?_
   refine Mc h (fun h=>?_) (fun h=>?_)
   ·exact GR
   refine AWp.skip<|Z17<|At.next ?_
   exact M2 h (k:=fun h=>wkx (IH2 _ _ Z1p h))
  refine AWp.exit<|Zz ?_
  exact wkx (J2 () h)
def F143 (K:Nat) (a0:Z2) (a1:Z2):Option (Int) :=
 (F56 K [a0.Trace,a0.Id,a0.Revision,a0.Parent,a0.Clock,a0.Kind] [a1.Trace,a1.Id,a1.Revision,a1.Parent,a1.Clock,a1.Kind]).bind fun v2 =>
 (F158 K a0.Service a1.Service).bind fun v4 =>
 (F158 K a0.Version a1.Version).bind fun v6 =>
 (F158 K a0.Operation a1.Operation).bind fun v8 =>
 (Zit K a0.Start a1.Start).bind fun v10 =>
 (Zit K a0.End a1.End).bind fun v12 =>
 (F202 K a0.Error).bind fun v14 =>
 (F202 K a1.Error).bind fun v16 =>
 (F203 K a0.Attrs a1.Attrs).bind fun v18 =>
 (F204 K a0.Links a1.Links).bind fun v20 =>
 (F115 K [v2,v4,v6,v8,v10,v12,(IntKind.i64.wrap (v14 - v16)),v18,v20]).bind fun v22 =>
 some v22
theorem Zoq (K:Nat) (a0:Z2) (a1:Z2) (r:Int) (h:F143 K a0 a1=some r):ACall P 143 ⟨[(Zb a0),(Zb a1)],[],(.int .i64 r),[],[]⟩:=by
 refine ac Tryz.func143 Tryz.results143 Tryz.ntmps143 fun w0 F0 p0 S0 β0 Q hret=>?_
 dsimp only [argT]
 unfold F143 at h
 refine G1 h fun h=>?_
 refine oc (Z4k (vs:=[(0,(.int .i64 a0.Trace)),(1,(.int .i64 a0.Id)),(2,(.int .i64 a0.Revision)),(3,(.int .i64 a0.Parent)),(4,(.int .i64 a0.Clock)),(5,(.int .i64 a0.Kind))]) rfl ar335 ⟨rfl,rfl,rfl,rfl,rfl,rfl,rfl,rfl,rfl,rfl,rfl,rfl,trivial⟩ rfl) ?_
 refine G1 h fun h=>?_
 refine oc (Zm (ds:=[_,_,_,_,_,_])) ?_
 refine G1 h fun h=>?_
 refine oc (Z4k (vs:=[(0,(.int .i64 a1.Trace)),(1,(.int .i64 a1.Id)),(2,(.int .i64 a1.Revision)),(3,(.int .i64 a1.Parent)),(4,(.int .i64 a1.Clock)),(5,(.int .i64 a1.Kind))]) rfl ar335 ⟨rfl,rfl,rfl,rfl,rfl,rfl,rfl,rfl,rfl,rfl,rfl,rfl,trivial⟩ rfl) ?_
 refine G1 h fun h=>?_
 refine oc (Zm (ds:=[_,_,_,_,_,_])) ?_
 refine AOps.nil<|At.next<|AWp.seq<|AWp.ghost (fun a w h=>gk ⟨[(2,_),(3,_),(4,_),(5,_),(6,_)],[(2,_),(3,_),(6,_)]⟩ (Z3h (m:=5) (cs:=[(.int .i64 a0.Trace),(.int .i64 a0.Id),(.int .i64 a0.Revision),(.int .i64 a0.Parent),(.int .i64 a0.Clock),(.int .i64 a0.Kind)]) I a w (gk ⟨[(2,_),(3,_),(4,_),(5,_),(6,_)],[(5,_),(2,_),(3,_),(6,_)]⟩ h)))<|AWp.ghost (fun a w h=>gk ⟨[(2,_),(3,_),(4,_),(5,_),(6,_)],[(2,_),(3,_)]⟩ (Z3h (m:=6) (cs:=[(.int .i64 a1.Trace),(.int .i64 a1.Id),(.int .i64 a1.Revision),(.int .i64 a1.Parent),(.int .i64 a1.Clock),(.int .i64 a1.Kind)]) I a w (gk ⟨[(2,_),(3,_),(4,_),(5,_),(6,_)],[(6,_),(2,_),(3,_)]⟩ h)))<|Z3d mixed ?_
 refine oD (Zoc (l:=[a0.Trace,a0.Id,a0.Revision,a0.Parent,a0.Clock,a0.Kind]) (enc:=Z7) (cs:=[(.int .i64 a0.Trace),(.int .i64 a0.Id),(.int .i64 a0.Revision),(.int .i64 a0.Parent),(.int .i64 a0.Clock),(.int .i64 a0.Kind)]) rfl u335 sz3 rfl rfl rfl rfl Z1u) ?_
 refine oD (Zoc (l:=[a1.Trace,a1.Id,a1.Revision,a1.Parent,a1.Clock,a1.Kind]) (enc:=Z7) (cs:=[(.int .i64 a1.Trace),(.int .i64 a1.Id),(.int .i64 a1.Revision),(.int .i64 a1.Parent),(.int .i64 a1.Clock),(.int .i64 a1.Kind)]) rfl u335 sz3 rfl rfl rfl rfl Z1u) ?_
 have⟨v2,hv2,h⟩:=Zd h
 refine oD (Z15 Tryz.call56 (F56_ok (h:=hv2))) ?_
 refine G1 h fun h=>?_
 have⟨v4,hv4,h⟩:=Zd h
 refine oD (Z15 Tryz.call158 (Zgi (h:=hv4))) ?_
 refine G1 h fun h=>?_
 have⟨v6,hv6,h⟩:=Zd h
 refine oD (Z15 Tryz.call158 (Zgi (h:=hv6))) ?_
 refine G1 h fun h=>?_
 have⟨v8,hv8,h⟩:=Zd h
 refine oD (Z15 Tryz.call158 (Zgi (h:=hv8))) ?_
 refine G1 h fun h=>?_
 have⟨v10,hv10,h⟩:=Zd h
 refine oD (Z15 Tryz.call116 (Z3p (h:=hv10))) ?_
 refine G1 h fun h=>?_
 have⟨v12,hv12,h⟩:=Zd h
 refine oD (Z15 Tryz.call116 (Z3p (h:=hv12))) ?_
 refine G1 h fun h=>?_
 have⟨v14,hv14,h⟩:=Zd h
 refine oD (Z15 Tryz.call202 (F202_ok (h:=hv14))) ?_
 refine G1 h fun h=>?_
 have⟨v16,hv16,h⟩:=Zd h
 refine oD (Z15 Tryz.call202 (F202_ok (h:=hv16))) ?_
 refine G1 h fun h=>?_
 have⟨v18,hv18,h⟩:=Zd h
 refine oD (Z15 Tryz.call203 (F203_ok (h:=hv18))) ?_
 refine G1 h fun h=>?_
 have⟨v20,hv20,h⟩:=Zd h
 refine oD (Z15 Tryz.call204 (F204_ok (h:=hv20))) ?_
 refine oD (Zj (vs:=[_,_,_,_,_,_,_,_,_]) (enc:=Z7) (l:=[v2,v4,v6,v8,v10,v12,(IntKind.i64.wrap (v14 - v16)),v18,v20]) rfl Z65 rfl rfl ⟨rfl,rfl,rfl,rfl,rfl,rfl,rfl,rfl,rfl,trivial⟩ rfl Z1u rfl rfl rfl rfl) ?_
 have⟨v22,hv22,h⟩:=Zd h
 refine oD (Z2r (rd:=[(78,(.vec 1 (List.map Z7 [v2,v4,v6,v8,v10,v12,(IntKind.i64.wrap (v14 - v16)),v18,v20])))]) (ar:=[_]) Tryz.call115 (Zdi (h:=hv22)) rfl rfl ⟨rfl,trivial⟩ (Z2f ⟨rfl,trivial⟩) rfl rfl rfl) ?_
 exact GR
def F222 (K:Nat) (a000:(List Z2)):Option ((List Z2)) :=
 (F278 K a000).bind fun v2 =>
 (sortF (fun a b=>F143 K a b) v2).bind fun v4 =>
 some v4
theorem F222_ok (K:Nat) (a000:(List Z2)) (r:(List Z2)) (h:F222 K a000=some r):ACall P 222 ⟨[(.clo 280 [(.ip [(.sl 14 (a000.map Zb) false)])]),(.clo 143 [])],[],.vs 4,[(4,.vec 14 (List.map Zb r))],[4]⟩:=by
 refine ac Tryz.func222 Tryz.results222 Tryz.ntmps222 fun w0 F0 p0 S0 β0 Q hret=>?_
 dsimp only [argT]
 unfold F222 at h
 refine AWp.seq<|AWp.region ?_
 refine oc (Zh (v:=(.sl 14 [] false)) rfl rfl) ?_
 refine G1 h fun h=>?_
 have⟨v2,hv2,h⟩:=Zd h
 refine oc (Z30 (sz:=14) (es:=(List.map Zb v2)) (ar:=[_]) (caps:=[]) Tryz.call278 ((F278_ok (h:=hv2)).sw 2 7) rfl rfl ⟨rfl,trivial⟩ rfl) ?_
 refine G1 h fun h=>?_
 have⟨v4,hv4,h⟩:=Zd h
 refine oc (Z1d (d:=some 10) (c:=⟨_,[(7,_)],.tup [],[(7,.vec 14 (List.map Zb v4))],[]⟩) (ar:=[_,_]) (caps:=[]) (news:=[]) (forg:=[]) Tryz.call279 (Zpu (n:=7) (enc:=Zb) (l:=v2) (caps:=[]) (c:=(fun a b=>F143 K a b)) sortC279 Tryz.call143 Z1t (fun _=>rfl) (fun a b m hm=>Zoq K a b m hm) hv4) rfl rfl ⟨rfl,rfl,trivial⟩ rfl ⟨rfl,trivial⟩ rfl) ?_
 refine G1 h fun h=>?_
 refine AWp.ret<|At.ghost (fun a w h=>gk ⟨[(4,_)],[(4,_)]⟩ (Z3x (a:=7) (b:=4) (gk ⟨[(4,_)],[(7,_)]⟩ h))) ?_
 exact RT
def F176 (K:Nat) (a0:Z2) (a1:Z2):Option (Bool) :=
 (F143 K a0 a1).bind fun v2 =>
 some (v2==0)
theorem Zot (K:Nat) (a0:Z2) (a1:Z2) (r:Bool) (h:F176 K a0 a1=some r):ACall P 176 ⟨[(Zb a0),(Zb a1)],[],(.bool r),[],[]⟩:=by
 refine ac Tryz.func176 Tryz.results176 Tryz.ntmps176 fun w0 F0 p0 S0 β0 Q hret=>?_
 dsimp only [argT]
 unfold F176 at h
 refine G1 h fun h=>?_
 have⟨v2,hv2,h⟩:=Zd h
 refine oc (Z15 Tryz.call143 (Zoq (h:=hv2))) ?_
 exact GR
def Zgu (_K:Nat) (a0:(List Z2)):Option ((List Z2)) :=
 some a0
def Z6y (_K:Nat) (v18:Int) (v19:(List Z2)):Option ((List Z2)) :=
 if (0:Int)≤v18∧v18≤(v19.length:Int)∧(v19.length:Int)≤(v19.length:Nat) then
 if (0+v18.toNat)+((v19.length:Int).toNat - v18.toNat)≤v19.length then
 if (0+v18.toNat)+((v19.length:Int).toNat - v18.toNat)≤v19.length then
 if (0:Int)≤0∧0≤v18∧v18≤((v19.take (0+v18.toNat)++List.replicate ((v19.length:Int).toNat - v18.toNat) Z5++v19.drop ((0+v18.toNat)+((v19.length:Int).toNat - v18.toNat))).length:Nat) then
 if (0+(0:Int).toNat)+(v18.toNat - (0:Int).toNat)≤(v19.take (0+v18.toNat)++List.replicate ((v19.length:Int).toNat - v18.toNat) Z5++v19.drop ((0+v18.toNat)+((v19.length:Int).toNat - v18.toNat))).length then
 some (((v19.take (0+v18.toNat)++List.replicate ((v19.length:Int).toNat - v18.toNat) Z5++v19.drop ((0+v18.toNat)+((v19.length:Int).toNat - v18.toNat))).drop (0+(0:Int).toNat)).take (v18.toNat - (0:Int).toNat))
 else none
 else none
 else none
 else none
 else none
def Zae (_K:Nat) (b27:Int→Int→(List Z2)→Option ((List Z2))) (v15:Int) (v37:Int) (v38:(List Z2)):Option ((List Z2)) :=
 b27 v37 (IntKind.i64.wrap (v15+1)) v38
def Z5w (K:Nat) (v1:Int) (a0:(List Z2)) (c21:Int→(List Z2)→Option ((List Z2))):Nat→Int→Int→(List Z2)→Option ((List Z2))
 | 0,_,_,_=>none
 | k17+1,v14,v15,v16 =>
 if (0+v1.toNat)+((a0.length:Int).toNat - v1.toNat)≤v16.length then
 if (decide (v15<((((a0.length:Int).toNat - v1.toNat):Nat):Int)))=true then
 if (0+v1.toNat)+((a0.length:Int).toNat - v1.toNat)≤v16.length then
 if (0:Int)≤v15∧v15<(((a0.length:Int).toNat - v1.toNat):Nat) then
 if ((0+v1.toNat)+v15.toNat)<v16.length then
 if (0+v1.toNat)+((a0.length:Int).toNat - v1.toNat)≤v16.length then
 if (0:Int)≤(IntKind.i64.wrap (v15 - 1))∧(IntKind.i64.wrap (v15 - 1))<(((a0.length:Int).toNat - v1.toNat):Nat) then
 if ((0+v1.toNat)+(IntKind.i64.wrap (v15 - 1)).toNat)<v16.length then
 (F176 K (v16.getD ((0+v1.toNat)+v15.toNat) Z5) (v16.getD ((0+v1.toNat)+(IntKind.i64.wrap (v15 - 1)).toNat) Z5)).bind fun v36 =>
 if (!v36)=true then
 if (0+v1.toNat)+((a0.length:Int).toNat - v1.toNat)≤v16.length then
 if (0:Int)≤v15∧v15<(((a0.length:Int).toNat - v1.toNat):Nat) then
 if ((0+v1.toNat)+v15.toNat)<v16.length then
 if (0:Int)≤v14∧v14<(v16.length:Nat) then
 if v14.toNat<v16.length then
 Zae K (Z5w K v1 a0 c21 k17) v15 (IntKind.i64.wrap (v14+1)) (v16.set v14.toNat (v16.getD ((0+v1.toNat)+v15.toNat) Z5))
 else none
 else none
 else none
 else none
 else none
 else
 Zae K (Z5w K v1 a0 c21 k17) v15 v14 v16
 else none
 else none
 else none
 else none
 else none
 else none
 else
 c21 v14 v16
 else none
def Zbp (K:Nat) (a0:(List Z2)) (c4:Option ((List Z2))):Nat→Int→Option ((List Z2))
 | 0,_=>none
 | k2+1,v1 =>
 if (decide (v1<(a0.length:Int)))=true then
 if (0:Int)≤v1∧v1<(a0.length:Nat) then
 if v1.toNat<a0.length then
 if (0:Int)≤(IntKind.i64.wrap (v1 - 1))∧(IntKind.i64.wrap (v1 - 1))<(a0.length:Nat) then
 if (IntKind.i64.wrap (v1 - 1)).toNat<a0.length then
 (F176 K (a0.getD v1.toNat Z5) (a0.getD (IntKind.i64.wrap (v1 - 1)).toNat Z5)).bind fun v11 =>
 if v11=true then
 if (0:Int)≤v1∧v1≤(a0.length:Int)∧(a0.length:Int)≤(a0.length:Nat) then
 if (0+v1.toNat)+((a0.length:Int).toNat - v1.toNat)≤a0.length then
 Z5w K v1 a0 (Z6y K) K v1 1 a0
 else none
 else none
 else
 (Zbp K a0 c4 k2) (IntKind.i64.wrap (v1+1))
 else none
 else none
 else none
 else none
 else
 c4
def F260 (K:Nat) (a0:(List Z2)):Option ((List Z2)) :=
 if (decide ((a0.length:Int)<2))=true then
 some a0
 else
 Zbp K a0 (Zgu K a0) K 1
theorem F260_ok (K:Nat) (a0:(List Z2)) (r:(List Z2)) (h:F260 K a0=some r):ACall P 260 ⟨[(.vs 0),(.clo 176 [])],[(0,.vec 14 (List.map Zb a0))],.vs 0,[(0,.vec 14 (List.map Zb r))],[0]⟩:=by
 refine ac Tryz.func260 Tryz.results260 Tryz.ntmps260 fun w0 F0 p0 S0 β0 Q hret=>?_
 dsimp only [argT]
 unfold F260 at h
 refine AWp.seq<|AWp.region ?_
 refine oc (Zh (v:=(.sl 14 [] false)) rfl rfl) ?_
 refine G1 h fun h=>?_
 refine oc (Z2t rfl u47 rfl rfl) ?_
 refine Mc h (fun h=>?_) (fun h=>?_)
 ·exact GR
 refine G1 h fun h=>?_
 refine lb (V:=Int) (X:=Unit) (v:=_) (fun k v=>Zbp K a0 (Zgu K a0) k v=some r) (fun v=>Zgu K a0=some r) [(0,_),(1,_)] [(0,_)] [(0,_)] [(0,_)] (fun v t=>(5,(.int .i64 v))::t) (fun v s=>s) (fun v t=>t) (fun v s=>s) h ?_ ?_
 ·intro v h
  try dsimp only at h ⊢
  unfold Zgu at h
  exact GR
 intro N k2 v h IH2 J2
 revert h
 revert v
 intro v1 h
 try dsimp only at h IH2 J2 ⊢
 cases k2 with
 | zero=>cases h
 | succ k2 =>
  rw [Zbp] at h
  refine G1 h fun h=>?_
  refine oc (Z2t rfl u47 rfl rfl) ?_
  refine Mc h (fun h=>?_) (fun h=>?_)
  ·refine AWp.skip<|At.next<|AWp.seq<|AWp.block ?_
   refine G1 h fun h=>?_
   have⟨v11,hv11,h⟩:=Zd h
   refine oD (Z15 Tryz.call176 (Zot (h:=hv11))) ?_
   refine AOpsE.nil (by kernel_rfl) I ?_
   refine At.next ?_
   refine cnd h (fun h=>?_) (fun h=>?_)
   ·refine G1 h fun h=>?_
    have⟨hg12,h⟩:=Zg h
    have⟨hg13,h⟩:=Zg h
    refine oc (Z3v (v:=(.vs 0)) (n:=0) (off:=0) (len:=a0.length) (l:=a0) (enc:=Zb) (kl:=.i64) (lo:=v1) rfl s47 rfl rfl (Z31 _ _ _) rfl hg12 rfl) ?_
    refine G1 h fun h=>?_
    refine lb (V:=Int×Int×(List Z2)) (X:=Int×(List Z2)) (v:=(_,_,_)) (fun k v=>Z5w K v1 a0 (Z6y K) k v.1 v.2.1 v.2.2=some r) (fun v=>Z6y K v.1 v.2=some r) [(0,_),(1,_),(6,_)] [] [(0,_)] [] (fun v t=>(5,(.int .i64 v.1))::(7,(.int .i64 v.2.1))::t) (fun v s=>(0,(.vec 14 (List.map Zb v.2.2)))::s) (fun v t=>(5,(.int .i64 v.1))::t) (fun v s=>(0,(.vec 14 (List.map Zb v.2)))::s) h ?_ ?_
    ·intro v h
     obtain⟨v18,v19⟩:=v
     try dsimp only at h ⊢
     unfold Z6y at h
     refine G1 h fun h=>?_
     have⟨hg22,h⟩:=Zg h
     have⟨hg23,h⟩:=Zg h
     refine oc (Z3v (v:=(.vs 0)) (n:=0) (off:=0) (len:=v19.length) (l:=v19) (enc:=Zb) (kl:=.i64) (lo:=v18) rfl s47 rfl rfl (Z31 _ _ _) rfl hg22 rfl) ?_
     have⟨hg24,h⟩:=Zg h
     refine oc (Zg6 (v:=(.vsub 0 (0+v18.toNat) ((v19.length:Int).toNat - v18.toNat) false)) (n:=0) (off:=(0+v18.toNat)) (len:=((v19.length:Int).toNat - v18.toNat)) (l:=v19) (enc:=Zb) Zlr ze94 rfl rfl rfl (Z36 hg24) Z1t) ?_
     refine G1 h fun h=>?_
     have⟨hg25,h⟩:=Zg h
     have⟨hg26,h⟩:=Zg h
     refine oc (Z3i (v:=(.vs 0)) (n:=0) (off:=0) (len:=(v19.take (0+v18.toNat)++List.replicate ((v19.length:Int).toNat - v18.toNat) Z5++v19.drop ((0+v18.toNat)+((v19.length:Int).toNat - v18.toNat))).length) (l:=(v19.take (0+v18.toNat)++List.replicate ((v19.length:Int).toNat - v18.toNat) Z5++v19.drop ((0+v18.toNat)+((v19.length:Int).toNat - v18.toNat)))) (enc:=Zb) (kh:=.i64) (hi:=v18) rfl s47 rfl rfl (Z31 _ _ _) rfl hg25 rfl) ?_
     refine G1 h fun h=>?_
     refine AWp.ret<|Z3e<|Z27 ?_
     refine Z27 (Z3e ?_)
     refine Z27<|At.ghost (fun a w h=>gk ⟨[(4,_)],[(0,_)]⟩ (Z4c (k:=4) (m:=0) (sz:=14) (off:=(0+(0:Int).toNat)) (len:=(v18.toNat - (0:Int).toNat)) (enc:=Zb) (l:=(v19.take (0+v18.toNat)++List.replicate ((v19.length:Int).toNat - v18.toNat) Z5++v19.drop ((0+v18.toNat)+((v19.length:Int).toNat - v18.toNat)))) I hg26 a w (gk ⟨[(4,_)],[(0,_)]⟩ h))) ?_
     exact RT
    intro N k17 v h IH17 J17
    obtain⟨v14,v15,v16⟩:=v
    try dsimp only at h IH17 J17 ⊢
    cases k17 with
    | zero=>cases h
    | succ k17 =>
     rw [Z5w] at h
     refine G1 h fun h=>?_
     have⟨hg28,h⟩:=Zg h
     refine oc (Zin (v:=(.vsub 0 (0+v1.toNat) ((a0.length:Int).toNat - v1.toNat) false)) (n:=0) (off:=(0+v1.toNat)) (len:=((a0.length:Int).toNat - v1.toNat)) (l:=v16) (enc:=Zb) rfl u47 rfl rfl (Z36 hg28)) ?_
     refine Mc h (fun h=>?_) (fun h=>?_)
     ·refine AWp.skip<|At.next<|AWp.seq<|AWp.block ?_
      refine G1 h fun h=>?_
      have⟨hg29,h⟩:=Zg h
      have⟨hg30,h⟩:=Zg h
      refine oD (Z44 (k:=.i64) (v:=(.vsub 0 (0+v1.toNat) ((a0.length:Int).toNat - v1.toNat) false)) (n:=0) (off:=(0+v1.toNat)) (len:=((a0.length:Int).toNat - v1.toNat)) (es:=(List.map Zb v16)) (j:=v15) (m:=((0+v1.toNat)+v15.toNat)) rfl s47 rfl rfl (Z36 hg29) rfl hg30 (rfl)) ?_
      refine G1 h fun h=>?_
      have⟨hg32,h⟩:=Zg h
      have⟨hg33,h⟩:=Zg h
      refine oD (Z44 (k:=.i64) (v:=(.vsub 0 (0+v1.toNat) ((a0.length:Int).toNat - v1.toNat) false)) (n:=0) (off:=(0+v1.toNat)) (len:=((a0.length:Int).toNat - v1.toNat)) (es:=(List.map Zb v16)) (j:=(IntKind.i64.wrap (v15 - 1))) (m:=((0+v1.toNat)+(IntKind.i64.wrap (v15 - 1)).toNat)) rfl s47 rfl rfl (Z36 hg32) rfl hg33 (rfl)) ?_
      refine G1 h fun h=>?_
      have⟨v36,hv36,h⟩:=Zd h
      refine oD (Z15 Tryz.call176 (Zot (h:=hv36))) ?_
      refine G1 h fun h=>?_
      refine jn (V:=Int×(List Z2)) (fun v=>Zae K (Z5w K v1 a0 (Z6y K) k17) v15 v.1 v.2=some r) [(0,_),(1,_),(6,_),(7,_)] [] (fun v t=>(5,(.int .i64 v.1))::t) (fun v s=>(0,(.vec 14 (List.map Zb v.2)))::s) ?_ ?_
      ·intro v h
       obtain⟨v37,v38⟩:=v
       try dsimp only at h ⊢
       unfold Zae at h
       refine Z17<|At.next ?_
       exact M2 h (k:=fun h=>wkx (IH17 _ (_,_,_) Z1p h))
      intro J39
      refine cnd h (fun h=>?_) (fun h=>?_)
      ·refine G1 h fun h=>?_
       have⟨hg40,h⟩:=Zg h
       have⟨hg41,h⟩:=Zg h
       refine oc (Z44 (k:=.i64) (v:=(.vsub 0 (0+v1.toNat) ((a0.length:Int).toNat - v1.toNat) false)) (n:=0) (off:=(0+v1.toNat)) (len:=((a0.length:Int).toNat - v1.toNat)) (es:=(List.map Zb v16)) (j:=v15) (m:=((0+v1.toNat)+v15.toNat)) rfl s47 rfl rfl (Z36 hg40) rfl hg41 (rfl)) ?_
       refine G1 h fun h=>?_
       have⟨hg44,h⟩:=Zg h
       refine oc (Z4u (l:=v16) (enc:=Zb) (z:=Z5) (a:=(v16.getD ((0+v1.toNat)+v15.toNat) Z5)) (v:=(Zb (v16.getD ((0+v1.toNat)+v15.toNat) Z5))) sz94 rfl rfl hg44 rfl Z1t rfl rfl rfl rfl) ?_
       refine AOps.nil<|At.next ?_
       exact M2 h (k:=fun h=>wkx (J39 (_,_) h))
      refine AWp.skip ?_
      exact wkx (J39 (_,_) h)
     refine AWp.exit<|Zz ?_
     exact wkx (J17 (_,_) h)
   refine AWp.skip<|Z17<|At.next ?_
   exact M2 h (k:=fun h=>wkx (IH2 _ _ Z1p h))
  refine AWp.exit<|Zz ?_
  exact wkx (J2 () h)
def F195 (K:Nat) (a0:(List Z2)):Option ((List Z2)) :=
 (F223 K a0).bind fun v2 =>
 (F222 K v2).bind fun v4 =>
 (F260 K v4).bind fun v6 =>
 some v6
theorem F195_ok (K:Nat) (a0:(List Z2)) (r:(List Z2)) (h:F195 K a0=some r):ACall P 195 ⟨[(.sl 14 (a0.map Zb) false)],[],(.sl 14 (r.map Zb) false),[],[]⟩:=by
 refine ac Tryz.func195 Tryz.results195 Tryz.ntmps195 fun w0 F0 p0 S0 β0 Q hret=>?_
 dsimp only [argT]
 unfold F195 at h
 refine AWp.seq<|AWp.region ?_
 refine oc (Zh (v:=(.sl 14 [] true)) rfl rfl) ?_
 refine G1 h fun h=>?_
 have⟨v2,hv2,h⟩:=Zd h
 refine oc (Z15 Tryz.call223 (F223_ok (h:=hv2))) ?_
 have⟨v4,hv4,h⟩:=Zd h
 refine oc (Z30 (sz:=14) (es:=(List.map Zb v4)) (ar:=[_,_]) (caps:=[]) Tryz.call222 ((F222_ok (h:=hv4)).sw 4 5) rfl rfl ⟨rfl,rfl,trivial⟩ rfl) ?_
 have⟨v6,hv6,h⟩:=Zd h
 refine oc (Z1d (d:=some 6) (c:=⟨_,[(5,_)],.vs 5,[(5,.vec 14 (List.map Zb v6))],[5]⟩) (ar:=[_,_]) (caps:=[]) (news:=[]) (forg:=[5]) Tryz.call260 ((F260_ok (h:=hv6)).sw 0 5) rfl rfl ⟨rfl,rfl,trivial⟩ rfl ⟨rfl,trivial⟩ rfl) ?_
 refine G1 h fun h=>?_
 refine AWp.ret<|At.ghost (fun a w h=>gk ⟨[(2,_)],[]⟩ (Z1j (m:=5) (sz:=14) (gk ⟨[(2,_)],[(5,_)]⟩ h))) ?_
 exact RT
def F67 (_K:Nat) (a0:Z2):Option (Zr) :=
 some (⟨a0.Trace,a0.Id⟩:Zr)
theorem Zhb (K:Nat) (a0:Z2) (r:Zr) (h:F67 K a0=some r):ACall P 67 ⟨[(Zb a0)],[],(Z1x r),[],[]⟩:=by
 refine ac Tryz.func67 Tryz.results67 Tryz.ntmps67 fun w0 F0 p0 S0 β0 Q hret=>?_
 dsimp only [argT]
 unfold F67 at h
 refine G1 h fun h=>?_
 refine oc (Z1i (vs:=[(0,(.int .i64 a0.Trace)),(1,(.int .i64 a0.Id))]) rfl st57 ⟨rfl,rfl,rfl,rfl,trivial⟩ rfl) ?_
 refine oc (Zm (ds:=[_,_])) ?_
 refine AOps.nil<|At.next<|AWp.ret ?_
 have h:=Option.some.inj h
 subst h
 refine (hret _ ?_).1
 exact⟨[(.ag [(.int .i64 a0.Trace),(.int .i64 a0.Id)])],⟨⟨2,_,I,I,.inr ⟨_,a57,I,I⟩⟩,J0⟩,I,J0⟩
def F197 (K:Nat) (a0:Int) (a1:(List Z2)):Option (Bool) :=
 if ((IntKind.i64.wrap (a0+1))==(a1.length:Int))=true then
 some true
 else
 if (0:Int)≤(IntKind.i64.wrap (a0+1))∧(IntKind.i64.wrap (a0+1))<a1.length then
 (F67 K (a1.getD (IntKind.i64.wrap (a0+1)).toNat Z5)).bind fun v3 =>
 if (0:Int)≤a0∧a0<a1.length then
 (F67 K (a1.getD a0.toNat Z5)).bind fun v6 =>
 some (!((v3.Trace==v6.Trace)&&((v3.Id==v6.Id)&&true)))
 else none
 else none
theorem F197_ok (K:Nat) (a0:Int) (a1:(List Z2)) (r:Bool) (h:F197 K a0 a1=some r):ACall P 197 ⟨[(.int .i64 a0),(.ip [(.sl 14 (a1.map Zb) false)])],[],(.bool r),[],[]⟩:=by
 refine ac Tryz.func197 Tryz.results197 Tryz.ntmps197 fun w0 F0 p0 S0 β0 Q hret=>?_
 dsimp only [argT]
 unfold F197 at h
 refine M1 h (k:=fun h=>splD h (fun h=>?_) (fun h=>?_))
 ·exact GR
 refine G1 h fun h=>?_
 have⟨v3,hv3,h⟩:=Zd h
 refine oU (Z15 Tryz.call67 (Zhb (h:=hv3))) ?_
 refine G1 h fun h=>?_
 have⟨v6,hv6,h⟩:=Zd h
 refine oU (Z15 Tryz.call67 (Zhb (h:=hv6))) ?_
 exact GR
def F205 (_K:Nat) (a0:(List Z10)):Option ((List Z10)) :=
 if ([]:List Z10).length+a0.length≤1073741824 then
 some a0
 else none
theorem F205_ok (K:Nat) (a0:(List Z10)) (r:(List Z10)) (h:F205 K a0=some r):ACall P 205 ⟨[(.sl 4 (a0.map Z24) false)],[],(.sl 4 (r.map Z24) false),[],[]⟩:=by
 refine ac Tryz.func205 Tryz.results205 Tryz.ntmps205 fun w0 F0 p0 S0 β0 Q hret=>?_
 dsimp only [argT]
 unfold F205 at h
 refine AWp.seq<|AWp.region ?_
 refine oc (Zh (v:=(.sl 4 [] true)) rfl rfl) ?_
 refine G1 h fun h=>?_
 refine Z5h (enc:=Z24) (es:=a0) (full:=false) I u91 I (fun x1 hbx1=>?_)
 refine AOps.nil<|At.next ?_
 refine AWp.cond I (fun hc=>?_) (fun hc=>?_)
 ·have hz:=hbx1 hc
  have h:(some [])=some r:=by simp only [hz] at h ⊢;simpa using h
  refine AWp.seq<|AWp.region ?_
  refine oc (Zh (v:=(.sl 4 [] true)) rfl rfl) ?_
  refine AOps.nil<|At.next<|AWp.ret<|Z27<|At.ghost (fun a w h=>gk ⟨[(2,_)],[]⟩ (Zi0 a w (gk ⟨[(2,_)],[]⟩ h))) ?_
  exact RT
 refine G1 h fun h=>?_
 refine oc (Zj (vs:=[]) (enc:=Z24) (l:=([]:List Z10)) rfl el91 rfl rfl trivial rfl Z89 rfl rfl rfl rfl) ?_
 refine G1 h fun h=>?_
 have⟨hg2,h⟩:=Zg h
 refine oc (Z1g (m:=5) rfl rfl el91 rfl u91 rfl rfl rfl ⟨rfl,rfl,rfl⟩ noReads Z89 hg2) ?_
 refine G1 h fun h=>?_
 refine AWp.ret<|At.ghost (fun a w h=>gk ⟨[(2,_)],[]⟩ (Z1j (m:=5) (sz:=4) (gk ⟨[(2,_)],[(5,_)]⟩ h))) ?_
 exact RT
def F206 (_K:Nat) (a0:(List Zr)):Option ((List Zr)) :=
 if ([]:List Zr).length+a0.length≤1073741824 then
 some a0
 else none
theorem F206_ok (K:Nat) (a0:(List Zr)) (r:(List Zr)) (h:F206 K a0=some r):ACall P 206 ⟨[(.sl 2 (a0.map Z1x) false)],[],(.sl 2 (r.map Z1x) false),[],[]⟩:=by
 refine ac Tryz.func206 Tryz.results206 Tryz.ntmps206 fun w0 F0 p0 S0 β0 Q hret=>?_
 dsimp only [argT]
 unfold F206 at h
 refine AWp.seq<|AWp.region ?_
 refine oc (Zh (v:=(.sl 2 [] true)) rfl rfl) ?_
 refine G1 h fun h=>?_
 refine Z5h (enc:=Z1x) (es:=a0) (full:=false) I u92 I (fun x1 hbx1=>?_)
 refine AOps.nil<|At.next ?_
 refine AWp.cond I (fun hc=>?_) (fun hc=>?_)
 ·have hz:=hbx1 hc
  have h:(some [])=some r:=by simp only [hz] at h ⊢;simpa using h
  refine AWp.seq<|AWp.region ?_
  refine oc (Zh (v:=(.sl 2 [] true)) rfl rfl) ?_
  refine AOps.nil<|At.next<|AWp.ret<|Z27<|At.ghost (fun a w h=>gk ⟨[(2,_)],[]⟩ (Zi0 a w (gk ⟨[(2,_)],[]⟩ h))) ?_
  exact RT
 refine G1 h fun h=>?_
 refine oc (Zj (vs:=[]) (enc:=Z1x) (l:=([]:List Zr)) rfl el92 rfl rfl trivial rfl Z9j rfl rfl rfl rfl) ?_
 refine G1 h fun h=>?_
 have⟨hg2,h⟩:=Zg h
 refine oc (Z1g (m:=5) rfl rfl el92 rfl u92 rfl rfl rfl ⟨rfl,rfl,rfl⟩ noReads Z9j hg2) ?_
 refine G1 h fun h=>?_
 refine AWp.ret<|At.ghost (fun a w h=>gk ⟨[(2,_)],[]⟩ (Z1j (m:=5) (sz:=2) (gk ⟨[(2,_)],[(5,_)]⟩ h))) ?_
 exact RT
def F144 (K:Nat) (a0:Z2):Option (Z2) :=
 (F205 K a0.Attrs).bind fun v2 =>
 (F206 K a0.Links).bind fun v4 =>
 some (⟨a0.Trace,a0.Id,a0.Parent,a0.Revision,a0.Clock,a0.Kind,a0.Service,a0.Version,a0.Operation,a0.Start,a0.End,a0.Error,v2,v4⟩:Z2)
theorem Zor (K:Nat) (a0:Z2) (r:Z2) (h:F144 K a0=some r):ACall P 144 ⟨[(Zb a0)],[],(Zb r),[],[]⟩:=by
 refine ac Tryz.func144 Tryz.results144 Tryz.ntmps144 fun w0 F0 p0 S0 β0 Q hret=>?_
 dsimp only [argT]
 unfold F144 at h
 refine G1 h fun h=>?_
 refine oc (Z2a rfl z94 rfl rfl rfl) ?_
 refine G1 h fun h=>?_
 have⟨v2,hv2,h⟩:=Zd h
 refine oD (Z15 Tryz.call205 (F205_ok (h:=hv2))) ?_
 refine G1 h fun h=>?_
 have⟨v4,hv4,h⟩:=Zd h
 refine oD (Z15 Tryz.call206 (F206_ok (h:=hv4))) ?_
 refine G1 h fun h=>?_
 refine oD (Zm (ds:=[_,_,_,_,_,_,_,_,_,_,_,_,_,_])) ?_
 refine G1 h fun h=>?_
 refine oD (Zm (ds:=[_,_,_,_,_,_,_,_,_,_,_,_,_,_])) ?_
 refine G1 h fun h=>?_
 refine oc (Zm (ds:=[_,_,_,_,_,_,_,_,_,_,_,_,_,_])) ?_
 refine AOps.nil<|At.next<|AWp.ret ?_
 have h:=Option.some.inj h
 subst h
 refine (hret _ ?_).1
 exact⟨[(.ag [(.int .i64 a0.Trace),(.int .i64 a0.Id),(.int .i64 a0.Parent),(.int .i64 a0.Revision),(.int .i64 a0.Clock),(.int .i64 a0.Kind),(.str a0.Service),(.str a0.Version),(.str a0.Operation),(.int .i64 a0.Start),(.int .i64 a0.End),(.bool a0.Error),(.sl 4 (v2.map Z24) false),(.sl 2 (v4.map Z1x) false)])],⟨⟨2,_,I,I,.inr ⟨_,a94,I,I⟩⟩,J0⟩,I,J0⟩
def Zbm (_K:Nat) (v4:(List Z2)):Option ((List Z2)) :=
 some v4
def Zac (_K:Nat) (b7:Int→(List Z2)→Option ((List Z2))) (v1:Int) (v11:(List Z2)):Option ((List Z2)) :=
 b7 (IntKind.i64.wrap (v1+1)) v11
def Z85 (K:Nat) (a0:(List Z2)) (a100:(List Z2)) (c6:(List Z2)→Option ((List Z2))):Nat→Int→(List Z2)→Option ((List Z2))
 | 0,_,_=>none
 | k3+1,v1,v2 =>
 if (decide (v1<(a0.length:Int)))=true then
 if (0:Int)≤v1∧v1<a0.length then
 (F197 K v1 a100).bind fun v10 =>
 if v10=true then
 (F144 K (a0.getD v1.toNat Z5)).bind fun v14 =>
 if v2.length+[v14].length≤1073741824 then
 Zac K (Z85 K a0 a100 c6 k3) v1 (v2++[v14])
 else none
 else
 Zac K (Z85 K a0 a100 c6 k3) v1 v2
 else none
 else
 c6 v2
def F196 (K:Nat) (a0:(List Z2)) (a100:(List Z2)):Option ((List Z2)) :=
 Z85 K a0 a100 (Zbm K) K 0 []
theorem F196_ok (K:Nat) (a0:(List Z2)) (a100:(List Z2)) (r:(List Z2)) (h:F196 K a0 a100=some r):ACall P 196 ⟨[(.sl 14 (a0.map Zb) false),(.clo 197 [(.ip [(.sl 14 (a100.map Zb) false)])])],[],(.sl 14 (r.map Zb) false),[],[]⟩:=by
 refine ac Tryz.func196 Tryz.results196 Tryz.ntmps196 fun w0 F0 p0 S0 β0 Q hret=>?_
 dsimp only [argT]
 unfold F196 at h
 refine AWp.seq<|AWp.region ?_
 refine oc (Zh (v:=(.sl 14 [] false)) rfl rfl) ?_
 refine G1 h fun h=>?_
 refine oc (Zh (v:=(.sl 14 [] true)) rfl rfl) ?_
 refine G1 h fun h=>?_
 refine AWp.ghost (fun a w h=>gk ⟨[(1,_),(5,_),(8,_),(9,_),(10,_)],[(5,_)]⟩ (Z38 (k:=5) (m:=5) (sz:=14) (gk ⟨[(5,_),(1,_),(8,_),(9,_),(10,_)],[]⟩ h))) ?_
 refine lb (V:=Int×(List Z2)) (X:=(List Z2)) (v:=(_,_)) (fun k v=>Z85 K a0 a100 (Zbm K) k v.1 v.2=some r) (fun v=>Zbm K v=some r) [(1,_),(5,_),(8,_),(9,_)] [] [(5,_)] [] (fun v t=>(10,(.int .i64 v.1))::t) (fun v s=>(5,(.vec 14 (List.map Zb v.2)))::s) (fun v t=>t) (fun v s=>(5,(.vec 14 (List.map Zb v)))::s) h ?_ ?_
 ·intro v h
  revert h
  revert v
  intro v4 h
  try dsimp only at h ⊢
  unfold Zbm at h
  refine G1 h fun h=>?_
  refine AWp.ret<|At.ghost (fun a w h=>gk ⟨[(4,_)],[]⟩ (Z1j (m:=5) (sz:=14) (gk ⟨[(4,_)],[(5,_)]⟩ h))) ?_
  exact RT
 intro N k3 v h IH3 J3
 obtain⟨v1,v2⟩:=v
 try dsimp only at h IH3 J3 ⊢
 cases k3 with
 | zero=>cases h
 | succ k3 =>
  rw [Z85] at h
  refine Mc h (fun h=>?_) (fun h=>?_)
  ·refine AWp.skip<|At.next<|AWp.seq<|AWp.block ?_
   refine G1 h fun h=>?_
   refine oc (Z2a rfl z94 rfl rfl rfl) ?_
   refine G1 h fun h=>?_
   refine oc (Zm (ds:=_)) ?_
   refine G1 h fun h=>?_
   have⟨v10,hv10,h⟩:=Zd h
   refine oc (Zg5 (ar:=[(.int .i64 v1)]) Tryz.call197 (F197_ok (h:=hv10)) rfl rfl ⟨rfl,trivial⟩ rfl) ?_
   refine AOps.nil<|At.next ?_
   refine jn (V:=(List Z2)) (fun v=>Zac K (Z85 K a0 a100 (Zbm K) k3) v1 v=some r) [(1,_),(5,_),(8,_),(9,_),(10,_)] [] (fun v t=>t) (fun v s=>(5,(.vec 14 (List.map Zb v)))::s) ?_ ?_
   ·intro v h
    revert h
    revert v
    intro v11 h
    try dsimp only at h ⊢
    unfold Zac at h
    refine Z17<|At.next ?_
    exact M2 h (k:=fun h=>wkx (IH3 _ (_,_) Z1p h))
   intro J12
   refine cnd h (fun h=>?_) (fun h=>?_)
   ·refine G1 h fun h=>?_
    have⟨v14,hv14,h⟩:=Zd h
    refine oc (Z15 Tryz.call144 (Zor (h:=hv14))) ?_
    refine oc (Zj (vs:=[_]) (enc:=Zb) (l:=[v14]) rfl Zlr rfl rfl ⟨rfl,trivial⟩ rfl Z1t rfl rfl rfl rfl) ?_
    have⟨hg15,h⟩:=Zg h
    refine oc (Z1g (m:=5) rfl rfl Zlr rfl u47 rfl rfl rfl rfl (oneRead rfl) Z1t hg15) ?_
    exact M2 h (k:=fun h=>wkx (J12 _ h))
   refine AWp.skip ?_
   exact wkx (J12 _ h)
  refine AWp.exit<|Zz ?_
  exact wkx (J3 _ h)
def F134 (K:Nat) (a0:(List Z2)):Option ((List Z2)) :=
 (F195 K a0).bind fun v2 =>
 (F196 K v2 v2).bind fun v4 =>
 some v4
theorem Zge (K:Nat) (a0:(List Z2)) (r:(List Z2)) (h:F134 K a0=some r):ACall P 134 ⟨[(.sl 14 (a0.map Zb) false)],[],(.sl 14 (r.map Zb) false),[],[]⟩:=by
 refine ac Tryz.func134 Tryz.results134 Tryz.ntmps134 fun w0 F0 p0 S0 β0 Q hret=>?_
 dsimp only [argT]
 unfold F134 at h
 refine AWp.seq<|AWp.region ?_
 refine oc (Zh (v:=(.sl 14 [] false)) rfl rfl) ?_
 refine G1 h fun h=>?_
 have⟨v2,hv2,h⟩:=Zd h
 refine oc (Z15 Tryz.call195 (F195_ok (h:=hv2))) ?_
 refine oc (Z2a rfl z47f rfl rfl rfl) ?_
 refine oc (Zm (ds:=[_])) ?_
 refine G1 h fun h=>?_
 refine oc (Z2k (vs:=[(.ptr 3 0)]) rfl ⟨rfl,trivial⟩) ?_
 refine AOps.ghost (fun a w h=>gk ⟨[(2,_),(6,_),(7,_)],[]⟩ (Z3h (m:=3) (cs:=[(.sl 14 (v2.map Zb) false)]) I a w (gk ⟨[(2,_),(6,_),(7,_)],[(3,_)]⟩ h))) ?_
 have⟨v4,hv4,h⟩:=Zd h
 refine oc (Z15 Tryz.call196 (F196_ok (h:=hv4))) ?_
 exact GR
def F66 (K:Nat) (a0:(List Z2)) (a1:Int):Option ((List Z2)) :=
 (F141 K a0).bind fun v2 =>
 (Zgg K v2 a1).bind fun v4 =>
 (F134 K v4).bind fun v6 =>
 some v6
theorem F66_ok (K:Nat) (a0:(List Z2)) (a1:Int) (r:(List Z2)) (h:F66 K a0 a1=some r):ACall P 66 ⟨[(.sl 14 (a0.map Zb) false),(.int .i64 a1)],[],(.sl 14 (r.map Zb) false),[],[]⟩:=by
 refine ac Tryz.func66 Tryz.results66 Tryz.ntmps66 fun w0 F0 p0 S0 β0 Q hret=>?_
 dsimp only [argT]
 unfold F66 at h
 refine G1 h fun h=>?_
 refine oc (Zh (v:=(.sl 14 [] false)) rfl rfl) ?_
 refine G1 h fun h=>?_
 have⟨v2,hv2,h⟩:=Zd h
 refine oc (Z30 (sz:=14) (es:=(List.map Zb v2)) (ar:=[_]) (caps:=[]) Tryz.call141 ((F141_ok (h:=hv2)).sw 2 6) rfl rfl ⟨rfl,trivial⟩ rfl) ?_
 refine oc (Z2k (vs:=[(.ptr 3 0)]) rfl ⟨rfl,trivial⟩) ?_
 have⟨v4,hv4,h⟩:=Zd h
 refine oc (Z1d (d:=some 8) (c:=⟨_,[(6,_),(3,_)],(.vs 6),[(6,(.vec 14 (List.map Zb v4))),(3,(.box [(.int .i64 a1)]))],[6]⟩) (ar:=[_,_]) (caps:=[]) (news:=[]) (forg:=[6]) Tryz.call140 (((Zrt (h:=hv4)).sw 41 6).sw 2001 3) rfl rfl ⟨rfl,rfl,trivial⟩ rfl ⟨rfl,rfl,trivial⟩ rfl) ?_
 refine AOps.ghost (fun a w h=>gk ⟨[(4,_),(8,_)],[]⟩ (Z1j (m:=6) (sz:=14) (gk ⟨[(4,_),(8,_)],[(6,_)]⟩ h))) ?_
 have⟨v6,hv6,h⟩:=Zd h
 refine oc (Z15 Tryz.call134 (Zge (h:=hv6))) ?_
 exact GR
def Zdt (_K:Nat) (v1:(List Int)):Option ((List Int)) :=
 some v1
def F194 (K:Nat) (a1:Int):Option ((List Int)) :=
 if (decide (a1<0))=true then
 none
 else
 if (decide ((IntKind.i64.wrap (a1 - (IntKind.i64.wrap (0 - (([]:List Int).length:Int))))) > 0))=true then
 if 0<(IntKind.i64.wrap (a1 - (IntKind.i64.wrap (0 - (([]:List Int).length:Int)))))∧(IntKind.i64.wrap (a1 - (IntKind.i64.wrap (0 - (([]:List Int).length:Int)))))≤1073741824 then
 if (0:Int)≤0∧0≤(([]:List Int).length:Int)∧(([]:List Int).length:Int)≤((List.replicate (IntKind.i64.wrap (a1 - (IntKind.i64.wrap (0 - (([]:List Int).length:Int))))).toNat (0:Int)).length:Nat) then
 if (0+(0:Int).toNat)+((([]:List Int).length:Int).toNat - (0:Int).toNat)≤(List.replicate (IntKind.i64.wrap (a1 - (IntKind.i64.wrap (0 - (([]:List Int).length:Int))))).toNat (0:Int)).length then
 if (0+(0:Int).toNat)+((([]:List Int).length:Int).toNat - (0:Int).toNat)≤(List.replicate (IntKind.i64.wrap (a1 - (IntKind.i64.wrap (0 - (([]:List Int).length:Int))))).toNat (0:Int)).length then
 Zdt K (((List.replicate (IntKind.i64.wrap (a1 - (IntKind.i64.wrap (0 - (([]:List Int).length:Int))))).toNat (0:Int)).drop (0+(0:Int).toNat)).take ((([]:List Int).length:Int).toNat - (0:Int).toNat))
 else none
 else none
 else none
 else none
 else
 Zdt K []
theorem F194_ok (K:Nat) (a1:Int) (r:(List Int)) (h:F194 K a1=some r):ACall P 194 ⟨[(.sl 1 [] true),(.int .i64 a1)],[],.vs 4,[(4,.vec 1 (List.map Z7 r))],[4]⟩:=by
 refine Zcm Tryz.func194 Tryz.results194 rfl Tryz.ntmps194 rfl rfl rfl ?_
 intro E Q hP hN hro hret
 obtain⟨P',nt',w0,F0,p0,S0,β0,ro0⟩:=E
 simp only at hP hN
 subst hP hN
 dsimp only [argT]
 unfold F194 at h
 refine AWp.seq<|AWp.region<|AOps.cons I (Zh (v:=(.sl 1 [] false)) I I) I<|AOps.nil<|At.next<|AWp.seq<|AWp.seq<|AWp.region<|AOps.cons I (Z1h I I) I<|AOps.cons I (Z8o (b:=0) (c:=(decide (a1<0))) I I I I) I<|AOps.nil<|At.next ?_
 have hif:=Z9p h
 refine AWp.cond I (fun hc=>?_) (fun hc=>?_)
 ·have h:=hif.1 hc
  cases h
 have h:=hif.2 hc
 refine AWp.skip<|At.next<|AWp.seq<|AWp.seq<|AWp.region<|AOps.cons I (Z1h I I) I<|AOps.cons I (Z1h (v:=(.sl 1 [] true)) I I) I<|AOps.cons I (Zes I u38 I) I<|AOps.cons I (Z1h (v:=(.sl 1 [] true)) I I) I<|AOps.cons I (Z8k (l:=([]:List Int)) (enc:=Z7) I s38 I) I<|AOps.cons I (Z73 (k:=.i64) (a:=0) (b:=(([]:List Int).length:Int)) (c:=(IntKind.i64.wrap (0 - (([]:List Int).length:Int)))) I I I I) I<|AOps.cons I (Z73 (k:=.i64) (b:=(IntKind.i64.wrap (0 - (([]:List Int).length:Int)))) (c:=(IntKind.i64.wrap (a1 - (IntKind.i64.wrap (0 - (([]:List Int).length:Int)))))) I I I I) I<|AOps.cons I (Zh I I) I<|AOps.nil<|At.next<|AWp.seq<|AWp.region<|AOps.cons I (Z1h I I) I<|AOps.cons I (Z8o (b:=0) (c:=(decide ((IntKind.i64.wrap (a1 - (IntKind.i64.wrap (0 - (([]:List Int).length:Int))))) > 0))) I I I I) I<|AOps.nil<|At.next ?_
 refine Zfi (V:=(List Int)) (lp:=fun v=>Zdt K v=some r) (sh:=fun v=>⟨[(0,(.vs 0))],[(0,(.vec 1 (List.map Z7 v)))]⟩) ?_ ?_
 ·intro v h
  revert h
  revert v
  intro v1 h
  try dsimp only at h ⊢
  unfold Zdt at h
  refine At.next<|AWp.seq<|AWp.region<|AOps.cons I (Z1h I I) I<|AOps.cons I (Zh I I) I<|AOps.nil<|At.next<|AWp.ret<|At.ghost (st':=⟨[(4,(.vs 4))],[(4,(.vec 1 (List.map Z7 v1)))]⟩) (fun a w h=>(Z28 _ (Z8c (a:=0) (b:=4) I I a w (Z28 ⟨[(4,(.vs 0))],[(0,(.vec 1 (List.map Z7 v1)))]⟩ h ⟨I,J0⟩ ⟨I,J0⟩)) ⟨I,J0⟩ ⟨I,J0⟩)) ?_
  have h:=Option.some.inj h
  subst h
  refine (hret _ ?_).1
  exact⟨[(.vs 4)],⟨I,J0⟩,I,⟨I,J0⟩⟩
 intro J2
 have hif:=Z9p h
 refine AWp.cond I (fun hc=>?_) (fun hc=>?_)
 ·have h:=hif.1 hc
  refine AWp.region<|AOps.cons I (Z1h (v:=(.sl 1 [] true)) I I) I<|AOps.cons I (Z1h (v:=(.sl 1 [] true)) I I) I<|AOps.cons I (Zes I u38 I) I<|AOps.cons I (Zcf (kh:=.i64) I s38 I I) I<|AOps.cons I (Z1h I I) I ?_
  have⟨hg3,h⟩:=Zg h
  refine AOps.cons I (Z7d (ky:=.i64) (kn:=.i64) (c:=(IntKind.i64.wrap (a1 - (IntKind.i64.wrap (0 - (([]:List Int).length:Int)))))) (n:=(IntKind.i64.wrap (a1 - (IntKind.i64.wrap (0 - (([]:List Int).length:Int))))).toNat) I Z65 I u3 ze3 Z1u I I I hg3 I) I<|AOps.cons I (Z1h (v:=(.sl 1 [] true)) I I) I<|AOps.cons I (Z8k (l:=([]:List Int)) (enc:=Z7) I s38 I) I ?_
  have⟨hg4,h⟩:=Zg h
  have⟨hg5,h⟩:=Zg h
  refine AOps.cons I (Z3i (v:=(.vs 22)) (n:=22) (off:=0) (len:=(List.replicate (IntKind.i64.wrap (a1 - (IntKind.i64.wrap (0 - (([]:List Int).length:Int))))).toNat (0:Int)).length) (l:=(List.replicate (IntKind.i64.wrap (a1 - (IntKind.i64.wrap (0 - (([]:List Int).length:Int))))).toNat (0:Int))) (enc:=Z7) (kh:=.i64) (hi:=(([]:List Int).length:Int)) I s38 I I (Z31 _ _ _) I hg4 I) I<|AOps.cons I (Zh I I) I<|AOps.nil ?_
  have⟨hg6,h⟩:=Zg h
  refine At.ghost (st':=⟨[(0,(.vs 22))],[(22,(.vec 1 (List.map Z7 (((List.replicate (IntKind.i64.wrap (a1 - (IntKind.i64.wrap (0 - (([]:List Int).length:Int))))).toNat (0:Int)).drop (0+(0:Int).toNat)).take ((([]:List Int).length:Int).toNat - (0:Int).toNat)))))]⟩) (fun a w h=>(Z28 _ (Z4c (k:=0) (m:=22) (sz:=1) (off:=(0+(0:Int).toNat)) (len:=((([]:List Int).length:Int).toNat - (0:Int).toNat)) (enc:=Z7) (l:=(List.replicate (IntKind.i64.wrap (a1 - (IntKind.i64.wrap (0 - (([]:List Int).length:Int))))).toNat (0:Int))) I hg6 a w (Z28 ⟨[(0,(.vsub 22 (0+(0:Int).toNat) ((([]:List Int).length:Int).toNat - (0:Int).toNat) false))],[(22,(.vec 1 (List.map Z7 (List.replicate (IntKind.i64.wrap (a1 - (IntKind.i64.wrap (0 - (([]:List Int).length:Int))))).toNat (0:Int)))))]⟩ h ⟨I,J0⟩ ⟨I,J0⟩)) ⟨I,J0⟩ ⟨I,J0⟩))<|At.ghost (st':=⟨[(0,(.vs 0))],[(0,(.vec 1 (List.map Z7 (((List.replicate (IntKind.i64.wrap (a1 - (IntKind.i64.wrap (0 - (([]:List Int).length:Int))))).toNat (0:Int)).drop (0+(0:Int).toNat)).take ((([]:List Int).length:Int).toNat - (0:Int).toNat)))))]⟩) (fun a w h=>(Z28 _ (Z8c (a:=22) (b:=0) I I a w (Z28 ⟨[(0,(.vs 22))],[(22,(.vec 1 (List.map Z7 (((List.replicate (IntKind.i64.wrap (a1 - (IntKind.i64.wrap (0 - (([]:List Int).length:Int))))).toNat (0:Int)).drop (0+(0:Int).toNat)).take ((([]:List Int).length:Int).toNat - (0:Int).toNat)))))]⟩ h ⟨I,J0⟩ ⟨I,J0⟩)) ⟨I,J0⟩ ⟨I,J0⟩)) ?_
  exact Z5r (J2 _ h) ⟨I,J0⟩ ⟨I,J0⟩
 have h:=hif.2 hc
 refine AWp.skip<|At.ghost (st':=⟨[(0,(.vs 0))],[(0,(.vec 1 (List.map Z7 ([]:List Int))))]⟩) (fun a w h=>(Z28 _ (Zcu (k:=0) (m:=0) (sz:=1) I I a w (Z28 ⟨[(0,(.sl 1 [] true))],[]⟩ h ⟨I,J0⟩ J0)) ⟨I,J0⟩ ⟨I,J0⟩)) ?_
 exact Z5r (J2 [] h) ⟨I,J0⟩ ⟨I,J0⟩
def Zch (_K:Nat) (v12:(List Int)):Option ((List Int)) :=
 some v12
def Z81 (K:Nat) (a0:(List (List Int))) (c14:(List Int)→Option ((List Int))):Nat→Int→(List Int)→Option ((List Int))
 | 0,_,_=>none
 | k11+1,v9,v10 =>
 if (decide (v9<(a0.length:Int)))=true then
 if (0:Int)≤v9∧v9<a0.length then
 if v10.length+(a0.getD v9.toNat []).length≤1073741824 then
 (Z81 K a0 c14 k11) (IntKind.i64.wrap (v9+1)) (v10++(a0.getD v9.toNat []))
 else none
 else none
 else
 c14 v10
def Zgd (K:Nat) (a0:(List (List Int))) (v4:Int):Option ((List Int)) :=
 (F194 K v4).bind fun v8 =>
 Z81 K a0 (Zch K) K 0 v8
def Zbk (K:Nat) (a0:(List (List Int))) (c6:Int→Option ((List Int))):Nat→Int→Int→Option ((List Int))
 | 0,_,_=>none
 | k3+1,v1,v2 =>
 if (decide (v2<(a0.length:Int)))=true then
 if (0:Int)≤v2∧v2<a0.length then
 if (decide ((IntKind.i64.wrap (v1+((a0.getD v2.toNat []).length:Int)))<0))=true then
 none
 else
 (Zbk K a0 c6 k3) (IntKind.i64.wrap (v1+((a0.getD v2.toNat []).length:Int))) (IntKind.i64.wrap (v2+1))
 else none
 else
 c6 v1
def F133 (K:Nat) (a0:(List (List Int))):Option ((List Int)) :=
 Zbk K a0 (Zgd K a0) K 0 0
theorem F133_ok (K:Nat) (a0:(List (List Int))) (r:(List Int)) (h:F133 K a0=some r):ACall P 133 ⟨[(.sl 1 (a0.map Z19) false)],[],.vs 2,[(2,.vec 1 (List.map Z7 r))],[2]⟩:=by
 refine ac Tryz.func133 Tryz.results133 Tryz.ntmps133 fun w0 F0 p0 S0 β0 Q hret=>?_
 dsimp only [argT]
 unfold F133 at h
 refine AWp.seq<|AWp.region ?_
 refine oc (Zh (v:=(.sl 1 [] false)) rfl rfl) ?_
 refine G1 h fun h=>?_
 refine lb (V:=Int×Int) (X:=Int) (v:=(_,_)) (fun k v=>Zbk K a0 (Zgd K a0) k v.1 v.2=some r) (fun v=>Zgd K a0 v=some r) [(0,_),(9,_),(10,_)] [] [(0,_)] [] (fun v t=>(3,(.int .i64 v.1))::(11,(.int .i64 v.2))::t) (fun v s=>s) (fun v t=>(3,(.int .i64 v))::t) (fun v s=>s) h ?_ ?_
 ·intro v h
  revert h
  revert v
  intro v4 h
  try dsimp only at h ⊢
  unfold Zgd at h
  refine G1 h fun h=>?_
  have⟨v8,hv8,h⟩:=Zd h
  refine oc (Z30 (sz:=1) (es:=(List.map Z7 v8)) (ar:=[(.sl 1 [] true),(.int .i64 v4)]) (caps:=[]) Tryz.call194 ((F194_ok K v4 v8 hv8).sw 4 24) rfl rfl ⟨rfl,rfl,trivial⟩ rfl) ?_
  refine G1 h fun h=>?_
  refine AWp.ghost (fun a w h=>gk ⟨[(6,_),(25,_),(26,_),(27,_)],[(6,_)]⟩ (Z3x (a:=24) (b:=6) (gk ⟨[(6,_),(25,_),(26,_),(27,_)],[(24,_)]⟩ h))) ?_
  refine lb (V:=Int×(List Int)) (X:=(List Int)) (v:=(_,_)) (fun k v=>Z81 K a0 (Zch K) k v.1 v.2=some r) (fun v=>Zch K v=some r) [(6,_),(25,_),(26,_)] [] [(6,_)] [] (fun v t=>(27,(.int .i64 v.1))::t) (fun v s=>(6,(.vec 1 (List.map Z7 v.2)))::s) (fun v t=>t) (fun v s=>(6,(.vec 1 (List.map Z7 v)))::s) h ?_ ?_
  ·intro v h
   revert h
   revert v
   intro v12 h
   try dsimp only at h ⊢
   unfold Zch at h
   refine G1 h fun h=>?_
   refine AWp.ret<|At.ghost (fun a w h=>gk ⟨[(2,_)],[(2,_)]⟩ (Z3x (a:=6) (b:=2) (gk ⟨[(2,_)],[(6,_)]⟩ h))) ?_
   exact RT
  intro N k11 v h IH11 J11
  obtain⟨v9,v10⟩:=v
  try dsimp only at h IH11 J11 ⊢
  cases k11 with
  | zero=>cases h
  | succ k11 =>
   rw [Z81] at h
   refine Mc h (fun h=>?_) (fun h=>?_)
   ·refine AWp.skip<|At.next<|AWp.seq<|AWp.block ?_
    refine G1 h fun h=>?_
    have⟨hg17,h⟩:=Zg h
    refine oc (Z1g (m:=6) rfl rfl Z65 rfl u38 rfl rfl rfl ⟨rfl,rfl,rfl⟩ noReads Z1u hg17) ?_
    refine G2 h fun h=>?_
    refine Z17<|At.next ?_
    exact M2 h (k:=fun h=>wkx (IH11 _ (_,_) Z1p h))
   refine AWp.exit<|Zz ?_
   exact wkx (J11 _ h)
 intro N k3 v h IH3 J3
 obtain⟨v1,v2⟩:=v
 try dsimp only at h IH3 J3 ⊢
 cases k3 with
 | zero=>cases h
 | succ k3 =>
  rw [Zbk] at h
  refine Mc h (fun h=>?_) (fun h=>?_)
  ·refine AWp.skip<|At.next<|AWp.seq<|AWp.block ?_
   refine Mc h (fun h=>?_) (fun h=>?_)
   ·cases h
   refine AWp.skip<|Z17<|At.next ?_
   exact M2 h (k:=fun h=>wkx (IH3 _ (_,_) Z1p h))
  refine AWp.exit<|Zz ?_
  exact wkx (J3 _ h)
def F124 (_K:Nat) (_a0:(List (Int×Bool))):Option (Unit) :=
 some ()
theorem F124_ok (K:Nat) (a0:(List (Int×Bool))) (r:Unit) (h:F124 K a0=some r):ACall P 124 ⟨[(.map 2000)],[(2000,(.map (Zn Z7 Zt a0)))],(.clo 182 [(.ptr 1 0)]),[(2000,(.map (Zn Z7 Zt a0))),(1,(.box [(.map 2000)]))],[1]⟩:=by
 refine ac Tryz.func124 Tryz.results124 Tryz.ntmps124 fun w0 F0 p0 S0 β0 Q hret=>?_
 dsimp only [argT]
 unfold F124 at h
 refine G1 h fun h=>?_
 refine oc (Z2k (vs:=[(.ptr 1 0)]) rfl ⟨rfl,trivial⟩) ?_
 refine G1 h fun h=>?_
 refine AWp.ret ?_
 have h:=Option.some.inj h
 subst h
 refine (hret _ ?_).1
 exact⟨[(.clo 182 [(.ptr 1 0)])],⟨I,J0⟩,I,⟨I,I,J0⟩⟩
theorem F182_keys (kvs:List (Int×Bool)) (lr:Go.Loop) (hps:lr.params.size=1) (hy:∀(x:Int) (l:List Int),l.length+1≤1073741824→YCall P lr 1000 ⟨[(Z7 x)],[(1000,.loop lr [2] [.ptr 1001 0]),(1001,.box [.vs 9]),(9,.vec 1 (List.map Z7 l))],.bool true,[(1000,.loop lr [2] [.ptr 1001 0]),(1001,.box [.vs 9]),(9,.vec 1 (List.map Z7 (l++[x])))],[9]⟩) (hb:kvs.length≤1073741824) :
  ACallX (X:=List (Int×Bool)) P 182 [.yld 1000,.ptr 2000 0] [(1000,.loop lr [2] [.ptr 1001 0]),(1001,.box [.vs 9]),(9,.vec 1 (List.map Z7 ([]:List Int))),(2000,.box [.map 2001]),(2001,.fmap (Zn Z7 Zt kvs))] (fun ω=>ω.Perm kvs) (fun _=>.tup []) (fun ω=>[(1000,.loop lr [2] [.ptr 1001 0]),(1001,.box [.vs 9]),(9,.vec 1 (List.map Z7 (List.map (fun e=>e.1) ω))),(2000,.box [.map 2001]),(2001,.fmap (Zn Z7 Zt kvs))]) [9]:=by
 refine Z3r Tryz.func182 Tryz.results182 rfl Tryz.ntmps182 rfl rfl (fun _=>rfl) ?_
 intro E Q hP hN hro hret
 obtain⟨P',nt',w0,F0,p0,S0,β0,ro0⟩:=E
 simp only at hP hN
 subst hP hN
 dsimp only [argT]
 refine AWp.seq ?_
 refine AWp.region ?_
 refine AOps.cons I (Z5g I o218 I I I) I ?_
 refine AOps.cons I (Zdb (encK:=Z7) (encV:=Zt) (l:=kvs) I ⟨3,4,by kernel_rfl⟩ I I) I ?_
 refine AOps.nil ?_
 refine At.next ?_
 refine AWp.weaken (st':=⟨[(0,.yld 1000),(5,.itr 5)],[(5,.iter none (Zn Z7 Zt kvs)),(9,.vec 1 (List.map Z7 ([]:List Int))),(1000,.loop lr [2] [.ptr 1001 0]),(1001,.box [.vs 9]),(2000,.box [.map 2001]),(2001,.fmap (Zn Z7 Zt kvs))]⟩) ⟨I,I,J0⟩ ⟨I,I,I,I,I,I,J0⟩ ?_
 refine Z4m (V:=List (Int×Bool)×List (Int×Bool)) (X:=List (Int×Bool)) (lp:=fun k v=>v.2.length<k∧(v.1++v.2).Perm kvs) (sh:=fun v=>⟨[(0,.yld 1000),(5,.itr 5)],[(5,.iter none (Zn Z7 Zt v.2)),(9,.vec 1 (List.map Z7 (List.map (fun e=>e.1) v.1))),(1000,.loop lr [2] [.ptr 1001 0]),(1001,.box [.vs 9]),(2000,.box [.map 2001]),(2001,.fmap (Zn Z7 Zt kvs))]⟩) (x:=fun ω=>ω.Perm kvs) (shx:=fun ω=>⟨[],[(9,.vec 1 (List.map Z7 (List.map (fun e=>e.1) ω))),(1000,.loop lr [2] [.ptr 1001 0]),(1001,.box [.vs 9]),(2000,.box [.map 2001]),(2001,.fmap (Zn Z7 Zt kvs))]⟩) (k:=kvs.length+1) (v:=([],kvs)) ⟨Nat.lt_succ_self _,List.Perm.refl _⟩ ?_ ?_
 ·intro ω hω
  refine (hret _ ω hω ?_).2
  exact⟨[],J0,I,⟨I,I,I,I,I,J0⟩⟩
 ·intro N k v hv IH J
  obtain⟨pre,rem⟩:=v
  dsimp only at hv IH J ⊢
  obtain⟨hk,hperm⟩:=hv
  refine AWp.seq ?_
  refine AWp.region ?_
  refine Z4l (encK:=Z7) (encV:=Zt) (rem:=rem) I I I (fun hc=>?_) (fun p kv q hc=>?_)
  ·subst hc
   rw [List.append_nil] at hperm
   refine AOps.cons I (Z2b I I I) I ?_
   refine AOps.nil ?_
   refine At.next ?_
   refine AWp.seq ?_
   refine AWp.cond (b:=false) I (fun hc=>?_) (fun hc=>?_)
   ·cases hc
   refine AWp.exit ?_
   refine Zz ?_
   exact Z5r (J pre hperm) J0 ⟨I,I,I,I,I,J0⟩
  ·subst hc
   refine AOps.cons I (Z2b I I I) I ?_
   refine AOps.nil ?_
   refine At.next ?_
   refine AWp.seq ?_
   refine AWp.cond (b:=true) I (fun hc=>?_) (fun hc=>?_)
   rotate_left
   ·cases hc
   refine AWp.skip ?_
   refine At.next ?_
   refine AWp.block ?_
   refine AWp.seq ?_
   refine AWp.region ?_
   refine AOps.cons I (Zda (k:=kv.1) (v:=kv.2) (encK:=Z7) (encV:=Zt) I I I) I ?_
   refine AOps.cons I (Z2b I I I) I ?_
   refine AOps.cons I (Zh (v:=(Z7 kv.1)) I I) I ?_
   refine AOps.nil ?_
   refine At.next ?_
   refine AWp.seq ?_
   refine AWp.region ?_
   refine AOps.cons I (Z1h I I) I ?_
   refine AOps.cons I (Z1h (v:=(Z7 kv.1)) I I) I ?_
   have hlen:(List.map (fun e=>e.1) pre).length+1≤1073741824:=by
    have:=hperm.length_eq
    simp only [List.length_append,List.length_cons,List.length_map] at this ⊢
    omega
   refine AOps.cons I (Zdc (d:=some 12) (ks:=[2]) (vs:=[.ptr 1001 0]) (c:=⟨[(Z7 kv.1)],[(1000,.loop lr [2] [.ptr 1001 0]),(1001,.box [.vs 9]),(9,.vec 1 (List.map Z7 (List.map (fun e=>e.1) pre)))],.bool true,[(1000,.loop lr [2] [.ptr 1001 0]),(1001,.box [.vs 9]),(9,.vec 1 (List.map Z7 ((List.map (fun e=>e.1) pre)++[kv.1])))],[9]⟩) (ar:=[(Z7 kv.1)]) (news:=[]) (forg:=[9]) (hy kv.1 _ hlen) I hps I I ⟨I,J0⟩ I ⟨I,I,I,J0⟩ I) I ?_
   refine AOps.cons I (Zob I I) I ?_
   refine AOps.nil ?_
   refine At.next ?_
   refine AWp.cond (b:=false) I (fun hc=>?_) (fun hc=>?_)
   ·cases hc
   refine AWp.skip ?_
   refine Z17 ?_
   have hstep:(p++q).length<(p++kv::q).length:=by
    simp only [List.length_append,List.length_cons]
    omega
   have hp2:((pre++[kv])++(p++q)).Perm kvs:=by
    refine List.Perm.trans ?_ hperm
    rw [List.append_assoc]
    exact List.Perm.append_left pre (show (kv::(p++q)).Perm (p++kv::q) from List.perm_middle.symm)
   have hm:List.map (fun e:Int×Bool=>e.1) (pre++[kv])=List.map (fun e=>e.1) pre++[kv.1]:=by rw [List.map_append];rfl
   have:=IH (p++q).length.succ (pre++[kv],p++q) (by omega) ⟨Nat.lt_succ_self _,hp2⟩
   dsimp only at this
   rw [hm] at this
   refine At.ghost (st':=⟨[(0,.yld 1000),(5,.itr 5)],[(5,.iter none (Zn Z7 Zt (p++q))),(9,.vec 1 (List.map Z7 ((List.map (fun e=>e.1) pre)++[kv.1]))),(1000,.loop lr [2] [.ptr 1001 0]),(1001,.box [.vs 9]),(2000,.box [.map 2001]),(2001,.fmap (Zn Z7 Zt kvs))]⟩) (fun a w h=>Z28 _ (Z7m (m:=5) (cur:=some ((Z7 kv.1),(Zt kv.2))) (kvs:=Zn Z7 Zt (p++q)) a w (Z28 ⟨[(0,.yld 1000),(5,.itr 5)],[(5,.iter (some ((Z7 kv.1),(Zt kv.2))) (Zn Z7 Zt (p++q))),(9,.vec 1 (List.map Z7 ((List.map (fun e=>e.1) pre)++[kv.1]))),(1000,.loop lr [2] [.ptr 1001 0]),(1001,.box [.vs 9]),(2000,.box [.map 2001]),(2001,.fmap (Zn Z7 Zt kvs))]⟩ h ⟨I,I,J0⟩ ⟨I,I,I,I,I,I,J0⟩)) ⟨I,I,J0⟩ ⟨I,I,I,I,I,I,J0⟩) this
theorem F211_keys (kvs:List (Int×Bool)) (hb:kvs.length≤1073741824):ACallX (X:=List (Int×Bool)) P 211 [(.sl 1 [] true),.clo 182 [.ptr 2000 0]] [(2000,.box [.map 2001]),(2001,.fmap (Zn Z7 Zt kvs))] (fun ω=>ω.Perm kvs) (fun _=>.vs 9) (fun ω=>[(9,.vec 1 (List.map Z7 (List.map (fun e=>e.1) ω))),(2000,.box [.map 2001]),(2001,.fmap (Zn Z7 Zt kvs))]) [9]:=by
 refine Z3r Tryz.func211 Tryz.results211 rfl Tryz.ntmps211 rfl rfl (fun _=>rfl) ?_
 intro E Q hP hN hro hret
 obtain⟨P',nt',w0,F0,p0,S0,β0,ro0⟩:=E
 simp only at hP hN
 subst hP hN
 dsimp only [argT]
 refine AWp.seq<|AWp.region<|AOps.cons I (Zij I I I I I) I<|AOps.cons I (Zh (v:=(.sl 1 [] false)) I I) I<|AOps.nil<|At.next<|AWp.seq<|AWp.seq<|AWp.region<|AOps.cons I (Z1h I I) I<|AOps.nil<|At.next<|AWp.block<|AWp.ghost (st':=⟨[(2,.ptr 2 0),(6,(.clo 182 [.ptr 2000 0]))],[(2,.box [.vs 9]),(9,.vec 1 (List.map Z7 ([]:List Int))),(2000,.box [.map 2001]),(2001,.fmap (Zn Z7 Zt kvs))]⟩) (fun a w h=>Z28 _ (Zam (n:=2) (m:=9) (sz:=1) (j:=0) I I I a w (Z28 ⟨[(2,.ptr 2 0),(6,(.clo 182 [.ptr 2000 0]))],[(2,.box [(.sl 1 [] true)]),(2000,.box [.map 2001]),(2001,.fmap (Zn Z7 Zt kvs))]⟩ h ⟨I,I,J0⟩ ⟨I,I,I,J0⟩)) ⟨I,I,J0⟩ ⟨I,I,I,I,J0⟩) ?_
 refine Z5d (X:=List (Int×Bool)) (n:=1) (f:=182) (caps:=[.ptr 2000 0]) (ks:=[2]) (vs:=[.ptr 2 0]) (ins:=[(2,.box [.vs 9]),(9,.vec 1 (List.map Z7 ([]:List Int))),(2000,.box [.map 2001]),(2001,.fmap (Zn Z7 Zt kvs))]) (ok:=fun ω=>ω.Perm kvs) (outs:=fun ω=>[(2,.box [.vs 9]),(9,.vec 1 (List.map Z7 (List.map (fun e=>e.1) ω))),(2000,.box [.map 2001]),(2001,.fmap (Zn Z7 Zt kvs))]) (res:=fun _=>.tup []) (mv:=[9]) (forg:=[9]) (jump:=fun _=>none) hro Tryz.call182 I I I I ⟨I,J0⟩ ⟨I,I,I,I,J0⟩ I (fun _=>I) (fun _=>I) I (fun lr hst hpe hpr has hbd hsz=>?_) (fun ω hω _=>?_) (fun ω c _ hc=>by cases hc)
 ·have hend:=Z6n hst hpe
  simp only [hend]
  have hps:lr.params.size=1:=by rw [hpr];rfl
  have hy:∀(x:Int) (l:List Int),l.length+1≤1073741824→YCall P lr 1000 ⟨[(Z7 x)],[(1000,.loop lr [2] [.ptr 1001 0]),(1001,.box [.vs 9]),(9,.vec 1 (List.map Z7 l))],.bool true,[(1000,.loop lr [2] [.ptr 1001 0]),(1001,.box [.vs 9]),(9,.vec 1 (List.map Z7 (l++[x])))],[9]⟩:=by
   intro x l hl
   refine Zde (ks:=[2]) (vs:=[.ptr 1001 0]) (ps:=[7]) rfl hst hsz hpr rfl (by decide) rfl rfl rfl ?_
   intro E Qa Qb hP hN hmid hfin
   obtain⟨P',nt',w0,F0,p0,S0,β0,ro0⟩:=E
   simp only at hP hN
   subst hP hN
   refine Z5c has ?_
   dsimp only [List.zip,List.zipWith,List.cons_append,List.nil_append]
   refine AWp.region<|AOps.cons I (Zh (v:=(Z7 x)) I I) I<|AOps.nil ?_
   refine hmid _ _ _ rfl ?_
   refine Z5c hbd<|AWp.block<|AWp.region<|AOps.cons I (Z5g I o38 I I I) I<|AOps.cons I (Z1h (v:=(Z7 x)) I I) I<|AOps.cons I (Zj (vs:=[_]) (enc:=Z7) (l:=[x]) I Z65 I I ⟨I,J0⟩ I Z1u I I I I) I<|AOps.cons I (Z1g (m:=9) I I Z65 I u38 I I I I (oneRead I) Z1u hl) I<|AOps.cons I (Z9x sz38 I I I I I I I I) I<|AOps.nil<|Z17 ?_
   refine hfin _ _ _ none .normal rfl rfl rfl ?_
   rw [hend]
   exact⟨I,I,I,J0⟩
  exact ((F182_keys kvs lr hps hy hb).sw 1000 1).sw 1001 2
 refine At.weaken (st':=⟨[(2,.ptr 2 0)],[(2,.box [.vs 9]),(9,.vec 1 (List.map Z7 (List.map (fun e=>e.1) ω))),(2000,.box [.map 2001]),(2001,.fmap (Zn Z7 Zt kvs))]⟩) ⟨I,J0⟩ ⟨I,I,I,I,J0⟩<|Z17<|At.next<|AWp.seq<|AWp.region<|AOps.cons I (Z5g I o38 I I I) I<|AOps.cons I (Zh I I) I<|AOps.nil<|At.next<|AWp.ret ?_
 refine (hret _ ω hω ?_).1
 exact⟨[.vs 9],⟨I,J0⟩,I,⟨I,I,I,J0⟩⟩
theorem Zgh (kvs:List (Int×Bool)) (hb:kvs.length≤1073741824):ACallX (X:=List (Int×Bool)) P 153 [.clo 182 [.ptr 2000 0]] [(2000,.box [.map 2001]),(2001,.fmap (Zn Z7 Zt kvs))] (fun ω=>ω.Perm kvs) (fun _=>.vs 4) (fun ω=>[(4,.vec 1 (List.map Z7 (List.map (fun e=>e.1) ω))),(2000,.box [.map 2001]),(2001,.fmap (Zn Z7 Zt kvs))]) [4]:=by
 refine Z3r Tryz.func153 Tryz.results153 rfl Tryz.ntmps153 rfl rfl (fun _=>rfl) ?_
 intro E Q hP hN hro hret
 obtain⟨P',nt',w0,F0,p0,S0,β0,ro0⟩:=E
 simp only at hP hN
 subst hP hN
 dsimp only [argT]
 refine AWp.seq<|AWp.region<|AOps.cons I (Zh (v:=(.sl 1 [] false)) I I) I<|AOps.nil<|At.next<|AWp.seq<|AWp.region<|AOps.cons I (Z1h I I) I ?_
 refine Z4f (ar:=[(.sl 1 [] true),(.clo 182 [.ptr 2000 0])]) (caps:=[]) (news:=[4]) (forg:=[]) Tryz.call211 ((F211_keys kvs hb).sw 9 4) I I ⟨I,I,J0⟩ I ⟨I,I,J0⟩ (fun _=>I) I (fun ω hω=>?_)
 refine AOps.cons I (Zh I I) I<|AOps.nil<|At.next<|AWp.ret ?_
 refine (hret _ ω hω ?_).1
 exact⟨[.vs 4],⟨I,J0⟩,I,⟨I,I,I,J0⟩⟩
noncomputable def F123 (_K:Nat) (a0:(List (Int×Bool))):Option ((List Int)) :=
 if a0.length≤1073741824 then
 ndPerm a0 fun x3 =>
 (sortI (List.map (fun e:Int×Bool=>e.1) x3)).bind fun v5 =>
 some v5
 else none
theorem F123_ok (K:Nat) (a0:(List (Int×Bool))) (r:(List Int)) (h:F123 K a0=some r):ACall P 123 ⟨[(.clo 182 [(.ptr 2000 0)])],[(2000,(.box [(.map 8)])),(8,(.map (Zn Z7 Zt a0)))],(.vs 5),[(2000,(.box [(.map 8)])),(8,(.fmap (Zn Z7 Zt a0))),(5,(.vec 1 (List.map Z7 r)))],[8,5]⟩:=by
 refine ac Tryz.func123 Tryz.results123 Tryz.ntmps123 fun w0 F0 p0 S0 β0 Q hret=>?_
 dsimp only [argT]
 unfold F123 at h
 refine AWp.seq<|AWp.region ?_
 refine oc (Zh (v:=(.sl 1 [] false)) rfl rfl) ?_
 refine G1 h fun h=>?_
 refine AOps.ghost (fun a w h=>gk ⟨[(4,_)],[(8,_),(2000,_)]⟩ (Z66 (m:=8) (gk ⟨[(4,_)],[(8,_),(2000,_)]⟩ h))) ?_
 have⟨hg2,h⟩:=Zg h
 have hp6:=Z9q h
 refine Z4f (ar:=[(.clo 182 [(.ptr 2000 0)])]) (caps:=[]) (news:=[5]) (forg:=[]) Tryz.call153 (((Zgh a0 hg2).sw 2001 8).sw 4 5) I I ⟨I,J0⟩ I ⟨I,I,J0⟩ (fun _=>I) I (fun x3 hw6=>?_)
 have h:=hp6 x3 hw6
 refine G1 h fun h=>?_
 have⟨v5,hv5,h⟩:=Zd h
 refine oc (Z1d (d:=some 7) (c:=⟨_,[(5,_)],.tup [],[(5,.vec 1 (List.map Z7 v5))],[]⟩) (ar:=[_]) (caps:=[]) (news:=[]) (forg:=[]) Tryz.call110 (Zd7 (n:=5) (enc:=Z7) (l:=(List.map (fun e:Int×Bool=>e.1) x3)) Zd6 (fun _=>rfl) hv5) rfl rfl ⟨rfl,trivial⟩ rfl ⟨rfl,trivial⟩ rfl) ?_
 exact GR
end Go.AM.Tp
