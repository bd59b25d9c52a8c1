/- What these functions compute, each with its walk: F57_i1, F9, F136, F62, F261, F193_i1, F129_i1, F198, F137, F63, F14, F210, F123_i3, F209, F149. -/
import Derived.Test.YtkafecfipfnljaaGreatTpT
import Derived.Test.YtkafecfipfnljaaGreatTpG0
import Derived.Test.YtkafecfipfnljaaGreatTpG2
import Derived.Test.YtkafecfipfnljaaGreatTpG3
namespace Go.AM.Tp
open Go Go.AM Go.Proofs
set_option maxRecDepth 100000
set_option maxHeartbeats 2000000
attribute [local irreducible] Z11 TyOne TyAgg TySl TyZero TyStruct TyEl TyEq AWp AOps AOpsD At
def Z4p (_K:Nat) (v7:(List Z4)) (v8:(List Z1)):Option ((List Z4)×(List Z1)) :=
 some (v7,v8)
def Z52 (_K:Nat) (b11:Int→(List Z4)→(List Z1)→Option ((List Z4)×(List Z1))) (v3:Int) (v12:(List Z4)) (v13:(List Z1)):Option ((List Z4)×(List Z1)) :=
 b11 (IntKind.i64.wrap (v3+1)) v12 v13
def Z64 (K:Nat) (b11:Int→(List Z4)→(List Z1)→Option ((List Z4)×(List Z1))) (v3:Int) (v19:(List Z4)) (v20:(List Z1)):Option ((List Z4)×(List Z1)) :=
 Z52 K b11 v3 v19 v20
def Z3k (K:Nat) (a4:(List Z4)) (a6:(List (Int×Int))) (a0:Int) (a5:(List (List Int))) (a3:(List Z1)) (c10:(List Z4)→(List Z1)→Option ((List Z4)×(List Z1))):Nat→Int→(List Z4)→(List Z1)→Option ((List Z4)×(List Z1))
 | 0,_,_,_=>none
 | k6+1,v3,v4,v5 =>
 if (decide (v3<(a4.length:Int)))=true then
 if (0:Int)≤v3∧v3<a4.length then
 if (((mget Zv (a4.getD v3.toNat Z8).From a6).getD (0:Int))==a0)=true then
 if (0:Int)≤a0∧a0<a5.length then
 (F54 K (a5.getD a0.toNat []) (a4.getD v3.toNat Z8).From).bind fun v18 =>
 if v18=true then
 if v4.length+[(a4.getD v3.toNat Z8)].length≤1073741824 then
 if (0:Int)≤v3∧v3<a3.length then
 if v5.length+[(a3.getD v3.toNat Ze)].length≤1073741824 then
 Z64 K (Z3k K a4 a6 a0 a5 a3 c10 k6) v3 (v4++[(a4.getD v3.toNat Z8)]) (v5++[(a3.getD v3.toNat Ze)])
 else none
 else none
 else none
 else
 Z64 K (Z3k K a4 a6 a0 a5 a3 c10 k6) v3 v4 v5
 else none
 else
 Z52 K (Z3k K a4 a6 a0 a5 a3 c10 k6) v3 v4 v5
 else none
 else
 c10 v4 v5
def Zh2 (K:Nat) (a0:Int) (_a1:(List Z1)) (_a2:(List Int)) (a3:(List Z1)) (a4:(List Z4)) (a5:(List (List Int))) (a6:(List (Int×Int))) (_a7:(List Bool)):Option ((List Z4)×(List Z1)) :=
 Z3k K a4 a6 a0 a5 a3 (Z4p K) K 0 [] []
theorem Zmv (K:Nat) (a0:Int) (a1:(List Z1)) (a2:(List Int)) (a3:(List Z1)) (a4:(List Z4)) (a5:(List (List Int))) (a6:(List (Int×Int))) (a7:(List Bool)) (r:(List Z4)×(List Z1)) (h:Zh2 K a0 a1 a2 a3 a4 a5 a6 a7=some r):ACall P 57 ⟨[(.ptr 2000 0),(.int .i64 a0)],[(2000,(.box [(.sl 10 (a1.map Z3) false),(.sl 1 (a2.map Z7) false),(.sl 10 (a3.map Z3) false),(.sl 3 (a4.map Z9) false),(.sl 1 (a5.map Z19) false),(.map 2001),(.vs 57)])),(2001,(.map (Zn Z7 Z7 a6))),(57,(.vec 1 (List.map Zt a7)))],(.tup [(.sl 3 (r.1.map Z9) false),(.sl 10 (r.2.map Z3) false)]),[(2000,(.box [(.sl 10 (a1.map Z3) false),(.sl 1 (a2.map Z7) false),(.sl 10 (a3.map Z3) false),(.sl 3 (a4.map Z9) false),(.sl 1 (a5.map Z19) false),(.map 2001),(.vs 57)])),(2001,(.map (Zn Z7 Z7 a6))),(57,(.vec 1 (List.map Zt a7)))],[57]⟩:=by
 refine ac Tryz.func57 Tryz.results57 Tryz.ntmps57 fun w0 F0 p0 S0 β0 Q hret=>?_
 dsimp only [argT]
 unfold Zh2 at h
 refine AWp.seq<|AWp.region ?_
 refine oc (Zh (v:=(.sl 3 [] false)) rfl rfl) ?_
 refine oc (Zh (v:=(.sl 10 [] false)) rfl rfl) ?_
 refine G1 h fun h=>?_
 refine oc (Zh (v:=(.sl 3 [] true)) rfl rfl) ?_
 refine G1 h fun h=>?_
 refine oc (Zh (v:=(.sl 10 [] true)) rfl rfl) ?_
 refine G1 h fun h=>?_
 refine AWp.ghost (fun a w h=>gk ⟨[(0,_),(1,_),(6,_),(7,_),(13,_),(14,_),(15,_)],[(6,_),(7,_),(57,_),(2000,_),(2001,_)]⟩ (Z38 (k:=7) (m:=7) (sz:=10) (gk ⟨[(7,_),(0,_),(1,_),(6,_),(13,_),(14,_),(15,_)],[(6,_),(57,_),(2000,_),(2001,_)]⟩ (gk ⟨[(0,_),(1,_),(6,_),(7,_),(13,_),(14,_),(15,_)],[(6,_),(57,_),(2000,_),(2001,_)]⟩ (Z38 (k:=6) (m:=6) (sz:=3) (gk ⟨[(6,_),(0,_),(1,_),(7,_),(13,_),(14,_),(15,_)],[(57,_),(2000,_),(2001,_)]⟩ h)))))) ?_
 refine lb (V:=Int×(List Z4)×(List Z1)) (X:=(List Z4)×(List Z1)) (v:=(_,_,_)) (fun k v=>Z3k K a4 a6 a0 a5 a3 (Z4p K) k v.1 v.2.1 v.2.2=some r) (fun v=>Z4p K v.1 v.2=some r) [(0,_),(1,_),(6,_),(7,_),(13,_),(14,_)] [(57,_),(2000,_),(2001,_)] [(6,_),(7,_)] [(57,_),(2000,_),(2001,_)] (fun v t=>(15,(.int .i64 v.1))::t) (fun v s=>(6,(.vec 3 (List.map Z9 v.2.1)))::(7,(.vec 10 (List.map Z3 v.2.2)))::s) (fun v t=>t) (fun v s=>(6,(.vec 3 (List.map Z9 v.1)))::(7,(.vec 10 (List.map Z3 v.2)))::s) h ?_ ?_
 ·intro v h
  obtain⟨v7,v8⟩:=v
  try dsimp only at h ⊢
  unfold Z4p at h
  refine G1 h fun h=>?_
  refine AWp.ret<|At.ghost (fun a w h=>gk ⟨[(4,_),(5,_)],[(57,_),(2000,_),(2001,_)]⟩ (Z1j (m:=7) (sz:=10) (gk ⟨[(4,_),(5,_)],[(7,_),(57,_),(2000,_),(2001,_)]⟩ (gk ⟨[(4,(.sl 3 (v7.map Z9) false)),(5,(.vs 7))],[(7,(.vec 10 (List.map Z3 v8))),(57,(.vec 1 (List.map Zt a7))),(2000,(.box [(.sl 10 (a1.map Z3) false),(.sl 1 (a2.map Z7) false),(.sl 10 (a3.map Z3) false),(.sl 3 (a4.map Z9) false),(.sl 1 (a5.map Z19) false),(.map 2001),(.vs 57)])),(2001,(.map (Zn Z7 Z7 a6)))]⟩ (Z1j (m:=6) (sz:=3) (gk ⟨[(4,_),(5,_)],[(6,_),(7,_),(57,_),(2000,_),(2001,_)]⟩ h)))))) ?_
  exact RT
 intro N k6 v h IH6 J6
 obtain⟨v3,v4,v5⟩:=v
 try dsimp only at h IH6 J6 ⊢
 cases k6 with
 | zero=>cases h
 | succ k6 =>
  rw [Z3k] at h
  refine Mc h (fun h=>?_) (fun h=>?_)
  ·refine AWp.skip<|At.next<|AWp.seq ?_
   refine bj (V:=(List Z4)×(List Z1)) (fun v=>Z52 K (Z3k K a4 a6 a0 a5 a3 (Z4p K) k6) v3 v.1 v.2=some r) [(0,_),(1,_),(6,_),(7,_),(13,_),(14,_),(15,_)] [(57,_),(2000,_),(2001,_)] (fun v t=>t) (fun v s=>(6,(.vec 3 (List.map Z9 v.1)))::(7,(.vec 10 (List.map Z3 v.2)))::s) ?_ ?_
   ·intro v h
    obtain⟨v12,v13⟩:=v
    try dsimp only at h ⊢
    unfold Z52 at h
    refine At.next ?_
    exact M2 h (k:=fun h=>wkx (IH6 _ (_,_,_) Z1p h))
   intro J14
   refine G1 h fun h=>?_
   refine oc (Zm (ds:=_)) ?_
   refine G1 h fun h=>?_
   refine oD (Z2h (a:=(a4.getD v3.toNat Z8).From) rfl Z4x rfl rfl (.inl rfl) rfl rfl) ?_
   refine M1 h (k:=fun h=>splD h (fun h=>?_) (fun h=>?_))
   ·refine G1 h fun h=>?_
    have⟨v18,hv18,h⟩:=Zd h
    refine oU (Z15 Tryz.call54 (Zmu (h:=hv18))) ?_
    refine G1 h fun h=>?_
    refine jn (V:=(List Z4)×(List Z1)) (fun v=>Z64 K (Z3k K a4 a6 a0 a5 a3 (Z4p K) k6) v3 v.1 v.2=some r) [(0,_),(1,_),(6,_),(7,_),(13,_),(14,_),(15,_)] [(57,_),(2000,_),(2001,_)] (fun v t=>t) (fun v s=>(6,(.vec 3 (List.map Z9 v.1)))::(7,(.vec 10 (List.map Z3 v.2)))::s) ?_ ?_
    ·intro v h
     obtain⟨v19,v20⟩:=v
     try dsimp only at h ⊢
     unfold Z64 at h
     refine Z17 ?_
     exact wkx (J14 (_,_) h)
    intro J21
    refine cnd h (fun h=>?_) (fun h=>?_)
    ·refine G1 h fun h=>?_
     refine oD (Zj (vs:=[_]) (enc:=Z9) (l:=[(a4.getD v3.toNat Z8)]) rfl el128 rfl rfl ⟨rfl,trivial⟩ rfl Z3g rfl rfl rfl rfl) ?_
     have⟨hg22,h⟩:=Zg h
     refine oD (Z1g (m:=6) rfl rfl el128 rfl u128 rfl rfl rfl rfl (oneRead rfl) Z3g hg22) ?_
     refine G1 h fun h=>?_
     refine oD (Zj (vs:=[_]) (enc:=Z3) (l:=[(a3.getD v3.toNat Ze)]) rfl Ziu rfl rfl ⟨rfl,trivial⟩ rfl Z16 rfl rfl rfl rfl) ?_
     have⟨hg24,h⟩:=Zg h
     refine oD (Z1g (m:=7) rfl rfl Ziu rfl u35 rfl rfl rfl rfl (oneRead rfl) Z16 hg24) ?_
     exact M2 h (k:=fun h=>wkx (J21 (_,_) h))
    refine AWp.skip ?_
    exact wkx (J21 (_,_) h)
   refine G1 h fun h=>?_
   refine AWp.cond (b:=false) I (fun hc=>?_) (fun hc=>?_)
   ·cases hc
   refine AWp.skip<|Z17 ?_
   exact wkx (J14 (_,_) h)
  refine AWp.exit<|Zz ?_
  exact wkx (J6 (_,_) h)
def Zf5 (_K:Nat) (v13:(List Z1)) (v15:(List Int)) (v17:(List Z1)) (v19:(List Z4)) (v29:(List (List Int))) (v34:(List (Int×Int))) (v35:(List Bool)):Option ((List Z1)×(List Int)×(List Z1)×(List Z4)×(List (List Int))×(List (Int×Int))×(List Bool)) :=
 some (v13,v15,v17,v19,v29,v34,v35)
noncomputable def Zjq (K:Nat) (v30:Int) (v13:(List Z1)) (v15:(List Int)) (v17:(List Z1)) (v19:(List Z4)) (v29:(List (List Int))) (v32:(List Bool)) (b38:Int→(List (Int×Int))→(List Bool)→Option ((List Z1)×(List Int)×(List Z1)×(List Z4)×(List (List Int))×(List (Int×Int))×(List Bool))) (v43:(List (Int×Int))):Option ((List Z1)×(List Int)×(List Z1)×(List Z4)×(List (List Int))×(List (Int×Int))×(List Bool)) :=
 (Zh2 K v30 v13 v15 v17 v19 v29 v43 v32).bind fun v47 =>
 (F58 K v47.1).bind fun v49 =>
 if v32.length+[v49.2].length≤1073741824 then
 b38 (IntKind.i64.wrap (v30+1)) v43 (v32++[v49.2])
 else none
def Zf6 (K:Nat) (v29:(List (List Int))) (v30:Int) (c45:(List (Int×Int))→Option ((List Z1)×(List Int)×(List Z1)×(List Z4)×(List (List Int))×(List (Int×Int))×(List Bool))):Nat→Int→(List (Int×Int))→Option ((List Z1)×(List Int)×(List Z1)×(List Z4)×(List (List Int))×(List (Int×Int))×(List Bool))
 | 0,_,_=>none
 | k42+1,v40,v41 =>
 if (decide (v40<((v29.getD v30.toNat []).length:Int)))=true then
 if (0:Int)≤v40∧v40<(v29.getD v30.toNat []).length then
 (Zf6 K v29 v30 c45 k42) (IntKind.i64.wrap (v40+1)) (mput Zv ((v29.getD v30.toNat []).getD v40.toNat 0) v30 v41)
 else none
 else
 c45 v41
noncomputable def Z9e (K:Nat) (v29:(List (List Int))) (v13:(List Z1)) (v15:(List Int)) (v17:(List Z1)) (v19:(List Z4)) (c37:(List (Int×Int))→(List Bool)→Option ((List Z1)×(List Int)×(List Z1)×(List Z4)×(List (List Int))×(List (Int×Int))×(List Bool))):Nat→Int→(List (Int×Int))→(List Bool)→Option ((List Z1)×(List Int)×(List Z1)×(List Z4)×(List (List Int))×(List (Int×Int))×(List Bool))
 | 0,_,_,_=>none
 | k33+1,v30,v31,v32 =>
 if (decide (v30<(v29.length:Int)))=true then
 if (0:Int)≤v30∧v30<v29.length then
 Zf6 K v29 v30 (Zjq K v30 v13 v15 v17 v19 v29 v32 (Z9e K v29 v13 v15 v17 v19 c37 k33)) K 0 v31
 else none
 else
 c37 v31 v32
noncomputable def Zf4 (K:Nat) (v13:(List Z1)) (v15:(List Int)) (v17:(List Z1)) (v19:(List Z4)) (v25:(List (List Int))):Option ((List Z1)×(List Int)×(List Z1)×(List Z4)×(List (List Int))×(List (Int×Int))×(List Bool)) :=
 (sortF (fun a b=>F56 K a b) v25).bind fun v29 =>
 Z9e K v29 v13 v15 v17 v19 (Zf5 K v13 v15 v17 v19 v29) K 0 ([]:List (Int×Int)) []
def Zjr (_K:Nat) (b53:Int→(List (List Int))→Option ((List Z1)×(List Int)×(List Z1)×(List Z4)×(List (List Int))×(List (Int×Int))×(List Bool))) (v22:Int) (v57:(List (List Int))):Option ((List Z1)×(List Int)×(List Z1)×(List Z4)×(List (List Int))×(List (Int×Int))×(List Bool)) :=
 b53 (IntKind.i64.wrap (v22+1)) v57
def Z9d (K:Nat) (v15:(List Int)) (c27:(List (List Int))→Option ((List Z1)×(List Int)×(List Z1)×(List Z4)×(List (List Int))×(List (Int×Int))×(List Bool))):Nat→Int→(List (List Int))→Option ((List Z1)×(List Int)×(List Z1)×(List Z4)×(List (List Int))×(List (Int×Int))×(List Bool))
 | 0,_,_=>none
 | k24+1,v22,v23 =>
 if (decide (v22<(v15.length:Int)))=true then
 if (0:Int)≤v22∧v22<v15.length then
 (F52 K v23 (v15.getD v22.toNat 0)).bind fun v56 =>
 if (!v56)=true then
 if v23.length+([[(v15.getD v22.toNat 0)]]:List (List Int)).length≤1073741824 then
 Zjr K (Z9d K v15 c27 k24) v22 (v23++([[(v15.getD v22.toNat 0)]]:List (List Int)))
 else none
 else
 Zjr K (Z9d K v15 c27 k24) v22 v23
 else none
 else
 c27 v23
noncomputable def Zf3 (K:Nat) (a0:(List Z1)):Option ((List Z1)×(List Int)×(List Z1)×(List Z4)×(List (List Int))×(List (Int×Int))×(List Bool)) :=
 (F47 K a0).bind fun v13 =>
 (F48 K a0).bind fun v15 =>
 (F49 K v13).bind fun v17 =>
 if (decide ((v15.length:Int) > 256))=true then
 none
 else
 if (decide ((v17.length:Int) > 4096))=true then
 none
 else
 (F50 K v17).bind fun v19 =>
 (F51 K v19).bind fun v21 =>
 Z9d K v15 (Zf4 K v13 v15 v17 v19) K 0 v21
def Zp0 (K:Nat) (a0:(List Z1)) (c11:Option ((List Z1)×(List Int)×(List Z1)×(List Z4)×(List (List Int))×(List (Int×Int))×(List Bool))):Nat→Int→Option ((List Z1)×(List Int)×(List Z1)×(List Z4)×(List (List Int))×(List (Int×Int))×(List Bool))
 | 0,_=>none
 | k9+1,v8 =>
 if (decide (v8<(a0.length:Int)))=true then
 if (0:Int)≤v8∧v8<a0.length then
 (F46 K (a0.getD v8.toNat Ze)).bind fun v63 =>
 if (v63 != 0)=true then
 none
 else
 (Zp0 K a0 c11 k9) (IntKind.i64.wrap (v8+1))
 else none
 else
 c11
noncomputable def F9 (K:Nat) (a0:(List Z1)):Option ((List Z1)×(List Int)×(List Z1)×(List Z4)×(List (List Int))×(List (Int×Int))×(List Bool)) :=
 Zp0 K a0 (Zf3 K a0) K 0
theorem F9_ok (K:Nat) (a0:(List Z1)) (r:(List Z1)×(List Int)×(List Z1)×(List Z4)×(List (List Int))×(List (Int×Int))×(List Bool)) (h:F9 K a0=some r):ACall P 9 ⟨[(.sl 10 (a0.map Z3) false)],[],(.tup [(.ptr 37 0),(.int .i64 0)]),[(35,(.map (Zn Z7 Z7 r.2.2.2.2.2.1))),(37,(.box [(.sl 10 (r.1.map Z3) false),(.sl 1 (r.2.1.map Z7) false),(.sl 10 (r.2.2.1.map Z3) false),(.sl 3 (r.2.2.2.1.map Z9) false),(.sl 1 (r.2.2.2.2.1.map Z19) false),(.map 35),(.vs 140)])),(140,(.vec 1 (List.map Zt r.2.2.2.2.2.2)))],[35,37,140]⟩:=by
 refine ac Tryz.func9 Tryz.results9 Tryz.ntmps9 fun w0 F0 p0 S0 β0 Q hret=>?_
 dsimp only [argT]
 unfold F9 at h
 refine G1 h fun h=>?_
 refine lb (V:=Int) (X:=Unit) (v:=_) (fun k v=>Zp0 K a0 (Zf3 K a0) k v=some r) (fun v=>Zf3 K a0=some r) [(0,_),(19,_),(20,_)] [] [(0,_)] [] (fun v t=>(21,(.int .i64 v))::t) (fun v s=>s) (fun v t=>t) (fun v s=>s) h ?_ ?_
 ·intro v h
  try dsimp only at h ⊢
  unfold Zf3 at h
  refine G1 h fun h=>?_
  have⟨v13,hv13,h⟩:=Zd h
  refine oc (Z30 (sz:=10) (es:=(List.map Z3 v13)) (ar:=[_]) (caps:=[]) Tryz.call47 ((F47_ok (h:=hv13)).sw 2 32) rfl rfl ⟨rfl,trivial⟩ rfl) ?_
  refine G1 h fun h=>?_
  have⟨v15,hv15,h⟩:=Zd h
  refine oc (Z15 Tryz.call48 (F48_ok (h:=hv15))) ?_
  refine G1 h fun h=>?_
  refine oc (Z1i (vs:=[(0,(.vs 32)),(1,(.sl 1 (v15.map Z7) false)),(5,(.map 35))]) rfl st132f ⟨rfl,rfl,rfl,rfl,rfl,rfl,trivial⟩ rfl) ?_
  refine G1 h fun h=>?_
  refine AOps.ghost (fun a w h=>gk ⟨[(7,_),(38,_),(42,_)],[(35,_),(37,_)]⟩ (Z1j (m:=32) (sz:=10) (gk ⟨[(7,_),(38,_),(42,_)],[(32,_),(35,_),(37,_)]⟩ h))) ?_
  have⟨v17,hv17,h⟩:=Zd h
  refine oc (Z15 Tryz.call49 (F49_ok (h:=hv17))) ?_
  refine G1 h fun h=>?_
  refine oc (Zm (ds:=[_,_,_,_,_,_,_])) ?_
  refine Ms h (fun h=>?_) (fun h=>?_)
  ·cases h
  refine Mc h (fun h=>?_) (fun h=>?_)
  ·cases h
  refine G1 h fun h=>?_
  have⟨v19,hv19,h⟩:=Zd h
  refine oc (Z15 Tryz.call50 (F50_ok (h:=hv19))) ?_
  refine G1 h fun h=>?_
  refine oc (Zm (ds:=[_,_,_,_,_,_,_])) ?_
  refine G1 h fun h=>?_
  have⟨v21,hv21,h⟩:=Zd h
  refine oc (Z30 (sz:=1) (es:=(List.map Z19 v21)) (ar:=[_]) (caps:=[]) Tryz.call51 ((F51_ok (h:=hv21)).sw 2 72) rfl rfl ⟨rfl,trivial⟩ rfl) ?_
  refine G1 h fun h=>?_
  refine AWp.ghost (fun a w h=>gk ⟨[(7,_),(8,_),(76,_),(77,_),(78,_)],[(8,_),(35,_),(37,_)]⟩ (Z3x (a:=72) (b:=8) (gk ⟨[(7,_),(8,_),(76,_),(77,_),(78,_)],[(35,_),(37,_),(72,_)]⟩ h))) ?_
  refine lb (V:=Int×(List (List Int))) (X:=(List (List Int))) (v:=(_,_)) (fun k v=>Z9d K v15 (Zf4 K v13 v15 v17 v19) k v.1 v.2=some r) (fun v=>Zf4 K v13 v15 v17 v19 v=some r) [(7,_),(8,_),(76,_),(77,_)] [(35,_),(37,_)] [(7,_),(8,_)] [(35,_),(37,_)] (fun v t=>(78,(.int .i64 v.1))::t) (fun v s=>(8,(.vec 1 (List.map Z19 v.2)))::s) (fun v t=>t) (fun v s=>(8,(.vec 1 (List.map Z19 v)))::s) h ?_ ?_
  ·intro v h
   revert h
   revert v
   intro v25 h
   try dsimp only at h ⊢
   unfold Zf4 at h
   refine G1 h fun h=>?_
   have⟨v29,hv29,h⟩:=Zd h
   refine oc (Z1d (d:=some 93) (c:=⟨_,[(8,_)],.tup [],[(8,.vec 1 (List.map Z19 v29))],[]⟩) (ar:=[_,_]) (caps:=[]) (news:=[]) (forg:=[]) Tryz.call55 (sort_ok1 (n:=8) (enc:=Z19) (l:=v25) (caps:=[]) (c:=(fun a b=>F56 K a b)) sortC55 Tryz.call56 Z6m (fun _=>rfl) (fun a b m hm=>F56_ok K a b m hm) hv29) rfl rfl ⟨rfl,rfl,trivial⟩ rfl ⟨rfl,trivial⟩ rfl) ?_
   refine G1 h fun h=>?_
   refine oc (Zm (ds:=[_,_,_,_,_,_,_])) ?_
   refine AOps.nil<|At.next<|AWp.seq<|AWp.seq<|AWp.ghost (fun a w h=>gk ⟨[(7,_),(8,_)],[(35,_),(37,_)]⟩ (Z1j (m:=8) (sz:=1) (gk ⟨[(7,_),(8,_)],[(8,_),(35,_),(37,_)]⟩ h))) ?_
   refine G1 h fun h=>?_
   refine AWp.ghost (fun a w h=>gk ⟨[(7,_),(98,_),(99,_),(100,_)],[(35,_),(37,_),(140,_)]⟩ (Zc8 (n:=37) (m:=140) (sz:=1) (j:=6) (gk ⟨[(7,_),(98,_),(99,_),(100,_)],[(37,_),(35,_)]⟩ h))) ?_
   refine lb (V:=Int×(List (Int×Int))×(List Bool)) (X:=(List (Int×Int))×(List Bool)) (v:=(_,_,_)) (fun k v=>Z9e K v29 v13 v15 v17 v19 (Zf5 K v13 v15 v17 v19 v29) k v.1 v.2.1 v.2.2=some r) (fun v=>Zf5 K v13 v15 v17 v19 v29 v.1 v.2=some r) [(7,_),(98,_),(99,_)] [(37,_)] [(7,_)] [(37,_)] (fun v t=>(100,(.int .i64 v.1))::t) (fun v s=>(35,(.map (Zn Z7 Z7 v.2.1)))::(140,(.vec 1 (List.map Zt v.2.2)))::s) (fun v t=>t) (fun v s=>(35,(.map (Zn Z7 Z7 v.1)))::(140,(.vec 1 (List.map Zt v.2)))::s) h ?_ ?_
   ·intro v h
    obtain⟨v34,v35⟩:=v
    try dsimp only at h ⊢
    unfold Zf5 at h
    exact GR
   intro N k33 v h IH33 J33
   obtain⟨v30,v31,v32⟩:=v
   try dsimp only at h IH33 J33 ⊢
   cases k33 with
   | zero=>cases h
   | succ k33 =>
    rw [Z9e] at h
    refine Mc h (fun h=>?_) (fun h=>?_)
    ·refine AWp.skip<|At.next<|AWp.seq<|AWp.block ?_
     refine G1 h fun h=>?_
     refine lb (V:=Int×(List (Int×Int))) (X:=(List (Int×Int))) (v:=(_,_)) (fun k v=>Zf6 K v29 v30 (Zjq K v30 v13 v15 v17 v19 v29 v32 (Z9e K v29 v13 v15 v17 v19 (Zf5 K v13 v15 v17 v19 v29) k33)) k v.1 v.2=some r) (fun v=>Zjq K v30 v13 v15 v17 v19 v29 v32 (Z9e K v29 v13 v15 v17 v19 (Zf5 K v13 v15 v17 v19 v29) k33) v=some r) [(7,_),(11,_),(98,_),(99,_),(100,_),(105,_),(106,_)] [(37,_),(140,_)] [(7,_),(11,_),(98,_),(99,_),(100,_)] [(37,_),(140,_)] (fun v t=>(107,(.int .i64 v.1))::t) (fun v s=>(35,(.map (Zn Z7 Z7 v.2)))::s) (fun v t=>t) (fun v s=>(35,(.map (Zn Z7 Z7 v)))::s) h ?_ ?_
     ·intro v h
      revert h
      revert v
      intro v43 h
      try dsimp only at h ⊢
      unfold Zjq at h
      refine G1 h fun h=>?_
      have⟨v47,hv47,h⟩:=Zd h
      refine oc (Z1d (d:=some 121) (c:=⟨_,[(37,_),(35,_),(140,_)],(.tup [(.sl 3 (v47.1.map Z9) false),(.sl 10 (v47.2.map Z3) false)]),[(37,(.box [(.sl 10 (v13.map Z3) false),(.sl 1 (v15.map Z7) false),(.sl 10 (v17.map Z3) false),(.sl 3 (v19.map Z9) false),(.sl 1 (v29.map Z19) false),(.map 35),(.vs 140)])),(35,(.map (Zn Z7 Z7 v43))),(140,(.vec 1 (List.map Zt v32)))],[140]⟩) (ar:=[_,_]) (caps:=[]) (news:=[]) (forg:=[140]) Tryz.call57 ((((Zmv (h:=hv47)).sw 2000 37).sw 2001 35).sw 57 140) rfl rfl ⟨rfl,rfl,trivial⟩ rfl ⟨rfl,rfl,rfl,trivial⟩ rfl) ?_
      refine G1 h fun h=>?_
      have⟨v49,hv49,h⟩:=Zd h
      refine oc (Z15 Tryz.call58 (F58_ok (h:=hv49))) ?_
      refine G1 h fun h=>?_
      refine oc (Zj (vs:=[_]) (enc:=Zt) (l:=[v49.2]) rfl el130 rfl rfl ⟨rfl,trivial⟩ rfl Zqp rfl rfl rfl rfl) ?_
      have⟨hg50,h⟩:=Zg h
      refine oc (Z1g (m:=140) rfl rfl el130 rfl u130 rfl rfl rfl rfl (oneRead rfl) Zqp hg50) ?_
      refine G1 h fun h=>?_
      refine oc (Zm (ds:=[_,_,_,_,_,_,_])) ?_
      refine AOps.nil<|Z17<|At.next ?_
      exact M2 h (k:=fun h=>wkx (IH33 _ (_,_,_) Z1p h))
     intro N k42 v h IH42 J42
     obtain⟨v40,v41⟩:=v
     try dsimp only at h IH42 J42 ⊢
     cases k42 with
     | zero=>cases h
     | succ k42 =>
      rw [Zf6] at h
      refine Mc h (fun h=>?_) (fun h=>?_)
      ·refine AWp.skip<|At.next<|AWp.seq<|AWp.block ?_
       refine G1 h fun h=>?_
       refine oc (Z1v (a:=((v29.getD v30.toNat []).getD v40.toNat 0)) (b:=v30) (kv:=(.int .i64 ((v29.getD v30.toNat []).getD v40.toNat 0))) (vv:=(.int .i64 v30)) Z4x rfl rfl rfl rfl rfl rfl) ?_
       refine AOps.nil<|Z17<|At.next ?_
       exact M2 h (k:=fun h=>wkx (IH42 _ (_,_) Z1p h))
      refine AWp.exit<|Zz ?_
      exact wkx (J42 _ h)
    refine AWp.exit<|Zz ?_
    exact wkx (J33 (_,_) h)
  intro N k24 v h IH24 J24
  obtain⟨v22,v23⟩:=v
  try dsimp only at h IH24 J24 ⊢
  cases k24 with
  | zero=>cases h
  | succ k24 =>
   rw [Z9d] at h
   refine Mc h (fun h=>?_) (fun h=>?_)
   ·refine AWp.skip<|At.next<|AWp.seq<|AWp.block ?_
    refine G1 h fun h=>?_
    refine oc (Zm (ds:=[_])) ?_
    refine G1 h fun h=>?_
    refine oc (Z2k (vs:=[(.ptr 10 0)]) rfl ⟨rfl,trivial⟩) ?_
    have⟨v56,hv56,h⟩:=Zd h
    refine oc (Z2r (rd:=[(8,(.vec 1 (List.map Z19 v23))),(10,(.box [(.int .i64 (v15.getD v22.toNat 0))]))]) (ar:=[_,_]) Tryz.call52 (F52_ok (h:=hv56)) rfl rfl ⟨rfl,rfl,trivial⟩ (Z2f ⟨rfl,rfl,trivial⟩) rfl rfl rfl) ?_
    refine G1 h fun h=>?_
    refine jn (V:=(List (List Int))) (fun v=>Zjr K (Z9d K v15 (Zf4 K v13 v15 v17 v19) k24) v22 v=some r) [(7,_),(8,_),(76,_),(77,_),(78,_)] [(35,_),(37,_)] (fun v t=>t) (fun v s=>(8,(.vec 1 (List.map Z19 v)))::s) ?_ ?_
    ·intro v h
     revert h
     revert v
     intro v57 h
     try dsimp only at h ⊢
     unfold Zjr at h
     refine Z17<|At.next ?_
     exact M2 h (k:=fun h=>wkx (IH24 _ (_,_) Z1p h))
    intro J58
    refine cnd h (fun h=>?_) (fun h=>?_)
    ·refine G1 h fun h=>?_
     refine oc (Zj (vs:=[_]) (enc:=Z7) (l:=[(v15.getD v22.toNat 0)]) rfl Z65 rfl rfl ⟨rfl,trivial⟩ rfl Z1u rfl rfl rfl rfl) ?_
     refine AOps.ghost (fun a w h=>gk ⟨[(7,_),(8,_),(76,_),(77,_),(78,_),(86,_),(88,_)],[(8,_),(35,_),(37,_)]⟩ (Z1j (m:=88) (sz:=1) (gk ⟨[(7,_),(8,_),(76,_),(77,_),(78,_),(86,_),(88,_)],[(88,_),(8,_),(35,_),(37,_)]⟩ h))) ?_
     refine oc (Zj (vs:=[_]) (enc:=Z19) (l:=([[(v15.getD v22.toNat 0)]]:List (List Int))) rfl Zs5 rfl rfl ⟨rfl,trivial⟩ rfl Z6m rfl rfl rfl rfl) ?_
     have⟨hg59,h⟩:=Zg h
     refine oc (Z1g (m:=8) rfl rfl Zs5 rfl u129 rfl rfl rfl rfl (oneRead rfl) Z6m hg59) ?_
     exact M2 h (k:=fun h=>wkx (J58 _ h))
    refine AWp.skip ?_
    exact wkx (J58 _ h)
   refine AWp.exit<|Zz ?_
   exact wkx (J24 _ h)
 intro N k9 v h IH9 J9
 revert h
 revert v
 intro v8 h
 try dsimp only at h IH9 J9 ⊢
 cases k9 with
 | zero=>cases h
 | succ k9 =>
  rw [Zp0] at h
  refine Mc h (fun h=>?_) (fun h=>?_)
  ·refine AWp.skip<|At.next<|AWp.seq<|AWp.block ?_
   refine G1 h fun h=>?_
   refine oc (Zm (ds:=_)) ?_
   refine G1 h fun h=>?_
   have⟨v63,hv63,h⟩:=Zd h
   refine oc (Z15 Tryz.call46 (F46_ok (h:=hv63))) ?_
   refine Mc h (fun h=>?_) (fun h=>?_)
   ·cases h
   refine AWp.skip<|Z17<|At.next ?_
   exact M2 h (k:=fun h=>wkx (IH9 _ _ Z1p h))
  refine AWp.exit<|Zz ?_
  exact wkx (J9 () h)
def F136 (_K:Nat) (a0:Int) (_a1:(List Z1)) (_a2:(List Int)) (_a3:(List Z1)) (_a4:(List Z4)) (_a5:(List (List Int))) (a6:(List (Int×Int))) (_a7:(List Bool)):Option (Int×Int) :=
 if (!(mget Zv a0 a6).isSome)=true then
 some (0,10)
 else
 some (((mget Zv a0 a6).getD (0:Int)),0)
theorem Zkt (K:Nat) (a0:Int) (a1:(List Z1)) (a2:(List Int)) (a3:(List Z1)) (a4:(List Z4)) (a5:(List (List Int))) (a6:(List (Int×Int))) (a7:(List Bool)) (r:Int×Int) (h:F136 K a0 a1 a2 a3 a4 a5 a6 a7=some r):ACall P 136 ⟨[(.ptr 2000 0),(.int .i64 a0)],[(2000,(.box [(.sl 10 (a1.map Z3) false),(.sl 1 (a2.map Z7) false),(.sl 10 (a3.map Z3) false),(.sl 3 (a4.map Z9) false),(.sl 1 (a5.map Z19) false),(.map 2001),(.vs 21)])),(2001,(.map (Zn Z7 Z7 a6))),(21,(.vec 1 (List.map Zt a7)))],(.tup [(.int .i64 r.1),(.int .i64 r.2)]),[(2000,(.box [(.sl 10 (a1.map Z3) false),(.sl 1 (a2.map Z7) false),(.sl 10 (a3.map Z3) false),(.sl 3 (a4.map Z9) false),(.sl 1 (a5.map Z19) false),(.map 2001),(.vs 21)])),(2001,(.map (Zn Z7 Z7 a6))),(21,(.vec 1 (List.map Zt a7)))],[21]⟩:=by
 refine ac Tryz.func136 Tryz.results136 Tryz.ntmps136 fun w0 F0 p0 S0 β0 Q hret=>?_
 dsimp only [argT]
 unfold F136 at h
 refine G1 h fun h=>?_
 refine oc (Z74 (c:=false) rfl u31 rfl rfl rfl) ?_
 refine AOps.nil<|At.next ?_
 refine AWp.cond (b:=false) I (fun hc=>?_) (fun hc=>?_)
 ·cases hc
 refine G1 h fun h=>?_
 refine oc (Z33 (a:=a0) rfl Z4x rfl rfl (.inl rfl) rfl rfl) ?_
 refine Mc h (fun h=>?_) (fun h=>?_)
 ·exact GR
 exact GR
def F62 (K:Nat) (a0:Int) (a1:Int) (a2:(List Z1)) (a3:(List Int)) (a4:(List Z1)) (a5:(List Z4)) (a6:(List (List Int))) (a7:(List (Int×Int))) (a8:(List Bool)):Option (Int) :=
 (F136 K a0 a2 a3 a4 a5 a6 a7 a8).bind fun v3 =>
 if (v3.2 != 0)=true then
 some v3.2
 else
 (F136 K a1 a2 a3 a4 a5 a6 a7 a8).bind fun v5 =>
 if (v5.2 != 0)=true then
 some v5.2
 else
 if (0:Int)≤v3.1∧v3.1<(a8.length:Nat) then
 if v3.1.toNat<a8.length then
 if (a8.getD v3.1.toNat false)=true then
 some 21
 else
 some 0
 else none
 else none
theorem F62_ok (K:Nat) (a0:Int) (a1:Int) (a2:(List Z1)) (a3:(List Int)) (a4:(List Z1)) (a5:(List Z4)) (a6:(List (List Int))) (a7:(List (Int×Int))) (a8:(List Bool)) (r:Int) (h:F62 K a0 a1 a2 a3 a4 a5 a6 a7 a8=some r):ACall P 62 ⟨[(.ptr 2000 0),(.int .i64 a0),(.int .i64 a1)],[(2000,(.box [(.sl 10 (a2.map Z3) false),(.sl 1 (a3.map Z7) false),(.sl 10 (a4.map Z3) false),(.sl 3 (a5.map Z9) false),(.sl 1 (a6.map Z19) false),(.map 2001),(.vs 35)])),(2001,(.map (Zn Z7 Z7 a7))),(35,(.vec 1 (List.map Zt a8)))],(.int .i64 r),[(2000,(.box [(.sl 10 (a2.map Z3) false),(.sl 1 (a3.map Z7) false),(.sl 10 (a4.map Z3) false),(.sl 3 (a5.map Z9) false),(.sl 1 (a6.map Z19) false),(.map 2001),(.vs 35)])),(2001,(.map (Zn Z7 Z7 a7))),(35,(.vec 1 (List.map Zt a8)))],[35]⟩:=by
 refine ac Tryz.func62 Tryz.results62 Tryz.ntmps62 fun w0 F0 p0 S0 β0 Q hret=>?_
 dsimp only [argT]
 unfold F62 at h
 refine G1 h fun h=>?_
 have⟨v3,hv3,h⟩:=Zd h
 refine oc (Z1d (d:=some 14) (c:=⟨_,[(2000,_),(2001,_),(35,_)],(.tup [(.int .i64 v3.1),(.int .i64 v3.2)]),[(2000,(.box [(.sl 10 (a2.map Z3) false),(.sl 1 (a3.map Z7) false),(.sl 10 (a4.map Z3) false),(.sl 3 (a5.map Z9) false),(.sl 1 (a6.map Z19) false),(.map 2001),(.vs 35)])),(2001,(.map (Zn Z7 Z7 a7))),(35,(.vec 1 (List.map Zt a8)))],[35]⟩) (ar:=[_,_]) (caps:=[]) (news:=[]) (forg:=[35]) Tryz.call136 ((Zkt (h:=hv3)).sw 21 35) rfl rfl ⟨rfl,rfl,trivial⟩ rfl ⟨rfl,rfl,rfl,trivial⟩ rfl) ?_
 refine Mc h (fun h=>?_) (fun h=>?_)
 ·exact GR
 refine G1 h fun h=>?_
 have⟨v5,hv5,h⟩:=Zd h
 refine oc (Z1d (d:=some 23) (c:=⟨_,[(2000,_),(2001,_),(35,_)],(.tup [(.int .i64 v5.1),(.int .i64 v5.2)]),[(2000,(.box [(.sl 10 (a2.map Z3) false),(.sl 1 (a3.map Z7) false),(.sl 10 (a4.map Z3) false),(.sl 3 (a5.map Z9) false),(.sl 1 (a6.map Z19) false),(.map 2001),(.vs 35)])),(2001,(.map (Zn Z7 Z7 a7))),(35,(.vec 1 (List.map Zt a8)))],[35]⟩) (ar:=[_,_]) (caps:=[]) (news:=[]) (forg:=[35]) Tryz.call136 ((Zkt (h:=hv5)).sw 21 35) rfl rfl ⟨rfl,rfl,trivial⟩ rfl ⟨rfl,rfl,rfl,trivial⟩ rfl) ?_
 refine Mc h (fun h=>?_) (fun h=>?_)
 ·exact GR
 refine Mc h (fun h=>?_) (fun h=>?_)
 ·exact GR
 exact GR
def F261 (_K:Nat) (a0:Int) (a1:(List Z4)) (_a2:(List (Int×Bool))):Option (Unit) :=
 if (0:Int)≤a0∧a0<a1.length then
 some ()
 else none
theorem F261_ok (K:Nat) (a0:Int) (a1:(List Z4)) (a2:(List (Int×Bool))) (r:Unit) (h:F261 K a0 a1 a2=some r):ACall P 261 ⟨[(.int .i64 a0),(.ptr 2000 0),(.ptr 2001 0)],[(2000,(.box [(.map 2002)])),(2001,(.box [(.sl 3 (a1.map Z9) false)])),(2002,(.fmap (Zn Z7 Zt a2)))],(.bool ((mget Zv (a1.getD a0.toNat Z8).From a2).getD false)),[(2000,(.box [(.map 2002)])),(2001,(.box [(.sl 3 (a1.map Z9) false)])),(2002,(.fmap (Zn Z7 Zt a2)))],[]⟩:=by
 refine ac Tryz.func261 Tryz.results261 Tryz.ntmps261 fun w0 F0 p0 S0 β0 Q hret=>?_
 dsimp only [argT]
 unfold F261 at h
 refine G1 h fun h=>?_
 refine oD (Z2h (a:=(a1.getD a0.toNat Z8).From) rfl Zcc rfl rfl (.inr rfl) rfl rfl) ?_
 exact GR
def Z2x (_K:Nat) (v9:Int) (v10:(List (Int×Int))) (v11:(List (Int×Int))):Option (Int×(List (Int×Int))×(List (Int×Int))) :=
 some (v9,v10,v11)
def Z2u (_K:Nat) (b14:Int→Int→(List (Int×Int))→(List (Int×Int))→Option (Int×(List (Int×Int))×(List (Int×Int)))) (v5:Int) (v15:Int) (v16:(List (Int×Int))) (v17:(List (Int×Int))):Option (Int×(List (Int×Int))×(List (Int×Int))) :=
 b14 v15 (IntKind.i64.wrap (v5+1)) v16 v17
def Z50 (K:Nat) (b14:Int→Int→(List (Int×Int))→(List (Int×Int))→Option (Int×(List (Int×Int))×(List (Int×Int)))) (v5:Int) (v22:Int) (v23:(List (Int×Int))) (v24:(List (Int×Int))):Option (Int×(List (Int×Int))×(List (Int×Int))) :=
 Z2u K b14 v5 v22 v23 v24
def Z2g (K:Nat) (a0:(List Z4)) (a3:(List Z4)) (a4:(List (Int×Bool))) (c13:Int→(List (Int×Int))→(List (Int×Int))→Option (Int×(List (Int×Int))×(List (Int×Int)))):Nat→Int→Int→(List (Int×Int))→(List (Int×Int))→Option (Int×(List (Int×Int))×(List (Int×Int)))
 | 0,_,_,_,_=>none
 | k8+1,v4,v5,v6,v7 =>
 if (decide (v5<(a0.length:Int)))=true then
 if (0:Int)≤v5∧v5<a0.length then
 if (!(mget Zv (a0.getD v5.toNat Z8).From v6).isSome)=true then
 Z2u K (Z2g K a0 a3 a4 c13 k8) v5 v4 v6 v7
 else
 (F261 K v5 a3 a4).bind fun _v21 =>
 if (!((mget Zv (a3.getD v5.toNat Z8).From a4).getD false))=true then
 Z2u K (Z2g K a0 a3 a4 c13 k8) v5 v4 v6 v7
 else
 if (!(mget Zv (a0.getD v5.toNat Z8).To v6).isSome)=true then
 Z2u K (Z2g K a0 a3 a4 c13 k8) v5 v5 (mput Zv (a0.getD v5.toNat Z8).To (IntKind.i64.wrap (((mget Zv (a0.getD v5.toNat Z8).From v6).getD (0:Int))+(a0.getD v5.toNat Z8).Bound)) v6) (mput Zv (a0.getD v5.toNat Z8).To v5 v7)
 else
 if (decide ((IntKind.i64.wrap (((mget Zv (a0.getD v5.toNat Z8).From v6).getD (0:Int))+(a0.getD v5.toNat Z8).Bound))<((mget Zv (a0.getD v5.toNat Z8).To v6).getD (0:Int))))=true then
 Z50 K (Z2g K a0 a3 a4 c13 k8) v5 v5 (mput Zv (a0.getD v5.toNat Z8).To (IntKind.i64.wrap (((mget Zv (a0.getD v5.toNat Z8).From v6).getD (0:Int))+(a0.getD v5.toNat Z8).Bound)) v6) (mput Zv (a0.getD v5.toNat Z8).To v5 v7)
 else
 Z50 K (Z2g K a0 a3 a4 c13 k8) v5 v4 v6 v7
 else none
 else
 c13 v4 v6 v7
def Z91 (K:Nat) (a0:(List Z4)) (a1:(List (Int×Int))) (a2:(List (Int×Int))) (a3:(List Z4)) (a4:(List (Int×Bool))):Option (Int×(List (Int×Int))×(List (Int×Int))) :=
 Z2g K a0 a3 a4 (Z2x K) K (Int.negSucc 0) 0 a1 a2
theorem Zj8 (K:Nat) (a0:(List Z4)) (a1:(List (Int×Int))) (a2:(List (Int×Int))) (a3:(List Z4)) (a4:(List (Int×Bool))) (r:Int×(List (Int×Int))×(List (Int×Int))) (h:Z91 K a0 a1 a2 a3 a4=some r):ACall P 193 ⟨[(.ptr 2000 0),(.ptr 2001 0),(.ptr 2002 0)],[(2000,(.box [(.sl 3 (a0.map Z9) false)])),(2001,(.box [(.map 2003),(.map 2004)])),(2002,(.box [(.clo 261 [(.ptr 2005 0),(.ptr 2006 0)])])),(2003,(.map (Zn Z7 Z7 a1))),(2004,(.map (Zn Z7 Z7 a2))),(2005,(.box [(.map 2007)])),(2006,(.box [(.sl 3 (a3.map Z9) false)])),(2007,(.fmap (Zn Z7 Zt a4)))],(.int .i64 r.1),[(2000,(.box [(.sl 3 (a0.map Z9) false)])),(2001,(.box [(.map 2003),(.map 2004)])),(2002,(.box [(.clo 261 [(.ptr 2005 0),(.ptr 2006 0)])])),(2003,(.map (Zn Z7 Z7 r.2.1))),(2004,(.map (Zn Z7 Z7 r.2.2))),(2005,(.box [(.map 2007)])),(2006,(.box [(.sl 3 (a3.map Z9) false)])),(2007,(.fmap (Zn Z7 Zt a4)))],[]⟩:=by
 refine ac Tryz.func193 Tryz.results193 Tryz.ntmps193 fun w0 F0 p0 S0 β0 Q hret=>?_
 dsimp only [argT]
 unfold Z91 at h
 refine G1 h fun h=>?_
 refine lb (V:=Int×Int×(List (Int×Int))×(List (Int×Int))) (X:=Int×(List (Int×Int))×(List (Int×Int))) (v:=(_,_,_,_)) (fun k v=>Z2g K a0 a3 a4 (Z2x K) k v.1 v.2.1 v.2.2.1 v.2.2.2=some r) (fun v=>Z2x K v.1 v.2.1 v.2.2=some r) [(1,_),(2,_),(11,_),(12,_)] [(2000,_),(2001,_),(2002,_),(2005,_),(2006,_),(2007,_)] [] [(2000,_),(2001,_),(2002,_),(2005,_),(2006,_),(2007,_)] (fun v t=>(4,(.int .i64 v.1))::(13,(.int .i64 v.2.1))::t) (fun v s=>(2003,(.map (Zn Z7 Z7 v.2.2.1)))::(2004,(.map (Zn Z7 Z7 v.2.2.2)))::s) (fun v t=>(4,(.int .i64 v.1))::t) (fun v s=>(2003,(.map (Zn Z7 Z7 v.2.1)))::(2004,(.map (Zn Z7 Z7 v.2.2)))::s) h ?_ ?_
 ·intro v h
  obtain⟨v9,v10,v11⟩:=v
  try dsimp only at h ⊢
  unfold Z2x at h
  exact GR
 intro N k8 v h IH8 J8
 obtain⟨v4,v5,v6,v7⟩:=v
 try dsimp only at h IH8 J8 ⊢
 cases k8 with
 | zero=>cases h
 | succ k8 =>
  rw [Z2g] at h
  refine Mc h (fun h=>?_) (fun h=>?_)
  ·refine AWp.skip<|At.next<|AWp.seq ?_
   refine bj (V:=Int×(List (Int×Int))×(List (Int×Int))) (fun v=>Z2u K (Z2g K a0 a3 a4 (Z2x K) k8) v5 v.1 v.2.1 v.2.2=some r) [(1,_),(2,_),(11,_),(12,_),(13,_)] [(2000,_),(2001,_),(2002,_),(2005,_),(2006,_),(2007,_)] (fun v t=>(4,(.int .i64 v.1))::t) (fun v s=>(2003,(.map (Zn Z7 Z7 v.2.1)))::(2004,(.map (Zn Z7 Z7 v.2.2)))::s) ?_ ?_
   ·intro v h
    obtain⟨v15,v16,v17⟩:=v
    try dsimp only at h ⊢
    unfold Z2u at h
    refine At.next ?_
    exact M2 h (k:=fun h=>wkx (IH8 _ (_,_,_,_) Z1p h))
   intro J18
   refine G1 h fun h=>?_
   refine oc (Zm (ds:=_)) ?_
   refine G1 h fun h=>?_
   refine oc (Z33 (a:=(a0.getD v5.toNat Z8).From) rfl Z4x rfl rfl (.inl rfl) rfl rfl) ?_
   refine Ms h (fun h=>?_) (fun h=>?_)
   ·refine G1 h fun h=>?_
    refine AWp.cond (b:=true) I (fun hc=>?_) (fun hc=>?_)
    rotate_left
    ·cases hc
    refine AWp.exit<|Zz<|At.out ?_
    exact wkx (J18 (_,_,_) h)
   refine G1 h fun h=>?_
   have⟨v21,hv21,h⟩:=Zd h
   refine oT (Z1d (d:=some 31) (c:=⟨_,[(2005,_),(2006,_),(2007,_)],(.bool ((mget Zv (a3.getD v5.toNat Z8).From a4).getD false)),[(2005,(.box [(.map 2007)])),(2006,(.box [(.sl 3 (a3.map Z9) false)])),(2007,(.fmap (Zn Z7 Zt a4)))],[]⟩) (ar:=[_]) (caps:=[(.ptr 2005 0),(.ptr 2006 0)]) (news:=[]) (forg:=[]) Tryz.call261 ((((F261_ok (h:=hv21)).sw 2000 2005).sw 2001 2006).sw 2002 2007) rfl rfl ⟨rfl,trivial⟩ rfl ⟨rfl,rfl,rfl,trivial⟩ rfl) ?_
   refine Mc h (fun h=>?_) (fun h=>?_)
   ·refine AWp.exit<|Zz<|At.out ?_
    exact wkx (J18 (_,_,_) h)
   refine G1 h fun h=>?_
   refine oc (Z33 (a:=(a0.getD v5.toNat Z8).To) rfl Z4x rfl rfl (.inl rfl) rfl rfl) ?_
   refine Ms h (fun h=>?_) (fun h=>?_)
   ·refine G1 h fun h=>?_
    refine AWp.cond (b:=true) I (fun hc=>?_) (fun hc=>?_)
    rotate_left
    ·cases hc
    refine G1 h fun h=>?_
    refine oD (Z1v (a:=(a0.getD v5.toNat Z8).To) (b:=(IntKind.i64.wrap (((mget Zv (a0.getD v5.toNat Z8).From v6).getD (0:Int))+(a0.getD v5.toNat Z8).Bound))) (kv:=(.int .i64 (a0.getD v5.toNat Z8).To)) (vv:=(.int .i64 (IntKind.i64.wrap (((mget Zv (a0.getD v5.toNat Z8).From v6).getD (0:Int))+(a0.getD v5.toNat Z8).Bound)))) Z4x rfl rfl rfl rfl rfl rfl) ?_
    refine oD (Z1v (a:=(a0.getD v5.toNat Z8).To) (b:=v5) (kv:=(.int .i64 (a0.getD v5.toNat Z8).To)) (vv:=(.int .i64 v5)) Z4x rfl rfl rfl rfl rfl rfl) ?_
    refine G2 h fun h=>?_
    refine Z17 ?_
    exact wkx (J18 (_,_,_) h)
   refine G1 h fun h=>?_
   refine jn (V:=Int×(List (Int×Int))×(List (Int×Int))) (fun v=>Z50 K (Z2g K a0 a3 a4 (Z2x K) k8) v5 v.1 v.2.1 v.2.2=some r) [(1,_),(2,_),(11,_),(12,_),(13,_)] [(2000,_),(2001,_),(2002,_),(2005,_),(2006,_),(2007,_)] (fun v t=>(4,(.int .i64 v.1))::t) (fun v s=>(2003,(.map (Zn Z7 Z7 v.2.1)))::(2004,(.map (Zn Z7 Z7 v.2.2)))::s) ?_ ?_
   ·intro v h
    obtain⟨v22,v23,v24⟩:=v
    try dsimp only at h ⊢
    unfold Z50 at h
    refine Z17 ?_
    exact wkx (J18 (_,_,_) h)
   intro J25
   refine cnd h (fun h=>?_) (fun h=>?_)
   ·refine G1 h fun h=>?_
    refine oD (Z1v (a:=(a0.getD v5.toNat Z8).To) (b:=(IntKind.i64.wrap (((mget Zv (a0.getD v5.toNat Z8).From v6).getD (0:Int))+(a0.getD v5.toNat Z8).Bound))) (kv:=(.int .i64 (a0.getD v5.toNat Z8).To)) (vv:=(.int .i64 (IntKind.i64.wrap (((mget Zv (a0.getD v5.toNat Z8).From v6).getD (0:Int))+(a0.getD v5.toNat Z8).Bound)))) Z4x rfl rfl rfl rfl rfl rfl) ?_
    refine oD (Z1v (a:=(a0.getD v5.toNat Z8).To) (b:=v5) (kv:=(.int .i64 (a0.getD v5.toNat Z8).To)) (vv:=(.int .i64 v5)) Z4x rfl rfl rfl rfl rfl rfl) ?_
    exact M2 h (k:=fun h=>wkx (J25 (_,_,_) h))
   refine AWp.skip ?_
   exact wkx (J25 (_,_,_) h)
  refine AWp.exit<|Zz ?_
  exact wkx (J8 (_,_,_) h)
def Z6e (K:Nat) (a0:(List Z4)) (a2:(List Z4)) (a3:(List (Int×Bool))) (v16:(List (Int×Int))) (v17:(List (Int×Int))):Option (Int×(List (Int×Int))×(List (Int×Int))) :=
 (Z91 K a0 v16 v17 a2 a3).bind fun v21 =>
 some (v21.1,v21.2.1,v21.2.2)
def Z4y (K:Nat) (v11:(List Int)) (a1:(List Int)) (a0:(List Z4)) (a2:(List Z4)) (a3:(List (Int×Bool))) (c19:(List (Int×Int))→(List (Int×Int))→Option (Int×(List (Int×Int))×(List (Int×Int)))):Nat→Int→(List (Int×Int))→(List (Int×Int))→Option (Int×(List (Int×Int))×(List (Int×Int)))
 | 0,_,_,_=>none
 | k15+1,v12,v13,v14 =>
 if (decide (v12<(IntKind.i64.wrap ((v11.length:Int)+(a1.length:Int)))))=true then
 (Z91 K a0 v13 v14 a2 a3).bind fun v24 =>
 if (decide (v24.1<0))=true then
 some ((Int.negSucc 0),v24.2.1,v24.2.2)
 else
 (Z4y K v11 a1 a0 a2 a3 c19 k15) (IntKind.i64.wrap (v12+1)) v24.2.1 v24.2.2
 else
 c19 v13 v14
noncomputable def Z4g (K:Nat) (a0:(List Z4)) (a1:(List Int)) (a2:(List Z4)) (a3:(List (Int×Bool))) (v7:(List (Int×Int))):Option (Int×(List (Int×Int))×(List (Int×Int))) :=
 (Zmq K a0).bind fun v11 =>
 Z4y K v11 a1 a0 a2 a3 (Z6e K a0 a2 a3) K 0 v7 ([]:List (Int×Int))
def Z4z (K:Nat) (a1:(List Int)) (c9:(List (Int×Int))→Option (Int×(List (Int×Int))×(List (Int×Int)))):Nat→Int→(List (Int×Int))→Option (Int×(List (Int×Int))×(List (Int×Int)))
 | 0,_,_=>none
 | k6+1,v4,v5 =>
 if (decide (v4<(a1.length:Int)))=true then
 if (0:Int)≤v4∧v4<(a1.length:Nat) then
 if v4.toNat<a1.length then
 (Z4z K a1 c9 k6) (IntKind.i64.wrap (v4+1)) (mput Zv (a1.getD v4.toNat 0) (0:Int) v5)
 else none
 else none
 else
 c9 v5
noncomputable def Zdm (K:Nat) (a0:(List Z4)) (a1:(List Int)) (a2:(List Z4)) (a3:(List (Int×Bool))):Option (Int×(List (Int×Int))×(List (Int×Int))) :=
 Z4z K a1 (Z4g K a0 a1 a2 a3) K 0 ([]:List (Int×Int))
theorem Zrr (K:Nat) (a0:(List Z4)) (a1:(List Int)) (a2:(List Z4)) (a3:(List (Int×Bool))) (r:Int×(List (Int×Int))×(List (Int×Int))) (h:Zdm K a0 a1 a2 a3=some r):ACall P 129 ⟨[(.sl 3 (a0.map Z9) false),(.vs 2000),(.clo 261 [(.ptr 2001 0),(.ptr 2002 0)])],[(2000,(.vec 1 (List.map Z7 a1))),(2001,(.box [(.map 2003)])),(2002,(.box [(.sl 3 (a2.map Z9) false)])),(2003,(.fmap (Zn Z7 Zt a3)))],(.tup [(.ag [(.map 12),(.map 13)]),(.int .i64 r.1)]),[(2000,(.vec 1 (List.map Z7 a1))),(2001,(.box [(.map 2003)])),(2002,(.box [(.sl 3 (a2.map Z9) false)])),(2003,(.fmap (Zn Z7 Zt a3))),(12,(.map (Zn Z7 Z7 r.2.1))),(13,(.map (Zn Z7 Z7 r.2.2)))],[12,13]⟩:=by
 refine ac Tryz.func129 Tryz.results129 Tryz.ntmps129 fun w0 F0 p0 S0 β0 Q hret=>?_
 dsimp only [argT]
 unfold Zdm at h
 refine G1 h fun h=>?_
 refine oc (Z1i (vs:=[(0,(.map 12)),(1,(.map 13))]) rfl st243 ⟨rfl,rfl,rfl,rfl,trivial⟩ rfl) ?_
 refine G1 h fun h=>?_
 refine oc (Zm (ds:=[_,_])) ?_
 refine G1 h fun h=>?_
 refine oc (Z2t rfl u38 rfl rfl) ?_
 refine G1 h fun h=>?_
 refine lb (V:=Int×(List (Int×Int))) (X:=(List (Int×Int))) (v:=(_,_)) (fun k v=>Z4z K a1 (Z4g K a0 a1 a2 a3) k v.1 v.2=some r) (fun v=>Z4g K a0 a1 a2 a3 v=some r) [(1,_),(3,_),(5,_),(6,_),(8,_),(15,_),(16,_)] [(3,_),(5,_),(6,_),(8,_),(13,_),(2000,_),(2001,_),(2002,_),(2003,_)] [(1,_),(3,_),(5,_),(6,_),(8,_)] [(3,_),(5,_),(6,_),(8,_),(13,_),(2000,_),(2001,_),(2002,_),(2003,_)] (fun v t=>(17,(.int .i64 v.1))::t) (fun v s=>(12,(.map (Zn Z7 Z7 v.2)))::s) (fun v t=>t) (fun v s=>(12,(.map (Zn Z7 Z7 v)))::s) h ?_ ?_
 ·intro v h
  revert h
  revert v
  intro v7 h
  try dsimp only at h ⊢
  unfold Z4g at h
  refine At.next<|AWp.seq<|AWp.region ?_
  refine oc (Z2k (vs:=[(.ptr 3 0),(.ptr 8 0),(.ptr 5 0)]) rfl ⟨rfl,rfl,rfl,trivial⟩) ?_
  refine G1 h fun h=>?_
  have⟨v11,hv11,h⟩:=Zd h
  refine oc (Z15 Tryz.call120 (Zbc (h:=hv11))) ?_
  refine G1 h fun h=>?_
  refine oc (Z2t rfl u38 rfl rfl) ?_
  refine G1 h fun h=>?_
  refine lb (V:=Int×(List (Int×Int))×(List (Int×Int))) (X:=(List (Int×Int))×(List (Int×Int))) (v:=(_,_,_)) (fun k v=>Z4y K v11 a1 a0 a2 a3 (Z6e K a0 a2 a3) k v.1 v.2.1 v.2.2=some r) (fun v=>Z6e K a0 a2 a3 v.1 v.2=some r) [(6,_),(8,_),(11,_),(31,_)] [(3,_),(5,_),(6,_),(8,_),(2000,_),(2001,_),(2002,_),(2003,_)] [(6,_),(8,_),(11,_)] [(3,_),(5,_),(6,_),(8,_),(2000,_),(2001,_),(2002,_),(2003,_)] (fun v t=>(32,(.int .i64 v.1))::t) (fun v s=>(12,(.map (Zn Z7 Z7 v.2.1)))::(13,(.map (Zn Z7 Z7 v.2.2)))::s) (fun v t=>t) (fun v s=>(12,(.map (Zn Z7 Z7 v.1)))::(13,(.map (Zn Z7 Z7 v.2)))::s) h ?_ ?_
  ·intro v h
   obtain⟨v16,v17⟩:=v
   try dsimp only at h ⊢
   unfold Z6e at h
   refine G1 h fun h=>?_
   have⟨v21,hv21,h⟩:=Zd h
   refine oD (Z1d (d:=some 41) (c:=⟨_,[(3,_),(8,_),(5,_),(12,_),(13,_),(2001,_),(2002,_),(2003,_)],(.int .i64 v21.1),[(3,(.box [(.sl 3 (a0.map Z9) false)])),(8,(.box [(.map 12),(.map 13)])),(5,(.box [(.clo 261 [(.ptr 2001 0),(.ptr 2002 0)])])),(12,(.map (Zn Z7 Z7 v21.2.1))),(13,(.map (Zn Z7 Z7 v21.2.2))),(2001,(.box [(.map 2003)])),(2002,(.box [(.sl 3 (a2.map Z9) false)])),(2003,(.fmap (Zn Z7 Zt a3)))],[]⟩) (ar:=[]) (caps:=[(.ptr 3 0),(.ptr 8 0),(.ptr 5 0)]) (news:=[]) (forg:=[]) Tryz.call193 (((((((((Zj8 (h:=hv21)).sw 2000 3).sw 2001 8).sw 2002 5).sw 2003 12).sw 2004 13).sw 2005 2001).sw 2006 2002).sw 2007 2003) rfl rfl trivial rfl ⟨rfl,rfl,rfl,rfl,rfl,rfl,rfl,rfl,trivial⟩ rfl) ?_
   refine oD (Zm (ds:=[_,_])) ?_
   refine G1 h fun h=>?_
   refine AWp.ret ?_
   have h:=Option.some.inj h
   subst h
   refine (hret _ ?_).1
   exact⟨[(.ag [(.map 12),(.map 13)]),(.int .i64 v21.1)],⟨⟨6,_,I,I,.inr ⟨_,a243,I,I⟩⟩,I,J0⟩,I,⟨I,I,I,I,I,I,J0⟩⟩
  intro N k15 v h IH15 J15
  obtain⟨v12,v13,v14⟩:=v
  try dsimp only at h IH15 J15 ⊢
  cases k15 with
  | zero=>cases h
  | succ k15 =>
   rw [Z4y] at h
   refine Mc h (fun h=>?_) (fun h=>?_)
   ·refine AWp.skip<|At.next<|AWp.seq<|AWp.block ?_
    refine G1 h fun h=>?_
    have⟨v24,hv24,h⟩:=Zd h
    refine oc (Z1d (d:=some 35) (c:=⟨_,[(3,_),(8,_),(5,_),(12,_),(13,_),(2001,_),(2002,_),(2003,_)],(.int .i64 v24.1),[(3,(.box [(.sl 3 (a0.map Z9) false)])),(8,(.box [(.map 12),(.map 13)])),(5,(.box [(.clo 261 [(.ptr 2001 0),(.ptr 2002 0)])])),(12,(.map (Zn Z7 Z7 v24.2.1))),(13,(.map (Zn Z7 Z7 v24.2.2))),(2001,(.box [(.map 2003)])),(2002,(.box [(.sl 3 (a2.map Z9) false)])),(2003,(.fmap (Zn Z7 Zt a3)))],[]⟩) (ar:=[]) (caps:=[(.ptr 3 0),(.ptr 8 0),(.ptr 5 0)]) (news:=[]) (forg:=[]) Tryz.call193 (((((((((Zj8 (h:=hv24)).sw 2000 3).sw 2001 8).sw 2002 5).sw 2003 12).sw 2004 13).sw 2005 2001).sw 2006 2002).sw 2007 2003) rfl rfl trivial rfl ⟨rfl,rfl,rfl,rfl,rfl,rfl,rfl,rfl,trivial⟩ rfl) ?_
    refine Mc h (fun h=>?_) (fun h=>?_)
    ·refine G1 h fun h=>?_
     refine oc (Zm (ds:=[_,_])) ?_
     refine G1 h fun h=>?_
     refine AWp.ret<|Z3e<|Z27 ?_
     refine Z27 (Z3e ?_)
     refine Z27 ?_
     have h:=Option.some.inj h
     subst h
     refine (hret _ ?_).1
     exact⟨[(.ag [(.map 12),(.map 13)]),(.int .i64 (Int.negSucc 0))],⟨⟨6,_,I,I,.inr ⟨_,a243,I,I⟩⟩,I,J0⟩,I,⟨I,I,I,I,I,I,J0⟩⟩
    refine AWp.skip<|Z17<|At.next ?_
    exact M2 h (k:=fun h=>wkx (IH15 _ (_,_,_) Z1p h))
   refine AWp.exit<|Zz ?_
   exact wkx (J15 (_,_) h)
 intro N k6 v h IH6 J6
 obtain⟨v4,v5⟩:=v
 try dsimp only at h IH6 J6 ⊢
 cases k6 with
 | zero=>cases h
 | succ k6 =>
  rw [Z4z] at h
  refine Mc h (fun h=>?_) (fun h=>?_)
  ·refine AWp.skip<|At.next<|AWp.seq<|AWp.block ?_
   refine G1 h fun h=>?_
   refine oc (Z1v (a:=(a1.getD v4.toNat 0)) (b:=(0:Int)) (kv:=(.int .i64 (a1.getD v4.toNat 0))) (vv:=(.int .i64 0)) Z4x rfl rfl rfl rfl rfl rfl) ?_
   refine AOps.nil<|Z17<|At.next ?_
   exact M2 h (k:=fun h=>wkx (IH6 _ (_,_) Z1p h))
  refine AWp.exit<|Zz ?_
  exact wkx (J6 _ h)
noncomputable def F198 (K:Nat) (a0:(List Z4)) (a1:Int) (a2:Int):Option (Int) :=
 (Zmq K a0).bind fun v2 =>
 (F54 K v2 a1).bind fun v4 =>
 if (!v4)=true then
 some 10
 else
 (F54 K v2 a2).bind fun v6 =>
 if (!v6)=true then
 some 10
 else
 (F121 K a0 a1).bind fun v8 =>
 (Zbf K v8).bind fun _v10 =>
 if v8.length≤1073741824 then
 ndSame (List.map (fun e:Int×Bool=>e.1) v8) (fun x15=>Zdm K a0 x15 a0 v8) (fun v=>v.1) fun v16 =>
 if (decide (v16 ≥ 0))=true then
 some 21
 else
 some 0
 else none
theorem F198_ok (K:Nat) (a0:(List Z4)) (a1:Int) (a2:Int) (r:Int) (h:F198 K a0 a1 a2=some r):ACall P 198 ⟨[(.sl 3 (a0.map Z9) false),(.int .i64 a1),(.int .i64 a2)],[],(.int .i64 r),[],[]⟩:=by
 refine ac Tryz.func198 Tryz.results198 Tryz.ntmps198 fun w0 F0 p0 S0 β0 Q hret=>?_
 dsimp only [argT]
 unfold F198 at h
 refine G1 h fun h=>?_
 have⟨v2,hv2,h⟩:=Zd h
 refine oc (Z15 Tryz.call120 (Zbc (h:=hv2))) ?_
 refine G1 h fun h=>?_
 have⟨v4,hv4,h⟩:=Zd h
 refine oc (Z15 Tryz.call54 (Zmu (h:=hv4))) ?_
 refine Ms h (fun h=>?_) (fun h=>?_)
 ·refine G1 h fun h=>?_
  refine AWp.cond (b:=true) I (fun hc=>?_) (fun hc=>?_)
  rotate_left
  ·cases hc
  exact GR
 refine G1 h fun h=>?_
 have⟨v6,hv6,h⟩:=Zd h
 refine oT (Z15 Tryz.call54 (Zmu (h:=hv6))) ?_
 refine Mc h (fun h=>?_) (fun h=>?_)
 ·exact GR
 refine G1 h fun h=>?_
 have⟨v8,hv8,h⟩:=Zd h
 refine oc (Z1d (d:=some 25) (c:=⟨_,[],(.map 25),[(25,(.map (Zn Z7 Zt v8)))],[25]⟩) (ar:=[_,_]) (caps:=[]) (news:=[25]) (forg:=[]) Tryz.call121 ((F121_ok (h:=hv8)).sw 9 25) rfl rfl ⟨rfl,rfl,trivial⟩ rfl trivial rfl) ?_
 refine G1 h fun h=>?_
 refine oc (Zm (ds:=[_])) ?_
 refine AOps.nil<|At.next<|AWp.seq<|AWp.seq<|AWp.ghost (fun a w h=>gk ⟨[(3,_),(8,_)],[(3,_),(8,_),(25,_)]⟩ (Z66 (m:=25) (gk ⟨[(3,_),(8,_)],[(25,_),(3,_),(8,_)]⟩ h))) ?_
 refine G1 h fun h=>?_
 have⟨v10,hv10,h⟩:=Zd h
 refine oD (Z1d (d:=some 29) (c:=⟨_,[(25,_)],(.clo 182 [(.ptr 29 0)]),[(25,(.fmap (Zn Z7 Zt v8))),(29,(.box [(.map 25)]))],[29]⟩) (ar:=[_]) (caps:=[]) (news:=[29]) (forg:=[]) Tryz.call124 (((Zj3 (h:=hv10)).sw 2000 25).sw 1 29) rfl rfl ⟨rfl,trivial⟩ rfl ⟨rfl,trivial⟩ rfl) ?_
 have⟨hg11,h⟩:=Zg h
 refine oD (Z1d (d:=some 30) (c:=⟨_,[(29,_),(25,_)],.vs 30,[(30,(.vecP 1 (List.map Z7 (List.map (fun e:Int×Bool=>e.1) v8)))),(29,(.box [(.map 25)])),(25,(.fmap (Zn Z7 Zt v8)))],[30]⟩) (ar:=[_]) (caps:=[]) (news:=[30]) (forg:=[]) Tryz.call153 ((((ACall.ofX (outs':=[(4,.vecP 1 (List.map Z7 (List.map (fun e:Int×Bool=>e.1) v8))),(2000,.box [.map 2001]),(2001,.fmap (Zn Z7 Zt v8))]) (Zgh v8 hg11) (fun ω hω=>⟨rfl,rfl,Wk1.perm ((hω.map _).map _),rfl,Wk1.refl _,rfl,Wk1.refl _,trivial⟩)).sw 2000 29).sw 2001 25).sw 4 30) rfl rfl ⟨rfl,trivial⟩ rfl ⟨rfl,rfl,trivial⟩ rfl) ?_
 refine oD (Z2k (vs:=[(.ptr 8 0),(.ptr 3 0)]) rfl ⟨rfl,rfl,trivial⟩) ?_
 have⟨v16,hs16,h⟩:=of_ndSame h
 refine oD (Z1d (d:=some 32) (c:=⟨_,[(30,_),(8,_),(3,_),(25,_)],(.tup [(.ag [(.map 32),(.map 36)]),(.int .i64 v16)]),[(30,(.vecP 1 (List.map Z7 (List.map (fun e:Int×Bool=>e.1) v8)))),(8,(.box [(.map 25)])),(3,(.box [(.sl 3 (a0.map Z9) false)])),(25,(.fmap (Zn Z7 Zt v8))),(32,.gone),(36,.gone)],[32,36]⟩) (ar:=[_,_,_]) (caps:=[]) (news:=[32,36]) (forg:=[]) Tryz.call129 ((((((((ACall.perm (P:=P) (f:=129) (n:=2000) (sz:=1) (args:=[(.sl 3 (a0.map Z9) false),(.vs 2000),(.clo 261 [(.ptr 2001 0),(.ptr 2002 0)])]) (ins:=[(2001,(.box [(.map 2003)])),(2002,(.box [(.sl 3 (a0.map Z9) false)])),(2003,(.fmap (Zn Z7 Zt v8)))]) (res:=(.tup [(.ag [(.map 12),(.map 13)]),(.int .i64 v16)])) (mv:=[12,13]) (l:=(List.map (fun e:Int×Bool=>e.1) v8)) (enc:=Z7) (outs':=[(2000,(.vecP 1 (List.map Z7 (List.map (fun e:Int×Bool=>e.1) v8)))),(2001,(.box [(.map 2003)])),(2002,(.box [(.sl 3 (a0.map Z9) false)])),(2003,(.fmap (Zn Z7 Zt v8))),(12,.gone),(13,.gone)]) (fun w hw=>by obtain⟨v,hv,e⟩:=hs16 w hw;subst e;refine⟨_,?_,Zrr K a0 w a0 v8 v hv⟩;exact⟨rfl,Wk1.perm (hw.map _),rfl,Wk1.refl _,rfl,Wk1.refl _,rfl,Wk1.refl _,rfl,Wk1.gone _,rfl,Wk1.gone _,trivial⟩))).sw 2000 30).sw 2001 8).sw 2002 3).sw 2003 25).sw 12 32).sw 13 36) rfl rfl ⟨rfl,rfl,rfl,trivial⟩ rfl ⟨rfl,rfl,rfl,rfl,trivial⟩ rfl) ?_
 refine G1 h fun h=>?_
 refine oD (Zm (ds:=[_,_])) ?_
 refine Mc h (fun h=>?_) (fun h=>?_)
 ·exact GR
 exact GR
noncomputable def F137 (K:Nat) (a0:(List Z4)) (a1:Int) (a2:Int):Option (Int×Int) :=
 (F198 K a0 a1 a2).bind fun v2 =>
 if (v2 != 0)=true then
 some (0,v2)
 else
 (F129 K a0 [a1]).bind fun v4 =>
 if (!(mget Zv a2 v4.2.1).isSome)=true then
 some (0,22)
 else
 some (((mget Zv a2 v4.2.1).getD (0:Int)),0)
theorem F137_ok (K:Nat) (a0:(List Z4)) (a1:Int) (a2:Int) (r:Int×Int) (h:F137 K a0 a1 a2=some r):ACall P 137 ⟨[(.sl 3 (a0.map Z9) false),(.int .i64 a1),(.int .i64 a2)],[],(.tup [(.int .i64 r.1),(.int .i64 r.2)]),[],[]⟩:=by
 refine ac Tryz.func137 Tryz.results137 Tryz.ntmps137 fun w0 F0 p0 S0 β0 Q hret=>?_
 dsimp only [argT]
 unfold F137 at h
 refine G1 h fun h=>?_
 have⟨v2,hv2,h⟩:=Zd h
 refine oc (Z15 Tryz.call198 (F198_ok (h:=hv2))) ?_
 refine Mc h (fun h=>?_) (fun h=>?_)
 ·exact GR
 refine G1 h fun h=>?_
 refine oc (Zj (vs:=[_]) (enc:=Z7) (l:=[a1]) rfl Z65 rfl rfl ⟨rfl,trivial⟩ rfl Z1u rfl rfl rfl rfl) ?_
 refine AOps.ghost (fun a w h=>gk ⟨[(2,_),(21,_),(23,_)],[]⟩ (Z1j (m:=23) (sz:=1) (gk ⟨[(2,_),(21,_),(23,_)],[(23,_)]⟩ h))) ?_
 have⟨v4,hv4,h⟩:=Zd h
 refine oc (Z1d (d:=some 24) (c:=⟨_,[],(.tup [(.ag [(.map 24),(.map 36)]),(.int .i64 v4.1)]),[(24,(.map (Zn Z7 Z7 v4.2.1))),(36,(.map (Zn Z7 Z7 v4.2.2)))],[24,36]⟩) (ar:=[_,_,_]) (caps:=[]) (news:=[24,36]) (forg:=[]) Tryz.call129 (((Zop (h:=hv4)).sw 12 24).sw 13 36) rfl rfl ⟨rfl,rfl,rfl,trivial⟩ rfl trivial rfl) ?_
 refine G1 h fun h=>?_
 refine oc (Zm (ds:=[_,_])) ?_
 refine G1 h fun h=>?_
 refine oc (Z33 (a:=a2) rfl Z4x rfl rfl (.inl rfl) rfl rfl) ?_
 refine Mc h (fun h=>?_) (fun h=>?_)
 ·exact GR
 exact GR
noncomputable def F63 (K:Nat) (a0:Int) (a1:Int) (a2:(List Z1)) (a3:(List Int)) (a4:(List Z1)) (a5:(List Z4)) (a6:(List (List Int))) (a7:(List (Int×Int))) (a8:(List Bool)):Option (Int×Int) :=
 (F62 K a0 a1 a2 a3 a4 a5 a6 a7 a8).bind fun v4 =>
 if (v4 != 0)=true then
 some (0,v4)
 else
 if (a0==a1)=true then
 some (0,0)
 else
 if (((mget Zv a0 a7).getD (0:Int)) != ((mget Zv a1 a7).getD (0:Int)))=true then
 some (0,22)
 else
 (F137 K a5 a0 a1).bind fun v6 =>
 some (v6.1,v6.2)
theorem F63_ok (K:Nat) (a0:Int) (a1:Int) (a2:(List Z1)) (a3:(List Int)) (a4:(List Z1)) (a5:(List Z4)) (a6:(List (List Int))) (a7:(List (Int×Int))) (a8:(List Bool)) (r:Int×Int) (h:F63 K a0 a1 a2 a3 a4 a5 a6 a7 a8=some r):ACall P 63 ⟨[(.ptr 2000 0),(.int .i64 a0),(.int .i64 a1)],[(2000,(.box [(.sl 10 (a2.map Z3) false),(.sl 1 (a3.map Z7) false),(.sl 10 (a4.map Z3) false),(.sl 3 (a5.map Z9) false),(.sl 1 (a6.map Z19) false),(.map 2001),(.vs 42)])),(2001,(.map (Zn Z7 Z7 a7))),(42,(.vec 1 (List.map Zt a8)))],(.tup [(.int .i64 r.1),(.int .i64 r.2)]),[(2000,(.box [(.sl 10 (a2.map Z3) false),(.sl 1 (a3.map Z7) false),(.sl 10 (a4.map Z3) false),(.sl 3 (a5.map Z9) false),(.sl 1 (a6.map Z19) false),(.map 2001),(.vs 42)])),(2001,(.map (Zn Z7 Z7 a7))),(42,(.vec 1 (List.map Zt a8)))],[42]⟩:=by
 refine ac Tryz.func63 Tryz.results63 Tryz.ntmps63 fun w0 F0 p0 S0 β0 Q hret=>?_
 dsimp only [argT]
 unfold F63 at h
 refine G1 h fun h=>?_
 have⟨v4,hv4,h⟩:=Zd h
 refine oc (Z1d (d:=some 12) (c:=⟨_,[(2000,_),(2001,_),(42,_)],(.int .i64 v4),[(2000,(.box [(.sl 10 (a2.map Z3) false),(.sl 1 (a3.map Z7) false),(.sl 10 (a4.map Z3) false),(.sl 3 (a5.map Z9) false),(.sl 1 (a6.map Z19) false),(.map 2001),(.vs 42)])),(2001,(.map (Zn Z7 Z7 a7))),(42,(.vec 1 (List.map Zt a8)))],[42]⟩) (ar:=[_,_,_]) (caps:=[]) (news:=[]) (forg:=[42]) Tryz.call62 ((F62_ok (h:=hv4)).sw 35 42) rfl rfl ⟨rfl,rfl,rfl,trivial⟩ rfl ⟨rfl,rfl,rfl,trivial⟩ rfl) ?_
 refine Mc h (fun h=>?_) (fun h=>?_)
 ·exact GR
 refine AWp.skip<|At.next<|AWp.seq<|AWp.block ?_
 refine Mc h (fun h=>?_) (fun h=>?_)
 ·exact GR
 refine G1 h fun h=>?_
 refine oD (Z2h (a:=a0) rfl Z4x rfl rfl (.inl rfl) rfl rfl) ?_
 refine G1 h fun h=>?_
 refine oD (Z2h (a:=a1) rfl Z4x rfl rfl (.inl rfl) rfl rfl) ?_
 refine Mc h (fun h=>?_) (fun h=>?_)
 ·exact GR
 refine G1 h fun h=>?_
 have⟨v6,hv6,h⟩:=Zd h
 refine oc (Z15 Tryz.call137 (F137_ok (h:=hv6))) ?_
 exact GR
def Z8z (_K:Nat) (v13:Zx):Option (Int×Zx) :=
 some (0,v13)
noncomputable def Zdq (K:Nat) (a1:Int) (a0:Int) (a2:(List Z1)) (a3:(List Int)) (a4:(List Z1)) (a5:(List Z4)) (a6:(List (List Int))) (a7:(List (Int×Int))) (a8:(List Bool)) (v9:Zx):Option (Int×Zx) :=
 (F63 K a1 a0 a2 a3 a4 a5 a6 a7 a8).bind fun v12 =>
 if (v12.2==0)=true then
 Z8z K (⟨(IntKind.i64.wrap (0 - v12.1)),v9.High,true,v9.Above⟩:Zx)
 else
 Z8z K v9
noncomputable def F14 (K:Nat) (a0:Int) (a1:Int) (a2:(List Z1)) (a3:(List Int)) (a4:(List Z1)) (a5:(List Z4)) (a6:(List (List Int))) (a7:(List (Int×Int))) (a8:(List Bool)):Option (Int×Zx) :=
 (F62 K a0 a1 a2 a3 a4 a5 a6 a7 a8).bind fun v4 =>
 if (v4 != 0)=true then
 some (v4,Z1y)
 else
 (F62 K a1 a0 a2 a3 a4 a5 a6 a7 a8).bind fun v6 =>
 if (v6 != 0)=true then
 some (v6,Z1y)
 else
 (F63 K a0 a1 a2 a3 a4 a5 a6 a7 a8).bind fun v8 =>
 if (v8.2==0)=true then
 Zdq K a1 a0 a2 a3 a4 a5 a6 a7 a8 (⟨0,v8.1,false,true⟩:Zx)
 else
 Zdq K a1 a0 a2 a3 a4 a5 a6 a7 a8 Z1y
theorem Zqa (K:Nat) (a0:Int) (a1:Int) (a2:(List Z1)) (a3:(List Int)) (a4:(List Z1)) (a5:(List Z4)) (a6:(List (List Int))) (a7:(List (Int×Int))) (a8:(List Bool)) (r:Int×Zx) (h:F14 K a0 a1 a2 a3 a4 a5 a6 a7 a8=some r):ACall P 14 ⟨[(.ptr 2000 0),(.int .i64 a0),(.int .i64 a1)],[(2000,(.box [(.sl 10 (a2.map Z3) false),(.sl 1 (a3.map Z7) false),(.sl 10 (a4.map Z3) false),(.sl 3 (a5.map Z9) false),(.sl 1 (a6.map Z19) false),(.map 2001),(.vs 56)])),(2001,(.map (Zn Z7 Z7 a7))),(56,(.vec 1 (List.map Zt a8)))],(.tup [(Z1l r.2),(.int .i64 r.1)]),[(2000,(.box [(.sl 10 (a2.map Z3) false),(.sl 1 (a3.map Z7) false),(.sl 10 (a4.map Z3) false),(.sl 3 (a5.map Z9) false),(.sl 1 (a6.map Z19) false),(.map 2001),(.vs 56)])),(2001,(.map (Zn Z7 Z7 a7))),(56,(.vec 1 (List.map Zt a8)))],[56]⟩:=by
 refine ac Tryz.func14 Tryz.results14 Tryz.ntmps14 fun w0 F0 p0 S0 β0 Q hret=>?_
 dsimp only [argT]
 unfold F14 at h
 refine G1 h fun h=>?_
 have⟨v4,hv4,h⟩:=Zd h
 refine oc (Z1d (d:=some 18) (c:=⟨_,[(2000,_),(2001,_),(56,_)],(.int .i64 v4),[(2000,(.box [(.sl 10 (a2.map Z3) false),(.sl 1 (a3.map Z7) false),(.sl 10 (a4.map Z3) false),(.sl 3 (a5.map Z9) false),(.sl 1 (a6.map Z19) false),(.map 2001),(.vs 56)])),(2001,(.map (Zn Z7 Z7 a7))),(56,(.vec 1 (List.map Zt a8)))],[56]⟩) (ar:=[_,_,_]) (caps:=[]) (news:=[]) (forg:=[56]) Tryz.call62 ((F62_ok (h:=hv4)).sw 35 56) rfl rfl ⟨rfl,rfl,rfl,trivial⟩ rfl ⟨rfl,rfl,rfl,trivial⟩ rfl) ?_
 refine Mc h (fun h=>?_) (fun h=>?_)
 ·refine AWp.seq<|AWp.region ?_
  refine oc (Z1i (vs:=[]) rfl st41 trivial rfl) ?_
  refine G1 h fun h=>?_
  refine oc (Zm (ds:=[_,_,_,_])) ?_
  refine G1 h fun h=>?_
  refine AWp.ret<|Z27 ?_
  have h:=Option.some.inj h
  subst h
  refine (hret _ ?_).1
  exact⟨[(Z1l Z1y),(.int .i64 v4)],⟨⟨6,_,I,I,.inr ⟨_,a41,I,I⟩⟩,I,J0⟩,I,⟨I,I,I,J0⟩⟩
 refine G1 h fun h=>?_
 have⟨v6,hv6,h⟩:=Zd h
 refine oc (Z1d (d:=some 26) (c:=⟨_,[(2000,_),(2001,_),(56,_)],(.int .i64 v6),[(2000,(.box [(.sl 10 (a2.map Z3) false),(.sl 1 (a3.map Z7) false),(.sl 10 (a4.map Z3) false),(.sl 3 (a5.map Z9) false),(.sl 1 (a6.map Z19) false),(.map 2001),(.vs 56)])),(2001,(.map (Zn Z7 Z7 a7))),(56,(.vec 1 (List.map Zt a8)))],[56]⟩) (ar:=[_,_,_]) (caps:=[]) (news:=[]) (forg:=[56]) Tryz.call62 ((F62_ok (h:=hv6)).sw 35 56) rfl rfl ⟨rfl,rfl,rfl,trivial⟩ rfl ⟨rfl,rfl,rfl,trivial⟩ rfl) ?_
 refine Mc h (fun h=>?_) (fun h=>?_)
 ·refine AWp.seq<|AWp.region ?_
  refine oc (Z1i (vs:=[]) rfl st41 trivial rfl) ?_
  refine G1 h fun h=>?_
  refine oc (Zm (ds:=[_,_,_,_])) ?_
  refine G1 h fun h=>?_
  refine AWp.ret<|Z27 ?_
  have h:=Option.some.inj h
  subst h
  refine (hret _ ?_).1
  exact⟨[(Z1l Z1y),(.int .i64 v6)],⟨⟨6,_,I,I,.inr ⟨_,a41,I,I⟩⟩,I,J0⟩,I,⟨I,I,I,J0⟩⟩
 refine G1 h fun h=>?_
 have⟨v8,hv8,h⟩:=Zd h
 refine oc (Z1d (d:=some 35) (c:=⟨_,[(2000,_),(2001,_),(56,_)],(.tup [(.int .i64 v8.1),(.int .i64 v8.2)]),[(2000,(.box [(.sl 10 (a2.map Z3) false),(.sl 1 (a3.map Z7) false),(.sl 10 (a4.map Z3) false),(.sl 3 (a5.map Z9) false),(.sl 1 (a6.map Z19) false),(.map 2001),(.vs 56)])),(2001,(.map (Zn Z7 Z7 a7))),(56,(.vec 1 (List.map Zt a8)))],[56]⟩) (ar:=[_,_,_]) (caps:=[]) (news:=[]) (forg:=[56]) Tryz.call63 ((F63_ok (h:=hv8)).sw 42 56) rfl rfl ⟨rfl,rfl,rfl,trivial⟩ rfl ⟨rfl,rfl,rfl,trivial⟩ rfl) ?_
 refine G1 h fun h=>?_
 refine jn (V:=Zx) (fun v=>Zdq K a1 a0 a2 a3 a4 a5 a6 a7 a8 v=some r) [(0,_),(1,_),(2,_),(6,_),(10,_)] [(6,_),(56,_),(2000,_),(2001,_)] (fun v t=>t) (fun v s=>(10,(.box (Z1l v).cells))::s) ?_ ?_
 ·intro v h
  revert h
  revert v
  intro v9 h
  try dsimp only at h ⊢
  unfold Zdq at h
  refine G1 h fun h=>?_
  have⟨v12,hv12,h⟩:=Zd h
  refine oc (Z1d (d:=some 47) (c:=⟨_,[(2000,_),(2001,_),(56,_)],(.tup [(.int .i64 v12.1),(.int .i64 v12.2)]),[(2000,(.box [(.sl 10 (a2.map Z3) false),(.sl 1 (a3.map Z7) false),(.sl 10 (a4.map Z3) false),(.sl 3 (a5.map Z9) false),(.sl 1 (a6.map Z19) false),(.map 2001),(.vs 56)])),(2001,(.map (Zn Z7 Z7 a7))),(56,(.vec 1 (List.map Zt a8)))],[56]⟩) (ar:=[_,_,_]) (caps:=[]) (news:=[]) (forg:=[56]) Tryz.call63 ((F63_ok (h:=hv12)).sw 42 56) rfl rfl ⟨rfl,rfl,rfl,trivial⟩ rfl ⟨rfl,rfl,rfl,trivial⟩ rfl) ?_
  refine G1 h fun h=>?_
  refine jn (V:=Zx) (fun v=>Z8z K v=some r) [(6,_),(10,_)] [(6,_),(56,_),(2000,_),(2001,_)] (fun v t=>t) (fun v s=>(10,(.box (Z1l v).cells))::s) ?_ ?_
  ·intro v h
   revert h
   revert v
   intro v13 h
   try dsimp only at h ⊢
   unfold Z8z at h
   refine G1 h fun h=>?_
   refine oc (Zm (ds:=_)) ?_
   refine G1 h fun h=>?_
   refine AWp.ret ?_
   have h:=Option.some.inj h
   subst h
   refine (hret _ ?_).1
   exact⟨[(Z1l v13),(.int .i64 0)],⟨⟨6,_,I,I,.inr ⟨_,a41,I,I⟩⟩,I,J0⟩,I,⟨I,I,I,J0⟩⟩
  intro J14
  refine cnd h (fun h=>?_) (fun h=>?_)
  ·refine G1 h fun h=>?_
   refine oc (st_neg rfl rfl) ?_
   refine G1 h fun h=>?_
   refine oc (Zm (ds:=[_,_,_,_])) ?_
   refine G1 h fun h=>?_
   refine oc (Zm (ds:=[_,_,_,_])) ?_
   refine AOps.nil ?_
   exact wkx (J14 _ h)
  refine AWp.skip ?_
  exact wkx (J14 _ h)
 intro J10
 refine cnd h (fun h=>?_) (fun h=>?_)
 ·refine G1 h fun h=>?_
  refine oc (Zm (ds:=[_,_,_,_])) ?_
  refine G1 h fun h=>?_
  refine oc (Zm (ds:=[_,_,_,_])) ?_
  refine AOps.nil ?_
  exact wkx (J10 _ h)
 refine AWp.skip ?_
 exact wkx (J10 _ h)
def F210 (_K:Nat) (_a0:(List (Int×Int))):Option (Unit) :=
 some ()
theorem F210_ok (K:Nat) (a0:(List (Int×Int))) (r:Unit) (h:F210 K a0=some r):ACall P 210 ⟨[(.map 2000)],[(2000,(.fmap (Zn Z7 Z7 a0)))],(.clo 266 [(.ptr 1 0)]),[(2000,(.fmap (Zn Z7 Z7 a0))),(1,(.box [(.map 2000)]))],[1]⟩:=by
 refine ac Tryz.func210 Tryz.results210 Tryz.ntmps210 fun w0 F0 p0 S0 β0 Q hret=>?_
 dsimp only [argT]
 unfold F210 at h
 refine G1 h fun h=>?_
 refine oc (Z2k (vs:=[(.ptr 1 0)]) rfl ⟨rfl,trivial⟩) ?_
 refine G1 h fun h=>?_
 refine AWp.ret ?_
 have h:=Option.some.inj h
 subst h
 refine (hret _ ?_).1
 exact⟨[(.clo 266 [(.ptr 1 0)])],⟨I,J0⟩,I,⟨I,I,J0⟩⟩
theorem F266_keys (kvs:List (Int×Int)) (lr:Go.Loop) (hps:lr.params.size=1) (hy:∀(x:Int) (l:List Int),l.length+1≤1073741824→YCall P lr 1000 ⟨[(Z7 x)],[(1000,.loop lr [2] [.ptr 1001 0]),(1001,.box [.vs 9]),(9,.vec 1 (List.map Z7 l))],.bool true,[(1000,.loop lr [2] [.ptr 1001 0]),(1001,.box [.vs 9]),(9,.vec 1 (List.map Z7 (l++[x])))],[9]⟩) (hb:kvs.length≤1073741824) :
  ACallX (X:=List (Int×Int)) P 266 [.yld 1000,.ptr 2000 0] [(1000,.loop lr [2] [.ptr 1001 0]),(1001,.box [.vs 9]),(9,.vec 1 (List.map Z7 ([]:List Int))),(2000,.box [.map 2001]),(2001,.fmap (Zn Z7 Z7 kvs))] (fun ω=>ω.Perm kvs) (fun _=>.tup []) (fun ω=>[(1000,.loop lr [2] [.ptr 1001 0]),(1001,.box [.vs 9]),(9,.vec 1 (List.map Z7 (List.map (fun e=>e.1) ω))),(2000,.box [.map 2001]),(2001,.fmap (Zn Z7 Z7 kvs))]) [9]:=by
 refine Z3r Tryz.func266 Tryz.results266 rfl Tryz.ntmps266 rfl rfl (fun _=>rfl) ?_
 intro E Q hP hN hro hret
 obtain⟨P',nt',w0,F0,p0,S0,β0,ro0⟩:=E
 simp only at hP hN
 subst hP hN
 dsimp only [argT]
 refine AWp.seq ?_
 refine AWp.region ?_
 refine AOps.cons I (Z5g I o127 I I I) I ?_
 refine AOps.cons I (Zdb (encK:=Z7) (encV:=Z7) (l:=kvs) I ⟨3,3,by kernel_rfl⟩ I I) I ?_
 refine AOps.nil ?_
 refine At.next ?_
 refine AWp.weaken (st':=⟨[(0,.yld 1000),(5,.itr 5)],[(5,.iter none (Zn Z7 Z7 kvs)),(9,.vec 1 (List.map Z7 ([]:List Int))),(1000,.loop lr [2] [.ptr 1001 0]),(1001,.box [.vs 9]),(2000,.box [.map 2001]),(2001,.fmap (Zn Z7 Z7 kvs))]⟩) ⟨I,I,J0⟩ ⟨I,I,I,I,I,I,J0⟩ ?_
 refine Z4m (V:=List (Int×Int)×List (Int×Int)) (X:=List (Int×Int)) (lp:=fun k v=>v.2.length<k∧(v.1++v.2).Perm kvs) (sh:=fun v=>⟨[(0,.yld 1000),(5,.itr 5)],[(5,.iter none (Zn Z7 Z7 v.2)),(9,.vec 1 (List.map Z7 (List.map (fun e=>e.1) v.1))),(1000,.loop lr [2] [.ptr 1001 0]),(1001,.box [.vs 9]),(2000,.box [.map 2001]),(2001,.fmap (Zn Z7 Z7 kvs))]⟩) (x:=fun ω=>ω.Perm kvs) (shx:=fun ω=>⟨[],[(9,.vec 1 (List.map Z7 (List.map (fun e=>e.1) ω))),(1000,.loop lr [2] [.ptr 1001 0]),(1001,.box [.vs 9]),(2000,.box [.map 2001]),(2001,.fmap (Zn Z7 Z7 kvs))]⟩) (k:=kvs.length+1) (v:=([],kvs)) ⟨Nat.lt_succ_self _,List.Perm.refl _⟩ ?_ ?_
 ·intro ω hω
  refine (hret _ ω hω ?_).2
  exact⟨[],J0,I,⟨I,I,I,I,I,J0⟩⟩
 ·intro N k v hv IH J
  obtain⟨pre,rem⟩:=v
  dsimp only at hv IH J ⊢
  obtain⟨hk,hperm⟩:=hv
  refine AWp.seq ?_
  refine AWp.region ?_
  refine Z4l (encK:=Z7) (encV:=Z7) (rem:=rem) I I I (fun hc=>?_) (fun p kv q hc=>?_)
  ·subst hc
   rw [List.append_nil] at hperm
   refine AOps.cons I (Z2b I I I) I ?_
   refine AOps.nil ?_
   refine At.next ?_
   refine AWp.seq ?_
   refine AWp.cond (b:=false) I (fun hc=>?_) (fun hc=>?_)
   ·cases hc
   refine AWp.exit ?_
   refine Zz ?_
   exact Z5r (J pre hperm) J0 ⟨I,I,I,I,I,J0⟩
  ·subst hc
   refine AOps.cons I (Z2b I I I) I ?_
   refine AOps.nil ?_
   refine At.next ?_
   refine AWp.seq ?_
   refine AWp.cond (b:=true) I (fun hc=>?_) (fun hc=>?_)
   rotate_left
   ·cases hc
   refine AWp.skip ?_
   refine At.next ?_
   refine AWp.block ?_
   refine AWp.seq ?_
   refine AWp.region ?_
   refine AOps.cons I (Zda (k:=kv.1) (v:=kv.2) (encK:=Z7) (encV:=Z7) I I I) I ?_
   refine AOps.cons I (Z2b I I I) I ?_
   refine AOps.cons I (Zh (v:=(Z7 kv.1)) I I) I ?_
   refine AOps.nil ?_
   refine At.next ?_
   refine AWp.seq ?_
   refine AWp.region ?_
   refine AOps.cons I (Z1h I I) I ?_
   refine AOps.cons I (Z1h (v:=(Z7 kv.1)) I I) I ?_
   have hlen:(List.map (fun e=>e.1) pre).length+1≤1073741824:=by
    have:=hperm.length_eq
    simp only [List.length_append,List.length_cons,List.length_map] at this ⊢
    omega
   refine AOps.cons I (Zdc (d:=some 12) (ks:=[2]) (vs:=[.ptr 1001 0]) (c:=⟨[(Z7 kv.1)],[(1000,.loop lr [2] [.ptr 1001 0]),(1001,.box [.vs 9]),(9,.vec 1 (List.map Z7 (List.map (fun e=>e.1) pre)))],.bool true,[(1000,.loop lr [2] [.ptr 1001 0]),(1001,.box [.vs 9]),(9,.vec 1 (List.map Z7 ((List.map (fun e=>e.1) pre)++[kv.1])))],[9]⟩) (ar:=[(Z7 kv.1)]) (news:=[]) (forg:=[9]) (hy kv.1 _ hlen) I hps I I ⟨I,J0⟩ I ⟨I,I,I,J0⟩ I) I ?_
   refine AOps.cons I (Zob I I) I ?_
   refine AOps.nil ?_
   refine At.next ?_
   refine AWp.cond (b:=false) I (fun hc=>?_) (fun hc=>?_)
   ·cases hc
   refine AWp.skip ?_
   refine Z17 ?_
   have hstep:(p++q).length<(p++kv::q).length:=by
    simp only [List.length_append,List.length_cons]
    omega
   have hp2:((pre++[kv])++(p++q)).Perm kvs:=by
    refine List.Perm.trans ?_ hperm
    rw [List.append_assoc]
    exact List.Perm.append_left pre (show (kv::(p++q)).Perm (p++kv::q) from List.perm_middle.symm)
   have hm:List.map (fun e:Int×Int=>e.1) (pre++[kv])=List.map (fun e=>e.1) pre++[kv.1]:=by rw [List.map_append];rfl
   have:=IH (p++q).length.succ (pre++[kv],p++q) (by omega) ⟨Nat.lt_succ_self _,hp2⟩
   dsimp only at this
   rw [hm] at this
   refine At.ghost (st':=⟨[(0,.yld 1000),(5,.itr 5)],[(5,.iter none (Zn Z7 Z7 (p++q))),(9,.vec 1 (List.map Z7 ((List.map (fun e=>e.1) pre)++[kv.1]))),(1000,.loop lr [2] [.ptr 1001 0]),(1001,.box [.vs 9]),(2000,.box [.map 2001]),(2001,.fmap (Zn Z7 Z7 kvs))]⟩) (fun a w h=>Z28 _ (Z7m (m:=5) (cur:=some ((Z7 kv.1),(Z7 kv.2))) (kvs:=Zn Z7 Z7 (p++q)) a w (Z28 ⟨[(0,.yld 1000),(5,.itr 5)],[(5,.iter (some ((Z7 kv.1),(Z7 kv.2))) (Zn Z7 Z7 (p++q))),(9,.vec 1 (List.map Z7 ((List.map (fun e=>e.1) pre)++[kv.1]))),(1000,.loop lr [2] [.ptr 1001 0]),(1001,.box [.vs 9]),(2000,.box [.map 2001]),(2001,.fmap (Zn Z7 Z7 kvs))]⟩ h ⟨I,I,J0⟩ ⟨I,I,I,I,I,I,J0⟩)) ⟨I,I,J0⟩ ⟨I,I,I,I,I,I,J0⟩) this
theorem Zl5 (kvs:List (Int×Int)) (hb:kvs.length≤1073741824):ACallX (X:=List (Int×Int)) P 211 [(.sl 1 [] true),.clo 266 [.ptr 2000 0]] [(2000,.box [.map 2001]),(2001,.fmap (Zn Z7 Z7 kvs))] (fun ω=>ω.Perm kvs) (fun _=>.vs 9) (fun ω=>[(9,.vec 1 (List.map Z7 (List.map (fun e=>e.1) ω))),(2000,.box [.map 2001]),(2001,.fmap (Zn Z7 Z7 kvs))]) [9]:=by
 refine Z3r Tryz.func211 Tryz.results211 rfl Tryz.ntmps211 rfl rfl (fun _=>rfl) ?_
 intro E Q hP hN hro hret
 obtain⟨P',nt',w0,F0,p0,S0,β0,ro0⟩:=E
 simp only at hP hN
 subst hP hN
 dsimp only [argT]
 refine AWp.seq<|AWp.region<|AOps.cons I (Zij I I I I I) I<|AOps.cons I (Zh (v:=(.sl 1 [] false)) I I) I<|AOps.nil<|At.next<|AWp.seq<|AWp.seq<|AWp.region<|AOps.cons I (Z1h I I) I<|AOps.nil<|At.next<|AWp.block<|AWp.ghost (st':=⟨[(2,.ptr 2 0),(6,(.clo 266 [.ptr 2000 0]))],[(2,.box [.vs 9]),(9,.vec 1 (List.map Z7 ([]:List Int))),(2000,.box [.map 2001]),(2001,.fmap (Zn Z7 Z7 kvs))]⟩) (fun a w h=>Z28 _ (Zam (n:=2) (m:=9) (sz:=1) (j:=0) I I I a w (Z28 ⟨[(2,.ptr 2 0),(6,(.clo 266 [.ptr 2000 0]))],[(2,.box [(.sl 1 [] true)]),(2000,.box [.map 2001]),(2001,.fmap (Zn Z7 Z7 kvs))]⟩ h ⟨I,I,J0⟩ ⟨I,I,I,J0⟩)) ⟨I,I,J0⟩ ⟨I,I,I,I,J0⟩) ?_
 refine Z5d (X:=List (Int×Int)) (n:=1) (f:=266) (caps:=[.ptr 2000 0]) (ks:=[2]) (vs:=[.ptr 2 0]) (ins:=[(2,.box [.vs 9]),(9,.vec 1 (List.map Z7 ([]:List Int))),(2000,.box [.map 2001]),(2001,.fmap (Zn Z7 Z7 kvs))]) (ok:=fun ω=>ω.Perm kvs) (outs:=fun ω=>[(2,.box [.vs 9]),(9,.vec 1 (List.map Z7 (List.map (fun e=>e.1) ω))),(2000,.box [.map 2001]),(2001,.fmap (Zn Z7 Z7 kvs))]) (res:=fun _=>.tup []) (mv:=[9]) (forg:=[9]) (jump:=fun _=>none) hro Tryz.call266 I I I I ⟨I,J0⟩ ⟨I,I,I,I,J0⟩ I (fun _=>I) (fun _=>I) I (fun lr hst hpe hpr has hbd hsz=>?_) (fun ω hω _=>?_) (fun ω c _ hc=>by cases hc)
 ·have hend:=Z6n hst hpe
  simp only [hend]
  have hps:lr.params.size=1:=by rw [hpr];rfl
  have hy:∀(x:Int) (l:List Int),l.length+1≤1073741824→YCall P lr 1000 ⟨[(Z7 x)],[(1000,.loop lr [2] [.ptr 1001 0]),(1001,.box [.vs 9]),(9,.vec 1 (List.map Z7 l))],.bool true,[(1000,.loop lr [2] [.ptr 1001 0]),(1001,.box [.vs 9]),(9,.vec 1 (List.map Z7 (l++[x])))],[9]⟩:=by
   intro x l hl
   refine Zde (ks:=[2]) (vs:=[.ptr 1001 0]) (ps:=[7]) rfl hst hsz hpr rfl (by decide) rfl rfl rfl ?_
   intro E Qa Qb hP hN hmid hfin
   obtain⟨P',nt',w0,F0,p0,S0,β0,ro0⟩:=E
   simp only at hP hN
   subst hP hN
   refine Z5c has ?_
   dsimp only [List.zip,List.zipWith,List.cons_append,List.nil_append]
   refine AWp.region<|AOps.cons I (Zh (v:=(Z7 x)) I I) I<|AOps.nil ?_
   refine hmid _ _ _ rfl ?_
   refine Z5c hbd<|AWp.block<|AWp.region<|AOps.cons I (Z5g I o38 I I I) I<|AOps.cons I (Z1h (v:=(Z7 x)) I I) I<|AOps.cons I (Zj (vs:=[_]) (enc:=Z7) (l:=[x]) I Z65 I I ⟨I,J0⟩ I Z1u I I I I) I<|AOps.cons I (Z1g (m:=9) I I Z65 I u38 I I I I (oneRead I) Z1u hl) I<|AOps.cons I (Z9x sz38 I I I I I I I I) I<|AOps.nil<|Z17 ?_
   refine hfin _ _ _ none .normal rfl rfl rfl ?_
   rw [hend]
   exact⟨I,I,I,J0⟩
  exact ((F266_keys kvs lr hps hy hb).sw 1000 1).sw 1001 2
 refine At.weaken (st':=⟨[(2,.ptr 2 0)],[(2,.box [.vs 9]),(9,.vec 1 (List.map Z7 (List.map (fun e=>e.1) ω))),(2000,.box [.map 2001]),(2001,.fmap (Zn Z7 Z7 kvs))]⟩) ⟨I,J0⟩ ⟨I,I,I,I,J0⟩<|Z17<|At.next<|AWp.seq<|AWp.region<|AOps.cons I (Z5g I o38 I I I) I<|AOps.cons I (Zh I I) I<|AOps.nil<|At.next<|AWp.ret ?_
 refine (hret _ ω hω ?_).1
 exact⟨[.vs 9],⟨I,J0⟩,I,⟨I,I,I,J0⟩⟩
theorem Zkv (kvs:List (Int×Int)) (hb:kvs.length≤1073741824):ACallX (X:=List (Int×Int)) P 153 [.clo 266 [.ptr 2000 0]] [(2000,.box [.map 2001]),(2001,.fmap (Zn Z7 Z7 kvs))] (fun ω=>ω.Perm kvs) (fun _=>.vs 4) (fun ω=>[(4,.vec 1 (List.map Z7 (List.map (fun e=>e.1) ω))),(2000,.box [.map 2001]),(2001,.fmap (Zn Z7 Z7 kvs))]) [4]:=by
 refine Z3r Tryz.func153 Tryz.results153 rfl Tryz.ntmps153 rfl rfl (fun _=>rfl) ?_
 intro E Q hP hN hro hret
 obtain⟨P',nt',w0,F0,p0,S0,β0,ro0⟩:=E
 simp only at hP hN
 subst hP hN
 dsimp only [argT]
 refine AWp.seq<|AWp.region<|AOps.cons I (Zh (v:=(.sl 1 [] false)) I I) I<|AOps.nil<|At.next<|AWp.seq<|AWp.region<|AOps.cons I (Z1h I I) I ?_
 refine Z4f (ar:=[(.sl 1 [] true),(.clo 266 [.ptr 2000 0])]) (caps:=[]) (news:=[4]) (forg:=[]) Tryz.call211 ((Zl5 kvs hb).sw 9 4) I I ⟨I,I,J0⟩ I ⟨I,I,J0⟩ (fun _=>I) I (fun ω hω=>?_)
 refine AOps.cons I (Zh I I) I<|AOps.nil<|At.next<|AWp.ret ?_
 refine (hret _ ω hω ?_).1
 exact⟨[.vs 4],⟨I,J0⟩,I,⟨I,I,I,J0⟩⟩
noncomputable def Zbe (_K:Nat) (a0:(List (Int×Int))):Option ((List Int)) :=
 if a0.length≤1073741824 then
 ndPerm a0 fun x3 =>
 (sortI (List.map (fun e:Int×Int=>e.1) x3)).bind fun v5 =>
 some v5
 else none
theorem Zrq (K:Nat) (a0:(List (Int×Int))) (r:(List Int)) (h:Zbe K a0=some r):ACall P 123 ⟨[(.clo 266 [(.ptr 2000 0)])],[(2000,(.box [(.map 2001)])),(2001,(.fmap (Zn Z7 Z7 a0)))],(.vs 5),[(2000,(.box [(.map 2001)])),(2001,(.fmap (Zn Z7 Z7 a0))),(5,(.vec 1 (List.map Z7 r)))],[5]⟩:=by
 refine ac Tryz.func123 Tryz.results123 Tryz.ntmps123 fun w0 F0 p0 S0 β0 Q hret=>?_
 dsimp only [argT]
 unfold Zbe at h
 refine AWp.seq<|AWp.region ?_
 refine oc (Zh (v:=(.sl 1 [] false)) rfl rfl) ?_
 refine G1 h fun h=>?_
 have⟨hg2,h⟩:=Zg h
 have hp6:=Z9q h
 refine Z4f (ar:=[(.clo 266 [(.ptr 2000 0)])]) (caps:=[]) (news:=[5]) (forg:=[]) Tryz.call153 ((Zkv a0 hg2).sw 4 5) I I ⟨I,J0⟩ I ⟨I,I,J0⟩ (fun _=>I) I (fun x3 hw6=>?_)
 have h:=hp6 x3 hw6
 refine G1 h fun h=>?_
 have⟨v5,hv5,h⟩:=Zd h
 refine oc (Z1d (d:=some 7) (c:=⟨_,[(5,_)],.tup [],[(5,.vec 1 (List.map Z7 v5))],[]⟩) (ar:=[_]) (caps:=[]) (news:=[]) (forg:=[]) Tryz.call110 (Zd7 (n:=5) (enc:=Z7) (l:=(List.map (fun e:Int×Int=>e.1) x3)) Zd6 (fun _=>rfl) hv5) rfl rfl ⟨rfl,trivial⟩ rfl ⟨rfl,trivial⟩ rfl) ?_
 exact GR
def Zad (_K:Nat) (v9:(List Z1m)):Option ((List Z1m)) :=
 some v9
def Zdw (K:Nat) (v5:(List Int)) (a0:(List (Int×Int))) (c11:(List Z1m)→Option ((List Z1m))):Nat→Int→(List Z1m)→Option ((List Z1m))
 | 0,_,_=>none
 | k8+1,v6,v7 =>
 if (decide (v6<(v5.length:Int)))=true then
 if (0:Int)≤v6∧v6<(v5.length:Nat) then
 if v6.toNat<v5.length then
 if v7.length+[(⟨(v5.getD v6.toNat 0),((mget Zv (v5.getD v6.toNat 0) a0).getD (0:Int))⟩:Z1m)].length≤1073741824 then
 (Zdw K v5 a0 c11 k8) (IntKind.i64.wrap (v6+1)) (v7++[(⟨(v5.getD v6.toNat 0),((mget Zv (v5.getD v6.toNat 0) a0).getD (0:Int))⟩:Z1m)])
 else none
 else none
 else none
 else
 c11 v7
noncomputable def F209 (K:Nat) (a0:(List (Int×Int))):Option ((List Z1m)) :=
 (F210 K a0).bind fun _v3 =>
 (Zbe K a0).bind fun v5 =>
 Zdw K v5 a0 (Zad K) K 0 []
theorem F209_ok (K:Nat) (a0:(List (Int×Int))) (r:(List Z1m)) (h:F209 K a0=some r):ACall P 209 ⟨[(.map 2000)],[(2000,(.fmap (Zn Z7 Z7 a0)))],(.vs 3),[(2000,(.fmap (Zn Z7 Z7 a0))),(3,(.vec 2 (List.map Z21 r)))],[3]⟩:=by
 refine ac Tryz.func209 Tryz.results209 Tryz.ntmps209 fun w0 F0 p0 S0 β0 Q hret=>?_
 dsimp only [argT]
 unfold F209 at h
 refine AWp.seq<|AWp.region ?_
 refine oc (Zh (v:=(.sl 2 [] false)) rfl rfl) ?_
 refine G1 h fun h=>?_
 refine oc (Zh (v:=(.sl 2 [] true)) rfl rfl) ?_
 refine G1 h fun h=>?_
 have⟨v3,hv3,h⟩:=Zd h
 refine oc (Z1d (d:=some 7) (c:=⟨_,[(2000,_)],(.clo 266 [(.ptr 7 0)]),[(2000,(.fmap (Zn Z7 Z7 a0))),(7,(.box [(.map 2000)]))],[7]⟩) (ar:=[_]) (caps:=[]) (news:=[7]) (forg:=[]) Tryz.call210 ((F210_ok (h:=hv3)).sw 1 7) rfl rfl ⟨rfl,trivial⟩ rfl ⟨rfl,trivial⟩ rfl) ?_
 have⟨v5,hv5,h⟩:=Zd h
 refine oc (Z1d (d:=some 8) (c:=⟨_,[(7,_),(2000,_)],(.vs 8),[(7,(.box [(.map 2000)])),(2000,(.fmap (Zn Z7 Z7 a0))),(8,(.vec 1 (List.map Z7 v5)))],[8]⟩) (ar:=[_]) (caps:=[]) (news:=[8]) (forg:=[]) Tryz.call123 ((((Zrq (h:=hv5)).sw 2000 7).sw 2001 2000).sw 5 8) rfl rfl ⟨rfl,trivial⟩ rfl ⟨rfl,rfl,trivial⟩ rfl) ?_
 refine oc (Z2t rfl u38 rfl rfl) ?_
 refine G1 h fun h=>?_
 refine AWp.ghost (fun a w h=>gk ⟨[(0,_),(3,_),(8,_),(9,_),(10,_)],[(3,_),(23,_),(2000,_)]⟩ (Z3x (a:=8) (b:=23) (gk ⟨[(0,_),(3,_),(8,_),(9,_),(10,_)],[(3,_),(8,_),(2000,_)]⟩ (gk ⟨[(0,_),(3,_),(8,_),(9,_),(10,_)],[(3,_),(8,_),(2000,_)]⟩ (Z38 (k:=3) (m:=3) (sz:=2) (gk ⟨[(3,_),(0,_),(8,_),(9,_),(10,_)],[(8,_),(2000,_)]⟩ h)))))) ?_
 refine lb (V:=Int×(List Z1m)) (X:=(List Z1m)) (v:=(_,_)) (fun k v=>Zdw K v5 a0 (Zad K) k v.1 v.2=some r) (fun v=>Zad K v=some r) [(0,_),(3,_),(8,_),(9,_)] [(23,_),(2000,_)] [(3,_)] [(2000,_)] (fun v t=>(10,(.int .i64 v.1))::t) (fun v s=>(3,(.vec 2 (List.map Z21 v.2)))::s) (fun v t=>t) (fun v s=>(3,(.vec 2 (List.map Z21 v)))::s) h ?_ ?_
 ·intro v h
  revert h
  revert v
  intro v9 h
  try dsimp only at h ⊢
  unfold Zad at h
  exact GR
 intro N k8 v h IH8 J8
 obtain⟨v6,v7⟩:=v
 try dsimp only at h IH8 J8 ⊢
 cases k8 with
 | zero=>cases h
 | succ k8 =>
  rw [Zdw] at h
  refine Mc h (fun h=>?_) (fun h=>?_)
  ·refine AWp.skip<|At.next<|AWp.seq<|AWp.block ?_
   refine G1 h fun h=>?_
   refine oc (Z2h (a:=(v5.getD v6.toNat 0)) rfl Z4x rfl rfl (.inr rfl) rfl rfl) ?_
   refine oc (Z1i (vs:=[(0,(.int .i64 (v5.getD v6.toNat 0))),(1,(.int .i64 ((mget Zv (v5.getD v6.toNat 0) a0).getD (0:Int))))]) rfl st170 ⟨rfl,rfl,rfl,rfl,trivial⟩ rfl) ?_
   refine oc (Zj (vs:=[_]) (enc:=Z21) (l:=[(⟨(v5.getD v6.toNat 0),((mget Zv (v5.getD v6.toNat 0) a0).getD (0:Int))⟩:Z1m)]) rfl el69 rfl rfl ⟨rfl,trivial⟩ rfl Z4q rfl rfl rfl rfl) ?_
   have⟨hg15,h⟩:=Zg h
   refine oc (Z1g (m:=3) rfl rfl el69 rfl u69 rfl rfl rfl rfl (oneRead rfl) Z4q hg15) ?_
   refine G2 h fun h=>?_
   refine Z17<|At.next ?_
   exact M2 h (k:=fun h=>wkx (IH8 _ (_,_) Z1p h))
  refine AWp.exit<|Zz ?_
  exact wkx (J8 _ h)
noncomputable def F149 (K:Nat) (a0:(List Z4)):Option (Int×(List Z1m)) :=
 (Zmq K a0).bind fun v4 =>
 (F129 K a0 v4).bind fun v6 =>
 if (decide (v6.1 ≥ 0))=true then
 some (21,[])
 else
 (F209 K v6.2.1).bind fun v8 =>
 some (0,v8)
theorem F149_ok (K:Nat) (a0:(List Z4)) (r:Int×(List Z1m)) (h:F149 K a0=some r):ACall P 149 ⟨[(.sl 3 (a0.map Z9) false)],[],(.tup [(.vs 2),(.int .i64 r.1)]),[(2,(.vec 2 (List.map Z21 r.2)))],[2]⟩:=by
 refine ac Tryz.func149 Tryz.results149 Tryz.ntmps149 fun w0 F0 p0 S0 β0 Q hret=>?_
 dsimp only [argT]
 unfold F149 at h
 refine AWp.seq<|AWp.region ?_
 refine oc (Zh (v:=(.sl 2 [] true)) rfl rfl) ?_
 refine G1 h fun h=>?_
 have⟨v4,hv4,h⟩:=Zd h
 refine oc (Z15 Tryz.call120 (Zbc (h:=hv4))) ?_
 have⟨v6,hv6,h⟩:=Zd h
 refine oc (Z1d (d:=some 10) (c:=⟨_,[],(.tup [(.ag [(.map 10),(.map 16)]),(.int .i64 v6.1)]),[(10,(.map (Zn Z7 Z7 v6.2.1))),(16,(.map (Zn Z7 Z7 v6.2.2)))],[10,16]⟩) (ar:=[_,_,_]) (caps:=[]) (news:=[10,16]) (forg:=[]) Tryz.call129 (((Zop (h:=hv6)).sw 12 10).sw 13 16) rfl rfl ⟨rfl,rfl,rfl,trivial⟩ rfl trivial rfl) ?_
 refine G1 h fun h=>?_
 refine oc (Zm (ds:=[_,_])) ?_
 refine Mc h (fun h=>?_) (fun h=>?_)
 ·refine AWp.seq<|AWp.region ?_
  refine oc (Zh (v:=(.sl 2 [] true)) rfl rfl) ?_
  refine G1 h fun h=>?_
  refine AWp.ret<|Z27<|At.ghost (fun a w h=>gk ⟨[(2,_),(3,_)],[(2,_)]⟩ (Z38 (k:=2) (m:=2) (sz:=2) (gk ⟨[(2,_),(3,_)],[]⟩ h))) ?_
  exact RT
 refine G1 h fun h=>?_
 refine AOps.ghost (fun a w h=>gk ⟨[(2,_),(3,_),(16,_)],[(10,_)]⟩ (Z66 (m:=10) (gk ⟨[(2,_),(3,_),(16,_)],[(10,_)]⟩ h))) ?_
 have⟨v8,hv8,h⟩:=Zd h
 refine oc (Z1d (d:=some 17) (c:=⟨_,[(10,_)],(.vs 17),[(10,(.fmap (Zn Z7 Z7 v6.2.1))),(17,(.vec 2 (List.map Z21 v8)))],[17]⟩) (ar:=[_]) (caps:=[]) (news:=[17]) (forg:=[]) Tryz.call209 (((F209_ok (h:=hv8)).sw 2000 10).sw 3 17) rfl rfl ⟨rfl,trivial⟩ rfl ⟨rfl,trivial⟩ rfl) ?_
 refine G1 h fun h=>?_
 refine AWp.ret<|At.ghost (fun a w h=>gk ⟨[(2,_),(3,_)],[(2,_)]⟩ (Z3x (a:=17) (b:=2) (gk ⟨[(2,_),(3,_)],[(17,_)]⟩ h))) ?_
 exact RT
end Go.AM.Tp
