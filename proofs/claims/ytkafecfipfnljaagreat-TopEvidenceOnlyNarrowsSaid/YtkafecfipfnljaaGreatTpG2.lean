/- What these functions compute, each with its walk: F235, F174, F175, F100, F101, F237, F236, F177, F126, F54, F102, F154, F213, F212, F211, F153, F79, F103, F44, F6, F104, F105, F46, F106, F108. -/
import Derived.Test.YtkafecfipfnljaaGreatTpT
import Derived.Test.YtkafecfipfnljaaGreatTpG0
import Derived.Test.YtkafecfipfnljaaGreatTpG1
namespace Go.AM.Tp
open Go Go.AM Go.Proofs
set_option maxRecDepth 100000
set_option maxHeartbeats 2000000
attribute [local irreducible] Z11 TyOne TyAgg TySl TyZero TyStruct TyEl TyEq AWp AOps AOpsD At
def Zfq (_K:Nat) (v12:(List Z2)):Option ((List Z2)) :=
 some v12
def Zfr (K:Nat) (a0:(List (List Z2))) (c14:(List Z2)→Option ((List Z2))):Nat→Int→(List Z2)→Option ((List Z2))
 | 0,_,_=>none
 | k11+1,v9,v10 =>
 if (decide (v9<(a0.length:Int)))=true then
 if (0:Int)≤v9∧v9<a0.length then
 if v10.length+(a0.getD v9.toNat []).length≤1073741824 then
 (Zfr K a0 c14 k11) (IntKind.i64.wrap (v9+1)) (v10++(a0.getD v9.toNat []))
 else none
 else none
 else
 c14 v10
def Zlc (K:Nat) (a0:(List (List Z2))) (v4:Int):Option ((List Z2)) :=
 (F283 K v4).bind fun v8 =>
 Zfr K a0 (Zfq K) K 0 v8
def Zld (K:Nat) (a0:(List (List Z2))) (c6:Int→Option ((List Z2))):Nat→Int→Int→Option ((List Z2))
 | 0,_,_=>none
 | k3+1,v1,v2 =>
 if (decide (v2<(a0.length:Int)))=true then
 if (0:Int)≤v2∧v2<a0.length then
 if (decide ((IntKind.i64.wrap (v1+((a0.getD v2.toNat []).length:Int)))<0))=true then
 none
 else
 (Zld K a0 c6 k3) (IntKind.i64.wrap (v1+((a0.getD v2.toNat []).length:Int))) (IntKind.i64.wrap (v2+1))
 else none
 else
 c6 v1
def F235 (K:Nat) (a0:(List (List Z2))):Option ((List Z2)) :=
 Zld K a0 (Zlc K a0) K 0 0
theorem F235_ok (K:Nat) (a0:(List (List Z2))) (r:(List Z2)) (h:F235 K a0=some r):ACall P 235 ⟨[(.sl 1 (a0.map Zw) false)],[],.vs 2,[(2,.vec 14 (List.map Zb r))],[2]⟩:=by
 refine ac Tryz.func235 Tryz.results235 Tryz.ntmps235 fun w0 F0 p0 S0 β0 Q hret=>?_
 dsimp only [argT]
 unfold F235 at h
 refine AWp.seq<|AWp.region ?_
 refine oc (Zh (v:=(.sl 14 [] false)) rfl rfl) ?_
 refine G1 h fun h=>?_
 refine lb (V:=Int×Int) (X:=Int) (v:=(_,_)) (fun k v=>Zld K a0 (Zlc K a0) k v.1 v.2=some r) (fun v=>Zlc K a0 v=some r) [(0,_),(9,_),(10,_)] [] [(0,_)] [] (fun v t=>(3,(.int .i64 v.1))::(11,(.int .i64 v.2))::t) (fun v s=>s) (fun v t=>(3,(.int .i64 v))::t) (fun v s=>s) h ?_ ?_
 ·intro v h
  revert h
  revert v
  intro v4 h
  try dsimp only at h ⊢
  unfold Zlc at h
  refine G1 h fun h=>?_
  have⟨v8,hv8,h⟩:=Zd h
  refine oc (Z30 (sz:=14) (es:=(List.map Zb v8)) (ar:=[(.sl 14 [] true),(.int .i64 v4)]) (caps:=[]) Tryz.call283 ((F283_ok K v4 v8 hv8).sw 4 24) rfl rfl ⟨rfl,rfl,trivial⟩ rfl) ?_
  refine G1 h fun h=>?_
  refine AWp.ghost (fun a w h=>gk ⟨[(6,_),(25,_),(26,_),(27,_)],[(6,_)]⟩ (Z3x (a:=24) (b:=6) (gk ⟨[(6,_),(25,_),(26,_),(27,_)],[(24,_)]⟩ h))) ?_
  refine lb (V:=Int×(List Z2)) (X:=(List Z2)) (v:=(_,_)) (fun k v=>Zfr K a0 (Zfq K) k v.1 v.2=some r) (fun v=>Zfq K v=some r) [(6,_),(25,_),(26,_)] [] [(6,_)] [] (fun v t=>(27,(.int .i64 v.1))::t) (fun v s=>(6,(.vec 14 (List.map Zb v.2)))::s) (fun v t=>t) (fun v s=>(6,(.vec 14 (List.map Zb v)))::s) h ?_ ?_
  ·intro v h
   revert h
   revert v
   intro v12 h
   try dsimp only at h ⊢
   unfold Zfq at h
   refine G1 h fun h=>?_
   refine AWp.ret<|At.ghost (fun a w h=>gk ⟨[(2,_)],[(2,_)]⟩ (Z3x (a:=6) (b:=2) (gk ⟨[(2,_)],[(6,_)]⟩ h))) ?_
   exact RT
  intro N k11 v h IH11 J11
  obtain⟨v9,v10⟩:=v
  try dsimp only at h IH11 J11 ⊢
  cases k11 with
  | zero=>cases h
  | succ k11 =>
   rw [Zfr] at h
   refine Mc h (fun h=>?_) (fun h=>?_)
   ·refine AWp.skip<|At.next<|AWp.seq<|AWp.block ?_
    refine G1 h fun h=>?_
    have⟨hg17,h⟩:=Zg h
    refine oc (Z1g (m:=6) rfl rfl Zlr rfl u47 rfl rfl rfl ⟨rfl,rfl,rfl⟩ noReads Z1t hg17) ?_
    refine G2 h fun h=>?_
    refine Z17<|At.next ?_
    exact M2 h (k:=fun h=>wkx (IH11 _ (_,_) Z1p h))
   refine AWp.exit<|Zz ?_
   exact wkx (J11 _ h)
 intro N k3 v h IH3 J3
 obtain⟨v1,v2⟩:=v
 try dsimp only at h IH3 J3 ⊢
 cases k3 with
 | zero=>cases h
 | succ k3 =>
  rw [Zld] at h
  refine Mc h (fun h=>?_) (fun h=>?_)
  ·refine AWp.skip<|At.next<|AWp.seq<|AWp.block ?_
   refine Mc h (fun h=>?_) (fun h=>?_)
   ·cases h
   refine AWp.skip<|Z17<|At.next ?_
   exact M2 h (k:=fun h=>wkx (IH3 _ (_,_) Z1p h))
  refine AWp.exit<|Zz ?_
  exact wkx (J3 _ h)
def F174 (K:Nat) (a0:(List Z2)) (a1:(List Z2)):Option ((List Z2)) :=
 (F235 K [a0,a1]).bind fun v2 =>
 (F172 K v2).bind fun v4 =>
 some v4
theorem F174_ok (K:Nat) (a0:(List Z2)) (a1:(List Z2)) (r:(List Z2)) (h:F174 K a0 a1=some r):ACall P 174 ⟨[(.sl 14 (a0.map Zb) false),(.sl 14 (a1.map Zb) false)],[],(.sl 14 (r.map Zb) false),[],[]⟩:=by
 refine ac Tryz.func174 Tryz.results174 Tryz.ntmps174 fun w0 F0 p0 S0 β0 Q hret=>?_
 dsimp only [argT]
 unfold F174 at h
 refine AWp.seq<|AWp.region ?_
 refine oc (Zh (v:=(.sl 14 [] false)) rfl rfl) ?_
 refine G1 h fun h=>?_
 refine oc (Zj (vs:=[_,_]) (enc:=Zw) (l:=[a0,a1]) rfl el402 rfl rfl ⟨rfl,rfl,trivial⟩ rfl Zhp rfl rfl rfl rfl) ?_
 refine AOps.ghost (fun a w h=>gk ⟨[(4,_),(7,_)],[]⟩ (Z1j (m:=7) (sz:=1) (gk ⟨[(4,_),(7,_)],[(7,_)]⟩ h))) ?_
 have⟨v2,hv2,h⟩:=Zd h
 refine oc (Z30 (sz:=14) (es:=(List.map Zb v2)) (ar:=[_]) (caps:=[]) Tryz.call235 ((F235_ok (h:=hv2)).sw 2 8) rfl rfl ⟨rfl,trivial⟩ rfl) ?_
 refine AOps.ghost (fun a w h=>gk ⟨[(4,_),(8,_)],[]⟩ (Z1j (m:=8) (sz:=14) (gk ⟨[(4,_),(8,_)],[(8,_)]⟩ h))) ?_
 have⟨v4,hv4,h⟩:=Zd h
 refine oc (Z15 Tryz.call172 (F172_ok (h:=hv4))) ?_
 exact GR
def Zkx (_K:Nat):Option (Bool) :=
 some true
def Zky (K:Nat) (a0:(List Z2)) (a1:(List Z2)) (c4:Option (Bool)):Nat→Int→Option (Bool)
 | 0,_=>none
 | k2+1,v1 =>
 if (decide (v1<(a0.length:Int)))=true then
 if (0:Int)≤v1∧v1<a0.length then
 if (0:Int)≤v1∧v1<a1.length then
 (F176 K (a0.getD v1.toNat Z5) (a1.getD v1.toNat Z5)).bind fun v9 =>
 if (!v9)=true then
 some false
 else
 (Zky K a0 a1 c4 k2) (IntKind.i64.wrap (v1+1))
 else none
 else none
 else
 c4
def F175 (K:Nat) (a0:(List Z2)) (a1:(List Z2)):Option (Bool) :=
 if ((a0.length:Int) != (a1.length:Int))=true then
 some false
 else
 Zky K a0 a1 (Zkx K) K 0
theorem F175_ok (K:Nat) (a0:(List Z2)) (a1:(List Z2)) (r:Bool) (h:F175 K a0 a1=some r):ACall P 175 ⟨[(.sl 14 (a0.map Zb) false),(.sl 14 (a1.map Zb) false),(.clo 176 [])],[],(.bool r),[],[]⟩:=by
 refine ac Tryz.func175 Tryz.results175 Tryz.ntmps175 fun w0 F0 p0 S0 β0 Q hret=>?_
 dsimp only [argT]
 unfold F175 at h
 refine Mc h (fun h=>?_) (fun h=>?_)
 ·exact GR
 refine G1 h fun h=>?_
 refine lb (V:=Int) (X:=Unit) (v:=_) (fun k v=>Zky K a0 a1 (Zkx K) k v=some r) (fun v=>Zkx K=some r) [(1,_),(2,_),(15,_),(16,_)] [] [] [] (fun v t=>(17,(.int .i64 v))::t) (fun v s=>s) (fun v t=>t) (fun v s=>s) h ?_ ?_
 ·intro v h
  try dsimp only at h ⊢
  unfold Zkx at h
  exact GR
 intro N k2 v h IH2 J2
 revert h
 revert v
 intro v1 h
 try dsimp only at h IH2 J2 ⊢
 cases k2 with
 | zero=>cases h
 | succ k2 =>
  rw [Zky] at h
  refine Mc h (fun h=>?_) (fun h=>?_)
  ·refine AWp.skip<|At.next<|AWp.seq<|AWp.block ?_
   refine G1 h fun h=>?_
   refine oc (Z2a rfl z94 rfl rfl rfl) ?_
   refine G1 h fun h=>?_
   refine oc (Zm (ds:=_)) ?_
   refine G1 h fun h=>?_
   refine oc (Z2a rfl z94 rfl rfl rfl) ?_
   refine oc (Zm (ds:=_)) ?_
   refine G1 h fun h=>?_
   have⟨v9,hv9,h⟩:=Zd h
   refine oc (Z15 Tryz.call176 (Zot (h:=hv9))) ?_
   refine Mc h (fun h=>?_) (fun h=>?_)
   ·exact GR
   refine AWp.skip<|Z17<|At.next ?_
   exact M2 h (k:=fun h=>wkx (IH2 _ _ Z1p h))
  refine AWp.exit<|Zz ?_
  exact wkx (J2 () h)
def Z7x (_K:Nat) (v24:(List Int)) (v25:(List (Int×(List Z2)))):Option ((List Int)×Int×(List (Int×(List Z2)))) :=
 some (v24,0,v25)
def Zfk (_K:Nat) (b28:Int→(List Int)→(List (Int×(List Z2)))→Option ((List Int)×Int×(List (Int×(List Z2))))) (v20:Int) (v19:(List Int)) (v32:(List Z2)) (v22:(List (Int×(List Z2)))) (v39:(List Int)):Option ((List Int)×Int×(List (Int×(List Z2)))) :=
 b28 (IntKind.i64.wrap (v20+1)) v39 (mput Zv (v19.getD v20.toNat 0) v32 v22)
def Z6t (K:Nat) (v19:(List Int)) (v13:(List (Int×(List Z2)))) (c27:(List Int)→(List (Int×(List Z2)))→Option ((List Int)×Int×(List (Int×(List Z2))))):Nat→Int→(List Int)→(List (Int×(List Z2)))→Option ((List Int)×Int×(List (Int×(List Z2))))
 | 0,_,_,_=>none
 | k23+1,v20,v21,v22 =>
 if (decide (v20<(v19.length:Int)))=true then
 if (0:Int)≤v20∧v20<(v19.length:Nat) then
 if v20.toNat<v19.length then
 (F174 K ((mget Zv (v19.getD v20.toNat 0) v22).getD []) ((mget Zv (v19.getD v20.toNat 0) v13).getD [])).bind fun v32 =>
 (F134 K v32).bind fun v34 =>
 (F134 K ((mget Zv (v19.getD v20.toNat 0) v22).getD [])).bind fun v36 =>
 (F175 K v34 v36).bind fun v38 =>
 if (!v38)=true then
 if v21.length+[(v19.getD v20.toNat 0)].length≤1073741824 then
 Zfk K (Z6t K v19 v13 c27 k23) v20 v19 v32 v22 (v21++[(v19.getD v20.toNat 0)])
 else none
 else
 Zfk K (Z6t K v19 v13 c27 k23) v20 v19 v32 v22 v21
 else none
 else none
 else
 c27 v21 v22
noncomputable def Zfj (K:Nat) (a1:(List (Int×(List Z2)))) (v13:(List (Int×(List Z2)))):Option ((List Int)×Int×(List (Int×(List Z2)))) :=
 (F173 K v13).bind fun _v17 =>
 (Zbd K v13).bind fun v19 =>
 Z6t K v19 v13 (Z7x K) K 0 [] a1
def Zfl (K:Nat) (v9:(List Z2)) (c15:(List (Int×(List Z2)))→Option ((List Int)×Int×(List (Int×(List Z2))))):Nat→Int→(List (Int×(List Z2)))→Option ((List Int)×Int×(List (Int×(List Z2))))
 | 0,_,_=>none
 | k12+1,v10,v11 =>
 if (decide (v10<(v9.length:Int)))=true then
 if (0:Int)≤v10∧v10<v9.length then
 if (mrow Zv (v9.getD v10.toNat Z5).Trace v11).length+[(v9.getD v10.toNat Z5)].length≤1073741824 then
 (Zfl K v9 c15 k12) (IntKind.i64.wrap (v10+1)) (mput Zv (v9.getD v10.toNat Z5).Trace ((mrow Zv (v9.getD v10.toNat Z5).Trace v11)++[(v9.getD v10.toNat Z5)]) v11)
 else none
 else none
 else
 c15 v11
noncomputable def Zkn (K:Nat) (a0:(List Z2)) (a1:(List (Int×(List Z2)))):Option ((List Int)×Int×(List (Int×(List Z2)))) :=
 (F172 K a0).bind fun v9 =>
 Zfl K v9 (Zfj K a1) K 0 ([]:List (Int×(List Z2)))
def Zko (K:Nat) (a0:(List Z2)) (a1:(List (Int×(List Z2)))) (c7:Option ((List Int)×Int×(List (Int×(List Z2))))):Nat→Int→Option ((List Int)×Int×(List (Int×(List Z2))))
 | 0,_=>none
 | k5+1,v4 =>
 if (decide (v4<(a0.length:Int)))=true then
 if (0:Int)≤v4∧v4<a0.length then
 (F171 K (a0.getD v4.toNat Z5)).bind fun v48 =>
 if (v48 != 0)=true then
 some ([],v48,a1)
 else
 (Zko K a0 a1 c7 k5) (IntKind.i64.wrap (v4+1))
 else none
 else
 c7
noncomputable def F100 (K:Nat) (a0:(List Z2)) (a1:(List (Int×(List Z2)))):Option ((List Int)×Int×(List (Int×(List Z2)))) :=
 Zko K a0 a1 (Zkn K a0 a1) K 0
theorem F100_ok (K:Nat) (a0:(List Z2)) (a1:(List (Int×(List Z2)))) (r:(List Int)×Int×(List (Int×(List Z2)))) (h:F100 K a0 a1=some r):ACall P 100 ⟨[(.ptr 2000 0),(.sl 14 (a0.map Zb) false)],[(2000,(.box [(.map 2001)])),(2001,(.map (Zn Z7 Zw a1)))],(.tup [(.sl 1 (r.1.map Z7) false),(.int .i64 r.2.1)]),[(2000,(.box [(.map 2001)])),(2001,(.map (Zn Z7 Zw r.2.2)))],[]⟩:=by
 refine ac Tryz.func100 Tryz.results100 Tryz.ntmps100 fun w0 F0 p0 S0 β0 Q hret=>?_
 dsimp only [argT]
 unfold F100 at h
 refine AWp.seq<|AWp.region ?_
 refine oc (Zh (v:=(.sl 1 [] false)) rfl rfl) ?_
 refine G1 h fun h=>?_
 refine oc (Z74 (c:=false) rfl u207 rfl rfl rfl) ?_
 refine AOps.nil<|At.next ?_
 refine AWp.cond (b:=false) I (fun hc=>?_) (fun hc=>?_)
 ·cases hc
 refine G1 h fun h=>?_
 refine lb (V:=Int) (X:=Unit) (v:=_) (fun k v=>Zko K a0 a1 (Zkn K a0 a1) k v=some r) (fun v=>Zkn K a0 a1=some r) [(0,_),(1,_),(18,_),(19,_)] [(2000,_),(2001,_)] [(0,_),(1,_)] [(2000,_),(2001,_)] (fun v t=>(20,(.int .i64 v))::t) (fun v s=>s) (fun v t=>t) (fun v s=>s) h ?_ ?_
 ·intro v h
  try dsimp only at h ⊢
  unfold Zkn at h
  refine At.next<|AWp.seq<|AWp.region ?_
  refine oc (Zet rfl) ?_
  refine AOps.ghost (fun a w h=>gk ⟨[(0,_),(1,_),(30,_)],[(30,_),(2000,_),(2001,_)]⟩ (Zs9 (m:=30) (sz:=14) I I a w (gk ⟨[(0,_),(1,_),(30,_)],[(30,_),(2000,_),(2001,_)]⟩ h))) ?_
  refine G1 h fun h=>?_
  have⟨v9,hv9,h⟩:=Zd h
  refine oc (Z15 Tryz.call172 (F172_ok (h:=hv9))) ?_
  refine G1 h fun h=>?_
  refine lb (V:=Int×(List (Int×(List Z2)))) (X:=(List (Int×(List Z2)))) (v:=(_,_)) (fun k v=>Zfl K v9 (Zfj K a1) k v.1 v.2=some r) (fun v=>Zfj K a1 v=some r) [(0,_),(9,_),(32,_),(33,_)] [(2000,_),(2001,_)] [(0,_),(9,_)] [(2000,_),(2001,_)] (fun v t=>(34,(.int .i64 v.1))::t) (fun v s=>(30,(.rmap 14 (encKR Z7 Zb v.2) none))::s) (fun v t=>t) (fun v s=>(30,(.rmap 14 (encKR Z7 Zb v) none))::s) h ?_ ?_
  ·intro v h
   revert h
   revert v
   intro v13 h
   try dsimp only at h ⊢
   unfold Zfj at h
   refine At.next<|AWp.seq<|AWp.region ?_
   refine oc (Zh (v:=(.sl 1 [] true)) rfl rfl) ?_
   refine G1 h fun h=>?_
   refine AOps.ghost (fun a w h=>gk ⟨[(0,_),(9,_),(12,_),(49,_)],[(30,_),(2000,_),(2001,_)]⟩ (Z66 (m:=30) (gk ⟨[(0,(.ptr 2000 0)),(9,(.map 30)),(12,(.sl 1 [] true)),(49,(.map 30))],[(30,(.map (Zn Z7 Zw v13))),(2000,(.box [(.map 2001)])),(2001,(.map (Zn Z7 Zw a1)))]⟩ (Ziv (m:=30) (l:=v13) I I a w (gk ⟨[(0,_),(9,_),(12,_),(49,_)],[(30,_),(2000,_),(2001,_)]⟩ h))))) ?_
   have⟨v17,hv17,h⟩:=Zd h
   refine oc (Z1d (d:=some 50) (c:=⟨_,[(30,_)],(.clo 234 [(.ptr 50 0)]),[(30,(.fmap (Zn Z7 Zw v13))),(50,(.box [(.map 30)]))],[50]⟩) (ar:=[_]) (caps:=[]) (news:=[50]) (forg:=[]) Tryz.call173 (((F173_ok (h:=hv17)).sw 2000 30).sw 1 50) rfl rfl ⟨rfl,trivial⟩ rfl ⟨rfl,trivial⟩ rfl) ?_
   have⟨v19,hv19,h⟩:=Zd h
   refine oc (Z1d (d:=some 51) (c:=⟨_,[(50,_),(30,_)],(.vs 51),[(50,(.box [(.map 30)])),(30,(.fmap (Zn Z7 Zw v13))),(51,(.vec 1 (List.map Z7 v19)))],[51]⟩) (ar:=[_]) (caps:=[]) (news:=[51]) (forg:=[]) Tryz.call123 ((((Zro (h:=hv19)).sw 2000 50).sw 2001 30).sw 5 51) rfl rfl ⟨rfl,trivial⟩ rfl ⟨rfl,rfl,trivial⟩ rfl) ?_
   refine oc (Z2t rfl u38 rfl rfl) ?_
   refine G1 h fun h=>?_
   refine AWp.ghost (fun a w h=>gk ⟨[(0,_),(9,_),(12,_),(51,_),(52,_),(53,_)],[(12,_),(30,_),(89,_),(2000,_),(2001,_)]⟩ (Z3x (a:=51) (b:=89) (gk ⟨[(0,_),(9,_),(12,_),(51,_),(52,_),(53,_)],[(12,_),(30,_),(51,_),(2000,_),(2001,_)]⟩ (gk ⟨[(0,_),(9,_),(12,_),(51,_),(52,_),(53,_)],[(12,_),(30,_),(51,_),(2000,_),(2001,_)]⟩ (Z38 (k:=12) (m:=12) (sz:=1) (gk ⟨[(12,_),(0,_),(9,_),(51,_),(52,_),(53,_)],[(30,_),(51,_),(2000,_),(2001,_)]⟩ h)))))) ?_
   refine lb (V:=Int×(List Int)×(List (Int×(List Z2)))) (X:=(List Int)×(List (Int×(List Z2)))) (v:=(_,_,_)) (fun k v=>Z6t K v19 v13 (Z7x K) k v.1 v.2.1 v.2.2=some r) (fun v=>Z7x K v.1 v.2=some r) [(0,_),(9,_),(12,_),(51,_),(52,_)] [(30,_),(89,_),(2000,_)] [(12,_)] [(2000,_)] (fun v t=>(53,(.int .i64 v.1))::t) (fun v s=>(12,(.vec 1 (List.map Z7 v.2.1)))::(2001,(.map (Zn Z7 Zw v.2.2)))::s) (fun v t=>t) (fun v s=>(12,(.vec 1 (List.map Z7 v.1)))::(2001,(.map (Zn Z7 Zw v.2)))::s) h ?_ ?_
   ·intro v h
    obtain⟨v24,v25⟩:=v
    try dsimp only at h ⊢
    unfold Z7x at h
    refine G1 h fun h=>?_
    refine AWp.ret<|At.ghost (fun a w h=>gk ⟨[(4,_),(5,_)],[(2000,_),(2001,_)]⟩ (Z1j (m:=12) (sz:=1) (gk ⟨[(4,_),(5,_)],[(12,_),(2000,_),(2001,_)]⟩ h))) ?_
    exact RT
   intro N k23 v h IH23 J23
   obtain⟨v20,v21,v22⟩:=v
   try dsimp only at h IH23 J23 ⊢
   cases k23 with
   | zero=>cases h
   | succ k23 =>
    rw [Z6t] at h
    refine Mc h (fun h=>?_) (fun h=>?_)
    ·refine AWp.skip<|At.next<|AWp.seq<|AWp.block ?_
     refine G1 h fun h=>?_
     refine oD (Z2h (a:=(v19.getD v20.toNat 0)) rfl mt297 rfl rfl (.inl rfl) rfl rfl) ?_
     refine G1 h fun h=>?_
     refine oD (Z2h (a:=(v19.getD v20.toNat 0)) rfl mt297 rfl rfl (.inr rfl) rfl rfl) ?_
     have⟨v32,hv32,h⟩:=Zd h
     refine oD (Z15 Tryz.call174 (F174_ok (h:=hv32))) ?_
     refine G1 h fun h=>?_
     have⟨v34,hv34,h⟩:=Zd h
     refine oD (Z15 Tryz.call134 (Zge (h:=hv34))) ?_
     refine G1 h fun h=>?_
     refine oD (Z2h (a:=(v19.getD v20.toNat 0)) rfl mt297 rfl rfl (.inl rfl) rfl rfl) ?_
     have⟨v36,hv36,h⟩:=Zd h
     refine oD (Z15 Tryz.call134 (Zge (h:=hv36))) ?_
     have⟨v38,hv38,h⟩:=Zd h
     refine oD (Z15 Tryz.call175 (F175_ok (h:=hv38))) ?_
     refine G1 h fun h=>?_
     refine jn (V:=(List Int)) (fun v=>Zfk K (Z6t K v19 v13 (Z7x K) k23) v20 v19 v32 v22 v=some r) [(0,_),(9,_),(12,_),(14,_),(15,_),(51,_),(52,_),(53,_)] [(30,_),(89,_),(2000,_),(2001,_)] (fun v t=>t) (fun v s=>(12,(.vec 1 (List.map Z7 v)))::s) ?_ ?_
     ·intro v h
      revert h
      revert v
      intro v39 h
      try dsimp only at h ⊢
      unfold Zfk at h
      refine G1 h fun h=>?_
      refine oc (Z1v (a:=(v19.getD v20.toNat 0)) (b:=v32) (kv:=(.int .i64 (v19.getD v20.toNat 0))) (vv:=(.sl 14 (v32.map Zb) false)) mt297 rfl rfl rfl rfl rfl rfl) ?_
      refine AOps.nil<|Z17<|At.next ?_
      exact M2 h (k:=fun h=>wkx (IH23 _ (_,_,_) Z1p h))
     intro J40
     refine cnd h (fun h=>?_) (fun h=>?_)
     ·refine G1 h fun h=>?_
      refine oc (Zj (vs:=[_]) (enc:=Z7) (l:=[(v19.getD v20.toNat 0)]) rfl Z65 rfl rfl ⟨rfl,trivial⟩ rfl Z1u rfl rfl rfl rfl) ?_
      have⟨hg41,h⟩:=Zg h
      refine oc (Z1g (m:=12) rfl rfl Z65 rfl u38 rfl rfl rfl rfl (oneRead rfl) Z1u hg41) ?_
      exact M2 h (k:=fun h=>wkx (J40 _ h))
     refine AWp.skip ?_
     exact wkx (J40 _ h)
    refine AWp.exit<|Zz ?_
    exact wkx (J23 (_,_) h)
  intro N k12 v h IH12 J12
  obtain⟨v10,v11⟩:=v
  try dsimp only at h IH12 J12 ⊢
  cases k12 with
  | zero=>cases h
  | succ k12 =>
   rw [Zfl] at h
   refine Mc h (fun h=>?_) (fun h=>?_)
   ·refine AWp.skip<|At.next<|AWp.seq<|AWp.block ?_
    refine G1 h fun h=>?_
    refine oc (Z2a rfl z94 rfl rfl rfl) ?_
    refine oc (Zm (ds:=_)) ?_
    refine G1 h fun h=>?_
    refine oD (Zsv (l:=v11) (a:=(v9.getD v10.toNat Z5).Trace) (kv:=(.int .i64 (v9.getD v10.toNat Z5).Trace)) (enc:=Zb) rfl rfl rfl rmt297 rfl rfl rfl rfl) ?_
    refine G1 h fun h=>?_
    refine oD (Zj (vs:=[_]) (enc:=Zb) (l:=[(v9.getD v10.toNat Z5)]) rfl Zlr rfl rfl ⟨rfl,trivial⟩ rfl Z1t rfl rfl rfl rfl) ?_
    have⟨hg44,h⟩:=Zg h
    refine oD (Z1g (m:=44) rfl rfl Zlr rfl u47 rfl rfl rfl rfl (oneRead rfl) Z1t hg44) ?_
    refine oD (Zmf (l:=v11) (a:=(v9.getD v10.toNat Z5).Trace) (r:=((mrow Zv (v9.getD v10.toNat Z5).Trace v11)++[(v9.getD v10.toNat Z5)])) (kv:=(.int .i64 (v9.getD v10.toNat Z5).Trace)) (enc:=Zb) rfl rmt297 rfl rfl rfl rfl rfl rfl) ?_
    refine AOpsE.nil (by kernel_rfl) I ?_
    refine Z17<|At.next ?_
    exact M2 h (k:=fun h=>wkx (IH12 _ (_,_) Z1p h))
   refine AWp.exit<|Zz ?_
   exact wkx (J12 _ h)
 intro N k5 v h IH5 J5
 revert h
 revert v
 intro v4 h
 try dsimp only at h IH5 J5 ⊢
 cases k5 with
 | zero=>cases h
 | succ k5 =>
  rw [Zko] at h
  refine Mc h (fun h=>?_) (fun h=>?_)
  ·refine AWp.skip<|At.next<|AWp.seq<|AWp.block ?_
   refine G1 h fun h=>?_
   refine oc (Z2a rfl z94 rfl rfl rfl) ?_
   refine oc (Zm (ds:=_)) ?_
   refine G1 h fun h=>?_
   have⟨v48,hv48,h⟩:=Zd h
   refine oc (Z15 Tryz.call171 (F171_ok (h:=hv48))) ?_
   refine Mc h (fun h=>?_) (fun h=>?_)
   ·refine G1 h fun h=>?_
    refine oc (Zh (v:=(.sl 1 [] false)) rfl rfl) ?_
    exact GR
   refine AWp.skip<|Z17<|At.next ?_
   exact M2 h (k:=fun h=>wkx (IH5 _ _ Z1p h))
  refine AWp.exit<|Zz ?_
  exact wkx (J5 () h)
def Zkp (_K:Nat):Option (Bool) :=
 some true
def Zkq (K:Nat) (a0:(List Int)) (a1:(List Int)) (c4:Option (Bool)):Nat→Int→Option (Bool)
 | 0,_=>none
 | k2+1,v1 =>
 if (decide (v1<(a0.length:Int)))=true then
 if (0:Int)≤v1∧v1<a0.length then
 if (0:Int)≤v1∧v1<a1.length then
 if ((a0.getD v1.toNat 0) != (a1.getD v1.toNat 0))=true then
 some false
 else
 (Zkq K a0 a1 c4 k2) (IntKind.i64.wrap (v1+1))
 else none
 else none
 else
 c4
def Zol (K:Nat) (a0:(List Int)) (a1:(List Int)):Option (Bool) :=
 if ((a0.length:Int) != (a1.length:Int))=true then
 some false
 else
 Zkq K a0 a1 (Zkp K) K 0
theorem Zb5 (K:Nat) (a0:(List Int)) (a1:(List Int)) (r:Bool) (h:Zol K a0 a1=some r):ACall P 101 ⟨[(.sl 1 (a0.map Z7) false),(.sl 1 (a1.map Z7) false)],[],(.bool r),[],[]⟩:=by
 refine ac Tryz.func101 Tryz.results101 Tryz.ntmps101 fun w0 F0 p0 S0 β0 Q hret=>?_
 dsimp only [argT]
 unfold Zol at h
 refine Mc h (fun h=>?_) (fun h=>?_)
 ·exact GR
 refine G1 h fun h=>?_
 refine lb (V:=Int) (X:=Unit) (v:=_) (fun k v=>Zkq K a0 a1 (Zkp K) k v=some r) (fun v=>Zkp K=some r) [(0,_),(1,_)] [] [] [] (fun v t=>(5,(.int .i64 v))::t) (fun v s=>s) (fun v t=>t) (fun v s=>s) h ?_ ?_
 ·intro v h
  try dsimp only at h ⊢
  unfold Zkp at h
  exact GR
 intro N k2 v h IH2 J2
 revert h
 revert v
 intro v1 h
 try dsimp only at h IH2 J2 ⊢
 cases k2 with
 | zero=>cases h
 | succ k2 =>
  rw [Zkq] at h
  refine Mc h (fun h=>?_) (fun h=>?_)
  ·refine AWp.skip<|At.next<|AWp.seq<|AWp.block ?_
   refine Mc h (fun h=>?_) (fun h=>?_)
   ·exact GR
   refine AWp.skip<|Z17<|At.next ?_
   exact M2 h (k:=fun h=>wkx (IH2 _ _ Z1p h))
  refine AWp.exit<|Zz ?_
  exact wkx (J2 () h)
def F237 (K:Nat) (a0:Zl) (a1:Int):Option (Int) :=
 (Zit K a0.Id a1).bind fun v2 =>
 some v2
theorem F237_ok (K:Nat) (a0:Zl) (a1:Int) (r:Int) (h:F237 K a0 a1=some r):ACall P 237 ⟨[(Z20 a0),(.int .i64 a1)],[],(.int .i64 r),[],[]⟩:=by
 refine ac Tryz.func237 Tryz.results237 Tryz.ntmps237 fun w0 F0 p0 S0 β0 Q hret=>?_
 dsimp only [argT]
 unfold F237 at h
 refine G1 h fun h=>?_
 have⟨v2,hv2,h⟩:=Zd h
 refine oc (Z15 Tryz.call116 (Z3p (h:=hv2))) ?_
 exact GR
def Zgr (K:Nat) (a0:(List Zl)) (a1:Int) (v4:Int):Option (Int×Bool) :=
 if (decide (v4<(a0.length:Int)))=true then
 if (0:Int)≤v4∧v4<a0.length then
 (F237 K (a0.getD v4.toNat Z6) a1).bind fun v9 =>
 some (v4,(v9==0))
 else none
 else
 some (v4,false)
def Zfs (_K:Nat) (b10:Int→Int→Option (Int×Bool)) (v15:Int) (v16:Int):Option (Int×Bool) :=
 b10 v15 v16
def Zdz (K:Nat) (a0:(List Zl)) (a1:Int) (c6:Int→Option (Int×Bool)):Nat→Int→Int→Option (Int×Bool)
 | 0,_,_=>none
 | k3+1,v1,v2 =>
 if (decide (v1<v2))=true then
 if (0:Int)≤1 then
 if (0:Int)≤(IntKind.i64.wrap ((IntKind.u64.wrap (IntKind.i64.wrap (v1+v2))).fdiv (2 ^ (min (1:Int).toNat IntKind.u64.bits))))∧(IntKind.i64.wrap ((IntKind.u64.wrap (IntKind.i64.wrap (v1+v2))).fdiv (2 ^ (min (1:Int).toNat IntKind.u64.bits))))<a0.length then
 (F237 K (a0.getD (IntKind.i64.wrap ((IntKind.u64.wrap (IntKind.i64.wrap (v1+v2))).fdiv (2 ^ (min (1:Int).toNat IntKind.u64.bits)))).toNat Z6) a1).bind fun v14 =>
 if (decide (v14<0))=true then
 Zfs K (Zdz K a0 a1 c6 k3) (IntKind.i64.wrap ((IntKind.i64.wrap ((IntKind.u64.wrap (IntKind.i64.wrap (v1+v2))).fdiv (2 ^ (min (1:Int).toNat IntKind.u64.bits))))+1)) v2
 else
 Zfs K (Zdz K a0 a1 c6 k3) v1 (IntKind.i64.wrap ((IntKind.u64.wrap (IntKind.i64.wrap (v1+v2))).fdiv (2 ^ (min (1:Int).toNat IntKind.u64.bits))))
 else none
 else none
 else
 c6 v1
def F236 (K:Nat) (a0:(List Zl)) (a1:Int):Option (Int×Bool) :=
 Zdz K a0 a1 (Zgr K a0 a1) K 0 (a0.length:Int)
theorem F236_ok (K:Nat) (a0:(List Zl)) (a1:Int) (r:Int×Bool) (h:F236 K a0 a1=some r):ACall P 236 ⟨[(.sl 4 (a0.map Z20) false),(.int .i64 a1),(.clo 237 [])],[],(.tup [(.int .i64 r.1),(.bool r.2)]),[],[]⟩:=by
 refine ac Tryz.func236 Tryz.results236 Tryz.ntmps236 fun w0 F0 p0 S0 β0 Q hret=>?_
 dsimp only [argT]
 unfold F236 at h
 refine G1 h fun h=>?_
 refine lb (V:=Int×Int) (X:=Int) (v:=(_,_)) (fun k v=>Zdz K a0 a1 (Zgr K a0 a1) k v.1 v.2=some r) (fun v=>Zgr K a0 a1 v=some r) [(0,_),(1,_),(2,_),(8,_)] [] [(0,_),(1,_),(2,_),(8,_)] [] (fun v t=>(9,(.int .i64 v.1))::(10,(.int .i64 v.2))::t) (fun v s=>s) (fun v t=>(9,(.int .i64 v))::t) (fun v s=>s) h ?_ ?_
 ·intro v h
  revert h
  revert v
  intro v4 h
  try dsimp only at h ⊢
  unfold Zgr at h
  refine Ms h (fun h=>?_) (fun h=>?_)
  ·refine G1 h fun h=>?_
   have⟨v9,hv9,h⟩:=Zd h
   refine oT (Z15 Tryz.call237 (F237_ok (h:=hv9))) ?_
   exact GR
  exact GR
 intro N k3 v h IH3 J3
 obtain⟨v1,v2⟩:=v
 try dsimp only at h IH3 J3 ⊢
 cases k3 with
 | zero=>cases h
 | succ k3 =>
  rw [Zdz] at h
  refine Mc h (fun h=>?_) (fun h=>?_)
  ·refine AWp.skip<|At.next<|AWp.block ?_
   refine G1 h fun h=>?_
   refine oc (Z2l rfl us3 u241 rfl) ?_
   have⟨hg11,h⟩:=Zg h
   refine oc (Zrj (k:=.u64) (j:=.u64) (a:=(IntKind.u64.wrap (IntKind.i64.wrap (v1+v2)))) (b:=1) (c:=((IntKind.u64.wrap (IntKind.i64.wrap (v1+v2))).fdiv (2 ^ (min (1:Int).toNat IntKind.u64.bits)))) rfl rfl rfl rfl hg11) ?_
   refine oc (Z2l rfl us241 u3 rfl) ?_
   refine G1 h fun h=>?_
   have⟨v14,hv14,h⟩:=Zd h
   refine oc (Z15 Tryz.call237 (F237_ok (h:=hv14))) ?_
   refine G1 h fun h=>?_
   refine jn (V:=Int×Int) (fun v=>Zfs K (Zdz K a0 a1 (Zgr K a0 a1) k3) v.1 v.2=some r) [(0,_),(1,_),(2,_),(8,_)] [] (fun v t=>(9,(.int .i64 v.1))::(10,(.int .i64 v.2))::t) (fun v s=>s) ?_ ?_
   ·intro v h
    obtain⟨v15,v16⟩:=v
    try dsimp only at h ⊢
    unfold Zfs at h
    refine Z17 ?_
    exact wkx (IH3 _ (_,_) Z1p h)
   intro J17
   refine cnd h (fun h=>?_) (fun h=>?_)
   ·exact M2 h (k:=fun h=>wkx (J17 (_,_) h))
   exact M2 h (k:=fun h=>wkx (J17 (_,_) h))
  refine AWp.exit<|Zz ?_
  exact wkx (J3 _ h)
def F177 (K:Nat) (a0:Zq) (a1:Int):Option (Int×Bool) :=
 (F236 K a0.Nodes a1).bind fun v2 =>
 some (v2.1,v2.2)
theorem Zou (K:Nat) (a0:Zq) (a1:Int) (r:Int×Bool) (h:F177 K a0 a1=some r):ACall P 177 ⟨[(Z1b a0),(.int .i64 a1)],[],(.tup [(.int .i64 r.1),(.bool r.2)]),[],[]⟩:=by
 refine ac Tryz.func177 Tryz.results177 Tryz.ntmps177 fun w0 F0 p0 S0 β0 Q hret=>?_
 dsimp only [argT]
 unfold F177 at h
 refine G1 h fun h=>?_
 have⟨v2,hv2,h⟩:=Zd h
 refine oc (Z15 Tryz.call236 (F236_ok (h:=hv2))) ?_
 exact GR
def Zdl (_K:Nat):Option (Int) :=
 some (Int.negSucc 0)
def Zbh (K:Nat) (a0:(List Int)) (a1:Int) (c4:Option (Int)):Nat→Int→Option (Int)
 | 0,_=>none
 | k2+1,v1 =>
 if (decide (v1<(a0.length:Int)))=true then
 if (0:Int)≤v1∧v1<a0.length then
 if (a1==(a0.getD v1.toNat 0))=true then
 some v1
 else
 (Zbh K a0 a1 c4 k2) (IntKind.i64.wrap (v1+1))
 else none
 else
 c4
def F126 (K:Nat) (a0:(List Int)) (a1:Int):Option (Int) :=
 Zbh K a0 a1 (Zdl K) K 0
theorem F126_ok (K:Nat) (a0:(List Int)) (a1:Int) (r:Int) (h:F126 K a0 a1=some r):ACall P 126 ⟨[(.sl 1 (a0.map Z7) false),(.int .i64 a1)],[],(.int .i64 r),[],[]⟩:=by
 refine ac Tryz.func126 Tryz.results126 Tryz.ntmps126 fun w0 F0 p0 S0 β0 Q hret=>?_
 dsimp only [argT]
 unfold F126 at h
 refine G1 h fun h=>?_
 refine lb (V:=Int) (X:=Unit) (v:=_) (fun k v=>Zbh K a0 a1 (Zdl K) k v=some r) (fun v=>Zdl K=some r) [(0,_),(1,_),(7,_)] [] [] [] (fun v t=>(8,(.int .i64 v))::t) (fun v s=>s) (fun v t=>t) (fun v s=>s) h ?_ ?_
 ·intro v h
  try dsimp only at h ⊢
  unfold Zdl at h
  exact GR
 intro N k2 v h IH2 J2
 revert h
 revert v
 intro v1 h
 try dsimp only at h IH2 J2 ⊢
 cases k2 with
 | zero=>cases h
 | succ k2 =>
  rw [Zbh] at h
  refine Mc h (fun h=>?_) (fun h=>?_)
  ·refine AWp.skip<|At.next<|AWp.seq<|AWp.block ?_
   refine Mc h (fun h=>?_) (fun h=>?_)
   ·exact GR
   refine AWp.skip<|Z17<|At.next ?_
   exact M2 h (k:=fun h=>wkx (IH2 _ _ Z1p h))
  refine AWp.exit<|Zz ?_
  exact wkx (J2 () h)
def F54 (K:Nat) (a0:(List Int)) (a1:Int):Option (Bool) :=
 (F126 K a0 a1).bind fun v2 =>
 some (decide (v2 ≥ 0))
theorem Zmu (K:Nat) (a0:(List Int)) (a1:Int) (r:Bool) (h:F54 K a0 a1=some r):ACall P 54 ⟨[(.sl 1 (a0.map Z7) false),(.int .i64 a1)],[],(.bool r),[],[]⟩:=by
 refine ac Tryz.func54 Tryz.results54 Tryz.ntmps54 fun w0 F0 p0 S0 β0 Q hret=>?_
 dsimp only [argT]
 unfold F54 at h
 refine G1 h fun h=>?_
 have⟨v2,hv2,h⟩:=Zd h
 refine oc (Z15 Tryz.call126 (F126_ok (h:=hv2))) ?_
 exact GR
def Zg7 (_K:Nat) (v7:(List Int)):Option ((List Int)) :=
 some v7
def Zfm (_K:Nat) (b10:Int→Bool→(List Int)→Option ((List Int))) (v15:Int×Bool) (v16:(List Int)):Option ((List Int)) :=
 b10 v15.1 v15.2 v16
def Zdg (K:Nat) (a0:Zq) (c9:(List Int)→Option ((List Int))):Nat→Int→Bool→(List Int)→Option ((List Int))
 | 0,_,_,_=>none
 | k6+1,v3,v4,v5 =>
 if v4=true then
 if (0:Int)≤v3∧v3<a0.Nodes.length then
 if ((a0.Nodes.getD v3.toNat Z6).Parent==0)=true then
 c9 v5
 else
 (F54 K v5 (a0.Nodes.getD v3.toNat Z6).Parent).bind fun v13 =>
 if v13=true then
 c9 v5
 else
 (F177 K a0 (a0.Nodes.getD v3.toNat Z6).Parent).bind fun v15 =>
 if v15.2=true then
 if v5.length+[(a0.Nodes.getD v3.toNat Z6).Parent].length≤1073741824 then
 Zfm K (Zdg K a0 c9 k6) v15 (v5++[(a0.Nodes.getD v3.toNat Z6).Parent])
 else none
 else
 Zfm K (Zdg K a0 c9 k6) v15 v5
 else none
 else
 c9 v5
def F102 (K:Nat) (a0:Zq) (a1:Int):Option ((List Int)) :=
 (F177 K a0 a1).bind fun v2 =>
 Zdg K a0 (Zg7 K) K v2.1 v2.2 []
theorem F102_ok (K:Nat) (a0:Zq) (a1:Int) (r:(List Int)) (h:F102 K a0 a1=some r):ACall P 102 ⟨[(Z1b a0),(.int .i64 a1)],[],(.sl 1 (r.map Z7) false),[],[]⟩:=by
 refine ac Tryz.func102 Tryz.results102 Tryz.ntmps102 fun w0 F0 p0 S0 β0 Q hret=>?_
 dsimp only [argT]
 unfold F102 at h
 refine G1 h fun h=>?_
 refine oc (Zh (v:=(.sl 1 [] false)) rfl rfl) ?_
 refine G1 h fun h=>?_
 refine oc (Zh (v:=(.sl 1 [] true)) rfl rfl) ?_
 refine G1 h fun h=>?_
 have⟨v2,hv2,h⟩:=Zd h
 refine oc (Z15 Tryz.call177 (Zou (h:=hv2))) ?_
 refine G1 h fun h=>?_
 refine AWp.ghost (fun a w h=>gk ⟨[(2,_),(5,_),(6,_),(7,_)],[(2,_),(5,_)]⟩ (Z38 (k:=5) (m:=5) (sz:=1) (gk ⟨[(5,_),(2,_),(6,_),(7,_)],[(2,_)]⟩ h))) ?_
 refine lb (V:=Int×Bool×(List Int)) (X:=(List Int)) (v:=(_,_,_)) (fun k v=>Zdg K a0 (Zg7 K) k v.1 v.2.1 v.2.2=some r) (fun v=>Zg7 K v=some r) [(2,_),(5,_)] [(2,_)] [(5,_)] [] (fun v t=>(6,(.int .i64 v.1))::(7,(.bool v.2.1))::t) (fun v s=>(5,(.vec 1 (List.map Z7 v.2.2)))::s) (fun v t=>t) (fun v s=>(5,(.vec 1 (List.map Z7 v)))::s) h ?_ ?_
 ·intro v h
  revert h
  revert v
  intro v7 h
  try dsimp only at h ⊢
  unfold Zg7 at h
  refine G1 h fun h=>?_
  refine AWp.ret<|At.ghost (fun a w h=>gk ⟨[(4,_)],[]⟩ (Z1j (m:=5) (sz:=1) (gk ⟨[(4,_)],[(5,_)]⟩ h))) ?_
  exact RT
 intro N k6 v h IH6 J6
 obtain⟨v3,v4,v5⟩:=v
 try dsimp only at h IH6 J6 ⊢
 cases k6 with
 | zero=>cases h
 | succ k6 =>
  rw [Zdg] at h
  refine Mc h (fun h=>?_) (fun h=>?_)
  ·refine AWp.skip<|At.next<|AWp.block ?_
   refine Ms h (fun h=>?_) (fun h=>?_)
   ·refine G1 h fun h=>?_
    refine AWp.cond (b:=true) I (fun hc=>?_) (fun hc=>?_)
    rotate_left
    ·cases hc
    refine AWp.exit<|Zz<|At.over I ?_
    exact wkx (J6 _ h)
   refine G1 h fun h=>?_
   have⟨v13,hv13,h⟩:=Zd h
   refine oT (Z2r (rd:=[(5,(.vec 1 (List.map Z7 v5)))]) (ar:=[_,_]) Tryz.call54 (Zmu (h:=hv13)) rfl rfl ⟨rfl,rfl,trivial⟩ (Z2f ⟨rfl,trivial⟩) rfl rfl rfl) ?_
   refine Mc h (fun h=>?_) (fun h=>?_)
   ·refine AWp.exit<|Zz<|At.over I ?_
    exact wkx (J6 _ h)
   refine G1 h fun h=>?_
   have⟨v15,hv15,h⟩:=Zd h
   refine oc (Z15 Tryz.call177 (Zou (h:=hv15))) ?_
   refine G1 h fun h=>?_
   refine jn (V:=(List Int)) (fun v=>Zfm K (Zdg K a0 (Zg7 K) k6) v15 v=some r) [(2,_),(5,_),(6,_),(7,_)] [(2,_)] (fun v t=>t) (fun v s=>(5,(.vec 1 (List.map Z7 v)))::s) ?_ ?_
   ·intro v h
    revert h
    revert v
    intro v16 h
    try dsimp only at h ⊢
    unfold Zfm at h
    refine Z17 ?_
    exact wkx (IH6 _ (_,_,_) Z1p h)
   intro J17
   refine cnd h (fun h=>?_) (fun h=>?_)
   ·refine G1 h fun h=>?_
    refine oc (Zj (vs:=[_]) (enc:=Z7) (l:=[(a0.Nodes.getD v3.toNat Z6).Parent]) rfl Z65 rfl rfl ⟨rfl,trivial⟩ rfl Z1u rfl rfl rfl rfl) ?_
    have⟨hg18,h⟩:=Zg h
    refine oc (Z1g (m:=5) rfl rfl Z65 rfl u38 rfl rfl rfl rfl (oneRead rfl) Z1u hg18) ?_
    exact M2 h (k:=fun h=>wkx (J17 _ h))
   refine AWp.skip ?_
   exact wkx (J17 _ h)
  refine AWp.exit<|Zz ?_
  exact wkx (J6 _ h)
def F154 (_K:Nat) (a0:Zq) (a1:Int):Option (Zq×Int) :=
 some (a0,a1)
theorem F154_ok (K:Nat) (a0:Zq) (a1:Int) (r:Zq×Int) (h:F154 K a0 a1=some r):ACall P 154 ⟨[(Z1b a0),(.int .i64 a1)],[],(.clo 212 [(.ip (Z1b r.1).cells),(.ip [(.int .i64 r.2)])]),[],[]⟩:=by
 refine ac Tryz.func154 Tryz.results154 Tryz.ntmps154 fun w0 F0 p0 S0 β0 Q hret=>?_
 dsimp only [argT]
 unfold F154 at h
 refine G1 h fun h=>?_
 refine oc (Z2k (vs:=[(.ptr 2 0),(.ptr 3 0)]) rfl ⟨rfl,rfl,trivial⟩) ?_
 refine G1 h fun h=>?_
 refine AWp.ret<|At.ghost (fun a w h=>gk ⟨[(4,_)],[]⟩ (Z3h (m:=3) (cs:=[(.int .i64 a1)]) I a w (gk ⟨[(4,_)],[(3,_)]⟩ (gk ⟨[(4,(.clo 212 [(.ip (Z1b a0).cells),(.ptr 3 0)]))],[(3,(.box [(.int .i64 a1)]))]⟩ (Z3h (m:=2) (cs:=(Z1b a0).cells) I a w (gk ⟨[(4,_)],[(2,_),(3,_)]⟩ h)))))) ?_
 have h:=Option.some.inj h
 subst h
 refine (hret _ ?_).1
 exact⟨[(.clo 212 [(.ip (Z1b a0).cells),(.ip [(.int .i64 a1)])])],⟨I,J0⟩,I,J0⟩
def Zfn (_K:Nat) (v12:(List Int)) (v13:(List (Int×Bool))):Option ((List (Int×Bool))×(List Int)×Bool) :=
 some (v13,v12,true)
def Zfo (K:Nat) (a1:Zq) (v5:Int×Bool) (b900:Int→Zq→Zq→(List (Int×Bool))→(Int→(List Int)→Option ((List Int)))→(List Int)→Option ((List (Int×Bool))×(List Int)×Bool)) (a2:Zq) (a899:Int→(List Int)→Option ((List Int))) (c15:(List Int)→(List (Int×Bool))→Option ((List (Int×Bool))×(List Int)×Bool)):Nat→Int→(List Int)→(List (Int×Bool))→Option ((List (Int×Bool))×(List Int)×Bool)
 | 0,_,_,_=>none
 | k11+1,v8,v9,v10 =>
 if (decide (v8<((a1.Nodes.getD v5.1.toNat Z6).Children.length:Int)))=true then
 if (0:Int)≤v8∧v8<(a1.Nodes.getD v5.1.toNat Z6).Children.length then
 (b900 ((a1.Nodes.getD v5.1.toNat Z6).Children.getD v8.toNat 0) a2 a2 v10 a899 v9).bind fun v19 =>
 if (!v19.2.2)=true then
 some (v19.1,v19.2.1,false)
 else
 (Zfo K a1 v5 b900 a2 a899 c15 k11) (IntKind.i64.wrap (v8+1)) v19.2.1 v19.1
 else none
 else
 c15 v9 v10
def F213:Nat→Int→Zq→Zq→(List (Int×Bool))→(Int→(List Int)→Option ((List Int)))→(List Int)→Option ((List (Int×Bool))×(List Int)×Bool)
 | 0,_,_,_,_,_,_=>none
 | K+1,a0,a1,a2,a3,a899,a900 =>
 (F177 K a1 a0).bind fun v5 =>
 if (!v5.2)=true then
 some (a3,a900,true)
 else
 if ((mget Zv a0 a3).getD false)=true then
 some (a3,a900,true)
 else
 (a899 a0 a900).bind fun v6 =>
 if (0:Int)≤v5.1∧v5.1<a1.Nodes.length then
 Zfo K a1 v5 (F213 K) a2 a899 (Zfn K) K 0 v6 (mput Zv a0 true a3)
 else none
theorem F213_ok:∀(K:Nat) (a0:Int) (a1:Zq) (a2:Zq) (a3:(List (Int×Bool))) (a899:Int→(List Int)→Option ((List Int))) (a900:(List Int)) (r:(List (Int×Bool))×(List Int)×Bool) (lr:Go.Loop) (_h:F213 K a0 a1 a2 a3 a899 a900=some r) (_hps:lr.params.size=1) (_hy:∀(x0:Int) (a900:(List Int)) (w:(List Int)),a899 x0 a900=some w→YCall P lr 1000 ⟨[(.int .i64 x0)],[(1000,(.loop lr [2] [(.ptr 1001 0)])),(0,(.vec 1 (List.map Z7 a900))),(1001,(.box [(.vs 0)]))],.bool true,[(1000,(.loop lr [2] [(.ptr 1001 0)])),(0,(.vec 1 (List.map Z7 w))),(1001,(.box [(.vs 0)]))],[0]⟩),ACall P 213 ⟨[(.int .i64 a0),(.ip (Z1b a1).cells),(.ptr 2000 0),(.ptr 2001 0),(.ptr 2002 0)],[(2000,(.box [(.map 2003)])),(2001,(.box [(.yld 1000)])),(2002,(.box [(.clo 213 [(.ip (Z1b a2).cells),(.ptr 2000 0),(.ptr 2001 0),(.ptr 2002 0)])])),(2003,(.map (Zn Z7 Zt a3))),(1000,(.loop lr [2] [(.ptr 1001 0)])),(0,(.vec 1 (List.map Z7 a900))),(1001,(.box [(.vs 0)]))],(.bool r.2.2),[(2000,(.box [(.map 2003)])),(2001,(.box [(.yld 1000)])),(2002,(.box [(.clo 213 [(.ip (Z1b a2).cells),(.ptr 2000 0),(.ptr 2001 0),(.ptr 2002 0)])])),(2003,(.map (Zn Z7 Zt r.1))),(1000,(.loop lr [2] [(.ptr 1001 0)])),(0,(.vec 1 (List.map Z7 r.2.1))),(1001,(.box [(.vs 0)]))],[0]⟩:=by
 intro K
 induction K with
 | zero=>intro a0 a1 a2 a3 a899 a900 r lr h;cases h
 | succ K IH =>
  intro a0 a1 a2 a3 a899 a900 r lr h hps hy
  refine ac Tryz.func213 Tryz.results213 Tryz.ntmps213 fun w0 F0 p0 S0 β0 Q hret=>?_
  dsimp only [argT]
  rw [F213] at h
  refine G1 h fun h=>?_
  have⟨v5,hv5,h⟩:=Zd h
  refine oc (Z15 Tryz.call177 (Zou (h:=hv5))) ?_
  refine Ms h (fun h=>?_) (fun h=>?_)
  ·refine G1 h fun h=>?_
   refine AWp.cond (b:=true) I (fun hc=>?_) (fun hc=>?_)
   rotate_left
   ·cases hc
   exact GR
  refine G1 h fun h=>?_
  refine oT (Z2h (a:=a0) rfl Zcc rfl rfl (.inl rfl) rfl rfl) ?_
  refine Mc h (fun h=>?_) (fun h=>?_)
  ·exact GR
  refine G1 h fun h=>?_
  refine oc (Z1v (a:=a0) (b:=true) (kv:=(.int .i64 a0)) (vv:=(.bool true)) Zcc rfl rfl rfl rfl rfl rfl) ?_
  refine G1 h fun h=>?_
  have⟨v6,hv6,h⟩:=Zd h
  refine oc (Zdc (d:=some 28) (ks:=[2]) (vs:=[(.ptr 1001 0)]) (c:=⟨[(.int .i64 a0)],[(1000,(.loop lr [2] [(.ptr 1001 0)])),(0,(.vec 1 (List.map Z7 a900))),(1001,(.box [(.vs 0)]))],.bool true,[(1000,(.loop lr [2] [(.ptr 1001 0)])),(0,(.vec 1 (List.map Z7 v6))),(1001,(.box [(.vs 0)]))],[0]⟩) (ar:=[(.int .i64 a0)]) (news:=[]) (forg:=[0]) (hy a0 a900 _ hv6) rfl hps rfl rfl ⟨rfl,trivial⟩ rfl ⟨rfl,rfl,rfl,trivial⟩ rfl) ?_
  refine G1 h fun h=>?_
  refine AWp.cond (b:=false) I (fun hc=>?_) (fun hc=>?_)
  ·cases hc
  refine G1 h fun h=>?_
  refine lb (V:=Int×(List Int)×(List (Int×Bool))) (X:=(List Int)×(List (Int×Bool))) (v:=(_,_,_)) (fun k v=>Zfo K a1 v5 (F213 K) a2 a899 (Zfn K) k v.1 v.2.1 v.2.2=some r) (fun v=>Zfn K v.1 v.2=some r) [(4,_),(35,_),(36,_)] [(1000,_),(1001,_),(2000,_),(2001,_),(2002,_)] [] [(1000,_),(1001,_),(2000,_),(2001,_),(2002,_)] (fun v t=>(37,(.int .i64 v.1))::t) (fun v s=>(0,(.vec 1 (List.map Z7 v.2.1)))::(2003,(.map (Zn Z7 Zt v.2.2)))::s) (fun v t=>t) (fun v s=>(0,(.vec 1 (List.map Z7 v.1)))::(2003,(.map (Zn Z7 Zt v.2)))::s) h ?_ ?_
  ·intro v h
   obtain⟨v12,v13⟩:=v
   try dsimp only at h ⊢
   unfold Zfn at h
   exact GR
  intro N k11 v h IH11 J11
  obtain⟨v8,v9,v10⟩:=v
  try dsimp only at h IH11 J11 ⊢
  cases k11 with
  | zero=>cases h
  | succ k11 =>
   rw [Zfo] at h
   refine Mc h (fun h=>?_) (fun h=>?_)
   ·refine AWp.skip<|At.next<|AWp.seq<|AWp.block ?_
    refine G1 h fun h=>?_
    have⟨v19,hv19,h⟩:=Zd h
    refine oc (Z1d (d:=some 43) (c:=⟨_,[(2000,_),(2001,_),(2002,_),(2003,_),(1000,_),(0,_),(1001,_)],(.bool v19.2.2),[(2000,(.box [(.map 2003)])),(2001,(.box [(.yld 1000)])),(2002,(.box [(.clo 213 [(.ip (Z1b a2).cells),(.ptr 2000 0),(.ptr 2001 0),(.ptr 2002 0)])])),(2003,(.map (Zn Z7 Zt v19.1))),(1000,(.loop lr [2] [(.ptr 1001 0)])),(0,(.vec 1 (List.map Z7 v19.2.1))),(1001,(.box [(.vs 0)]))],[0]⟩) (ar:=[_]) (caps:=[(.ip (Z1b a2).cells),(.ptr 2000 0),(.ptr 2001 0),(.ptr 2002 0)]) (news:=[]) (forg:=[0]) Tryz.call213 (IH ((a1.Nodes.getD v5.1.toNat Z6).Children.getD v8.toNat 0) a2 a2 v10 a899 v9 v19 lr hv19 hps hy) rfl rfl ⟨rfl,trivial⟩ rfl ⟨rfl,rfl,rfl,rfl,rfl,rfl,rfl,trivial⟩ rfl) ?_
    refine Mc h (fun h=>?_) (fun h=>?_)
    ·exact GR
    refine AWp.skip<|Z17<|At.next ?_
    exact M2 h (k:=fun h=>wkx (IH11 _ (_,_,_) Z1p h))
   refine AWp.exit<|Zz ?_
   exact wkx (J11 (_,_) h)
def F212 (K:Nat) (a899:Int→(List Int)→Option ((List Int))) (a900:(List Int)) (a1:Zq) (a2:Int):Option ((List Int)) :=
 (F213 K a2 a1 a1 ([]:List (Int×Bool)) a899 a900).bind fun v2 =>
 some v2.2.1
theorem F212_ok (K:Nat) (a899:Int→(List Int)→Option ((List Int))) (a900:(List Int)) (a1:Zq) (a2:Int) (r:(List Int)) (lr:Go.Loop) (h:F212 K a899 a900 a1 a2=some r) (hps:lr.params.size=1) (hy:∀(x0:Int) (a900:(List Int)) (w:(List Int)),a899 x0 a900=some w→YCall P lr 1000 ⟨[(.int .i64 x0)],[(1000,(.loop lr [2] [(.ptr 1001 0)])),(0,(.vec 1 (List.map Z7 a900))),(1001,(.box [(.vs 0)]))],.bool true,[(1000,(.loop lr [2] [(.ptr 1001 0)])),(0,(.vec 1 (List.map Z7 w))),(1001,(.box [(.vs 0)]))],[0]⟩):ACall P 212 ⟨[(.yld 1000),(.ip (Z1b a1).cells),(.ip [(.int .i64 a2)])],[(1000,(.loop lr [2] [(.ptr 1001 0)])),(0,(.vec 1 (List.map Z7 a900))),(1001,(.box [(.vs 0)]))],.tup [],[(1000,(.loop lr [2] [(.ptr 1001 0)])),(0,(.vec 1 (List.map Z7 r))),(1001,(.box [(.vs 0)]))],[0]⟩:=by
 refine ac Tryz.func212 Tryz.results212 Tryz.ntmps212 fun w0 F0 p0 S0 β0 Q hret=>?_
 dsimp only [argT]
 unfold F212 at h
 refine G1 h fun h=>?_
 refine oc (Zm (ds:=[_])) ?_
 refine G1 h fun h=>?_
 refine oc (Z2k (vs:=[(.ip (Z1b a1).cells),(.ptr 4 0),(.ptr 3 0),(.ptr 5 0)]) rfl ⟨rfl,rfl,rfl,rfl,trivial⟩) ?_
 refine oc (Zm (ds:=[_])) ?_
 refine G1 h fun h=>?_
 have⟨v2,hv2,h⟩:=Zd h
 refine oc (Z1d (d:=some 10) (c:=⟨_,[(4,_),(3,_),(5,_),(6,_),(1000,_),(0,_),(1001,_)],(.bool v2.2.2),[(4,(.box [(.map 6)])),(3,(.box [(.yld 1000)])),(5,(.box [(.clo 213 [(.ip (Z1b a1).cells),(.ptr 4 0),(.ptr 3 0),(.ptr 5 0)])])),(6,(.map (Zn Z7 Zt v2.1))),(1000,(.loop lr [2] [(.ptr 1001 0)])),(0,(.vec 1 (List.map Z7 v2.2.1))),(1001,(.box [(.vs 0)]))],[0]⟩) (ar:=[_]) (caps:=[(.ip (Z1b a1).cells),(.ptr 4 0),(.ptr 3 0),(.ptr 5 0)]) (news:=[]) (forg:=[0]) Tryz.call213 (((((F213_ok K a2 a1 a1 ([]:List (Int×Bool)) a899 a900 v2 lr hv2 hps hy).sw 2000 4).sw 2001 3).sw 2002 5).sw 2003 6) rfl rfl ⟨rfl,trivial⟩ rfl ⟨rfl,rfl,rfl,rfl,rfl,rfl,rfl,trivial⟩ rfl) ?_
 refine AOps.nil ?_
 have h:=Option.some.inj h
 subst h
 refine (hret _ ?_).2
 exact⟨[],J0,I,⟨I,I,I,J0⟩⟩
def Zl4 (_K:Nat) (x2:Int) (v1:(List Int)):Option ((List Int)) :=
 if v1.length+[x2].length≤1073741824 then
 some (v1++[x2])
 else none
def F211 (K:Nat) (a100:Zq) (a101:Int):Option ((List Int)) :=
 (F212 K (Zl4 K) [] a100 a101).bind fun v5 =>
 some v5
theorem F211_ok (K:Nat) (a100:Zq) (a101:Int) (r:(List Int)) (h:F211 K a100 a101=some r):ACall P 211 ⟨[(.sl 1 [] true),(.clo 212 [(.ip (Z1b a100).cells),(.ip [(.int .i64 a101)])])],[],.vs 4,[(4,.vec 1 (List.map Z7 r))],[4]⟩:=by
 refine ac Tryz.func211 Tryz.results211 Tryz.ntmps211 fun w0 F0 p0 S0 β0 Q hret=>?_
 dsimp only [argT]
 unfold F211 at h
 refine AWp.seq<|AWp.region ?_
 refine oc (Zij rfl rfl rfl rfl rfl) ?_
 refine oc (Zh (v:=(.sl 1 [] false)) rfl rfl) ?_
 refine G1 h fun h=>?_
 refine AWp.block<|AWp.ghost (fun a w h=>gk ⟨[(2,_),(6,_)],[(2,_),(12,_)]⟩ (Zc8 (n:=2) (m:=12) (sz:=1) (j:=0) (gk ⟨[(2,_),(6,_)],[(2,_)]⟩ h))) ?_
 have⟨v5,hv5,h⟩:=Zd h
 refine ww (st':=⟨[(2,_),(6,_)],[(2,_),(12,_)]⟩) ?_
 refine AWp.rangeFunc (n:=1) (f:=212) (caps:=[(.ip (Z1b a100).cells),(.ip [(.int .i64 a101)])]) (ks:=[2]) (vs:=[(.ptr 2 0)]) (ins:=[(12,(.vec 1 (List.map Z7 []))),(2,(.box [(.vs 12)]))]) (outs:=[(12,(.vec 1 (List.map Z7 v5))),(2,(.box [(.vs 12)]))]) (res:=.tup []) (mv:=[12]) (forg:=[12]) (jump:=none) I Tryz.call212 I I I I ⟨I,J0⟩ ⟨I,I,J0⟩ I I I I (fun lr hst hpe hpr has hbd hsz=>?_) (fun _=>?_) (fun c hc=>by cases hc)
 ·have hend:=Z6n hst hpe
  rw [hend]
  have hps:lr.params.size=1∧True:=⟨by rw [hpr];rfl,trivial⟩
  have hy:∀(x2:Int) (v1:(List Int)) (w:(List Int)),Zl4 K x2 v1=some w→YCall P lr 1000 ⟨[(.int .i64 x2)],[(1000,.loop lr [2] [(.ptr 1001 0)]),(0,(.vec 1 (List.map Z7 v1))),(1001,(.box [(.vs 0)]))],.bool true,[(1000,.loop lr [2] [(.ptr 1001 0)]),(0,(.vec 1 (List.map Z7 w))),(1001,(.box [(.vs 0)]))],[0]⟩:=by
   intro x2 v1 r h
   unfold Zl4 at h
   refine Zde (ks:=[2]) (vs:=[(.ptr 1001 0)]) (ps:=[7]) rfl hst hsz hpr rfl (by decide) rfl rfl rfl ?_
   intro E Qa Qb hP hN hmid hfin
   obtain⟨P',nt',w0,F0,p0,S0,β0,ro0⟩:=E
   simp only at hP hN
   subst hP hN
   refine Z5c has ?_
   dsimp only [List.zip,List.zipWith,List.cons_append,List.nil_append]
   refine G1 h fun h=>?_
   refine hmid _ _ _ rfl ?_
   refine Z5c hbd<|AWp.block ?_
   refine G1 h fun h=>?_
   refine oc (Zj (vs:=[_]) (enc:=Z7) (l:=[x2]) rfl Z65 rfl rfl ⟨rfl,trivial⟩ rfl Z1u rfl rfl rfl rfl) ?_
   have⟨hg3,h⟩:=Zg h
   refine oc (Z1g (m:=0) rfl rfl Z65 rfl u38 rfl rfl rfl rfl (oneRead rfl) Z1u hg3) ?_
   refine oc (Zm (ds:=[_])) ?_
   refine AOps.nil<|Z17 ?_
   have h:=Option.some.inj h
   subst h
   refine hfin _ _ _ none .normal rfl rfl rfl ?_
   rw [hend]
   exact⟨I,I,I,J0⟩
  exact (((F212_ok K (Zl4 K) [] a100 a101 v5 lr hv5 hps.1 hy).sw 1000 1).sw 0 12).sw 1001 2
 refine At.weaken (st':=⟨[(2,(.ptr 2 0)),(6,(.clo 212 [(.ip (Z1b a100).cells),(.ip [(.int .i64 a101)])]))],[(2,(.box [(.vs 12)])),(12,(.vec 1 (List.map Z7 v5)))]⟩) ⟨I,I,J0⟩ ⟨I,I,J0⟩ ?_
 refine G1 h fun h=>?_
 refine AWp.ret<|At.ghost (fun a w h=>gk ⟨[(4,_)],[(4,_)]⟩ (Z3x (a:=12) (b:=4) (gk ⟨[(4,_)],[(12,_)]⟩ h))) ?_
 exact RT
def F153 (K:Nat) (a000:Zq) (a001:Int):Option ((List Int)) :=
 (F211 K a000 a001).bind fun v2 =>
 some v2
theorem F153_ok (K:Nat) (a000:Zq) (a001:Int) (r:(List Int)) (h:F153 K a000 a001=some r):ACall P 153 ⟨[(.clo 212 [(.ip (Z1b a000).cells),(.ip [(.int .i64 a001)])])],[],.vs 2,[(2,.vec 1 (List.map Z7 r))],[2]⟩:=by
 refine ac Tryz.func153 Tryz.results153 Tryz.ntmps153 fun w0 F0 p0 S0 β0 Q hret=>?_
 dsimp only [argT]
 unfold F153 at h
 refine AWp.seq<|AWp.region ?_
 refine oc (Zh (v:=(.sl 1 [] false)) rfl rfl) ?_
 refine G1 h fun h=>?_
 have⟨v2,hv2,h⟩:=Zd h
 refine oc (Z30 (sz:=1) (es:=(List.map Z7 v2)) (ar:=[(.sl 1 [] true),(.clo 212 [(.ip (Z1b a000).cells),(.ip [(.int .i64 a001)])])]) (caps:=[]) Tryz.call211 ((F211_ok K a000 a001 v2 hv2).sw 4 4) rfl rfl ⟨rfl,rfl,trivial⟩ rfl) ?_
 refine G1 h fun h=>?_
 refine AWp.ret<|At.ghost (fun a w h=>gk ⟨[(2,_)],[(2,_)]⟩ (Z3x (a:=4) (b:=2) (gk ⟨[(2,_)],[(4,_)]⟩ h))) ?_
 exact RT
def F79 (K:Nat) (a0:Zq) (a1:Int):Option ((List Int)) :=
 (F154 K a0 a1).bind fun v2 =>
 (F153 K (⟨v2.1.Trace,v2.1.Nodes,v2.1.Roots,v2.1.Orphans,v2.1.Cyclic,v2.1.Missing⟩:Zq) v2.2).bind fun v4 =>
 some v4
theorem F79_ok (K:Nat) (a0:Zq) (a1:Int) (r:(List Int)) (h:F79 K a0 a1=some r):ACall P 79 ⟨[(Z1b a0),(.int .i64 a1)],[],(.sl 1 (r.map Z7) false),[],[]⟩:=by
 refine ac Tryz.func79 Tryz.results79 Tryz.ntmps79 fun w0 F0 p0 S0 β0 Q hret=>?_
 dsimp only [argT]
 unfold F79 at h
 refine G1 h fun h=>?_
 refine oc (Zh (v:=(.sl 1 [] false)) rfl rfl) ?_
 refine G1 h fun h=>?_
 have⟨v2,hv2,h⟩:=Zd h
 refine oc (Z15 Tryz.call154 (F154_ok (h:=hv2))) ?_
 have⟨v4,hv4,h⟩:=Zd h
 refine oc (Z30 (sz:=1) (es:=(List.map Z7 v4)) (ar:=[_]) (caps:=[]) Tryz.call153 ((F153_ok (h:=hv4)).sw 2 8) rfl rfl ⟨rfl,trivial⟩ rfl) ?_
 refine G1 h fun h=>?_
 refine AWp.ret<|At.ghost (fun a w h=>gk ⟨[(4,_)],[]⟩ (Z1j (m:=8) (sz:=1) (gk ⟨[(4,_)],[(8,_)]⟩ h))) ?_
 exact RT
def F103 (K:Nat) (a0:Int) (a1:(List (Int×(List Z2)))):Option ((List Z2)) :=
 (F134 K ((mget Zv a0 a1).getD [])).bind fun v3 =>
 some v3
theorem F103_ok (K:Nat) (a0:Int) (a1:(List (Int×(List Z2)))) (r:(List Z2)) (h:F103 K a0 a1=some r):ACall P 103 ⟨[(.ptr 2000 0),(.int .i64 a0)],[(2000,(.box [(.map 2001)])),(2001,(.map (Zn Z7 Zw a1)))],(.sl 14 (r.map Zb) false),[(2000,(.box [(.map 2001)])),(2001,(.map (Zn Z7 Zw a1)))],[]⟩:=by
 refine ac Tryz.func103 Tryz.results103 Tryz.ntmps103 fun w0 F0 p0 S0 β0 Q hret=>?_
 dsimp only [argT]
 unfold F103 at h
 refine AWp.seq<|AWp.region ?_
 refine oc (Zh (v:=(.sl 14 [] false)) rfl rfl) ?_
 refine G1 h fun h=>?_
 refine oc (Z74 (c:=false) rfl u207 rfl rfl rfl) ?_
 refine AOps.nil<|At.next ?_
 refine AWp.cond (b:=false) I (fun hc=>?_) (fun hc=>?_)
 ·cases hc
 refine G1 h fun h=>?_
 refine oc (Z2h (a:=a0) rfl mt297 rfl rfl (.inl rfl) rfl rfl) ?_
 have⟨v3,hv3,h⟩:=Zd h
 refine oc (Z15 Tryz.call134 (Zge (h:=hv3))) ?_
 exact GR
def Z51 (_K:Nat) (v9:Bool):Option (Bool) :=
 some v9
noncomputable def F44 (K:Nat):Option (Bool) :=
 (F98 K [Zi,(⟨0,1,1,0⟩:Z32),(⟨0,2,7,0⟩:Z32),(⟨0,3,5,0⟩:Z32),(⟨0,4,4,0⟩:Z32)]).bind fun v2 =>
 (F77 K v2 1).bind fun v4 =>
 (F99 K).bind fun _v6 =>
 if ((v4.Nodes.length:Int) != 5)=true then
 some false
 else
 (F100 K v2 ([]:List (Int×(List Z2)))).bind fun v8 =>
 (Zol K v4.Roots [1]).bind fun v12 =>
 if v12=true then
 (Zol K v4.Orphans [3]).bind fun v14 =>
 if v14=true then
 (Zol K v4.Cyclic [4,5]).bind fun v16 =>
 if v16=true then
 (Zol K v4.Missing [7]).bind fun v18 =>
 if v18=true then
 if (0:Int)≤1∧(1:Int)<v4.Nodes.length then
 if ((v4.Nodes.getD (1:Int).toNat Z6).Depth==1)=true then
 if (0:Int)≤4∧(4:Int)<v4.Nodes.length then
 if ((v4.Nodes.getD (4:Int).toNat Z6).Depth==(Int.negSucc 0))=true then
 (F102 K v4 4).bind fun v22 =>
 (Zol K v22 [5,4]).bind fun v24 =>
 if v24=true then
 (F79 K v4 4).bind fun v26 =>
 (Zol K v26 [4,5]).bind fun v28 =>
 if v28=true then
 if (v8.2.1==0)=true then
 (Zol K v8.1 [1]).bind fun v30 =>
 if v30=true then
 (F103 K 1 v8.2.2).bind fun v32 =>
 Z51 K ((v32.length:Int)==5)
 else
 Z51 K false
 else
 Z51 K false
 else
 Z51 K false
 else
 Z51 K false
 else
 Z51 K false
 else none
 else
 Z51 K false
 else none
 else
 Z51 K false
 else
 Z51 K false
 else
 Z51 K false
 else
 Z51 K false
theorem F44_ok (K:Nat) (r:Bool) (h:F44 K=some r):ACall P 44 ⟨[],[],(.bool r),[],[]⟩:=by
 refine ac Tryz.func44 Tryz.results44 Tryz.ntmps44 fun w0 F0 p0 S0 β0 Q hret=>?_
 dsimp only [argT]
 unfold F44 at h
 refine G1 h fun h=>?_
 refine oc (Z4k (vs:=[(0,(.int .u8 0)),(1,(.int .u8 0)),(2,(.int .u8 0)),(3,(.int .u8 0))]) rfl ar90 ⟨rfl,rfl,rfl,rfl,rfl,rfl,rfl,rfl,trivial⟩ rfl) ?_
 refine oc (Z4k (vs:=[(0,(.int .u8 0)),(1,(.int .u8 1)),(2,(.int .u8 1)),(3,(.int .u8 0))]) rfl ar90 ⟨rfl,rfl,rfl,rfl,rfl,rfl,rfl,rfl,trivial⟩ rfl) ?_
 refine oc (Z4k (vs:=[(0,(.int .u8 0)),(1,(.int .u8 2)),(2,(.int .u8 7)),(3,(.int .u8 0))]) rfl ar90 ⟨rfl,rfl,rfl,rfl,rfl,rfl,rfl,rfl,trivial⟩ rfl) ?_
 refine oc (Z4k (vs:=[(0,(.int .u8 0)),(1,(.int .u8 3)),(2,(.int .u8 5)),(3,(.int .u8 0))]) rfl ar90 ⟨rfl,rfl,rfl,rfl,rfl,rfl,rfl,rfl,trivial⟩ rfl) ?_
 refine oc (Z4k (vs:=[(0,(.int .u8 0)),(1,(.int .u8 4)),(2,(.int .u8 4)),(3,(.int .u8 0))]) rfl ar90 ⟨rfl,rfl,rfl,rfl,rfl,rfl,rfl,rfl,trivial⟩ rfl) ?_
 refine oc (Zj (vs:=[_,_,_,_,_]) (enc:=Zef) (l:=[Zi,(⟨0,1,1,0⟩:Z32),(⟨0,2,7,0⟩:Z32),(⟨0,3,5,0⟩:Z32),(⟨0,4,4,0⟩:Z32)]) rfl el206 rfl rfl ⟨rfl,rfl,rfl,rfl,rfl,trivial⟩ rfl Znb rfl rfl rfl rfl) ?_
 refine AOps.ghost (fun a w h=>gk ⟨[(11,_)],[]⟩ (Z1j (m:=11) (sz:=4) (gk ⟨[(11,_)],[(11,_)]⟩ h))) ?_
 have⟨v2,hv2,h⟩:=Zd h
 refine oc (Z15 Tryz.call98 (F98_ok (h:=hv2))) ?_
 refine G1 h fun h=>?_
 have⟨v4,hv4,h⟩:=Zd h
 refine oc (Z15 Tryz.call77 (F77_ok (h:=hv4))) ?_
 refine oc (Z2a rfl z173 rfl rfl rfl) ?_
 refine oc (Zm (ds:=_)) ?_
 refine G1 h fun h=>?_
 have⟨v6,hv6,h⟩:=Zd h
 refine oc (Z1d (d:=some 15) (c:=⟨_,[],(.ptr 94 0),[(15,(.map (Zn Z7 Zw ([]:List (Int×(List Z2)))))),(94,(.box [(.map 15)]))],[15,94]⟩) (ar:=[]) (caps:=[]) (news:=[15,94]) (forg:=[]) Tryz.call99 (((F99_ok (h:=hv6)).sw 1 15).sw 3 94) rfl rfl trivial rfl trivial rfl) ?_
 refine G1 h fun h=>?_
 refine oc (Z74 (c:=false) rfl u207 rfl rfl rfl) ?_
 refine Mc h (fun h=>?_) (fun h=>?_)
 ·exact GR
 refine G1 h fun h=>?_
 have⟨v8,hv8,h⟩:=Zd h
 refine oc (Z1d (d:=some 27) (c:=⟨_,[(94,_),(15,_)],(.tup [(.sl 1 (v8.1.map Z7) false),(.int .i64 v8.2.1)]),[(94,(.box [(.map 15)])),(15,(.map (Zn Z7 Zw v8.2.2)))],[]⟩) (ar:=[_,_]) (caps:=[]) (news:=[]) (forg:=[]) Tryz.call100 (((F100_ok (h:=hv8)).sw 2000 94).sw 2001 15) rfl rfl ⟨rfl,rfl,trivial⟩ rfl ⟨rfl,rfl,trivial⟩ rfl) ?_
 refine G2 h fun h=>?_
 refine At.next<|AWp.seq ?_
 refine jn (V:=Bool) (fun v=>Z51 K v=some r) [] [] (fun v t=>(0,(.bool v))::t) (fun v s=>s) ?_ ?_
 ·intro v h
  revert h
  revert v
  intro v9 h
  try dsimp only at h ⊢
  unfold Z51 at h
  refine At.next ?_
  exact RT
 intro J10
 refine G1 h fun h=>?_
 refine oc (Zj (vs:=[(.int .i64 1)]) (enc:=Z7) (l:=[1]) rfl Z65 rfl rfl ⟨rfl,trivial⟩ rfl Z1u rfl rfl rfl rfl) ?_
 have⟨v12,hv12,h⟩:=Zd h
 refine oc (Z2r (rd:=[(32,(.vec 1 (List.map Z7 [1])))]) (ar:=[_,_]) Tryz.call101 (Zb5 (h:=hv12)) rfl rfl ⟨rfl,rfl,trivial⟩ (Z2f ⟨rfl,trivial⟩) rfl rfl rfl) ?_
 refine Ms h (fun h=>?_) (fun h=>?_)
 ·refine G1 h fun h=>?_
  refine oT (Zj (vs:=[(.int .i64 3)]) (enc:=Z7) (l:=[3]) rfl Z65 rfl rfl ⟨rfl,trivial⟩ rfl Z1u rfl rfl rfl rfl) ?_
  have⟨v14,hv14,h⟩:=Zd h
  refine oT (Z2r (rd:=[(37,(.vec 1 (List.map Z7 [3])))]) (ar:=[_,_]) Tryz.call101 (Zb5 (h:=hv14)) rfl rfl ⟨rfl,rfl,trivial⟩ (Z2f ⟨rfl,trivial⟩) rfl rfl rfl) ?_
  refine Ms h (fun h=>?_) (fun h=>?_)
  ·refine G1 h fun h=>?_
   refine oT (Zj (vs:=[(.int .i64 4),(.int .i64 5)]) (enc:=Z7) (l:=[4,5]) rfl Z65 rfl rfl ⟨rfl,rfl,trivial⟩ rfl Z1u rfl rfl rfl rfl) ?_
   have⟨v16,hv16,h⟩:=Zd h
   refine oT (Z2r (rd:=[(43,(.vec 1 (List.map Z7 [4,5])))]) (ar:=[_,_]) Tryz.call101 (Zb5 (h:=hv16)) rfl rfl ⟨rfl,rfl,trivial⟩ (Z2f ⟨rfl,trivial⟩) rfl rfl rfl) ?_
   refine Ms h (fun h=>?_) (fun h=>?_)
   ·refine G1 h fun h=>?_
    refine oT (Zj (vs:=[(.int .i64 7)]) (enc:=Z7) (l:=[7]) rfl Z65 rfl rfl ⟨rfl,trivial⟩ rfl Z1u rfl rfl rfl rfl) ?_
    have⟨v18,hv18,h⟩:=Zd h
    refine oT (Z2r (rd:=[(49,(.vec 1 (List.map Z7 [7])))]) (ar:=[_,_]) Tryz.call101 (Zb5 (h:=hv18)) rfl rfl ⟨rfl,rfl,trivial⟩ (Z2f ⟨rfl,trivial⟩) rfl rfl rfl) ?_
    refine Ms h (fun h=>?_) (fun h=>?_)
    ·refine Ms h (fun h=>?_) (fun h=>?_)
     ·refine Ms h (fun h=>?_) (fun h=>?_)
      ·refine G1 h fun h=>?_
       have⟨v22,hv22,h⟩:=Zd h
       refine oT (Z15 Tryz.call102 (F102_ok (h:=hv22))) ?_
       refine oT (Zj (vs:=[(.int .i64 5),(.int .i64 4)]) (enc:=Z7) (l:=[5,4]) rfl Z65 rfl rfl ⟨rfl,rfl,trivial⟩ rfl Z1u rfl rfl rfl rfl) ?_
       have⟨v24,hv24,h⟩:=Zd h
       refine oT (Z2r (rd:=[(71,(.vec 1 (List.map Z7 [5,4])))]) (ar:=[_,_]) Tryz.call101 (Zb5 (h:=hv24)) rfl rfl ⟨rfl,rfl,trivial⟩ (Z2f ⟨rfl,trivial⟩) rfl rfl rfl) ?_
       refine Ms h (fun h=>?_) (fun h=>?_)
       ·refine G1 h fun h=>?_
        have⟨v26,hv26,h⟩:=Zd h
        refine oT (Z15 Tryz.call79 (F79_ok (h:=hv26))) ?_
        refine oT (Zj (vs:=[(.int .i64 4),(.int .i64 5)]) (enc:=Z7) (l:=[4,5]) rfl Z65 rfl rfl ⟨rfl,rfl,trivial⟩ rfl Z1u rfl rfl rfl rfl) ?_
        have⟨v28,hv28,h⟩:=Zd h
        refine oT (Z2r (rd:=[(77,(.vec 1 (List.map Z7 [4,5])))]) (ar:=[_,_]) Tryz.call101 (Zb5 (h:=hv28)) rfl rfl ⟨rfl,rfl,trivial⟩ (Z2f ⟨rfl,trivial⟩) rfl rfl rfl) ?_
        refine Ms h (fun h=>?_) (fun h=>?_)
        ·refine Ms h (fun h=>?_) (fun h=>?_)
         ·refine G1 h fun h=>?_
          refine oT (Zj (vs:=[(.int .i64 1)]) (enc:=Z7) (l:=[1]) rfl Z65 rfl rfl ⟨rfl,trivial⟩ rfl Z1u rfl rfl rfl rfl) ?_
          have⟨v30,hv30,h⟩:=Zd h
          refine oT (Z2r (rd:=[(86,(.vec 1 (List.map Z7 [1])))]) (ar:=[_,_]) Tryz.call101 (Zb5 (h:=hv30)) rfl rfl ⟨rfl,rfl,trivial⟩ (Z2f ⟨rfl,trivial⟩) rfl rfl rfl) ?_
          refine Ms h (fun h=>?_) (fun h=>?_)
          ·refine G1 h fun h=>?_
           have⟨v32,hv32,h⟩:=Zd h
           refine oT (Z1d (d:=some 91) (c:=⟨[(.ptr 94 0),(.int .i64 1)]++[],[(94,(.box [(.map 15)])),(15,(.map (Zn Z7 Zw v8.2.2)))],(.sl 14 (v32.map Zb) false),[(94,(.box [(.map 15)])),(15,(.map (Zn Z7 Zw v8.2.2)))],[]⟩) (ar:=[(.ptr 94 0),(.int .i64 1)]) (caps:=[]) (news:=[]) (forg:=[]) Tryz.call103 (((F103_ok K 1 v8.2.2 v32 hv32).sw 2000 94).sw 2001 15) rfl rfl ⟨rfl,rfl,trivial⟩ rfl ⟨rfl,rfl,trivial⟩ rfl) ?_
           exact M2 h (k:=fun h=>wkx (J10 _ h))
          exact M2 h (k:=fun h=>wkx (J10 _ h))
         exact M2 h (k:=fun h=>wkx (J10 _ h))
        exact M2 h (k:=fun h=>wkx (J10 _ h))
       exact M2 h (k:=fun h=>wkx (J10 _ h))
      exact M2 h (k:=fun h=>wkx (J10 _ h))
     exact M2 h (k:=fun h=>wkx (J10 _ h))
    exact M2 h (k:=fun h=>wkx (J10 _ h))
   exact M2 h (k:=fun h=>wkx (J10 _ h))
  exact M2 h (k:=fun h=>wkx (J10 _ h))
 exact M2 h (k:=fun h=>wkx (J10 _ h))
noncomputable def F6 (K:Nat):Option (Bool) :=
 (F44 K).bind fun v2 =>
 some v2
theorem F6_ok (K:Nat) (r:Bool) (h:F6 K=some r):ACall P 6 ⟨[],[],(.bool r),[],[]⟩:=by
 refine ac Tryz.func6 Tryz.results6 Tryz.ntmps6 fun w0 F0 p0 S0 β0 Q hret=>?_
 dsimp only [argT]
 unfold F6 at h
 refine G1 h fun h=>?_
 have⟨v2,hv2,h⟩:=Zd h
 refine oc (Z15 Tryz.call44 (F44_ok (h:=hv2))) ?_
 exact GR
def Zrn (_K:Nat) (a0:Int) (a1:Int) (a2:Int):Option (Bool) :=
 if (decide (a1≤a0))=true then
 some (decide (a0≤a2))
 else
 some false
theorem Z8t (K:Nat) (a0:Int) (a1:Int) (a2:Int) (r:Bool) (h:Zrn K a0 a1 a2=some r):ACall P 104 ⟨[(.int .i64 a0),(.int .i64 a1),(.int .i64 a2)],[],(.bool r),[],[]⟩:=by
 refine ac Tryz.func104 Tryz.results104 Tryz.ntmps104 fun w0 F0 p0 S0 β0 Q hret=>?_
 dsimp only [argT]
 unfold Zrn at h
 refine Ms h (fun h=>?_) (fun h=>?_)
 ·exact GR
 exact GR
def F105 (K:Nat) (a0:Zr):Option (Bool) :=
 (Zrn K a0.Trace 1 1099511627776).bind fun v2 =>
 if v2=true then
 (Zrn K a0.Id 1 1099511627776).bind fun v4 =>
 some v4
 else
 some false
theorem F105_ok (K:Nat) (a0:Zr) (r:Bool) (h:F105 K a0=some r):ACall P 105 ⟨[(Z1x a0)],[],(.bool r),[],[]⟩:=by
 refine ac Tryz.func105 Tryz.results105 Tryz.ntmps105 fun w0 F0 p0 S0 β0 Q hret=>?_
 dsimp only [argT]
 unfold F105 at h
 refine G1 h fun h=>?_
 have⟨v2,hv2,h⟩:=Zd h
 refine oc (Z15 Tryz.call104 (Z8t (h:=hv2))) ?_
 refine Ms h (fun h=>?_) (fun h=>?_)
 ·refine G1 h fun h=>?_
  have⟨v4,hv4,h⟩:=Zd h
  refine oT (Z15 Tryz.call104 (Z8t (h:=hv4))) ?_
  exact GR
 exact GR
def Ze3 (_K:Nat) (v11:Bool):Option (Int) :=
 if v11=true then
 some 2
 else
 some 0
def Z86 (K:Nat) (a0:Z1) (v9:Bool):Option (Int) :=
 if v9=true then
 some 3
 else
 if (!(a0.Kind==4))=true then
 (F105 K a0.A).bind fun v14 =>
 if (!v14)=true then
 Ze3 K true
 else
 (F105 K a0.B).bind fun v16 =>
 Ze3 K (!v16)
 else
 Ze3 K false
def Zjh (K:Nat) (a0:Z1) (v7:Bool):Option (Int) :=
 if v7=true then
 some 32
 else
 if (a0.Kind==4)=true then
 if (!((a0.A.Trace==0)&&((a0.A.Id==0)&&true)))=true then
 Z86 K a0 true
 else
 if (!((a0.B.Trace==0)&&((a0.B.Id==0)&&true)))=true then
 Z86 K a0 true
 else
 if (!(a0.Kind==4))=true then
 Z86 K a0 (a0.Least != 0)
 else
 Z86 K a0 false
 else
 if (!(a0.Kind==4))=true then
 Z86 K a0 (a0.Least != 0)
 else
 Z86 K a0 false
def F46 (K:Nat) (a0:Z1):Option (Int) :=
 (Zrn K a0.Kind 1 4).bind fun v2 =>
 if (!v2)=true then
 some 12
 else
 (Zrn K a0.From 1 1048576).bind fun v4 =>
 if (!v4)=true then
 some 2
 else
 (Zrn K a0.To 1 1048576).bind fun v6 =>
 if (!v6)=true then
 some 2
 else
 (Zrn K a0.Sent (Int.negSucc 1099511627775) 1099511627776).bind fun v18 =>
 if (!v18)=true then
 Zjh K a0 true
 else
 (Zrn K a0.Received (Int.negSucc 1099511627775) 1099511627776).bind fun v20 =>
 if (!v20)=true then
 Zjh K a0 true
 else
 (Zrn K a0.Least 0 1099511627776).bind fun v22 =>
 Zjh K a0 (!v22)
theorem F46_ok (K:Nat) (a0:Z1) (r:Int) (h:F46 K a0=some r):ACall P 46 ⟨[(Z3 a0)],[],(.int .i64 r),[],[]⟩:=by
 refine ac Tryz.func46 Tryz.results46 Tryz.ntmps46 fun w0 F0 p0 S0 β0 Q hret=>?_
 dsimp only [argT]
 unfold F46 at h
 refine G1 h fun h=>?_
 refine AWp.block ?_
 refine G1 h fun h=>?_
 have⟨v2,hv2,h⟩:=Zd h
 refine oc (Z15 Tryz.call104 (Z8t (h:=hv2))) ?_
 refine Mc h (fun h=>?_) (fun h=>?_)
 ·exact GR
 refine G1 h fun h=>?_
 have⟨v4,hv4,h⟩:=Zd h
 refine oc (Z15 Tryz.call104 (Z8t (h:=hv4))) ?_
 refine Ms h (fun h=>?_) (fun h=>?_)
 ·refine G1 h fun h=>?_
  refine AWp.cond (b:=true) I (fun hc=>?_) (fun hc=>?_)
  rotate_left
  ·cases hc
  exact GR
 refine G1 h fun h=>?_
 have⟨v6,hv6,h⟩:=Zd h
 refine oT (Z15 Tryz.call104 (Z8t (h:=hv6))) ?_
 refine Mc h (fun h=>?_) (fun h=>?_)
 ·exact GR
 refine AWp.seq ?_
 refine jn (V:=Bool) (fun v=>Zjh K a0 v=some r) [(1,_),(3,_)] [(1,_)] (fun v t=>(23,(.bool v))::t) (fun v s=>s) ?_ ?_
 ·intro v h
  revert h
  revert v
  intro v7 h
  try dsimp only at h ⊢
  unfold Zjh at h
  refine At.next ?_
  refine cnd h (fun h=>?_) (fun h=>?_)
  ·exact GR
  refine AWp.seq ?_
  refine jn (V:=Bool) (fun v=>Z86 K a0 v=some r) [(1,_),(3,_)] [(1,_)] (fun v t=>(40,(.bool v))::t) (fun v s=>s) ?_ ?_
  ·intro v h
   revert h
   revert v
   intro v9 h
   try dsimp only at h ⊢
   unfold Z86 at h
   refine At.next ?_
   refine cnd h (fun h=>?_) (fun h=>?_)
   ·exact GR
   refine AWp.seq ?_
   refine jn (V:=Bool) (fun v=>Ze3 K v=some r) [] [] (fun v t=>(63,(.bool v))::t) (fun v s=>s) ?_ ?_
   ·intro v h
    revert h
    revert v
    intro v11 h
    try dsimp only at h ⊢
    unfold Ze3 at h
    refine At.next ?_
    refine cnd h (fun h=>?_) (fun h=>?_)
    ·exact GR
    exact GR
   intro J12
   refine Ms h (fun h=>?_) (fun h=>?_)
   ·refine G1 h fun h=>?_
    have⟨v14,hv14,h⟩:=Zd h
    refine oT (Z15 Tryz.call105 (F105_ok (h:=hv14))) ?_
    refine Ms h (fun h=>?_) (fun h=>?_)
    ·exact M2 h (k:=fun h=>wkx (J12 _ h))
    refine G1 h fun h=>?_
    have⟨v16,hv16,h⟩:=Zd h
    refine oT (Z15 Tryz.call105 (F105_ok (h:=hv16))) ?_
    exact M2 h (k:=fun h=>wkx (J12 _ h))
   exact M2 h (k:=fun h=>wkx (J12 _ h))
  intro J10
  refine Ms h (fun h=>?_) (fun h=>?_)
  ·refine G1 h fun h=>?_
   refine oT (Z1i (vs:=[]) rfl st57 trivial rfl) ?_
   refine Ms h (fun h=>?_) (fun h=>?_)
   ·exact M2 h (k:=fun h=>wkx (J10 _ h))
   refine G1 h fun h=>?_
   refine oT (Z1i (vs:=[]) rfl st57 trivial rfl) ?_
   refine Ms h (fun h=>?_) (fun h=>?_)
   ·exact M2 h (k:=fun h=>wkx (J10 _ h))
   refine Ms h (fun h=>?_) (fun h=>?_)
   ·exact M2 h (k:=fun h=>wkx (J10 _ h))
   exact M2 h (k:=fun h=>wkx (J10 _ h))
  refine Ms h (fun h=>?_) (fun h=>?_)
  ·exact M2 h (k:=fun h=>wkx (J10 _ h))
  exact M2 h (k:=fun h=>wkx (J10 _ h))
 intro J8
 refine G1 h fun h=>?_
 have⟨v18,hv18,h⟩:=Zd h
 refine oc (Z15 Tryz.call104 (Z8t (h:=hv18))) ?_
 refine Ms h (fun h=>?_) (fun h=>?_)
 ·exact M2 h (k:=fun h=>wkx (J8 _ h))
 refine G1 h fun h=>?_
 have⟨v20,hv20,h⟩:=Zd h
 refine oT (Z15 Tryz.call104 (Z8t (h:=hv20))) ?_
 refine Ms h (fun h=>?_) (fun h=>?_)
 ·exact M2 h (k:=fun h=>wkx (J8 _ h))
 refine G1 h fun h=>?_
 have⟨v22,hv22,h⟩:=Zd h
 refine oT (Z15 Tryz.call104 (Z8t (h:=hv22))) ?_
 exact M2 h (k:=fun h=>wkx (J8 _ h))
def F106 (_K:Nat) (a0:(List Z1)):Option ((List Z1)) :=
 if ([]:List Z1).length+a0.length≤1073741824 then
 some a0
 else none
theorem F106_ok (K:Nat) (a0:(List Z1)) (r:(List Z1)) (h:F106 K a0=some r):ACall P 106 ⟨[(.sl 10 (a0.map Z3) false)],[],.vs 2,[(2,.vec 10 (List.map Z3 r))],[2]⟩:=by
 refine ac Tryz.func106 Tryz.results106 Tryz.ntmps106 fun w0 F0 p0 S0 β0 Q hret=>?_
 dsimp only [argT]
 unfold F106 at h
 refine AWp.seq<|AWp.region ?_
 refine oc (Zh (v:=(.sl 10 [] true)) rfl rfl) ?_
 refine G1 h fun h=>?_
 refine Z5h (enc:=Z3) (es:=a0) (full:=false) I u35 I (fun x1 hbx1=>?_)
 refine AOps.nil<|At.next ?_
 refine AWp.cond I (fun hc=>?_) (fun hc=>?_)
 ·have hz:=hbx1 hc
  have h:(some [])=some r:=by simp only [hz] at h ⊢;simpa using h
  refine AWp.seq<|AWp.region ?_
  refine oc (Zh (v:=(.sl 10 [] true)) rfl rfl) ?_
  refine AOps.nil<|At.next<|AWp.ret<|Z27<|At.ghost (fun a w h=>gk ⟨[(2,_)],[(2,_)]⟩ (Z38 (k:=2) (m:=2) (sz:=10) (gk ⟨[(2,_)],[]⟩ h))) ?_
  exact RT
 refine G1 h fun h=>?_
 refine oc (Zj (vs:=[]) (enc:=Z3) (l:=([]:List Z1)) rfl Ziu rfl rfl trivial rfl Z16 rfl rfl rfl rfl) ?_
 refine G1 h fun h=>?_
 have⟨hg2,h⟩:=Zg h
 refine oc (Z1g (m:=5) rfl rfl Ziu rfl u35 rfl rfl rfl ⟨rfl,rfl,rfl⟩ noReads Z16 hg2) ?_
 refine G1 h fun h=>?_
 refine AWp.ret<|At.ghost (fun a w h=>gk ⟨[(2,_)],[(2,_)]⟩ (Z3x (a:=5) (b:=2) (gk ⟨[(2,_)],[(5,_)]⟩ h))) ?_
 exact RT
def F108 (K:Nat) (a0:Z1) (a1:Z1):Option (Int) :=
 (Zit K a0.Kind a1.Kind).bind fun v2 =>
 (F179 K a0.A a1.A).bind fun v4 =>
 (F179 K a0.B a1.B).bind fun v6 =>
 (Zit K a0.From a1.From).bind fun v8 =>
 (Zit K a0.To a1.To).bind fun v10 =>
 (Zit K a0.Sent a1.Sent).bind fun v12 =>
 (Zit K a0.Received a1.Received).bind fun v14 =>
 (Zit K a0.Least a1.Least).bind fun v16 =>
 (F115 K [v2,v4,v6,v8,v10,v12,v14,v16]).bind fun v18 =>
 some v18
theorem F108_ok (K:Nat) (a0:Z1) (a1:Z1) (r:Int) (h:F108 K a0 a1=some r):ACall P 108 ⟨[(Z3 a0),(Z3 a1)],[],(.int .i64 r),[],[]⟩:=by
 refine ac Tryz.func108 Tryz.results108 Tryz.ntmps108 fun w0 F0 p0 S0 β0 Q hret=>?_
 dsimp only [argT]
 unfold F108 at h
 refine G1 h fun h=>?_
 have⟨v2,hv2,h⟩:=Zd h
 refine oD (Z15 Tryz.call116 (Z3p (h:=hv2))) ?_
 refine G1 h fun h=>?_
 have⟨v4,hv4,h⟩:=Zd h
 refine oD (Z15 Tryz.call179 (Zkz (h:=hv4))) ?_
 refine G1 h fun h=>?_
 have⟨v6,hv6,h⟩:=Zd h
 refine oD (Z15 Tryz.call179 (Zkz (h:=hv6))) ?_
 refine G1 h fun h=>?_
 have⟨v8,hv8,h⟩:=Zd h
 refine oD (Z15 Tryz.call116 (Z3p (h:=hv8))) ?_
 refine G1 h fun h=>?_
 have⟨v10,hv10,h⟩:=Zd h
 refine oD (Z15 Tryz.call116 (Z3p (h:=hv10))) ?_
 refine G1 h fun h=>?_
 have⟨v12,hv12,h⟩:=Zd h
 refine oD (Z15 Tryz.call116 (Z3p (h:=hv12))) ?_
 refine G1 h fun h=>?_
 have⟨v14,hv14,h⟩:=Zd h
 refine oD (Z15 Tryz.call116 (Z3p (h:=hv14))) ?_
 refine G1 h fun h=>?_
 have⟨v16,hv16,h⟩:=Zd h
 refine oD (Z15 Tryz.call116 (Z3p (h:=hv16))) ?_
 refine oD (Zj (vs:=[_,_,_,_,_,_,_,_]) (enc:=Z7) (l:=[v2,v4,v6,v8,v10,v12,v14,v16]) rfl Z65 rfl rfl ⟨rfl,rfl,rfl,rfl,rfl,rfl,rfl,rfl,trivial⟩ rfl Z1u rfl rfl rfl rfl) ?_
 have⟨v18,hv18,h⟩:=Zd h
 refine oD (Z2r (rd:=[(45,(.vec 1 (List.map Z7 [v2,v4,v6,v8,v10,v12,v14,v16])))]) (ar:=[_]) Tryz.call115 (Zdi (h:=hv18)) rfl rfl ⟨rfl,trivial⟩ (Z2f ⟨rfl,trivial⟩) rfl rfl rfl) ?_
 exact GR
end Go.AM.Tp
