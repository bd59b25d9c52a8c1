/- What these functions compute, each with its walk: F77, F99, F228, F281, F229, F282, F231, F232, F230, F171, F233, F196_i1, F172, F173, F123_i1, F283. -/
import Derived.Test.YtkafecfipfnljaaGreatTpT
import Derived.Test.YtkafecfipfnljaaGreatTpG0
namespace Go.AM.Tp
open Go Go.AM Go.Proofs
set_option maxRecDepth 100000
set_option maxHeartbeats 2000000
attribute [local irreducible] Z11 TyOne TyAgg TySl TyZero TyStruct TyEl TyEq AWp AOps AOpsD At
noncomputable def Zhh (K:Nat) (v18:(List (Int×Bool))) (a1:Int) (v30:(List Zl)) (v20:(List Int)) (v21:(List Int)) (v36:(List Int)):Option (Zq) :=
 (F124 K v18).bind fun _v40 =>
 (F123 K v18).bind fun v42 =>
 some (⟨a1,v30,v20,v21,v36,v42⟩:Zq)
def Zlk (_K:Nat) (b43:Int→(List Int)→Option (Zq)) (v33:Int) (v46:(List Int)):Option (Zq) :=
 b43 (IntKind.i64.wrap (v33+1)) v46
def Zec (K:Nat) (v30:(List Zl)) (c38:(List Int)→Option (Zq)):Nat→Int→(List Int)→Option (Zq)
 | 0,_,_=>none
 | k35+1,v33,v34 =>
 if (decide (v33<(v30.length:Int)))=true then
 if (0:Int)≤v33∧v33<(v30.length:Nat) then
 if v33.toNat<v30.length then
 if (decide ((v30.getD v33.toNat Z6).Depth<0))=true then
 if v34.length+[(v30.getD v33.toNat Z6).Id].length≤1073741824 then
 Zlk K (Zec K v30 c38 k35) v33 (v34++[(v30.getD v33.toNat Z6).Id])
 else none
 else
 Zlk K (Zec K v30 c38 k35) v33 v34
 else none
 else none
 else
 c38 v34
noncomputable def Zea (K:Nat) (v18:(List (Int×Bool))) (a1:Int) (v20:(List Int)) (v21:(List Int)) (v30:(List Zl)):Option (Zq) :=
 Zec K v30 (Zhh K v18 a1 v30 v20 v21) K 0 []
def Zlj (_K:Nat) (b49:Int→(List Int)→(List Zl)→Option (Zq)) (v26:Int) (v54:(List Int)) (v55:(List Zl)):Option (Zq) :=
 b49 (IntKind.i64.wrap (v26+1)) v54 v55
def Zll (K:Nat) (v27:(List Int)) (v7:(List (Int×Int))) (v26:Int) (c57:(List Int)→(List Zl)→Option (Zq)):Nat→Int→(List Int)→(List Zl)→Option (Zq)
 | 0,_,_,_=>none
 | k53+1,v50,v51,v52 =>
 if (decide (v50<(v27.length:Int)))=true then
 if (0:Int)≤v50∧v50<(v27.length:Nat) then
 if v50.toNat<v27.length then
 if (0:Int)≤((mget Zv (v27.getD v50.toNat 0) v7).getD (0:Int))∧((mget Zv (v27.getD v50.toNat 0) v7).getD (0:Int))<(v52.length:Nat) then
 if ((mget Zv (v27.getD v50.toNat 0) v7).getD (0:Int)).toNat<v52.length then
 if (0:Int)≤((mget Zv (v27.getD v50.toNat 0) v7).getD (0:Int))∧((mget Zv (v27.getD v50.toNat 0) v7).getD (0:Int))<((v52.set ((mget Zv (v27.getD v50.toNat 0) v7).getD (0:Int)).toNat (⟨(v52.getD ((mget Zv (v27.getD v50.toNat 0) v7).getD (0:Int)).toNat Z6).Id,(v52.getD ((mget Zv (v27.getD v50.toNat 0) v7).getD (0:Int)).toNat Z6).Parent,v26,(v52.getD ((mget Zv (v27.getD v50.toNat 0) v7).getD (0:Int)).toNat Z6).Children⟩:Zl)).length:Nat) then
 if ((mget Zv (v27.getD v50.toNat 0) v7).getD (0:Int)).toNat<(v52.set ((mget Zv (v27.getD v50.toNat 0) v7).getD (0:Int)).toNat (⟨(v52.getD ((mget Zv (v27.getD v50.toNat 0) v7).getD (0:Int)).toNat Z6).Id,(v52.getD ((mget Zv (v27.getD v50.toNat 0) v7).getD (0:Int)).toNat Z6).Parent,v26,(v52.getD ((mget Zv (v27.getD v50.toNat 0) v7).getD (0:Int)).toNat Z6).Children⟩:Zl)).length then
 if v51.length+((v52.set ((mget Zv (v27.getD v50.toNat 0) v7).getD (0:Int)).toNat (⟨(v52.getD ((mget Zv (v27.getD v50.toNat 0) v7).getD (0:Int)).toNat Z6).Id,(v52.getD ((mget Zv (v27.getD v50.toNat 0) v7).getD (0:Int)).toNat Z6).Parent,v26,(v52.getD ((mget Zv (v27.getD v50.toNat 0) v7).getD (0:Int)).toNat Z6).Children⟩:Zl)).getD ((mget Zv (v27.getD v50.toNat 0) v7).getD (0:Int)).toNat Z6).Children.length≤1073741824 then
 (Zll K v27 v7 v26 c57 k53) (IntKind.i64.wrap (v50+1)) (v51++((v52.set ((mget Zv (v27.getD v50.toNat 0) v7).getD (0:Int)).toNat (⟨(v52.getD ((mget Zv (v27.getD v50.toNat 0) v7).getD (0:Int)).toNat Z6).Id,(v52.getD ((mget Zv (v27.getD v50.toNat 0) v7).getD (0:Int)).toNat Z6).Parent,v26,(v52.getD ((mget Zv (v27.getD v50.toNat 0) v7).getD (0:Int)).toNat Z6).Children⟩:Zl)).getD ((mget Zv (v27.getD v50.toNat 0) v7).getD (0:Int)).toNat Z6).Children) (v52.set ((mget Zv (v27.getD v50.toNat 0) v7).getD (0:Int)).toNat (⟨(v52.getD ((mget Zv (v27.getD v50.toNat 0) v7).getD (0:Int)).toNat Z6).Id,(v52.getD ((mget Zv (v27.getD v50.toNat 0) v7).getD (0:Int)).toNat Z6).Parent,v26,(v52.getD ((mget Zv (v27.getD v50.toNat 0) v7).getD (0:Int)).toNat Z6).Children⟩:Zl))
 else none
 else none
 else none
 else none
 else none
 else none
 else none
 else
 c57 v51 v52
def Zeb (K:Nat) (v7:(List (Int×Int))) (c32:(List Zl)→Option (Zq)):Nat→Int→(List Int)→(List Zl)→Option (Zq)
 | 0,_,_,_=>none
 | k29+1,v26,v27,v28 =>
 if (decide ((v27.length:Int) > 0))=true then
 Zll K v27 v7 v26 (Zlj K (Zeb K v7 c32 k29) v26) K 0 [] v28
 else
 c32 v28
noncomputable def Zhg (K:Nat) (v7:(List (Int×Int))) (a1:Int) (v18:(List (Int×Bool))) (v19:(List Zl)) (v20:(List Int)) (v21:(List Int)):Option (Zq) :=
 (F133 K [v20,v21]).bind fun v25 =>
 Zeb K v7 (Zea K v18 a1 v20 v21) K 0 v25 v19
def Zhi (_K:Nat) (b66:Int→(List (Int×Bool))→(List Zl)→(List Int)→(List Int)→Option (Zq)) (v12:Int) (v69:(List (Int×Bool))) (v70:(List Zl)) (v71:(List Int)) (v72:(List Int)):Option (Zq) :=
 b66 (IntKind.i64.wrap (v12+1)) v69 v70 v71 v72
def Zc1 (K:Nat) (v8:(List Zl)) (v7:(List (Int×Int))) (c23:(List (Int×Bool))→(List Zl)→(List Int)→(List Int)→Option (Zq)):Nat→Int→(List (Int×Bool))→(List Zl)→(List Int)→(List Int)→Option (Zq)
 | 0,_,_,_,_,_=>none
 | k17+1,v12,v13,v14,v15,v16 =>
 if (decide (v12<(v8.length:Int)))=true then
 if (0:Int)≤v12∧v12<v14.length then
 if v12.toNat<v14.length then
 if ((v14.getD v12.toNat Z6).Parent==0)=true then
 if v15.length+[(v14.getD v12.toNat Z6).Id].length≤1073741824 then
 Zhi K (Zc1 K v8 v7 c23 k17) v12 v13 v14 (v15++[(v14.getD v12.toNat Z6).Id]) v16
 else none
 else
 if (mget Zv (v14.getD v12.toNat Z6).Parent v7).isSome=true then
 if (0:Int)≤((mget Zv (v14.getD v12.toNat Z6).Parent v7).getD (0:Int))∧((mget Zv (v14.getD v12.toNat Z6).Parent v7).getD (0:Int))<v14.length then
 if ((mget Zv (v14.getD v12.toNat Z6).Parent v7).getD (0:Int)).toNat<v14.length then
 if ((mget Zv (v14.getD v12.toNat Z6).Parent v7).getD (0:Int)).toNat<v14.length then
 if (v14.getD ((mget Zv (v14.getD v12.toNat Z6).Parent v7).getD (0:Int)).toNat Z6).Children.length+[(v14.getD v12.toNat Z6).Id].length≤1073741824 then
 if (0:Int)≤((mget Zv (v14.getD v12.toNat Z6).Parent v7).getD (0:Int))∧((mget Zv (v14.getD v12.toNat Z6).Parent v7).getD (0:Int))<(v14.set ((mget Zv (v14.getD v12.toNat Z6).Parent v7).getD (0:Int)).toNat (⟨(v14.getD ((mget Zv (v14.getD v12.toNat Z6).Parent v7).getD (0:Int)).toNat Z6).Id,(v14.getD ((mget Zv (v14.getD v12.toNat Z6).Parent v7).getD (0:Int)).toNat Z6).Parent,(v14.getD ((mget Zv (v14.getD v12.toNat Z6).Parent v7).getD (0:Int)).toNat Z6).Depth,(v14.getD ((mget Zv (v14.getD v12.toNat Z6).Parent v7).getD (0:Int)).toNat Z6).Children++[(v14.getD v12.toNat Z6).Id]⟩:Zl)).length then
 if ((mget Zv (v14.getD v12.toNat Z6).Parent v7).getD (0:Int)).toNat<(v14.set ((mget Zv (v14.getD v12.toNat Z6).Parent v7).getD (0:Int)).toNat (⟨(v14.getD ((mget Zv (v14.getD v12.toNat Z6).Parent v7).getD (0:Int)).toNat Z6).Id,(v14.getD ((mget Zv (v14.getD v12.toNat Z6).Parent v7).getD (0:Int)).toNat Z6).Parent,(v14.getD ((mget Zv (v14.getD v12.toNat Z6).Parent v7).getD (0:Int)).toNat Z6).Depth,(v14.getD ((mget Zv (v14.getD v12.toNat Z6).Parent v7).getD (0:Int)).toNat Z6).Children++[(v14.getD v12.toNat Z6).Id]⟩:Zl)).length then
 Zhi K (Zc1 K v8 v7 c23 k17) v12 v13 (v14.set ((mget Zv (v14.getD v12.toNat Z6).Parent v7).getD (0:Int)).toNat (⟨(v14.getD ((mget Zv (v14.getD v12.toNat Z6).Parent v7).getD (0:Int)).toNat Z6).Id,(v14.getD ((mget Zv (v14.getD v12.toNat Z6).Parent v7).getD (0:Int)).toNat Z6).Parent,(v14.getD ((mget Zv (v14.getD v12.toNat Z6).Parent v7).getD (0:Int)).toNat Z6).Depth,(v14.getD ((mget Zv (v14.getD v12.toNat Z6).Parent v7).getD (0:Int)).toNat Z6).Children++[(v14.getD v12.toNat Z6).Id]⟩:Zl)) v15 v16
 else none
 else none
 else none
 else none
 else none
 else none
 else
 if v16.length+[(v14.getD v12.toNat Z6).Id].length≤1073741824 then
 Zhi K (Zc1 K v8 v7 c23 k17) v12 (mput Zv (v14.getD v12.toNat Z6).Parent true v13) v14 v15 (v16++[(v14.getD v12.toNat Z6).Id])
 else none
 else none
 else none
 else
 c23 v13 v14 v15 v16
noncomputable def Zqe (K:Nat) (a1:Int) (v7:(List (Int×Int))) (v8:(List Zl)):Option (Zq) :=
 if (v8.all fun x:Zl=>x.Children.isEmpty)=true then
 Zc1 K v8 v7 (Zhg K v7 a1) K 0 ([]:List (Int×Bool)) v8 [] []
 else none
def Zqf (K:Nat) (v2:(List Z2)) (c10:(List (Int×Int))→(List Zl)→Option (Zq)):Nat→Int→(List (Int×Int))→(List Zl)→Option (Zq)
 | 0,_,_,_=>none
 | k6+1,v3,v4,v5 =>
 if (decide (v3<(v2.length:Int)))=true then
 if (0:Int)≤v3∧v3<v2.length then
 if v5.length+([(⟨(v2.getD v3.toNat Z5).Id,(v2.getD v3.toNat Z5).Parent,(Int.negSucc 0),[]⟩:Zl)]).length≤1073741824 then
 (Zqf K v2 c10 k6) (IntKind.i64.wrap (v3+1)) (mput Zv (v2.getD v3.toNat Z5).Id (v5.length:Int) v4) (v5++([(⟨(v2.getD v3.toNat Z5).Id,(v2.getD v3.toNat Z5).Parent,(Int.negSucc 0),[]⟩:Zl)]))
 else none
 else none
 else
 c10 v4 v5
noncomputable def F77 (K:Nat) (a0:(List Z2)) (a1:Int):Option (Zq) :=
 (F66 K a0 a1).bind fun v2 =>
 Zqf K v2 (Zqe K a1) K 0 ([]:List (Int×Int)) []
theorem F77_ok (K:Nat) (a0:(List Z2)) (a1:Int) (r:Zq) (h:F77 K a0 a1=some r):ACall P 77 ⟨[(.sl 14 (a0.map Zb) false),(.int .i64 a1)],[],(Z1b r),[],[]⟩:=by
 refine ac Tryz.func77 Tryz.results77 Tryz.ntmps77 fun w0 F0 p0 S0 β0 Q hret=>?_
 dsimp only [argT]
 unfold F77 at h
 refine AWp.seq<|AWp.region ?_
 refine oc (Z2a rfl z173f rfl rfl rfl) ?_
 refine G1 h fun h=>?_
 refine oc (Z1i (vs:=[(0,(.int .i64 a1))]) rfl st173f ⟨rfl,rfl,trivial⟩ rfl) ?_
 refine oc (Z2a rfl z173f rfl rfl rfl) ?_
 refine oc (Zm (ds:=[_,_,_,_,_,_])) ?_
 refine G1 h fun h=>?_
 have⟨v2,hv2,h⟩:=Zd h
 refine oc (Z15 Tryz.call66 (F66_ok (h:=hv2))) ?_
 refine G1 h fun h=>?_
 refine AWp.ghost (fun a w h=>gk ⟨[(4,_),(5,_),(6,_),(26,_),(27,_),(28,_)],[(4,_),(5,_),(23,_),(162,_)]⟩ (Zc8 (n:=5) (m:=162) (sz:=4) (j:=1) (gk ⟨[(4,_),(5,_),(6,_),(26,_),(27,_),(28,_)],[(5,_),(4,_),(23,_)]⟩ h))) ?_
 refine lb (V:=Int×(List (Int×Int))×(List Zl)) (X:=(List (Int×Int))×(List Zl)) (v:=(_,_,_)) (fun k v=>Zqf K v2 (Zqe K a1) k v.1 v.2.1 v.2.2=some r) (fun v=>Zqe K a1 v.1 v.2=some r) [(4,_),(5,_),(6,_),(26,_),(27,_)] [(4,_),(5,_)] [(4,_),(5,_),(6,_)] [(4,_),(5,_)] (fun v t=>(28,(.int .i64 v.1))::t) (fun v s=>(23,(.map (Zn Z7 Z7 v.2.1)))::(162,(.vec 4 (List.map Z3l v.2.2)))::s) (fun v t=>t) (fun v s=>(23,(.map (Zn Z7 Z7 v.1)))::(162,(.vec 4 (List.map Z3l v.2)))::s) h ?_ ?_
 ·intro v h
  obtain⟨v7,v8⟩:=v
  try dsimp only at h ⊢
  unfold Zqe at h
  refine At.next ?_
  refine G2 h fun h=>?_
  refine At.next<|AWp.seq<|AWp.seq ?_
  have⟨hg11,h⟩:=Zg h
  refine AWp.ghost (fun a w h=>gk ⟨[(4,_),(5,_),(6,_),(9,_)],[(4,_),(5,_),(23,_),(49,_),(162,_)]⟩ (Zs8 (m:=162) (sz:=4) (off:=3) (f:=Z3l) (hd:=Z26) (ch:=(fun x:Zl=>x.Children)) (enc:=Z7) (l:=v8) I I (fun _=>⟨I,I⟩) hg11 I a w (gk ⟨[(4,_),(5,_),(6,_),(9,_)],[(162,_),(4,_),(5,_),(23,_),(49,_)]⟩ h))) ?_
  refine G1 h fun h=>?_
  refine oc (st_lenF (hd:=Z26) (ch:=(fun x:Zl=>x.Children)) (enc:=Z7) (l:=v8) rfl u171 rfl rfl) ?_
  refine G1 h fun h=>?_
  refine AWp.ghost (fun a w h=>gk ⟨[(4,_),(5,_),(6,_),(9,_),(51,_),(52,_),(53,_)],[(4,_),(5,_),(23,_),(49,_),(51,_),(158,_),(161,_)]⟩ (Z3x (a:=162) (b:=51) (gk ⟨[(4,_),(5,_),(6,_),(9,_),(51,_),(52,_),(53,_)],[(4,_),(5,_),(23,_),(49,_),(158,_),(161,_),(162,_)]⟩ (gk ⟨[(4,_),(5,_),(6,_),(9,_),(51,_),(52,_),(53,_)],[(4,_),(5,_),(23,_),(49,_),(158,_),(161,_),(162,_)]⟩ (Zc8 (n:=5) (m:=158) (sz:=1) (j:=3) (gk ⟨[(4,_),(5,_),(6,_),(9,_),(51,_),(52,_),(53,_)],[(5,_),(4,_),(23,_),(49,_),(161,_),(162,_)]⟩ (gk ⟨[(4,_),(5,_),(6,_),(9,_),(51,_),(52,_),(53,_)],[(4,_),(5,_),(23,_),(49,_),(161,_),(162,_)]⟩ (Zc8 (n:=5) (m:=161) (sz:=1) (j:=2) (gk ⟨[(4,_),(5,_),(6,_),(9,_),(51,_),(52,_),(53,_)],[(5,_),(4,_),(23,_),(49,_),(162,_)]⟩ h))))))))) ?_
  refine lb (V:=Int×(List (Int×Bool))×(List Zl)×(List Int)×(List Int)) (X:=(List (Int×Bool))×(List Zl)×(List Int)×(List Int)) (v:=(_,_,_,_,_)) (fun k v=>Zc1 K v8 v7 (Zhg K v7 a1) k v.1 v.2.1 v.2.2.1 v.2.2.2.1 v.2.2.2.2=some r) (fun v=>Zhg K v7 a1 v.1 v.2.1 v.2.2.1 v.2.2.2=some r) [(4,_),(5,_),(6,_),(9,_),(51,_),(52,_)] [(4,_),(5,_),(23,_)] [(4,_),(5,_),(6,_),(9,_)] [(4,_),(5,_),(23,_)] (fun v t=>(53,(.int .i64 v.1))::t) (fun v s=>(49,(.map (Zn Z7 Zt v.2.1)))::(51,(.ftab 4 3 (List.map Z26 v.2.2.1) (List.map (fun x:Zl=>List.map Z7 x.Children) v.2.2.1) none))::(158,(.vec 1 (List.map Z7 v.2.2.2.2)))::(161,(.vec 1 (List.map Z7 v.2.2.2.1)))::s) (fun v t=>t) (fun v s=>(49,(.map (Zn Z7 Zt v.1)))::(51,(.ftab 4 3 (List.map Z26 v.2.1) (List.map (fun x:Zl=>List.map Z7 x.Children) v.2.1) none))::(158,(.vec 1 (List.map Z7 v.2.2.2)))::(161,(.vec 1 (List.map Z7 v.2.2.1)))::s) h ?_ ?_
  ·intro v h
   obtain⟨v18,v19,v20,v21⟩:=v
   try dsimp only at h ⊢
   unfold Zhg at h
   refine At.next<|AWp.seq<|AWp.ghost (fun a w h=>gk ⟨[(4,_),(5,_),(6,_),(9,_)],[(4,_),(5,_),(23,_),(49,_),(51,_),(158,_),(161,_)]⟩ (ghost_unF (m:=51) (sz:=4) (off:=3) (f:=Z20) (hd:=Z26) (ch:=(fun x:Zl=>x.Children)) (enc:=Z7) (l:=v19) I I (fun _=>I) a w (gk ⟨[(4,_),(5,_),(6,_),(9,_)],[(51,_),(4,_),(5,_),(23,_),(49,_),(158,_),(161,_)]⟩ h))) ?_
   refine G1 h fun h=>?_
   refine AOps.ghost (fun a w h=>gk ⟨[(4,_),(5,_),(6,_),(9,_),(104,_),(106,_)],[(4,_),(5,_),(23,_),(49,_),(51,_),(158,_)]⟩ (Z1j (m:=161) (sz:=1) (gk ⟨[(4,_),(5,_),(6,_),(9,_),(104,_),(106,_)],[(161,_),(4,_),(5,_),(23,_),(49,_),(51,_),(158,_)]⟩ h)))<|AOps.ghost (fun a w h=>gk ⟨[(4,_),(5,_),(6,_),(9,_),(104,_),(106,_)],[(4,_),(5,_),(23,_),(49,_),(51,_)]⟩ (Z1j (m:=158) (sz:=1) (gk ⟨[(4,_),(5,_),(6,_),(9,_),(104,_),(106,_)],[(158,_),(4,_),(5,_),(23,_),(49,_),(51,_)]⟩ h))) ?_
   refine oc (Zj (vs:=[_,_]) (enc:=Z19) (l:=[v20,v21]) rfl Zs5 rfl rfl ⟨rfl,rfl,trivial⟩ rfl Z6m rfl rfl rfl rfl) ?_
   have⟨v25,hv25,h⟩:=Zd h
   refine oc (Z9w (enc:=Z7) (l:=v25) (rd:=[(107,(.vec 1 (List.map Z19 [v20,v21])))]) (ar:=[_]) (caps:=[]) Tryz.call133 ((F133_ok (h:=hv25)).sw 2 108) rfl rfl ⟨rfl,trivial⟩ (Z2f ⟨rfl,trivial⟩) rfl rfl (fun _=>rfl)) ?_
   refine G1 h fun h=>?_
   refine AWp.ghost (fun a w h=>gk ⟨[(4,_),(5,_),(6,_),(9,_),(14,_),(15,_)],[(4,_),(5,_),(14,_),(23,_),(49,_),(162,_)]⟩ (Z3x (a:=108) (b:=14) (gk ⟨[(4,_),(5,_),(6,_),(9,_),(14,_),(15,_)],[(4,_),(5,_),(23,_),(49,_),(108,_),(162,_)]⟩ (gk ⟨[(4,(.ptr 4 0)),(5,(.ptr 5 0)),(6,(.map 23)),(9,(.map 49)),(14,(.vs 108)),(15,(.int .i64 0))],[(4,(.box [(.int .i64 0),(.sl 4 [] true),(.sl 1 [] true),(.sl 1 [] true),(.sl 1 [] true),(.sl 1 [] true)])),(5,(.box [(.int .i64 a1),(.vs 162),(.sl 1 (v20.map Z7) false),(.sl 1 (v21.map Z7) false),(.sl 1 [] true),(.sl 1 [] true)])),(23,(.map (Zn Z7 Z7 v7))),(49,(.map (Zn Z7 Zt v18))),(108,(.vec 1 (List.map Z7 v25))),(162,(.vec 4 (List.map Z20 v19)))]⟩ (Z3x (a:=51) (b:=162) (gk ⟨[(4,_),(5,_),(6,_),(9,_),(14,_),(15,_)],[(4,_),(5,_),(23,_),(49,_),(51,_),(108,_)]⟩ h)))))) ?_
   refine lb (V:=Int×(List Int)×(List Zl)) (X:=(List Zl)) (v:=(_,_,_)) (fun k v=>Zeb K v7 (Zea K v18 a1 v20 v21) k v.1 v.2.1 v.2.2=some r) (fun v=>Zea K v18 a1 v20 v21 v=some r) [(4,_),(5,_),(6,_),(9,_),(14,_)] [(4,_),(5,_),(23,_),(49,_)] [(4,_),(5,_),(9,_)] [(4,_),(5,_),(49,_)] (fun v t=>(15,(.int .i64 v.1))::t) (fun v s=>(14,(.vec 1 (List.map Z7 v.2.1)))::(162,(.vec 4 (List.map Z20 v.2.2)))::s) (fun v t=>t) (fun v s=>(162,(.vec 4 (List.map Z20 v)))::s) h ?_ ?_
   ·intro v h
    revert h
    revert v
    intro v30 h
    try dsimp only at h ⊢
    unfold Zea at h
    refine G1 h fun h=>?_
    refine oc (Z2t rfl u171 rfl rfl) ?_
    refine G1 h fun h=>?_
    refine AWp.ghost (fun a w h=>gk ⟨[(4,_),(5,_),(9,_),(141,_),(142,_),(143,_)],[(4,_),(5,_),(49,_),(141,_),(157,_)]⟩ (Z3x (a:=162) (b:=141) (gk ⟨[(4,_),(5,_),(9,_),(141,_),(142,_),(143,_)],[(4,_),(5,_),(49,_),(157,_),(162,_)]⟩ (gk ⟨[(4,_),(5,_),(9,_),(141,_),(142,_),(143,_)],[(4,_),(5,_),(49,_),(157,_),(162,_)]⟩ (Zc8 (n:=5) (m:=157) (sz:=1) (j:=4) (gk ⟨[(4,_),(5,_),(9,_),(141,_),(142,_),(143,_)],[(5,_),(4,_),(49,_),(162,_)]⟩ h)))))) ?_
    refine lb (V:=Int×(List Int)) (X:=(List Int)) (v:=(_,_)) (fun k v=>Zec K v30 (Zhh K v18 a1 v30 v20 v21) k v.1 v.2=some r) (fun v=>Zhh K v18 a1 v30 v20 v21 v=some r) [(4,_),(5,_),(9,_),(141,_),(142,_)] [(4,_),(5,_),(49,_),(141,_)] [(4,_),(5,_),(9,_)] [(4,_),(5,_),(49,_),(141,_)] (fun v t=>(143,(.int .i64 v.1))::t) (fun v s=>(157,(.vec 1 (List.map Z7 v.2)))::s) (fun v t=>t) (fun v s=>(157,(.vec 1 (List.map Z7 v)))::s) h ?_ ?_
    ·intro v h
     revert h
     revert v
     intro v36 h
     try dsimp only at h ⊢
     unfold Zhh at h
     refine G1 h fun h=>?_
     have⟨v40,hv40,h⟩:=Zd h
     refine oc (Z1d (d:=some 159) (c:=⟨_,[(49,_)],(.clo 182 [(.ptr 159 0)]),[(49,(.map (Zn Z7 Zt v18))),(159,(.box [(.map 49)]))],[159]⟩) (ar:=[_]) (caps:=[]) (news:=[159]) (forg:=[]) Tryz.call124 (((F124_ok (h:=hv40)).sw 2000 49).sw 1 159) rfl rfl ⟨rfl,trivial⟩ rfl ⟨rfl,trivial⟩ rfl) ?_
     have⟨v42,hv42,h⟩:=Zd h
     refine oc (Z1d (d:=some 160) (c:=⟨_,[(159,_),(49,_)],(.vs 160),[(159,(.box [(.map 49)])),(49,(.fmap (Zn Z7 Zt v18))),(160,(.vec 1 (List.map Z7 v42)))],[49,160]⟩) (ar:=[_]) (caps:=[]) (news:=[160]) (forg:=[49]) Tryz.call123 ((((F123_ok (h:=hv42)).sw 2000 159).sw 8 49).sw 5 160) rfl rfl ⟨rfl,trivial⟩ rfl ⟨rfl,rfl,trivial⟩ rfl) ?_
     refine G1 h fun h=>?_
     refine oc (Zm (ds:=[_,_,_,_,_,_])) ?_
     refine G1 h fun h=>?_
     refine oc (Zm (ds:=[_,_,_,_,_,_])) ?_
     refine AOps.nil<|At.next<|AWp.ret<|At.ghost (fun a w h=>gk ⟨[(4,_)],[(4,_)]⟩ (Z1j (m:=160) (sz:=1) (gk ⟨[(4,_)],[(160,_),(4,_)]⟩ (gk ⟨[(4,(.ptr 4 0))],[(4,(.box [(.int .i64 a1),(.sl 4 (v30.map Z20) false),(.sl 1 (v20.map Z7) false),(.sl 1 (v21.map Z7) false),(.sl 1 (v36.map Z7) false),(.vs 160)])),(160,(.vec 1 (List.map Z7 v42)))]⟩ (Z1j (m:=157) (sz:=1) (gk ⟨[(4,_)],[(157,_),(4,_),(160,_)]⟩ (gk ⟨[(4,(.ptr 4 0))],[(4,(.box [(.int .i64 a1),(.sl 4 (v30.map Z20) false),(.sl 1 (v20.map Z7) false),(.sl 1 (v21.map Z7) false),(.vs 157),(.vs 160)])),(157,(.vec 1 (List.map Z7 v36))),(160,(.vec 1 (List.map Z7 v42)))]⟩ (Z1j (m:=141) (sz:=4) (gk ⟨[(4,_)],[(141,_),(4,_),(157,_),(160,_)]⟩ h))))))))) ?_
     have h:=Option.some.inj h
     subst h
     refine (hret _ ?_).1
     exact⟨[(.ag [(.int .i64 a1),(.sl 4 (v30.map Z20) false),(.sl 1 (v20.map Z7) false),(.sl 1 (v21.map Z7) false),(.sl 1 (v36.map Z7) false),(.sl 1 (v42.map Z7) false)])],⟨⟨4,_,I,I,.inr ⟨_,a173,I,I⟩⟩,J0⟩,I,J0⟩
    intro N k35 v h IH35 J35
    obtain⟨v33,v34⟩:=v
    try dsimp only at h IH35 J35 ⊢
    cases k35 with
    | zero=>cases h
    | succ k35 =>
     rw [Zec] at h
     refine Mc h (fun h=>?_) (fun h=>?_)
     ·refine AWp.skip<|At.next<|AWp.seq<|AWp.block ?_
      refine G1 h fun h=>?_
      refine oc (Z2a rfl z212f rfl rfl rfl) ?_
      refine oc (Zm (ds:=_)) ?_
      refine G1 h fun h=>?_
      refine jn (V:=(List Int)) (fun v=>Zlk K (Zec K v30 (Zhh K v18 a1 v30 v20 v21) k35) v33 v=some r) [(4,_),(5,_),(9,_),(141,_),(142,_),(143,_)] [(4,_),(5,_),(49,_),(141,_)] (fun v t=>t) (fun v s=>(157,(.vec 1 (List.map Z7 v)))::s) ?_ ?_
      ·intro v h
       revert h
       revert v
       intro v46 h
       try dsimp only at h ⊢
       unfold Zlk at h
       refine Z17<|At.next ?_
       exact M2 h (k:=fun h=>wkx (IH35 _ (_,_) Z1p h))
      intro J47
      refine cnd h (fun h=>?_) (fun h=>?_)
      ·refine G1 h fun h=>?_
       refine oc (Zj (vs:=[_]) (enc:=Z7) (l:=[(v30.getD v33.toNat Z6).Id]) rfl Z65 rfl rfl ⟨rfl,trivial⟩ rfl Z1u rfl rfl rfl rfl) ?_
       have⟨hg48,h⟩:=Zg h
       refine oc (Z1g (m:=157) rfl rfl Z65 rfl u38 rfl rfl rfl rfl (oneRead rfl) Z1u hg48) ?_
       refine G1 h fun h=>?_
       refine oc (Zm (ds:=[_,_,_,_,_,_])) ?_
       refine AOps.nil ?_
       exact wkx (J47 _ h)
      refine AWp.skip ?_
      exact wkx (J47 _ h)
     refine AWp.exit<|Zz ?_
     exact wkx (J35 _ h)
   intro N k29 v h IH29 J29
   obtain⟨v26,v27,v28⟩:=v
   try dsimp only at h IH29 J29 ⊢
   cases k29 with
   | zero=>cases h
   | succ k29 =>
    rw [Zeb] at h
    refine G1 h fun h=>?_
    refine oc (Z2t rfl u38 rfl rfl) ?_
    refine Mc h (fun h=>?_) (fun h=>?_)
    ·refine AWp.skip<|At.next<|AWp.seq<|AWp.block<|AWp.seq<|AWp.region ?_
     refine oc (Zh (v:=(.sl 1 [] true)) rfl rfl) ?_
     refine G1 h fun h=>?_
     refine oc (Z2t rfl u38 rfl rfl) ?_
     refine G1 h fun h=>?_
     refine AWp.ghost (fun a w h=>gk ⟨[(4,_),(5,_),(6,_),(9,_),(15,_),(16,_),(114,_),(115,_),(116,_)],[(4,_),(5,_),(16,_),(23,_),(49,_),(114,_),(162,_)]⟩ (Z3x (a:=14) (b:=114) (gk ⟨[(4,_),(5,_),(6,_),(9,_),(15,_),(16,_),(114,_),(115,_),(116,_)],[(4,_),(5,_),(14,_),(16,_),(23,_),(49,_),(162,_)]⟩ (gk ⟨[(4,_),(5,_),(6,_),(9,_),(15,_),(16,_),(114,_),(115,_),(116,_)],[(4,_),(5,_),(14,_),(16,_),(23,_),(49,_),(162,_)]⟩ (Z38 (k:=16) (m:=16) (sz:=1) (gk ⟨[(16,_),(4,_),(5,_),(6,_),(9,_),(15,_),(114,_),(115,_),(116,_)],[(4,_),(5,_),(14,_),(23,_),(49,_),(162,_)]⟩ h)))))) ?_
     refine lb (V:=Int×(List Int)×(List Zl)) (X:=(List Int)×(List Zl)) (v:=(_,_,_)) (fun k v=>Zll K v27 v7 v26 (Zlj K (Zeb K v7 (Zea K v18 a1 v20 v21) k29) v26) k v.1 v.2.1 v.2.2=some r) (fun v=>Zlj K (Zeb K v7 (Zea K v18 a1 v20 v21) k29) v26 v.1 v.2=some r) [(4,_),(5,_),(6,_),(9,_),(15,_),(16,_),(114,_),(115,_)] [(4,_),(5,_),(23,_),(49,_),(114,_)] [(4,_),(5,_),(6,_),(9,_),(15,_),(16,_)] [(4,_),(5,_),(23,_),(49,_)] (fun v t=>(116,(.int .i64 v.1))::t) (fun v s=>(16,(.vec 1 (List.map Z7 v.2.1)))::(162,(.vec 4 (List.map Z20 v.2.2)))::s) (fun v t=>t) (fun v s=>(16,(.vec 1 (List.map Z7 v.1)))::(162,(.vec 4 (List.map Z20 v.2)))::s) h ?_ ?_
     ·intro v h
      obtain⟨v54,v55⟩:=v
      try dsimp only at h ⊢
      unfold Zlj at h
      refine At.next ?_
      refine G2 h fun h=>?_
      refine Z17<|At.next ?_
      refine G2 h fun h=>?_
      refine At.ghost (fun a w h=>gk ⟨[(4,_),(5,_),(6,_),(9,_),(14,_),(15,_)],[(4,_),(5,_),(14,_),(23,_),(49,_),(162,_)]⟩ (Z3x (a:=16) (b:=14) (gk ⟨[(4,_),(5,_),(6,_),(9,_),(14,_),(15,_)],[(4,_),(5,_),(16,_),(23,_),(49,_),(162,_)]⟩ h))) ?_
      exact wkx (IH29 _ (_,_,_) Z1p h)
     intro N k53 v h IH53 J53
     obtain⟨v50,v51,v52⟩:=v
     try dsimp only at h IH53 J53 ⊢
     cases k53 with
     | zero=>cases h
     | succ k53 =>
      rw [Zll] at h
      refine Mc h (fun h=>?_) (fun h=>?_)
      ·refine AWp.skip<|At.next<|AWp.seq<|AWp.block ?_
       refine G1 h fun h=>?_
       refine oc (Z2h (a:=(v27.getD v50.toNat 0)) rfl Z4x rfl rfl (.inl rfl) rfl rfl) ?_
       refine G1 h fun h=>?_
       have⟨hg62,h⟩:=Zg h
       refine oc (Z4u (l:=v52) (enc:=Z20) (z:=Z6) (a:=(⟨(v52.getD ((mget Zv (v27.getD v50.toNat 0) v7).getD (0:Int)).toNat Z6).Id,(v52.getD ((mget Zv (v27.getD v50.toNat 0) v7).getD (0:Int)).toNat Z6).Parent,v26,(v52.getD ((mget Zv (v27.getD v50.toNat 0) v7).getD (0:Int)).toNat Z6).Children⟩:Zl)) (v:=(.int .i64 v26)) sz3 rfl rfl hg62 rfl Zcq rfl rfl rfl rfl) ?_
       refine G1 h fun h=>?_
       refine oc (Z2h (a:=(v27.getD v50.toNat 0)) rfl Z4x rfl rfl (.inl rfl) rfl rfl) ?_
       refine G1 h fun h=>?_
       have⟨hg65,h⟩:=Zg h
       refine oc (Z1g (m:=16) rfl rfl Z65 rfl u38 rfl rfl rfl ⟨rfl,rfl,rfl⟩ noReads Z1u hg65) ?_
       refine G2 h fun h=>?_
       refine Z17<|At.next ?_
       exact M2 h (k:=fun h=>wkx (IH53 _ (_,_,_) Z1p h))
      refine AWp.exit<|Zz ?_
      exact wkx (J53 (_,_) h)
    refine AWp.exit<|Zz ?_
    exact wkx (J29 _ h)
  intro N k17 v h IH17 J17
  obtain⟨v12,v13,v14,v15,v16⟩:=v
  try dsimp only at h IH17 J17 ⊢
  cases k17 with
  | zero=>cases h
  | succ k17 =>
   rw [Zc1] at h
   refine Mc h (fun h=>?_) (fun h=>?_)
   ·refine AWp.skip<|At.next<|AWp.seq<|AWp.block<|AWp.seq<|AWp.region ?_
    have⟨hg67,h⟩:=Zg h
    refine oc (Zik (hd:=Z26) (ch:=(fun x:Zl=>x.Children)) (enc:=Z7) (l:=v14) (k:=.i64) (j:=v12) (m:=v12.toNat) rfl s171 rfl rfl rfl hg67 rfl) ?_
    have⟨hg68,h⟩:=Zg h
    refine oc (st_loadFA (hd:=Z26) (ch:=(fun x:Zl=>x.Children)) (enc:=Z7) (l:=v14) (z:=Z6) (vs:=[(.int .i64 (v14.getD v12.toNat Z6).Id),(.int .i64 (v14.getD v12.toNat Z6).Parent),(.int .i64 (v14.getD v12.toNat Z6).Depth),(.tr 51 v12.toNat)]) rfl a212 rfl rfl hg68 rfl) ?_
    refine oc (Z2a rfl z212f rfl rfl rfl) ?_
    refine oc (Zm (ds:=[_,_,_,_])) ?_
    refine G1 h fun h=>?_
    refine oc (Z33 (a:=(v14.getD v12.toNat Z6).Parent) rfl Z4x rfl rfl (.inl rfl) rfl rfl) ?_
    refine G1 h fun h=>?_
    refine AWp.block ?_
    refine G1 h fun h=>?_
    refine jn (V:=(List (Int×Bool))×(List Zl)×(List Int)×(List Int)) (fun v=>Zhi K (Zc1 K v8 v7 (Zhg K v7 a1) k17) v12 v.1 v.2.1 v.2.2.1 v.2.2.2=some r) [(4,_),(5,_),(6,_),(9,_),(51,_),(52,_),(53,_)] [(4,_),(5,_),(23,_)] (fun v t=>t) (fun v s=>(49,(.map (Zn Z7 Zt v.1)))::(51,(.ftab 4 3 (List.map Z26 v.2.1) (List.map (fun x:Zl=>List.map Z7 x.Children) v.2.1) none))::(158,(.vec 1 (List.map Z7 v.2.2.2)))::(161,(.vec 1 (List.map Z7 v.2.2.1)))::s) ?_ ?_
    ·intro v h
     obtain⟨v69,v70,v71,v72⟩:=v
     try dsimp only at h ⊢
     unfold Zhi at h
     refine Z17<|Z17<|At.next ?_
     exact M2 h (k:=fun h=>wkx (IH17 _ (_,_,_,_,_) Z1p h))
    intro J73
    refine cnd h (fun h=>?_) (fun h=>?_)
    ·refine G1 h fun h=>?_
     refine oc (Zj (vs:=[_]) (enc:=Z7) (l:=[(v14.getD v12.toNat Z6).Id]) rfl Z65 rfl rfl ⟨rfl,trivial⟩ rfl Z1u rfl rfl rfl rfl) ?_
     have⟨hg74,h⟩:=Zg h
     refine oc (Z1g (m:=161) rfl rfl Z65 rfl u38 rfl rfl rfl rfl (oneRead rfl) Z1u hg74) ?_
     refine G1 h fun h=>?_
     refine oc (Zm (ds:=[_,_,_,_,_,_])) ?_
     refine AOps.nil ?_
     exact wkx (J73 (_,_,_,_) h)
    refine Mc h (fun h=>?_) (fun h=>?_)
    ·refine G1 h fun h=>?_
     have⟨hg75,h⟩:=Zg h
     refine oD (Zik (hd:=Z26) (ch:=(fun x:Zl=>x.Children)) (enc:=Z7) (l:=v14) (k:=.i64) (j:=((mget Zv (v14.getD v12.toNat Z6).Parent v7).getD (0:Int))) (m:=((mget Zv (v14.getD v12.toNat Z6).Parent v7).getD (0:Int)).toNat) rfl s171 rfl rfl rfl hg75 rfl) ?_
     refine G1 h fun h=>?_
     have⟨hg76,h⟩:=Zg h
     refine oD (st_loadFR (hd:=Z26) (ch:=(fun x:Zl=>x.Children)) (enc:=Z7) (l:=v14) rfl o38 rfl rfl hg76) ?_
     refine G1 h fun h=>?_
     refine oD (Zj (vs:=[_]) (enc:=Z7) (l:=[(v14.getD v12.toNat Z6).Id]) rfl Z65 rfl rfl ⟨rfl,trivial⟩ rfl Z1u rfl rfl rfl rfl) ?_
     have⟨hg77,h⟩:=Zg h
     have⟨hg78,h⟩:=Zg h
     refine oD (Zpx (hd:=Z26) (ch:=(fun x:Zl=>x.Children)) (enc:=Z7) (l:=v14) (z:=Z6) (a':=(⟨(v14.getD ((mget Zv (v14.getD v12.toNat Z6).Parent v7).getD (0:Int)).toNat Z6).Id,(v14.getD ((mget Zv (v14.getD v12.toNat Z6).Parent v7).getD (0:Int)).toNat Z6).Parent,(v14.getD ((mget Zv (v14.getD v12.toNat Z6).Parent v7).getD (0:Int)).toNat Z6).Depth,(v14.getD ((mget Zv (v14.getD v12.toNat Z6).Parent v7).getD (0:Int)).toNat Z6).Children++[(v14.getD v12.toNat Z6).Id]⟩:Zl)) (l':=[(v14.getD v12.toNat Z6).Id]) (src:=(.vs 98)) (rd:=[(98,(.vec 1 (List.map Z7 [(v14.getD v12.toNat Z6).Id])))]) rfl rfl Z65 rfl u38 rfl rfl hg77 rfl rfl (oneRead rfl) Z1u hg78 rfl rfl) ?_
     have⟨hg79,h⟩:=Zg h
     refine oD (Zik (hd:=Z26) (ch:=(fun x:Zl=>x.Children)) (enc:=Z7) (l:=(v14.set ((mget Zv (v14.getD v12.toNat Z6).Parent v7).getD (0:Int)).toNat (⟨(v14.getD ((mget Zv (v14.getD v12.toNat Z6).Parent v7).getD (0:Int)).toNat Z6).Id,(v14.getD ((mget Zv (v14.getD v12.toNat Z6).Parent v7).getD (0:Int)).toNat Z6).Parent,(v14.getD ((mget Zv (v14.getD v12.toNat Z6).Parent v7).getD (0:Int)).toNat Z6).Depth,(v14.getD ((mget Zv (v14.getD v12.toNat Z6).Parent v7).getD (0:Int)).toNat Z6).Children++[(v14.getD v12.toNat Z6).Id]⟩:Zl))) (k:=.i64) (j:=((mget Zv (v14.getD v12.toNat Z6).Parent v7).getD (0:Int))) (m:=((mget Zv (v14.getD v12.toNat Z6).Parent v7).getD (0:Int)).toNat) rfl s171 rfl rfl rfl hg79 rfl) ?_
     refine G1 h fun h=>?_
     have⟨hg80,h⟩:=Zg h
     refine oD (Zsw (hd:=Z26) (ch:=(fun x:Zl=>x.Children)) (enc:=Z7) (l:=(v14.set ((mget Zv (v14.getD v12.toNat Z6).Parent v7).getD (0:Int)).toNat (⟨(v14.getD ((mget Zv (v14.getD v12.toNat Z6).Parent v7).getD (0:Int)).toNat Z6).Id,(v14.getD ((mget Zv (v14.getD v12.toNat Z6).Parent v7).getD (0:Int)).toNat Z6).Parent,(v14.getD ((mget Zv (v14.getD v12.toNat Z6).Parent v7).getD (0:Int)).toNat Z6).Depth,(v14.getD ((mget Zv (v14.getD v12.toNat Z6).Parent v7).getD (0:Int)).toNat Z6).Children++[(v14.getD v12.toNat Z6).Id]⟩:Zl))) sz38 rfl rfl rfl hg80 (fun _=>rfl)) ?_
     refine AOpsE.nil (by kernel_rfl) I ?_
     exact wkx (J73 (_,_,_,_) h)
    refine G1 h fun h=>?_
    refine oc (Zj (vs:=[_]) (enc:=Z7) (l:=[(v14.getD v12.toNat Z6).Id]) rfl Z65 rfl rfl ⟨rfl,trivial⟩ rfl Z1u rfl rfl rfl rfl) ?_
    have⟨hg81,h⟩:=Zg h
    refine oc (Z1g (m:=158) rfl rfl Z65 rfl u38 rfl rfl rfl rfl (oneRead rfl) Z1u hg81) ?_
    refine G1 h fun h=>?_
    refine oc (Zm (ds:=[_,_,_,_,_,_])) ?_
    refine G1 h fun h=>?_
    refine oc (Z1v (a:=(v14.getD v12.toNat Z6).Parent) (b:=true) (kv:=(.int .i64 (v14.getD v12.toNat Z6).Parent)) (vv:=(.bool true)) Zcc rfl rfl rfl rfl rfl rfl) ?_
    refine AOps.nil ?_
    exact wkx (J73 (_,_,_,_) h)
   refine AWp.exit<|Zz ?_
   exact wkx (J17 (_,_,_,_) h)
 intro N k6 v h IH6 J6
 obtain⟨v3,v4,v5⟩:=v
 try dsimp only at h IH6 J6 ⊢
 cases k6 with
 | zero=>cases h
 | succ k6 =>
  rw [Zqf] at h
  refine Mc h (fun h=>?_) (fun h=>?_)
  ·refine AWp.skip<|At.next<|AWp.seq<|AWp.block ?_
   refine G1 h fun h=>?_
   refine oc (Z2a rfl z94f rfl rfl rfl) ?_
   refine oc (Zm (ds:=_)) ?_
   refine G1 h fun h=>?_
   refine oc (Z2t rfl u171 rfl rfl) ?_
   refine oc (Z1v (a:=(v2.getD v3.toNat Z5).Id) (b:=(v5.length:Int)) (kv:=(.int .i64 (v2.getD v3.toNat Z5).Id)) (vv:=(.int .i64 (v5.length:Int))) Z4x rfl rfl rfl rfl rfl rfl) ?_
   refine G1 h fun h=>?_
   refine oc (Z1i (vs:=[(0,(.int .i64 (v2.getD v3.toNat Z5).Id)),(1,(.int .i64 (v2.getD v3.toNat Z5).Parent)),(2,(.int .i64 (Int.negSucc 0)))]) rfl st212f ⟨rfl,rfl,rfl,rfl,rfl,rfl,trivial⟩ rfl) ?_
   refine oc (Zj (vs:=[_]) (enc:=Z3l) (l:=[(⟨(v2.getD v3.toNat Z5).Id,(v2.getD v3.toNat Z5).Parent,(Int.negSucc 0),[]⟩:Zl)]) rfl el171 rfl rfl ⟨rfl,trivial⟩ rfl Z6l rfl rfl rfl rfl) ?_
   have⟨hg84,h⟩:=Zg h
   refine oc (Z1g (m:=162) rfl rfl el171 rfl u171 rfl rfl rfl rfl (oneRead rfl) Z6l hg84) ?_
   refine G1 h fun h=>?_
   refine oc (Zm (ds:=[_,_,_,_,_,_])) ?_
   refine AOps.nil<|Z17<|At.next ?_
   exact M2 h (k:=fun h=>wkx (IH6 _ (_,_,_) Z1p h))
  refine AWp.exit<|Zz ?_
  exact wkx (J6 (_,_) h)
def F99 (_K:Nat):Option (Unit) :=
 some ()
theorem F99_ok (K:Nat) (r:Unit) (h:F99 K=some r):ACall P 99 ⟨[],[],(.ptr 3 0),[(1,(.map (Zn Z7 Zw ([]:List (Int×(List Z2)))))),(3,(.box [(.map 1)]))],[1,3]⟩:=by
 refine ac Tryz.func99 Tryz.results99 Tryz.ntmps99 fun w0 F0 p0 S0 β0 Q hret=>?_
 dsimp only [argT]
 unfold F99 at h
 refine G1 h fun h=>?_
 refine oc (Z1i (vs:=[(0,(.map 1))]) rfl st304 ⟨rfl,rfl,trivial⟩ rfl) ?_
 exact GR
def F228 (_K:Nat) (a0:Int):Option (Bool) :=
 if (decide (a0<1))=true then
 some true
 else
 some (decide (a0 > 1099511627776))
theorem Zl7 (K:Nat) (a0:Int) (r:Bool) (h:F228 K a0=some r):ACall P 228 ⟨[(.int .i64 a0)],[],(.bool r),[],[]⟩:=by
 refine ac Tryz.func228 Tryz.results228 Tryz.ntmps228 fun w0 F0 p0 S0 β0 Q hret=>?_
 dsimp only [argT]
 unfold F228 at h
 refine Ms h (fun h=>?_) (fun h=>?_)
 ·exact GR
 exact GR
def Zle (_K:Nat):Option (Bool) :=
 some true
def Zlf (K:Nat) (a0:Str) (a1:Int) (a2:Int) (c4:Option (Bool)):Nat→Int→Option (Bool)
 | 0,_=>none
 | k2+1,v1 =>
 if (decide (v1<(a0.length:Int)))=true then
 if (0:Int)≤v1∧v1<a0.length then
 if (decide ((byteAt a0 v1)<a1))=true then
 some false
 else
 if (0:Int)≤v1∧v1<a0.length then
 if (decide ((byteAt a0 v1) > a2))=true then
 some false
 else
 (Zlf K a0 a1 a2 c4 k2) (IntKind.i64.wrap (v1+1))
 else none
 else none
 else
 c4
def F281 (K:Nat) (a0:Str) (a1:Int) (a2:Int):Option (Bool) :=
 Zlf K a0 a1 a2 (Zle K) K 0
theorem F281_ok (K:Nat) (a0:Str) (a1:Int) (a2:Int) (r:Bool) (h:F281 K a0 a1 a2=some r):ACall P 281 ⟨[(.str a0),(.int .u8 a1),(.int .u8 a2)],[],(.bool r),[],[]⟩:=by
 refine ac Tryz.func281 Tryz.results281 Tryz.ntmps281 fun w0 F0 p0 S0 β0 Q hret=>?_
 dsimp only [argT]
 unfold F281 at h
 refine G1 h fun h=>?_
 refine oc (Zpy rfl u9 rfl) ?_
 refine G1 h fun h=>?_
 refine lb (V:=Int) (X:=Unit) (v:=_) (fun k v=>Zlf K a0 a1 a2 (Zle K) k v=some r) (fun v=>Zle K=some r) [(0,_),(1,_),(2,_),(9,_)] [] [] [] (fun v t=>(10,(.int .i64 v))::t) (fun v s=>s) (fun v t=>t) (fun v s=>s) h ?_ ?_
 ·intro v h
  try dsimp only at h ⊢
  unfold Zle at h
  exact GR
 intro N k2 v h IH2 J2
 revert h
 revert v
 intro v1 h
 try dsimp only at h IH2 J2 ⊢
 cases k2 with
 | zero=>cases h
 | succ k2 =>
  rw [Zlf] at h
  refine Mc h (fun h=>?_) (fun h=>?_)
  ·refine AWp.skip<|At.next<|AWp.seq<|AWp.block ?_
   refine G1 h fun h=>?_
   have⟨hg6,h⟩:=Zg h
   refine oc (Zoa (k:=.i64) rfl u9 rfl rfl hg6) ?_
   refine Ms h (fun h=>?_) (fun h=>?_)
   ·refine G1 h fun h=>?_
    refine AWp.cond (b:=true) I (fun hc=>?_) (fun hc=>?_)
    rotate_left
    ·cases hc
    exact GR
   refine G1 h fun h=>?_
   have⟨hg7,h⟩:=Zg h
   refine oT (Zoa (k:=.i64) rfl u9 rfl rfl hg7) ?_
   refine Mc h (fun h=>?_) (fun h=>?_)
   ·exact GR
   refine AWp.skip<|Z17<|At.next ?_
   exact M2 h (k:=fun h=>wkx (IH2 _ _ Z1p h))
  refine AWp.exit<|Zz ?_
  exact wkx (J2 () h)
def Zgo (_K:Nat) (v1:Bool):Option (Bool) :=
 some v1
def F229 (K:Nat) (a0:Str):Option (Bool) :=
 if (!(a0==[]))=true then
 if (decide ((a0.length:Int)≤64))=true then
 (F281 K a0 33 126).bind fun v4 =>
 Zgo K v4
 else
 Zgo K false
 else
 Zgo K false
theorem Zl8 (K:Nat) (a0:Str) (r:Bool) (h:F229 K a0=some r):ACall P 229 ⟨[(.str a0)],[],(.bool r),[],[]⟩:=by
 refine ac Tryz.func229 Tryz.results229 Tryz.ntmps229 fun w0 F0 p0 S0 β0 Q hret=>?_
 dsimp only [argT]
 unfold F229 at h
 refine G2 h fun h=>?_
 refine At.next<|AWp.seq ?_
 refine jn (V:=Bool) (fun v=>Zgo K v=some r) [] [] (fun v t=>(2,(.bool v))::t) (fun v s=>s) ?_ ?_
 ·intro v h
  revert h
  revert v
  intro v1 h
  try dsimp only at h ⊢
  unfold Zgo at h
  refine At.next ?_
  exact RT
 intro J2
 refine Ms h (fun h=>?_) (fun h=>?_)
 ·refine G1 h fun h=>?_
  refine oT (Zpy rfl u9 rfl) ?_
  refine Ms h (fun h=>?_) (fun h=>?_)
  ·refine G1 h fun h=>?_
   have⟨v4,hv4,h⟩:=Zd h
   refine oT (Z15 Tryz.call281 (F281_ok (h:=hv4))) ?_
   exact M2 h (k:=fun h=>wkx (J2 _ h))
  exact M2 h (k:=fun h=>wkx (J2 _ h))
 exact M2 h (k:=fun h=>wkx (J2 _ h))
def Z79 (_K:Nat) (a0:Z1e) (v1:Bool):Option (Int) :=
 if (decide ((a0.Text.length:Int) > 4096))=true then
 some 5
 else
 if (!v1)=true then
 some 3
 else
 some 0
def F282 (K:Nat) (a0:Z1e):Option (Int) :=
 if (a0.Kind==1)=true then
 (F281 K a0.Text 32 126).bind fun v4 =>
 if v4=true then
 Z79 K a0 (a0.Int==0)
 else
 Z79 K a0 false
 else
 if (a0.Kind==2)=true then
 if (a0.Text==[])=true then
 if (decide (a0.Int ≥ (Int.negSucc 1099511627775)))=true then
 Z79 K a0 (decide (a0.Int≤1099511627776))
 else
 Z79 K a0 false
 else
 Z79 K a0 false
 else
 if (a0.Kind==3)=true then
 if (a0.Text==[])=true then
 if (a0.Int==0)=true then
 Z79 K a0 true
 else
 Z79 K a0 (a0.Int==1)
 else
 Z79 K a0 false
 else
 some 12
theorem F282_ok (K:Nat) (a0:Z1e) (r:Int) (h:F282 K a0=some r):ACall P 282 ⟨[(Z9i a0)],[],(.int .i64 r),[],[]⟩:=by
 refine ac Tryz.func282 Tryz.results282 Tryz.ntmps282 fun w0 F0 p0 S0 β0 Q hret=>?_
 dsimp only [argT]
 unfold F282 at h
 refine G1 h fun h=>?_
 refine AWp.block ?_
 refine G1 h fun h=>?_
 refine jn (V:=Bool) (fun v=>Z79 K a0 v=some r) [(1,_)] [(1,_)] (fun v t=>(3,(.bool v))::t) (fun v s=>s) ?_ ?_
 ·intro v h
  revert h
  revert v
  intro v1 h
  try dsimp only at h ⊢
  unfold Z79 at h
  refine Z17<|At.next<|AWp.seq<|AWp.block ?_
  refine G1 h fun h=>?_
  refine oc (Zpy rfl u9 rfl) ?_
  refine Mc h (fun h=>?_) (fun h=>?_)
  ·exact GR
  refine Mc h (fun h=>?_) (fun h=>?_)
  ·exact GR
  exact GR
 intro J2
 refine cnd h (fun h=>?_) (fun h=>?_)
 ·refine G1 h fun h=>?_
  have⟨v4,hv4,h⟩:=Zd h
  refine oc (Z15 Tryz.call281 (F281_ok (h:=hv4))) ?_
  refine Ms h (fun h=>?_) (fun h=>?_)
  ·exact M2 h (k:=fun h=>wkx (J2 _ h))
  exact M2 h (k:=fun h=>wkx (J2 _ h))
 refine Mc h (fun h=>?_) (fun h=>?_)
 ·refine Ms h (fun h=>?_) (fun h=>?_)
  ·refine Ms h (fun h=>?_) (fun h=>?_)
   ·exact M2 h (k:=fun h=>wkx (J2 _ h))
   exact M2 h (k:=fun h=>wkx (J2 _ h))
  exact M2 h (k:=fun h=>wkx (J2 _ h))
 refine Mc h (fun h=>?_) (fun h=>?_)
 ·refine Ms h (fun h=>?_) (fun h=>?_)
  ·refine Ms h (fun h=>?_) (fun h=>?_)
   ·exact M2 h (k:=fun h=>wkx (J2 _ h))
   exact M2 h (k:=fun h=>wkx (J2 _ h))
  exact M2 h (k:=fun h=>wkx (J2 _ h))
 exact GR
def Zgp (_K:Nat):Option (Int) :=
 some 0
def Zlb (K:Nat) (a0:(List Z10)) (v1:Int) (b5:Int→Option (Int)):Option (Int) :=
 (F282 K (a0.getD v1.toNat Z2v).Value).bind fun v11 =>
 if (v11 != 0)=true then
 some v11
 else
 b5 (IntKind.i64.wrap (v1+1))
def Zdx (K:Nat) (a0:(List Z10)) (c4:Option (Int)):Nat→Int→Option (Int)
 | 0,_=>none
 | k2+1,v1 =>
 if (decide (v1<(a0.length:Int)))=true then
 if (0:Int)≤v1∧v1<a0.length then
 (F229 K (a0.getD v1.toNat Z2v).Key).bind fun v8 =>
 if (!v8)=true then
 some 11
 else
 if (decide (v1 > 0))=true then
 if (0:Int)≤(IntKind.i64.wrap (v1 - 1))∧(IntKind.i64.wrap (v1 - 1))<a0.length then
 if (slt (a0.getD v1.toNat Z2v).Key (a0.getD (IntKind.i64.wrap (v1 - 1)).toNat Z2v).Key||(a0.getD v1.toNat Z2v).Key==(a0.getD (IntKind.i64.wrap (v1 - 1)).toNat Z2v).Key)=true then
 some 8
 else
 Zlb K a0 v1 (Zdx K a0 c4 k2)
 else none
 else
 Zlb K a0 v1 (Zdx K a0 c4 k2)
 else none
 else
 c4
def F231 (K:Nat) (a0:(List Z10)):Option (Int) :=
 if (decide ((a0.length:Int) > 32))=true then
 some 6
 else
 Zdx K a0 (Zgp K) K 0
theorem F231_ok (K:Nat) (a0:(List Z10)) (r:Int) (h:F231 K a0=some r):ACall P 231 ⟨[(.sl 4 (a0.map Z24) false)],[],(.int .i64 r),[],[]⟩:=by
 refine ac Tryz.func231 Tryz.results231 Tryz.ntmps231 fun w0 F0 p0 S0 β0 Q hret=>?_
 dsimp only [argT]
 unfold F231 at h
 refine Mc h (fun h=>?_) (fun h=>?_)
 ·exact GR
 refine G1 h fun h=>?_
 refine lb (V:=Int) (X:=Unit) (v:=_) (fun k v=>Zdx K a0 (Zgp K) k v=some r) (fun v=>Zgp K=some r) [(0,_),(9,_),(10,_)] [] [] [] (fun v t=>(11,(.int .i64 v))::t) (fun v s=>s) (fun v t=>t) (fun v s=>s) h ?_ ?_
 ·intro v h
  try dsimp only at h ⊢
  unfold Zgp at h
  exact GR
 intro N k2 v h IH2 J2
 revert h
 revert v
 intro v1 h
 try dsimp only at h IH2 J2 ⊢
 cases k2 with
 | zero=>cases h
 | succ k2 =>
  rw [Zdx] at h
  refine Mc h (fun h=>?_) (fun h=>?_)
  ·refine AWp.skip<|At.next<|AWp.seq<|AWp.block ?_
   refine G1 h fun h=>?_
   refine oc (Zm (ds:=_)) ?_
   refine AOps.nil<|At.next<|AWp.seq<|AWp.block ?_
   refine G1 h fun h=>?_
   have⟨v8,hv8,h⟩:=Zd h
   refine oc (Z15 Tryz.call229 (Zl8 (h:=hv8))) ?_
   refine G1 h fun h=>?_
   refine jn (V:=Unit) (fun v=>Zlb K a0 v1 (Zdx K a0 (Zgp K) k2)=some r) [(0,_),(4,_),(9,_),(10,_),(11,_)] [(4,_)] (fun v t=>t) (fun v s=>s) ?_ ?_
   ·intro v h
    try dsimp only at h ⊢
    unfold Zlb at h
    refine G1 h fun h=>?_
    have⟨v11,hv11,h⟩:=Zd h
    refine oc (Z15 Tryz.call282 (F282_ok (h:=hv11))) ?_
    refine Mc h (fun h=>?_) (fun h=>?_)
    ·exact GR
    refine AWp.skip<|Z17<|At.next ?_
    exact M2 h (k:=fun h=>wkx (IH2 _ _ Z1p h))
   intro J9
   refine cnd h (fun h=>?_) (fun h=>?_)
   ·exact GR
   refine M1 h (k:=fun h=>splD h (fun h=>?_) (fun h=>?_))
   ·refine Mc h (fun h=>?_) (fun h=>?_)
    ·exact GR
    refine AWp.skip ?_
    exact wkx (J9 () h)
   refine G1 h fun h=>?_
   refine AWp.cond (b:=false) I (fun hc=>?_) (fun hc=>?_)
   ·cases hc
   refine AWp.skip ?_
   exact wkx (J9 () h)
  refine AWp.exit<|Zz ?_
  exact wkx (J2 () h)
def Zgq (_K:Nat):Option (Int) :=
 some 0
def Zfp (_K:Nat) (b5:Int→Option (Int)) (v1:Int):Option (Int) :=
 b5 (IntKind.i64.wrap (v1+1))
def Zdy (K:Nat) (a0:(List Zr)) (c4:Option (Int)):Nat→Int→Option (Int)
 | 0,_=>none
 | k2+1,v1 =>
 if (decide (v1<(a0.length:Int)))=true then
 if (0:Int)≤v1∧v1<a0.length then
 (F228 K (a0.getD v1.toNat Zs).Trace).bind fun v8 =>
 if v8=true then
 some 2
 else
 (F228 K (a0.getD v1.toNat Zs).Id).bind fun v10 =>
 if v10=true then
 some 2
 else
 if (decide (v1 > 0))=true then
 if (0:Int)≤(IntKind.i64.wrap (v1 - 1))∧(IntKind.i64.wrap (v1 - 1))<a0.length then
 (F179 K (a0.getD (IntKind.i64.wrap (v1 - 1)).toNat Zs) (a0.getD v1.toNat Zs)).bind fun v14 =>
 if (decide (v14 ≥ 0))=true then
 some 8
 else
 Zfp K (Zdy K a0 c4 k2) v1
 else none
 else
 Zfp K (Zdy K a0 c4 k2) v1
 else none
 else
 c4
def F232 (K:Nat) (a0:(List Zr)):Option (Int) :=
 if (decide ((a0.length:Int) > 16))=true then
 some 6
 else
 Zdy K a0 (Zgq K) K 0
theorem F232_ok (K:Nat) (a0:(List Zr)) (r:Int) (h:F232 K a0=some r):ACall P 232 ⟨[(.sl 2 (a0.map Z1x) false)],[],(.int .i64 r),[],[]⟩:=by
 refine ac Tryz.func232 Tryz.results232 Tryz.ntmps232 fun w0 F0 p0 S0 β0 Q hret=>?_
 dsimp only [argT]
 unfold F232 at h
 refine Mc h (fun h=>?_) (fun h=>?_)
 ·exact GR
 refine G1 h fun h=>?_
 refine lb (V:=Int) (X:=Unit) (v:=_) (fun k v=>Zdy K a0 (Zgq K) k v=some r) (fun v=>Zgq K=some r) [(0,_),(8,_),(9,_)] [] [] [] (fun v t=>(10,(.int .i64 v))::t) (fun v s=>s) (fun v t=>t) (fun v s=>s) h ?_ ?_
 ·intro v h
  try dsimp only at h ⊢
  unfold Zgq at h
  exact GR
 intro N k2 v h IH2 J2
 revert h
 revert v
 intro v1 h
 try dsimp only at h IH2 J2 ⊢
 cases k2 with
 | zero=>cases h
 | succ k2 =>
  rw [Zdy] at h
  refine Mc h (fun h=>?_) (fun h=>?_)
  ·refine AWp.skip<|At.next<|AWp.seq<|AWp.block ?_
   refine G1 h fun h=>?_
   refine oc (Zm (ds:=_)) ?_
   refine AOps.nil<|At.next<|AWp.block ?_
   refine G1 h fun h=>?_
   have⟨v8,hv8,h⟩:=Zd h
   refine oc (Z15 Tryz.call228 (Zl7 (h:=hv8))) ?_
   refine Ms h (fun h=>?_) (fun h=>?_)
   ·refine G1 h fun h=>?_
    refine AWp.cond (b:=true) I (fun hc=>?_) (fun hc=>?_)
    rotate_left
    ·cases hc
    exact GR
   refine G1 h fun h=>?_
   have⟨v10,hv10,h⟩:=Zd h
   refine oT (Z15 Tryz.call228 (Zl7 (h:=hv10))) ?_
   refine G1 h fun h=>?_
   refine jn (V:=Unit) (fun v=>Zfp K (Zdy K a0 (Zgq K) k2) v1=some r) [(0,_),(8,_),(9,_),(10,_)] [] (fun v t=>t) (fun v s=>s) ?_ ?_
   ·intro v h
    try dsimp only at h ⊢
    unfold Zfp at h
    refine Z17<|Z17<|At.next ?_
    exact M2 h (k:=fun h=>wkx (IH2 _ _ Z1p h))
   intro J11
   refine cnd h (fun h=>?_) (fun h=>?_)
   ·exact GR
   refine M1 h (k:=fun h=>splD h (fun h=>?_) (fun h=>?_))
   ·refine G1 h fun h=>?_
    have⟨v14,hv14,h⟩:=Zd h
    refine oU (Z15 Tryz.call179 (Zkz (h:=hv14))) ?_
    refine Mc h (fun h=>?_) (fun h=>?_)
    ·exact GR
    refine AWp.skip ?_
    exact wkx (J11 () h)
   refine G1 h fun h=>?_
   refine AWp.cond (b:=false) I (fun hc=>?_) (fun hc=>?_)
   ·cases hc
   refine AWp.skip ?_
   exact wkx (J11 () h)
  refine AWp.exit<|Zz ?_
  exact wkx (J2 () h)
def Zl9 (_K:Nat):Option (Int) :=
 some 0
def Zla (K:Nat) (a0:(List Int)) (c4:Option (Int)):Nat→Int→Option (Int)
 | 0,_=>none
 | k2+1,v1 =>
 if (decide (v1<(a0.length:Int)))=true then
 if (0:Int)≤v1∧v1<a0.length then
 if ((a0.getD v1.toNat 0) != 0)=true then
 some (a0.getD v1.toNat 0)
 else
 (Zla K a0 c4 k2) (IntKind.i64.wrap (v1+1))
 else none
 else
 c4
def F230 (K:Nat) (a0:(List Int)):Option (Int) :=
 Zla K a0 (Zl9 K) K 0
theorem F230_ok (K:Nat) (a0:(List Int)) (r:Int) (h:F230 K a0=some r):ACall P 230 ⟨[(.sl 1 (a0.map Z7) false)],[],(.int .i64 r),[],[]⟩:=by
 refine ac Tryz.func230 Tryz.results230 Tryz.ntmps230 fun w0 F0 p0 S0 β0 Q hret=>?_
 dsimp only [argT]
 unfold F230 at h
 refine G1 h fun h=>?_
 refine lb (V:=Int) (X:=Unit) (v:=_) (fun k v=>Zla K a0 (Zl9 K) k v=some r) (fun v=>Zl9 K=some r) [(3,_),(6,_),(7,_)] [] [(3,_)] [] (fun v t=>(8,(.int .i64 v))::t) (fun v s=>s) (fun v t=>t) (fun v s=>s) h ?_ ?_
 ·intro v h
  try dsimp only at h ⊢
  unfold Zl9 at h
  exact GR
 intro N k2 v h IH2 J2
 revert h
 revert v
 intro v1 h
 try dsimp only at h IH2 J2 ⊢
 cases k2 with
 | zero=>cases h
 | succ k2 =>
  rw [Zla] at h
  refine Mc h (fun h=>?_) (fun h=>?_)
  ·refine AWp.skip<|At.next<|AWp.seq<|AWp.block ?_
   refine Mc h (fun h=>?_) (fun h=>?_)
   ·exact GR
   refine AWp.skip<|Z17<|At.next ?_
   exact M2 h (k:=fun h=>wkx (IH2 _ _ Z1p h))
  refine AWp.exit<|Zz ?_
  exact wkx (J2 () h)
def Zds (K:Nat) (a0:Z2) (v3:Bool):Option (Int) :=
 if v3=true then
 some 11
 else
 if (decide ((if a0.End<a0.Start then a0.End else a0.Start)<(Int.negSucc 1099511627775)))=true then
 some 32
 else
 if (decide ((if a0.End > a0.Start then a0.End else a0.Start) > 1099511627776))=true then
 some 32
 else
 if (decide (a0.End<a0.Start))=true then
 some 8
 else
 if (decide ((IntKind.i64.wrap (a0.End - a0.Start)) > 1099511627776))=true then
 some 32
 else
 (F231 K a0.Attrs).bind fun v6 =>
 (F232 K a0.Links).bind fun v8 =>
 (F230 K [v6,v8]).bind fun v10 =>
 some v10
def Z77 (K:Nat) (a0:Z2) (v1:Bool):Option (Int) :=
 if v1=true then
 some 2
 else
 if (decide (a0.Kind<1))=true then
 some 12
 else
 if (decide (a0.Kind > 5))=true then
 some 12
 else
 (F229 K a0.Service).bind fun v12 =>
 if (!v12)=true then
 Zds K a0 true
 else
 (F229 K a0.Operation).bind fun v14 =>
 if (!v14)=true then
 Zds K a0 true
 else
 if (!(a0.Version==[]))=true then
 (F229 K a0.Version).bind fun v16 =>
 Zds K a0 (!v16)
 else
 Zds K a0 false
def F171 (K:Nat) (a0:Z2):Option (Int) :=
 (F228 K a0.Trace).bind fun v18 =>
 if v18=true then
 Z77 K a0 true
 else
 (F228 K a0.Id).bind fun v20 =>
 if v20=true then
 Z77 K a0 true
 else
 if (decide (a0.Parent<0))=true then
 Z77 K a0 true
 else
 if (decide (a0.Parent > 1099511627776))=true then
 Z77 K a0 true
 else
 if (decide (a0.Revision<0))=true then
 Z77 K a0 true
 else
 if (decide (a0.Revision > 1048576))=true then
 Z77 K a0 true
 else
 if (decide (a0.Clock<1))=true then
 Z77 K a0 true
 else
 Z77 K a0 (decide (a0.Clock > 1048576))
theorem F171_ok (K:Nat) (a0:Z2) (r:Int) (h:F171 K a0=some r):ACall P 171 ⟨[(Zb a0)],[],(.int .i64 r),[],[]⟩:=by
 refine ac Tryz.func171 Tryz.results171 Tryz.ntmps171 fun w0 F0 p0 S0 β0 Q hret=>?_
 dsimp only [argT]
 unfold F171 at h
 refine G1 h fun h=>?_
 refine AWp.block<|AWp.seq ?_
 refine jn (V:=Bool) (fun v=>Z77 K a0 v=some r) [(1,_)] [(1,_)] (fun v t=>(3,(.bool v))::t) (fun v s=>s) ?_ ?_
 ·intro v h
  revert h
  revert v
  intro v1 h
  try dsimp only at h ⊢
  unfold Z77 at h
  refine At.next ?_
  refine cnd h (fun h=>?_) (fun h=>?_)
  ·exact GR
  refine Ms h (fun h=>?_) (fun h=>?_)
  ·refine G1 h fun h=>?_
   refine AWp.cond (b:=true) I (fun hc=>?_) (fun hc=>?_)
   rotate_left
   ·cases hc
   exact GR
  refine Mc h (fun h=>?_) (fun h=>?_)
  ·exact GR
  refine AWp.seq ?_
  refine jn (V:=Bool) (fun v=>Zds K a0 v=some r) [(1,_)] [(1,_)] (fun v t=>(51,(.bool v))::t) (fun v s=>s) ?_ ?_
  ·intro v h
   revert h
   revert v
   intro v3 h
   try dsimp only at h ⊢
   unfold Zds at h
   refine At.next ?_
   refine cnd h (fun h=>?_) (fun h=>?_)
   ·exact GR
   refine G1 h fun h=>?_
   refine oc (st_min (k:=.i64) (a:=a0.Start) (b:=a0.End) rfl rfl rfl) ?_
   refine Ms h (fun h=>?_) (fun h=>?_)
   ·refine G1 h fun h=>?_
    refine AWp.cond (b:=true) I (fun hc=>?_) (fun hc=>?_)
    rotate_left
    ·cases hc
    exact GR
   refine G1 h fun h=>?_
   refine oT (st_max (k:=.i64) (a:=a0.Start) (b:=a0.End) rfl rfl rfl) ?_
   refine Mc h (fun h=>?_) (fun h=>?_)
   ·exact GR
   refine Mc h (fun h=>?_) (fun h=>?_)
   ·exact GR
   refine Mc h (fun h=>?_) (fun h=>?_)
   ·exact GR
   refine G1 h fun h=>?_
   have⟨v6,hv6,h⟩:=Zd h
   refine oD (Z15 Tryz.call231 (F231_ok (h:=hv6))) ?_
   refine G1 h fun h=>?_
   have⟨v8,hv8,h⟩:=Zd h
   refine oD (Z15 Tryz.call232 (F232_ok (h:=hv8))) ?_
   refine oD (Zj (vs:=[_,_]) (enc:=Z7) (l:=[v6,v8]) rfl el400 rfl rfl ⟨rfl,rfl,trivial⟩ rfl Z1u rfl rfl rfl rfl) ?_
   have⟨v10,hv10,h⟩:=Zd h
   refine oD (Z2r (rd:=[(107,(.vec 1 (List.map Z7 [v6,v8])))]) (ar:=[_]) Tryz.call230 (F230_ok (h:=hv10)) rfl rfl ⟨rfl,trivial⟩ (Z2f ⟨rfl,trivial⟩) rfl rfl rfl) ?_
   exact GR
  intro J4
  refine G1 h fun h=>?_
  have⟨v12,hv12,h⟩:=Zd h
  refine oc (Z15 Tryz.call229 (Zl8 (h:=hv12))) ?_
  refine Ms h (fun h=>?_) (fun h=>?_)
  ·exact M2 h (k:=fun h=>wkx (J4 _ h))
  refine G1 h fun h=>?_
  have⟨v14,hv14,h⟩:=Zd h
  refine oT (Z15 Tryz.call229 (Zl8 (h:=hv14))) ?_
  refine Ms h (fun h=>?_) (fun h=>?_)
  ·exact M2 h (k:=fun h=>wkx (J4 _ h))
  refine Ms h (fun h=>?_) (fun h=>?_)
  ·refine G1 h fun h=>?_
   have⟨v16,hv16,h⟩:=Zd h
   refine oT (Z15 Tryz.call229 (Zl8 (h:=hv16))) ?_
   exact M2 h (k:=fun h=>wkx (J4 _ h))
  exact M2 h (k:=fun h=>wkx (J4 _ h))
 intro J2
 refine G1 h fun h=>?_
 have⟨v18,hv18,h⟩:=Zd h
 refine oc (Z15 Tryz.call228 (Zl7 (h:=hv18))) ?_
 refine Ms h (fun h=>?_) (fun h=>?_)
 ·exact M2 h (k:=fun h=>wkx (J2 _ h))
 refine G1 h fun h=>?_
 have⟨v20,hv20,h⟩:=Zd h
 refine oT (Z15 Tryz.call228 (Zl7 (h:=hv20))) ?_
 refine Ms h (fun h=>?_) (fun h=>?_)
 ·exact M2 h (k:=fun h=>wkx (J2 _ h))
 refine Ms h (fun h=>?_) (fun h=>?_)
 ·exact M2 h (k:=fun h=>wkx (J2 _ h))
 refine Ms h (fun h=>?_) (fun h=>?_)
 ·exact M2 h (k:=fun h=>wkx (J2 _ h))
 refine Ms h (fun h=>?_) (fun h=>?_)
 ·exact M2 h (k:=fun h=>wkx (J2 _ h))
 refine Ms h (fun h=>?_) (fun h=>?_)
 ·exact M2 h (k:=fun h=>wkx (J2 _ h))
 refine Ms h (fun h=>?_) (fun h=>?_)
 ·exact M2 h (k:=fun h=>wkx (J2 _ h))
 exact M2 h (k:=fun h=>wkx (J2 _ h))
def F233 (_K:Nat) (_a0:Int):Option (Bool) :=
 some true
theorem F233_ok (K:Nat) (a0:Int) (r:Bool) (h:F233 K a0=some r):ACall P 233 ⟨[(.int .i64 a0)],[],(.bool r),[],[]⟩:=by
 refine ac Tryz.func233 Tryz.results233 Tryz.ntmps233 fun w0 F0 p0 S0 β0 Q hret=>?_
 dsimp only [argT]
 unfold F233 at h
 exact GR
def Z7f (_K:Nat) (v4:(List Z2)):Option ((List Z2)) :=
 some v4
def Z84 (_K:Nat) (b7:Int→(List Z2)→Option ((List Z2))) (v1:Int) (v11:(List Z2)):Option ((List Z2)) :=
 b7 (IntKind.i64.wrap (v1+1)) v11
def Z63 (K:Nat) (a0:(List Z2)) (c6:(List Z2)→Option ((List Z2))):Nat→Int→(List Z2)→Option ((List Z2))
 | 0,_,_=>none
 | k3+1,v1,v2 =>
 if (decide (v1<(a0.length:Int)))=true then
 if (0:Int)≤v1∧v1<a0.length then
 (F233 K v1).bind fun v10 =>
 if v10=true then
 (F144 K (a0.getD v1.toNat Z5)).bind fun v14 =>
 if v2.length+[v14].length≤1073741824 then
 Z84 K (Z63 K a0 c6 k3) v1 (v2++[v14])
 else none
 else
 Z84 K (Z63 K a0 c6 k3) v1 v2
 else none
 else
 c6 v2
def Zl1 (K:Nat) (a0:(List Z2)):Option ((List Z2)) :=
 Z63 K a0 (Z7f K) K 0 []
theorem Zru (K:Nat) (a0:(List Z2)) (r:(List Z2)) (h:Zl1 K a0=some r):ACall P 196 ⟨[(.sl 14 (a0.map Zb) false),(.clo 233 [])],[],(.sl 14 (r.map Zb) false),[],[]⟩:=by
 refine ac Tryz.func196 Tryz.results196 Tryz.ntmps196 fun w0 F0 p0 S0 β0 Q hret=>?_
 dsimp only [argT]
 unfold Zl1 at h
 refine AWp.seq<|AWp.region ?_
 refine oc (Zh (v:=(.sl 14 [] false)) rfl rfl) ?_
 refine G1 h fun h=>?_
 refine oc (Zh (v:=(.sl 14 [] true)) rfl rfl) ?_
 refine G1 h fun h=>?_
 refine AWp.ghost (fun a w h=>gk ⟨[(1,_),(5,_),(8,_),(9,_),(10,_)],[(5,_)]⟩ (Z38 (k:=5) (m:=5) (sz:=14) (gk ⟨[(5,_),(1,_),(8,_),(9,_),(10,_)],[]⟩ h))) ?_
 refine lb (V:=Int×(List Z2)) (X:=(List Z2)) (v:=(_,_)) (fun k v=>Z63 K a0 (Z7f K) k v.1 v.2=some r) (fun v=>Z7f K v=some r) [(1,_),(5,_),(8,_),(9,_)] [] [(5,_)] [] (fun v t=>(10,(.int .i64 v.1))::t) (fun v s=>(5,(.vec 14 (List.map Zb v.2)))::s) (fun v t=>t) (fun v s=>(5,(.vec 14 (List.map Zb v)))::s) h ?_ ?_
 ·intro v h
  revert h
  revert v
  intro v4 h
  try dsimp only at h ⊢
  unfold Z7f at h
  refine G1 h fun h=>?_
  refine AWp.ret<|At.ghost (fun a w h=>gk ⟨[(4,_)],[]⟩ (Z1j (m:=5) (sz:=14) (gk ⟨[(4,_)],[(5,_)]⟩ h))) ?_
  exact RT
 intro N k3 v h IH3 J3
 obtain⟨v1,v2⟩:=v
 try dsimp only at h IH3 J3 ⊢
 cases k3 with
 | zero=>cases h
 | succ k3 =>
  rw [Z63] at h
  refine Mc h (fun h=>?_) (fun h=>?_)
  ·refine AWp.skip<|At.next<|AWp.seq<|AWp.block ?_
   refine G1 h fun h=>?_
   refine oc (Z2a rfl z94 rfl rfl rfl) ?_
   refine G1 h fun h=>?_
   refine oc (Zm (ds:=_)) ?_
   refine G1 h fun h=>?_
   have⟨v10,hv10,h⟩:=Zd h
   refine oc (Z15 Tryz.call233 (F233_ok (h:=hv10))) ?_
   refine AOps.nil<|At.next ?_
   refine jn (V:=(List Z2)) (fun v=>Z84 K (Z63 K a0 (Z7f K) k3) v1 v=some r) [(1,_),(5,_),(8,_),(9,_),(10,_)] [] (fun v t=>t) (fun v s=>(5,(.vec 14 (List.map Zb v)))::s) ?_ ?_
   ·intro v h
    revert h
    revert v
    intro v11 h
    try dsimp only at h ⊢
    unfold Z84 at h
    refine Z17<|At.next ?_
    exact M2 h (k:=fun h=>wkx (IH3 _ (_,_) Z1p h))
   intro J12
   refine cnd h (fun h=>?_) (fun h=>?_)
   ·refine G1 h fun h=>?_
    have⟨v14,hv14,h⟩:=Zd h
    refine oc (Z15 Tryz.call144 (Zor (h:=hv14))) ?_
    refine oc (Zj (vs:=[_]) (enc:=Zb) (l:=[v14]) rfl Zlr rfl rfl ⟨rfl,trivial⟩ rfl Z1t rfl rfl rfl rfl) ?_
    have⟨hg15,h⟩:=Zg h
    refine oc (Z1g (m:=5) rfl rfl Zlr rfl u47 rfl rfl rfl rfl (oneRead rfl) Z1t hg15) ?_
    exact M2 h (k:=fun h=>wkx (J12 _ h))
   refine AWp.skip ?_
   exact wkx (J12 _ h)
  refine AWp.exit<|Zz ?_
  exact wkx (J3 _ h)
def F172 (K:Nat) (a0:(List Z2)):Option ((List Z2)) :=
 (F195 K a0).bind fun v2 =>
 (Zl1 K v2).bind fun v4 =>
 some v4
theorem F172_ok (K:Nat) (a0:(List Z2)) (r:(List Z2)) (h:F172 K a0=some r):ACall P 172 ⟨[(.sl 14 (a0.map Zb) false)],[],(.sl 14 (r.map Zb) false),[],[]⟩:=by
 refine ac Tryz.func172 Tryz.results172 Tryz.ntmps172 fun w0 F0 p0 S0 β0 Q hret=>?_
 dsimp only [argT]
 unfold F172 at h
 refine AWp.seq<|AWp.region ?_
 refine oc (Zh (v:=(.sl 14 [] false)) rfl rfl) ?_
 refine G1 h fun h=>?_
 have⟨v2,hv2,h⟩:=Zd h
 refine oc (Z15 Tryz.call195 (F195_ok (h:=hv2))) ?_
 have⟨v4,hv4,h⟩:=Zd h
 refine oc (Z15 Tryz.call196 (Zru (h:=hv4))) ?_
 exact GR
def F173 (_K:Nat) (_a0:(List (Int×(List Z2)))):Option (Unit) :=
 some ()
theorem F173_ok (K:Nat) (a0:(List (Int×(List Z2)))) (r:Unit) (h:F173 K a0=some r):ACall P 173 ⟨[(.map 2000)],[(2000,(.fmap (Zn Z7 Zw a0)))],(.clo 234 [(.ptr 1 0)]),[(2000,(.fmap (Zn Z7 Zw a0))),(1,(.box [(.map 2000)]))],[1]⟩:=by
 refine ac Tryz.func173 Tryz.results173 Tryz.ntmps173 fun w0 F0 p0 S0 β0 Q hret=>?_
 dsimp only [argT]
 unfold F173 at h
 refine G1 h fun h=>?_
 refine oc (Z2k (vs:=[(.ptr 1 0)]) rfl ⟨rfl,trivial⟩) ?_
 refine G1 h fun h=>?_
 refine AWp.ret ?_
 have h:=Option.some.inj h
 subst h
 refine (hret _ ?_).1
 exact⟨[(.clo 234 [(.ptr 1 0)])],⟨I,J0⟩,I,⟨I,I,J0⟩⟩
theorem F234_keys (kvs:List (Int×(List Z2))) (lr:Go.Loop) (hps:lr.params.size=1) (hy:∀(x:Int) (l:List Int),l.length+1≤1073741824→YCall P lr 1000 ⟨[(Z7 x)],[(1000,.loop lr [2] [.ptr 1001 0]),(1001,.box [.vs 9]),(9,.vec 1 (List.map Z7 l))],.bool true,[(1000,.loop lr [2] [.ptr 1001 0]),(1001,.box [.vs 9]),(9,.vec 1 (List.map Z7 (l++[x])))],[9]⟩) (hb:kvs.length≤1073741824) :
  ACallX (X:=List (Int×(List Z2))) P 234 [.yld 1000,.ptr 2000 0] [(1000,.loop lr [2] [.ptr 1001 0]),(1001,.box [.vs 9]),(9,.vec 1 (List.map Z7 ([]:List Int))),(2000,.box [.map 2001]),(2001,.fmap (Zn Z7 Zw kvs))] (fun ω=>ω.Perm kvs) (fun _=>.tup []) (fun ω=>[(1000,.loop lr [2] [.ptr 1001 0]),(1001,.box [.vs 9]),(9,.vec 1 (List.map Z7 (List.map (fun e=>e.1) ω))),(2000,.box [.map 2001]),(2001,.fmap (Zn Z7 Zw kvs))]) [9]:=by
 refine Z3r Tryz.func234 Tryz.results234 rfl Tryz.ntmps234 rfl rfl (fun _=>rfl) ?_
 intro E Q hP hN hro hret
 obtain⟨P',nt',w0,F0,p0,S0,β0,ro0⟩:=E
 simp only at hP hN
 subst hP hN
 dsimp only [argT]
 refine AWp.seq ?_
 refine AWp.region ?_
 refine AOps.cons I (Z5g I o297 I I I) I ?_
 refine AOps.cons I (Zdb (encK:=Z7) (encV:=Zw) (l:=kvs) I ⟨3,47,by kernel_rfl⟩ I I) I ?_
 refine AOps.nil ?_
 refine At.next ?_
 refine AWp.weaken (st':=⟨[(0,.yld 1000),(5,.itr 5)],[(5,.iter none (Zn Z7 Zw kvs)),(9,.vec 1 (List.map Z7 ([]:List Int))),(1000,.loop lr [2] [.ptr 1001 0]),(1001,.box [.vs 9]),(2000,.box [.map 2001]),(2001,.fmap (Zn Z7 Zw kvs))]⟩) ⟨I,I,J0⟩ ⟨I,I,I,I,I,I,J0⟩ ?_
 refine Z4m (V:=List (Int×(List Z2))×List (Int×(List Z2))) (X:=List (Int×(List Z2))) (lp:=fun k v=>v.2.length<k∧(v.1++v.2).Perm kvs) (sh:=fun v=>⟨[(0,.yld 1000),(5,.itr 5)],[(5,.iter none (Zn Z7 Zw v.2)),(9,.vec 1 (List.map Z7 (List.map (fun e=>e.1) v.1))),(1000,.loop lr [2] [.ptr 1001 0]),(1001,.box [.vs 9]),(2000,.box [.map 2001]),(2001,.fmap (Zn Z7 Zw kvs))]⟩) (x:=fun ω=>ω.Perm kvs) (shx:=fun ω=>⟨[],[(9,.vec 1 (List.map Z7 (List.map (fun e=>e.1) ω))),(1000,.loop lr [2] [.ptr 1001 0]),(1001,.box [.vs 9]),(2000,.box [.map 2001]),(2001,.fmap (Zn Z7 Zw kvs))]⟩) (k:=kvs.length+1) (v:=([],kvs)) ⟨Nat.lt_succ_self _,List.Perm.refl _⟩ ?_ ?_
 ·intro ω hω
  refine (hret _ ω hω ?_).2
  exact⟨[],J0,I,⟨I,I,I,I,I,J0⟩⟩
 ·intro N k v hv IH J
  obtain⟨pre,rem⟩:=v
  dsimp only at hv IH J ⊢
  obtain⟨hk,hperm⟩:=hv
  refine AWp.seq ?_
  refine AWp.region ?_
  refine Z4l (encK:=Z7) (encV:=Zw) (rem:=rem) I I I (fun hc=>?_) (fun p kv q hc=>?_)
  ·subst hc
   rw [List.append_nil] at hperm
   refine AOps.cons I (Z2b I I I) I ?_
   refine AOps.nil ?_
   refine At.next ?_
   refine AWp.seq ?_
   refine AWp.cond (b:=false) I (fun hc=>?_) (fun hc=>?_)
   ·cases hc
   refine AWp.exit ?_
   refine Zz ?_
   exact Z5r (J pre hperm) J0 ⟨I,I,I,I,I,J0⟩
  ·subst hc
   refine AOps.cons I (Z2b I I I) I ?_
   refine AOps.nil ?_
   refine At.next ?_
   refine AWp.seq ?_
   refine AWp.cond (b:=true) I (fun hc=>?_) (fun hc=>?_)
   rotate_left
   ·cases hc
   refine AWp.skip ?_
   refine At.next ?_
   refine AWp.block ?_
   refine AWp.seq ?_
   refine AWp.region ?_
   refine AOps.cons I (Zda (k:=kv.1) (v:=kv.2) (encK:=Z7) (encV:=Zw) I I I) I ?_
   refine AOps.cons I (Z2b I I I) I ?_
   refine AOps.cons I (Zh (v:=(Z7 kv.1)) I I) I ?_
   refine AOps.nil ?_
   refine At.next ?_
   refine AWp.seq ?_
   refine AWp.region ?_
   refine AOps.cons I (Z1h I I) I ?_
   refine AOps.cons I (Z1h (v:=(Z7 kv.1)) I I) I ?_
   have hlen:(List.map (fun e=>e.1) pre).length+1≤1073741824:=by
    have:=hperm.length_eq
    simp only [List.length_append,List.length_cons,List.length_map] at this ⊢
    omega
   refine AOps.cons I (Zdc (d:=some 12) (ks:=[2]) (vs:=[.ptr 1001 0]) (c:=⟨[(Z7 kv.1)],[(1000,.loop lr [2] [.ptr 1001 0]),(1001,.box [.vs 9]),(9,.vec 1 (List.map Z7 (List.map (fun e=>e.1) pre)))],.bool true,[(1000,.loop lr [2] [.ptr 1001 0]),(1001,.box [.vs 9]),(9,.vec 1 (List.map Z7 ((List.map (fun e=>e.1) pre)++[kv.1])))],[9]⟩) (ar:=[(Z7 kv.1)]) (news:=[]) (forg:=[9]) (hy kv.1 _ hlen) I hps I I ⟨I,J0⟩ I ⟨I,I,I,J0⟩ I) I ?_
   refine AOps.cons I (Zob I I) I ?_
   refine AOps.nil ?_
   refine At.next ?_
   refine AWp.cond (b:=false) I (fun hc=>?_) (fun hc=>?_)
   ·cases hc
   refine AWp.skip ?_
   refine Z17 ?_
   have hstep:(p++q).length<(p++kv::q).length:=by
    simp only [List.length_append,List.length_cons]
    omega
   have hp2:((pre++[kv])++(p++q)).Perm kvs:=by
    refine List.Perm.trans ?_ hperm
    rw [List.append_assoc]
    exact List.Perm.append_left pre (show (kv::(p++q)).Perm (p++kv::q) from List.perm_middle.symm)
   have hm:List.map (fun e:Int×(List Z2)=>e.1) (pre++[kv])=List.map (fun e=>e.1) pre++[kv.1]:=by rw [List.map_append];rfl
   have:=IH (p++q).length.succ (pre++[kv],p++q) (by omega) ⟨Nat.lt_succ_self _,hp2⟩
   dsimp only at this
   rw [hm] at this
   refine At.ghost (st':=⟨[(0,.yld 1000),(5,.itr 5)],[(5,.iter none (Zn Z7 Zw (p++q))),(9,.vec 1 (List.map Z7 ((List.map (fun e=>e.1) pre)++[kv.1]))),(1000,.loop lr [2] [.ptr 1001 0]),(1001,.box [.vs 9]),(2000,.box [.map 2001]),(2001,.fmap (Zn Z7 Zw kvs))]⟩) (fun a w h=>Z28 _ (Z7m (m:=5) (cur:=some ((Z7 kv.1),(Zw kv.2))) (kvs:=Zn Z7 Zw (p++q)) a w (Z28 ⟨[(0,.yld 1000),(5,.itr 5)],[(5,.iter (some ((Z7 kv.1),(Zw kv.2))) (Zn Z7 Zw (p++q))),(9,.vec 1 (List.map Z7 ((List.map (fun e=>e.1) pre)++[kv.1]))),(1000,.loop lr [2] [.ptr 1001 0]),(1001,.box [.vs 9]),(2000,.box [.map 2001]),(2001,.fmap (Zn Z7 Zw kvs))]⟩ h ⟨I,I,J0⟩ ⟨I,I,I,I,I,I,J0⟩)) ⟨I,I,J0⟩ ⟨I,I,I,I,I,I,J0⟩) this
theorem Zl6 (kvs:List (Int×(List Z2))) (hb:kvs.length≤1073741824):ACallX (X:=List (Int×(List Z2))) P 211 [(.sl 1 [] true),.clo 234 [.ptr 2000 0]] [(2000,.box [.map 2001]),(2001,.fmap (Zn Z7 Zw kvs))] (fun ω=>ω.Perm kvs) (fun _=>.vs 9) (fun ω=>[(9,.vec 1 (List.map Z7 (List.map (fun e=>e.1) ω))),(2000,.box [.map 2001]),(2001,.fmap (Zn Z7 Zw kvs))]) [9]:=by
 refine Z3r Tryz.func211 Tryz.results211 rfl Tryz.ntmps211 rfl rfl (fun _=>rfl) ?_
 intro E Q hP hN hro hret
 obtain⟨P',nt',w0,F0,p0,S0,β0,ro0⟩:=E
 simp only at hP hN
 subst hP hN
 dsimp only [argT]
 refine AWp.seq<|AWp.region<|AOps.cons I (Zij I I I I I) I<|AOps.cons I (Zh (v:=(.sl 1 [] false)) I I) I<|AOps.nil<|At.next<|AWp.seq<|AWp.seq<|AWp.region<|AOps.cons I (Z1h I I) I<|AOps.nil<|At.next<|AWp.block<|AWp.ghost (st':=⟨[(2,.ptr 2 0),(6,(.clo 234 [.ptr 2000 0]))],[(2,.box [.vs 9]),(9,.vec 1 (List.map Z7 ([]:List Int))),(2000,.box [.map 2001]),(2001,.fmap (Zn Z7 Zw kvs))]⟩) (fun a w h=>Z28 _ (Zam (n:=2) (m:=9) (sz:=1) (j:=0) I I I a w (Z28 ⟨[(2,.ptr 2 0),(6,(.clo 234 [.ptr 2000 0]))],[(2,.box [(.sl 1 [] true)]),(2000,.box [.map 2001]),(2001,.fmap (Zn Z7 Zw kvs))]⟩ h ⟨I,I,J0⟩ ⟨I,I,I,J0⟩)) ⟨I,I,J0⟩ ⟨I,I,I,I,J0⟩) ?_
 refine Z5d (X:=List (Int×(List Z2))) (n:=1) (f:=234) (caps:=[.ptr 2000 0]) (ks:=[2]) (vs:=[.ptr 2 0]) (ins:=[(2,.box [.vs 9]),(9,.vec 1 (List.map Z7 ([]:List Int))),(2000,.box [.map 2001]),(2001,.fmap (Zn Z7 Zw kvs))]) (ok:=fun ω=>ω.Perm kvs) (outs:=fun ω=>[(2,.box [.vs 9]),(9,.vec 1 (List.map Z7 (List.map (fun e=>e.1) ω))),(2000,.box [.map 2001]),(2001,.fmap (Zn Z7 Zw kvs))]) (res:=fun _=>.tup []) (mv:=[9]) (forg:=[9]) (jump:=fun _=>none) hro Tryz.call234 I I I I ⟨I,J0⟩ ⟨I,I,I,I,J0⟩ I (fun _=>I) (fun _=>I) I (fun lr hst hpe hpr has hbd hsz=>?_) (fun ω hω _=>?_) (fun ω c _ hc=>by cases hc)
 ·have hend:=Z6n hst hpe
  simp only [hend]
  have hps:lr.params.size=1:=by rw [hpr];rfl
  have hy:∀(x:Int) (l:List Int),l.length+1≤1073741824→YCall P lr 1000 ⟨[(Z7 x)],[(1000,.loop lr [2] [.ptr 1001 0]),(1001,.box [.vs 9]),(9,.vec 1 (List.map Z7 l))],.bool true,[(1000,.loop lr [2] [.ptr 1001 0]),(1001,.box [.vs 9]),(9,.vec 1 (List.map Z7 (l++[x])))],[9]⟩:=by
   intro x l hl
   refine Zde (ks:=[2]) (vs:=[.ptr 1001 0]) (ps:=[7]) rfl hst hsz hpr rfl (by decide) rfl rfl rfl ?_
   intro E Qa Qb hP hN hmid hfin
   obtain⟨P',nt',w0,F0,p0,S0,β0,ro0⟩:=E
   simp only at hP hN
   subst hP hN
   refine Z5c has ?_
   dsimp only [List.zip,List.zipWith,List.cons_append,List.nil_append]
   refine AWp.region<|AOps.cons I (Zh (v:=(Z7 x)) I I) I<|AOps.nil ?_
   refine hmid _ _ _ rfl ?_
   refine Z5c hbd<|AWp.block<|AWp.region<|AOps.cons I (Z5g I o38 I I I) I<|AOps.cons I (Z1h (v:=(Z7 x)) I I) I<|AOps.cons I (Zj (vs:=[_]) (enc:=Z7) (l:=[x]) I Z65 I I ⟨I,J0⟩ I Z1u I I I I) I<|AOps.cons I (Z1g (m:=9) I I Z65 I u38 I I I I (oneRead I) Z1u hl) I<|AOps.cons I (Z9x sz38 I I I I I I I I) I<|AOps.nil<|Z17 ?_
   refine hfin _ _ _ none .normal rfl rfl rfl ?_
   rw [hend]
   exact⟨I,I,I,J0⟩
  exact ((F234_keys kvs lr hps hy hb).sw 1000 1).sw 1001 2
 refine At.weaken (st':=⟨[(2,.ptr 2 0)],[(2,.box [.vs 9]),(9,.vec 1 (List.map Z7 (List.map (fun e=>e.1) ω))),(2000,.box [.map 2001]),(2001,.fmap (Zn Z7 Zw kvs))]⟩) ⟨I,J0⟩ ⟨I,I,I,I,J0⟩<|Z17<|At.next<|AWp.seq<|AWp.region<|AOps.cons I (Z5g I o38 I I I) I<|AOps.cons I (Zh I I) I<|AOps.nil<|At.next<|AWp.ret ?_
 refine (hret _ ω hω ?_).1
 exact⟨[.vs 9],⟨I,J0⟩,I,⟨I,I,I,J0⟩⟩
theorem Zkw (kvs:List (Int×(List Z2))) (hb:kvs.length≤1073741824):ACallX (X:=List (Int×(List Z2))) P 153 [.clo 234 [.ptr 2000 0]] [(2000,.box [.map 2001]),(2001,.fmap (Zn Z7 Zw kvs))] (fun ω=>ω.Perm kvs) (fun _=>.vs 4) (fun ω=>[(4,.vec 1 (List.map Z7 (List.map (fun e=>e.1) ω))),(2000,.box [.map 2001]),(2001,.fmap (Zn Z7 Zw kvs))]) [4]:=by
 refine Z3r Tryz.func153 Tryz.results153 rfl Tryz.ntmps153 rfl rfl (fun _=>rfl) ?_
 intro E Q hP hN hro hret
 obtain⟨P',nt',w0,F0,p0,S0,β0,ro0⟩:=E
 simp only at hP hN
 subst hP hN
 dsimp only [argT]
 refine AWp.seq<|AWp.region<|AOps.cons I (Zh (v:=(.sl 1 [] false)) I I) I<|AOps.nil<|At.next<|AWp.seq<|AWp.region<|AOps.cons I (Z1h I I) I ?_
 refine Z4f (ar:=[(.sl 1 [] true),(.clo 234 [.ptr 2000 0])]) (caps:=[]) (news:=[4]) (forg:=[]) Tryz.call211 ((Zl6 kvs hb).sw 9 4) I I ⟨I,I,J0⟩ I ⟨I,I,J0⟩ (fun _=>I) I (fun ω hω=>?_)
 refine AOps.cons I (Zh I I) I<|AOps.nil<|At.next<|AWp.ret ?_
 refine (hret _ ω hω ?_).1
 exact⟨[.vs 4],⟨I,J0⟩,I,⟨I,I,I,J0⟩⟩
noncomputable def Zbd (_K:Nat) (a0:(List (Int×(List Z2)))):Option ((List Int)) :=
 if a0.length≤1073741824 then
 ndPerm a0 fun x3 =>
 (sortI (List.map (fun e:Int×(List Z2)=>e.1) x3)).bind fun v5 =>
 some v5
 else none
theorem Zro (K:Nat) (a0:(List (Int×(List Z2)))) (r:(List Int)) (h:Zbd K a0=some r):ACall P 123 ⟨[(.clo 234 [(.ptr 2000 0)])],[(2000,(.box [(.map 2001)])),(2001,(.fmap (Zn Z7 Zw a0)))],(.vs 5),[(2000,(.box [(.map 2001)])),(2001,(.fmap (Zn Z7 Zw a0))),(5,(.vec 1 (List.map Z7 r)))],[5]⟩:=by
 refine ac Tryz.func123 Tryz.results123 Tryz.ntmps123 fun w0 F0 p0 S0 β0 Q hret=>?_
 dsimp only [argT]
 unfold Zbd at h
 refine AWp.seq<|AWp.region ?_
 refine oc (Zh (v:=(.sl 1 [] false)) rfl rfl) ?_
 refine G1 h fun h=>?_
 have⟨hg2,h⟩:=Zg h
 have hp6:=Z9q h
 refine Z4f (ar:=[(.clo 234 [(.ptr 2000 0)])]) (caps:=[]) (news:=[5]) (forg:=[]) Tryz.call153 ((Zkw a0 hg2).sw 4 5) I I ⟨I,J0⟩ I ⟨I,I,J0⟩ (fun _=>I) I (fun x3 hw6=>?_)
 have h:=hp6 x3 hw6
 refine G1 h fun h=>?_
 have⟨v5,hv5,h⟩:=Zd h
 refine oc (Z1d (d:=some 7) (c:=⟨_,[(5,_)],.tup [],[(5,.vec 1 (List.map Z7 v5))],[]⟩) (ar:=[_]) (caps:=[]) (news:=[]) (forg:=[]) Tryz.call110 (Zd7 (n:=5) (enc:=Z7) (l:=(List.map (fun e:Int×(List Z2)=>e.1) x3)) Zd6 (fun _=>rfl) hv5) rfl rfl ⟨rfl,trivial⟩ rfl ⟨rfl,trivial⟩ rfl) ?_
 exact GR
def Zlg (_K:Nat) (v1:(List Z2)):Option ((List Z2)) :=
 some v1
def F283 (K:Nat) (a1:Int):Option ((List Z2)) :=
 if (decide (a1<0))=true then
 none
 else
 if (decide ((IntKind.i64.wrap (a1 - (IntKind.i64.wrap (0 - (([]:List Z2).length:Int))))) > 0))=true then
 if 0<(IntKind.i64.wrap (a1 - (IntKind.i64.wrap (0 - (([]:List Z2).length:Int)))))∧(IntKind.i64.wrap (a1 - (IntKind.i64.wrap (0 - (([]:List Z2).length:Int)))))≤1073741824 then
 if (0:Int)≤0∧0≤(([]:List Z2).length:Int)∧(([]:List Z2).length:Int)≤((List.replicate (IntKind.i64.wrap (a1 - (IntKind.i64.wrap (0 - (([]:List Z2).length:Int))))).toNat (Z5:Z2)).length:Nat) then
 if (0+(0:Int).toNat)+((([]:List Z2).length:Int).toNat - (0:Int).toNat)≤(List.replicate (IntKind.i64.wrap (a1 - (IntKind.i64.wrap (0 - (([]:List Z2).length:Int))))).toNat (Z5:Z2)).length then
 if (0+(0:Int).toNat)+((([]:List Z2).length:Int).toNat - (0:Int).toNat)≤(List.replicate (IntKind.i64.wrap (a1 - (IntKind.i64.wrap (0 - (([]:List Z2).length:Int))))).toNat (Z5:Z2)).length then
 Zlg K (((List.replicate (IntKind.i64.wrap (a1 - (IntKind.i64.wrap (0 - (([]:List Z2).length:Int))))).toNat (Z5:Z2)).drop (0+(0:Int).toNat)).take ((([]:List Z2).length:Int).toNat - (0:Int).toNat))
 else none
 else none
 else none
 else none
 else
 Zlg K []
theorem F283_ok (K:Nat) (a1:Int) (r:(List Z2)) (h:F283 K a1=some r):ACall P 283 ⟨[(.sl 14 [] true),(.int .i64 a1)],[],.vs 4,[(4,.vec 14 (List.map Zb r))],[4]⟩:=by
 refine Zcm Tryz.func283 Tryz.results283 rfl Tryz.ntmps283 rfl rfl rfl ?_
 intro E Q hP hN hro hret
 obtain⟨P',nt',w0,F0,p0,S0,β0,ro0⟩:=E
 simp only at hP hN
 subst hP hN
 dsimp only [argT]
 unfold F283 at h
 refine AWp.seq<|AWp.region<|AOps.cons I (Zh (v:=(.sl 14 [] false)) I I) I<|AOps.nil<|At.next<|AWp.seq<|AWp.seq<|AWp.region<|AOps.cons I (Z1h I I) I<|AOps.cons I (Z8o (b:=0) (c:=(decide (a1<0))) I I I I) I<|AOps.nil<|At.next ?_
 have hif:=Z9p h
 refine AWp.cond I (fun hc=>?_) (fun hc=>?_)
 ·have h:=hif.1 hc
  cases h
 have h:=hif.2 hc
 refine AWp.skip<|At.next<|AWp.seq<|AWp.seq<|AWp.region<|AOps.cons I (Z1h I I) I<|AOps.cons I (Z1h (v:=(.sl 14 [] true)) I I) I<|AOps.cons I (Zes I u47 I) I<|AOps.cons I (Z1h (v:=(.sl 14 [] true)) I I) I<|AOps.cons I (Z8k (l:=([]:List Z2)) (enc:=Zb) I s47 I) I<|AOps.cons I (Z73 (k:=.i64) (a:=0) (b:=(([]:List Z2).length:Int)) (c:=(IntKind.i64.wrap (0 - (([]:List Z2).length:Int)))) I I I I) I<|AOps.cons I (Z73 (k:=.i64) (b:=(IntKind.i64.wrap (0 - (([]:List Z2).length:Int)))) (c:=(IntKind.i64.wrap (a1 - (IntKind.i64.wrap (0 - (([]:List Z2).length:Int)))))) I I I I) I<|AOps.cons I (Zh I I) I<|AOps.nil<|At.next<|AWp.seq<|AWp.region<|AOps.cons I (Z1h I I) I<|AOps.cons I (Z8o (b:=0) (c:=(decide ((IntKind.i64.wrap (a1 - (IntKind.i64.wrap (0 - (([]:List Z2).length:Int))))) > 0))) I I I I) I<|AOps.nil<|At.next ?_
 refine Zfi (V:=(List Z2)) (lp:=fun v=>Zlg K v=some r) (sh:=fun v=>⟨[(0,(.vs 0))],[(0,(.vec 14 (List.map Zb v)))]⟩) ?_ ?_
 ·intro v h
  revert h
  revert v
  intro v1 h
  try dsimp only at h ⊢
  unfold Zlg at h
  refine At.next<|AWp.seq<|AWp.region<|AOps.cons I (Z1h I I) I<|AOps.cons I (Zh I I) I<|AOps.nil<|At.next<|AWp.ret<|At.ghost (st':=⟨[(4,(.vs 4))],[(4,(.vec 14 (List.map Zb v1)))]⟩) (fun a w h=>(Z28 _ (Z8c (a:=0) (b:=4) I I a w (Z28 ⟨[(4,(.vs 0))],[(0,(.vec 14 (List.map Zb v1)))]⟩ h ⟨I,J0⟩ ⟨I,J0⟩)) ⟨I,J0⟩ ⟨I,J0⟩)) ?_
  have h:=Option.some.inj h
  subst h
  refine (hret _ ?_).1
  exact⟨[(.vs 4)],⟨I,J0⟩,I,⟨I,J0⟩⟩
 intro J2
 have hif:=Z9p h
 refine AWp.cond I (fun hc=>?_) (fun hc=>?_)
 ·have h:=hif.1 hc
  refine AWp.region<|AOps.cons I (Z1h (v:=(.sl 14 [] true)) I I) I<|AOps.cons I (Z1h (v:=(.sl 14 [] true)) I I) I<|AOps.cons I (Zes I u47 I) I<|AOps.cons I (Zcf (kh:=.i64) I s47 I I) I<|AOps.cons I (Z1h I I) I ?_
  have⟨hg3,h⟩:=Zg h
  refine AOps.cons I (Z7d (ky:=.i64) (kn:=.i64) (c:=(IntKind.i64.wrap (a1 - (IntKind.i64.wrap (0 - (([]:List Z2).length:Int)))))) (n:=(IntKind.i64.wrap (a1 - (IntKind.i64.wrap (0 - (([]:List Z2).length:Int))))).toNat) I Zlr I u3 ze94 Z1t I I I hg3 I) I<|AOps.cons I (Z1h (v:=(.sl 14 [] true)) I I) I<|AOps.cons I (Z8k (l:=([]:List Z2)) (enc:=Zb) I s47 I) I ?_
  have⟨hg4,h⟩:=Zg h
  have⟨hg5,h⟩:=Zg h
  refine AOps.cons I (Z3i (v:=(.vs 22)) (n:=22) (off:=0) (len:=(List.replicate (IntKind.i64.wrap (a1 - (IntKind.i64.wrap (0 - (([]:List Z2).length:Int))))).toNat (Z5:Z2)).length) (l:=(List.replicate (IntKind.i64.wrap (a1 - (IntKind.i64.wrap (0 - (([]:List Z2).length:Int))))).toNat (Z5:Z2))) (enc:=Zb) (kh:=.i64) (hi:=(([]:List Z2).length:Int)) I s47 I I (Z31 _ _ _) I hg4 I) I<|AOps.cons I (Zh I I) I<|AOps.nil ?_
  have⟨hg6,h⟩:=Zg h
  refine At.ghost (st':=⟨[(0,(.vs 22))],[(22,(.vec 14 (List.map Zb (((List.replicate (IntKind.i64.wrap (a1 - (IntKind.i64.wrap (0 - (([]:List Z2).length:Int))))).toNat (Z5:Z2)).drop (0+(0:Int).toNat)).take ((([]:List Z2).length:Int).toNat - (0:Int).toNat)))))]⟩) (fun a w h=>(Z28 _ (Z4c (k:=0) (m:=22) (sz:=14) (off:=(0+(0:Int).toNat)) (len:=((([]:List Z2).length:Int).toNat - (0:Int).toNat)) (enc:=Zb) (l:=(List.replicate (IntKind.i64.wrap (a1 - (IntKind.i64.wrap (0 - (([]:List Z2).length:Int))))).toNat (Z5:Z2))) I hg6 a w (Z28 ⟨[(0,(.vsub 22 (0+(0:Int).toNat) ((([]:List Z2).length:Int).toNat - (0:Int).toNat) false))],[(22,(.vec 14 (List.map Zb (List.replicate (IntKind.i64.wrap (a1 - (IntKind.i64.wrap (0 - (([]:List Z2).length:Int))))).toNat (Z5:Z2)))))]⟩ h ⟨I,J0⟩ ⟨I,J0⟩)) ⟨I,J0⟩ ⟨I,J0⟩))<|At.ghost (st':=⟨[(0,(.vs 0))],[(0,(.vec 14 (List.map Zb (((List.replicate (IntKind.i64.wrap (a1 - (IntKind.i64.wrap (0 - (([]:List Z2).length:Int))))).toNat (Z5:Z2)).drop (0+(0:Int).toNat)).take ((([]:List Z2).length:Int).toNat - (0:Int).toNat)))))]⟩) (fun a w h=>(Z28 _ (Z8c (a:=22) (b:=0) I I a w (Z28 ⟨[(0,(.vs 22))],[(22,(.vec 14 (List.map Zb (((List.replicate (IntKind.i64.wrap (a1 - (IntKind.i64.wrap (0 - (([]:List Z2).length:Int))))).toNat (Z5:Z2)).drop (0+(0:Int).toNat)).take ((([]:List Z2).length:Int).toNat - (0:Int).toNat)))))]⟩ h ⟨I,J0⟩ ⟨I,J0⟩)) ⟨I,J0⟩ ⟨I,J0⟩)) ?_
  exact Z5r (J2 _ h) ⟨I,J0⟩ ⟨I,J0⟩
 have h:=hif.2 hc
 refine AWp.skip<|At.ghost (st':=⟨[(0,(.vs 0))],[(0,(.vec 14 (List.map Zb ([]:List Z2))))]⟩) (fun a w h=>(Z28 _ (Zcu (k:=0) (m:=0) (sz:=14) I I a w (Z28 ⟨[(0,(.sl 14 [] true))],[]⟩ h ⟨I,J0⟩ J0)) ⟨I,J0⟩ ⟨I,J0⟩)) ?_
 exact Z5r (J2 [] h) ⟨I,J0⟩ ⟨I,J0⟩
end Go.AM.Tp
