/- What these functions compute, each with its walk: F109, F47, F48, F113, F112, F111, F114, F118, F117, F49, F119, F50, F120, F121, F124_i1, F123_i2, F51, F53, F125, F52, F130, F193, F129, F131_i1, F132, F58. -/
import Derived.Test.YtkafecfipfnljaaGreatTpT
import Derived.Test.YtkafecfipfnljaaGreatTpG0
import Derived.Test.YtkafecfipfnljaaGreatTpG2
namespace Go.AM.Tp
open Go Go.AM Go.Proofs
set_option maxRecDepth 100000
set_option maxHeartbeats 2000000
attribute [local irreducible] Z11 TyOne TyAgg TySl TyZero TyStruct TyEl TyEq AWp AOps AOpsD At
def Zg8 (_K:Nat) (a0:(List Z1)):Option ((List Z1)) :=
 some a0
def Z6u (_K:Nat) (v16:Int) (v17:(List Z1)):Option ((List Z1)) :=
 if (0:Int)≤v16∧v16≤(v17.length:Int)∧(v17.length:Int)≤(v17.length:Nat) then
 if (0+v16.toNat)+((v17.length:Int).toNat - v16.toNat)≤v17.length then
 if (0+v16.toNat)+((v17.length:Int).toNat - v16.toNat)≤v17.length then
 if (0:Int)≤0∧0≤v16∧v16≤((v17.take (0+v16.toNat)++List.replicate ((v17.length:Int).toNat - v16.toNat) Ze++v17.drop ((0+v16.toNat)+((v17.length:Int).toNat - v16.toNat))).length:Nat) then
 if (0+(0:Int).toNat)+(v16.toNat - (0:Int).toNat)≤(v17.take (0+v16.toNat)++List.replicate ((v17.length:Int).toNat - v16.toNat) Ze++v17.drop ((0+v16.toNat)+((v17.length:Int).toNat - v16.toNat))).length then
 some (((v17.take (0+v16.toNat)++List.replicate ((v17.length:Int).toNat - v16.toNat) Ze++v17.drop ((0+v16.toNat)+((v17.length:Int).toNat - v16.toNat))).drop (0+(0:Int).toNat)).take (v16.toNat - (0:Int).toNat))
 else none
 else none
 else none
 else none
 else none
def Za1 (_K:Nat) (b25:Int→Int→(List Z1)→Option ((List Z1))) (v13:Int) (v33:Int) (v34:(List Z1)):Option ((List Z1)) :=
 b25 v33 (IntKind.i64.wrap (v13+1)) v34
def Z5t (K:Nat) (v1:Int) (a0:(List Z1)) (c19:Int→(List Z1)→Option ((List Z1))):Nat→Int→Int→(List Z1)→Option ((List Z1))
 | 0,_,_,_=>none
 | k15+1,v12,v13,v14 =>
 if (0+v1.toNat)+((a0.length:Int).toNat - v1.toNat)≤v14.length then
 if (decide (v13<((((a0.length:Int).toNat - v1.toNat):Nat):Int)))=true then
 if (0+v1.toNat)+((a0.length:Int).toNat - v1.toNat)≤v14.length then
 if (0:Int)≤v13∧v13<(((a0.length:Int).toNat - v1.toNat):Nat) then
 if ((0+v1.toNat)+v13.toNat)<v14.length then
 if (0+v1.toNat)+((a0.length:Int).toNat - v1.toNat)≤v14.length then
 if (0:Int)≤(IntKind.i64.wrap (v13 - 1))∧(IntKind.i64.wrap (v13 - 1))<(((a0.length:Int).toNat - v1.toNat):Nat) then
 if ((0+v1.toNat)+(IntKind.i64.wrap (v13 - 1)).toNat)<v14.length then
 if (!(((v14.getD ((0+v1.toNat)+v13.toNat) Ze).Kind==(v14.getD ((0+v1.toNat)+(IntKind.i64.wrap (v13 - 1)).toNat) Ze).Kind)&&(((v14.getD ((0+v1.toNat)+v13.toNat) Ze).A.Trace==(v14.getD ((0+v1.toNat)+(IntKind.i64.wrap (v13 - 1)).toNat) Ze).A.Trace)&&(((v14.getD ((0+v1.toNat)+v13.toNat) Ze).A.Id==(v14.getD ((0+v1.toNat)+(IntKind.i64.wrap (v13 - 1)).toNat) Ze).A.Id)&&(((v14.getD ((0+v1.toNat)+v13.toNat) Ze).B.Trace==(v14.getD ((0+v1.toNat)+(IntKind.i64.wrap (v13 - 1)).toNat) Ze).B.Trace)&&(((v14.getD ((0+v1.toNat)+v13.toNat) Ze).B.Id==(v14.getD ((0+v1.toNat)+(IntKind.i64.wrap (v13 - 1)).toNat) Ze).B.Id)&&(((v14.getD ((0+v1.toNat)+v13.toNat) Ze).From==(v14.getD ((0+v1.toNat)+(IntKind.i64.wrap (v13 - 1)).toNat) Ze).From)&&(((v14.getD ((0+v1.toNat)+v13.toNat) Ze).To==(v14.getD ((0+v1.toNat)+(IntKind.i64.wrap (v13 - 1)).toNat) Ze).To)&&(((v14.getD ((0+v1.toNat)+v13.toNat) Ze).Sent==(v14.getD ((0+v1.toNat)+(IntKind.i64.wrap (v13 - 1)).toNat) Ze).Sent)&&(((v14.getD ((0+v1.toNat)+v13.toNat) Ze).Received==(v14.getD ((0+v1.toNat)+(IntKind.i64.wrap (v13 - 1)).toNat) Ze).Received)&&(((v14.getD ((0+v1.toNat)+v13.toNat) Ze).Least==(v14.getD ((0+v1.toNat)+(IntKind.i64.wrap (v13 - 1)).toNat) Ze).Least)&&true)))))))))))=true then
 if (0+v1.toNat)+((a0.length:Int).toNat - v1.toNat)≤v14.length then
 if (0:Int)≤v13∧v13<(((a0.length:Int).toNat - v1.toNat):Nat) then
 if ((0+v1.toNat)+v13.toNat)<v14.length then
 if (0:Int)≤v12∧v12<(v14.length:Nat) then
 if v12.toNat<v14.length then
 Za1 K (Z5t K v1 a0 c19 k15) v13 (IntKind.i64.wrap (v12+1)) (v14.set v12.toNat (v14.getD ((0+v1.toNat)+v13.toNat) Ze))
 else none
 else none
 else none
 else none
 else none
 else
 Za1 K (Z5t K v1 a0 c19 k15) v13 v12 v14
 else none
 else none
 else none
 else none
 else none
 else none
 else
 c19 v12 v14
 else none
def Zb6 (K:Nat) (a0:(List Z1)) (c4:Option ((List Z1))):Nat→Int→Option ((List Z1))
 | 0,_=>none
 | k2+1,v1 =>
 if (decide (v1<(a0.length:Int)))=true then
 if (0:Int)≤v1∧v1<(a0.length:Nat) then
 if v1.toNat<a0.length then
 if (0:Int)≤(IntKind.i64.wrap (v1 - 1))∧(IntKind.i64.wrap (v1 - 1))<(a0.length:Nat) then
 if (IntKind.i64.wrap (v1 - 1)).toNat<a0.length then
 if (((a0.getD v1.toNat Ze).Kind==(a0.getD (IntKind.i64.wrap (v1 - 1)).toNat Ze).Kind)&&(((a0.getD v1.toNat Ze).A.Trace==(a0.getD (IntKind.i64.wrap (v1 - 1)).toNat Ze).A.Trace)&&(((a0.getD v1.toNat Ze).A.Id==(a0.getD (IntKind.i64.wrap (v1 - 1)).toNat Ze).A.Id)&&(((a0.getD v1.toNat Ze).B.Trace==(a0.getD (IntKind.i64.wrap (v1 - 1)).toNat Ze).B.Trace)&&(((a0.getD v1.toNat Ze).B.Id==(a0.getD (IntKind.i64.wrap (v1 - 1)).toNat Ze).B.Id)&&(((a0.getD v1.toNat Ze).From==(a0.getD (IntKind.i64.wrap (v1 - 1)).toNat Ze).From)&&(((a0.getD v1.toNat Ze).To==(a0.getD (IntKind.i64.wrap (v1 - 1)).toNat Ze).To)&&(((a0.getD v1.toNat Ze).Sent==(a0.getD (IntKind.i64.wrap (v1 - 1)).toNat Ze).Sent)&&(((a0.getD v1.toNat Ze).Received==(a0.getD (IntKind.i64.wrap (v1 - 1)).toNat Ze).Received)&&(((a0.getD v1.toNat Ze).Least==(a0.getD (IntKind.i64.wrap (v1 - 1)).toNat Ze).Least)&&true))))))))))=true then
 if (0:Int)≤v1∧v1≤(a0.length:Int)∧(a0.length:Int)≤(a0.length:Nat) then
 if (0+v1.toNat)+((a0.length:Int).toNat - v1.toNat)≤a0.length then
 Z5t K v1 a0 (Z6u K) K v1 1 a0
 else none
 else none
 else
 (Zb6 K a0 c4 k2) (IntKind.i64.wrap (v1+1))
 else none
 else none
 else none
 else none
 else
 c4
def F109 (K:Nat) (a0:(List Z1)):Option ((List Z1)) :=
 if (decide ((a0.length:Int)<2))=true then
 some a0
 else
 Zb6 K a0 (Zg8 K a0) K 1
theorem F109_ok (K:Nat) (a0:(List Z1)) (r:(List Z1)) (h:F109 K a0=some r):ACall P 109 ⟨[(.vs 0)],[(0,.vec 10 (List.map Z3 a0))],.vs 0,[(0,.vec 10 (List.map Z3 r))],[0]⟩:=by
 refine ac Tryz.func109 Tryz.results109 Tryz.ntmps109 fun w0 F0 p0 S0 β0 Q hret=>?_
 dsimp only [argT]
 unfold F109 at h
 refine AWp.seq<|AWp.region ?_
 refine oc (Zh (v:=(.sl 10 [] false)) rfl rfl) ?_
 refine G1 h fun h=>?_
 refine oc (Z2t rfl u35 rfl rfl) ?_
 refine Mc h (fun h=>?_) (fun h=>?_)
 ·exact GR
 refine G1 h fun h=>?_
 refine lb (V:=Int) (X:=Unit) (v:=_) (fun k v=>Zb6 K a0 (Zg8 K a0) k v=some r) (fun v=>Zg8 K a0=some r) [(0,_)] [(0,_)] [(0,_)] [(0,_)] (fun v t=>(3,(.int .i64 v))::t) (fun v s=>s) (fun v t=>t) (fun v s=>s) h ?_ ?_
 ·intro v h
  try dsimp only at h ⊢
  unfold Zg8 at h
  exact GR
 intro N k2 v h IH2 J2
 revert h
 revert v
 intro v1 h
 try dsimp only at h IH2 J2 ⊢
 cases k2 with
 | zero=>cases h
 | succ k2 =>
  rw [Zb6] at h
  refine G1 h fun h=>?_
  refine oc (Z2t rfl u35 rfl rfl) ?_
  refine Mc h (fun h=>?_) (fun h=>?_)
  ·refine AWp.skip<|At.next<|AWp.seq<|AWp.block ?_
   refine Mc h (fun h=>?_) (fun h=>?_)
   ·refine G1 h fun h=>?_
    have⟨hg10,h⟩:=Zg h
    have⟨hg11,h⟩:=Zg h
    refine oc (Z3v (v:=(.vs 0)) (n:=0) (off:=0) (len:=a0.length) (l:=a0) (enc:=Z3) (kl:=.i64) (lo:=v1) rfl s35 rfl rfl (Z31 _ _ _) rfl hg10 rfl) ?_
    refine G1 h fun h=>?_
    refine lb (V:=Int×Int×(List Z1)) (X:=Int×(List Z1)) (v:=(_,_,_)) (fun k v=>Z5t K v1 a0 (Z6u K) k v.1 v.2.1 v.2.2=some r) (fun v=>Z6u K v.1 v.2=some r) [(0,_),(4,_)] [] [(0,_)] [] (fun v t=>(3,(.int .i64 v.1))::(5,(.int .i64 v.2.1))::t) (fun v s=>(0,(.vec 10 (List.map Z3 v.2.2)))::s) (fun v t=>(3,(.int .i64 v.1))::t) (fun v s=>(0,(.vec 10 (List.map Z3 v.2)))::s) h ?_ ?_
    ·intro v h
     obtain⟨v16,v17⟩:=v
     try dsimp only at h ⊢
     unfold Z6u at h
     refine G1 h fun h=>?_
     have⟨hg20,h⟩:=Zg h
     have⟨hg21,h⟩:=Zg h
     refine oc (Z3v (v:=(.vs 0)) (n:=0) (off:=0) (len:=v17.length) (l:=v17) (enc:=Z3) (kl:=.i64) (lo:=v16) rfl s35 rfl rfl (Z31 _ _ _) rfl hg20 rfl) ?_
     have⟨hg22,h⟩:=Zg h
     refine oc (Zg6 (v:=(.vsub 0 (0+v16.toNat) ((v17.length:Int).toNat - v16.toNat) false)) (n:=0) (off:=(0+v16.toNat)) (len:=((v17.length:Int).toNat - v16.toNat)) (l:=v17) (enc:=Z3) Ziu ze123 rfl rfl rfl (Z36 hg22) Z16) ?_
     refine G1 h fun h=>?_
     have⟨hg23,h⟩:=Zg h
     have⟨hg24,h⟩:=Zg h
     refine oc (Z3i (v:=(.vs 0)) (n:=0) (off:=0) (len:=(v17.take (0+v16.toNat)++List.replicate ((v17.length:Int).toNat - v16.toNat) Ze++v17.drop ((0+v16.toNat)+((v17.length:Int).toNat - v16.toNat))).length) (l:=(v17.take (0+v16.toNat)++List.replicate ((v17.length:Int).toNat - v16.toNat) Ze++v17.drop ((0+v16.toNat)+((v17.length:Int).toNat - v16.toNat)))) (enc:=Z3) (kh:=.i64) (hi:=v16) rfl s35 rfl rfl (Z31 _ _ _) rfl hg23 rfl) ?_
     refine G1 h fun h=>?_
     refine AWp.ret<|Z3e<|Z27 ?_
     refine Z27 (Z3e ?_)
     refine Z27<|At.ghost (fun a w h=>gk ⟨[(2,_)],[(0,_)]⟩ (Z4c (k:=2) (m:=0) (sz:=10) (off:=(0+(0:Int).toNat)) (len:=(v16.toNat - (0:Int).toNat)) (enc:=Z3) (l:=(v17.take (0+v16.toNat)++List.replicate ((v17.length:Int).toNat - v16.toNat) Ze++v17.drop ((0+v16.toNat)+((v17.length:Int).toNat - v16.toNat)))) I hg24 a w (gk ⟨[(2,_)],[(0,_)]⟩ h))) ?_
     exact RT
    intro N k15 v h IH15 J15
    obtain⟨v12,v13,v14⟩:=v
    try dsimp only at h IH15 J15 ⊢
    cases k15 with
    | zero=>cases h
    | succ k15 =>
     rw [Z5t] at h
     refine G1 h fun h=>?_
     have⟨hg26,h⟩:=Zg h
     refine oc (Zin (v:=(.vsub 0 (0+v1.toNat) ((a0.length:Int).toNat - v1.toNat) false)) (n:=0) (off:=(0+v1.toNat)) (len:=((a0.length:Int).toNat - v1.toNat)) (l:=v14) (enc:=Z3) rfl u35 rfl rfl (Z36 hg26)) ?_
     refine Mc h (fun h=>?_) (fun h=>?_)
     ·refine AWp.skip<|At.next<|AWp.seq<|AWp.block ?_
      refine G1 h fun h=>?_
      have⟨hg27,h⟩:=Zg h
      have⟨hg28,h⟩:=Zg h
      refine oD (Z44 (k:=.i64) (v:=(.vsub 0 (0+v1.toNat) ((a0.length:Int).toNat - v1.toNat) false)) (n:=0) (off:=(0+v1.toNat)) (len:=((a0.length:Int).toNat - v1.toNat)) (es:=(List.map Z3 v14)) (j:=v13) (m:=((0+v1.toNat)+v13.toNat)) rfl s35 rfl rfl (Z36 hg27) rfl hg28 (rfl)) ?_
      refine G1 h fun h=>?_
      have⟨hg30,h⟩:=Zg h
      have⟨hg31,h⟩:=Zg h
      refine oD (Z44 (k:=.i64) (v:=(.vsub 0 (0+v1.toNat) ((a0.length:Int).toNat - v1.toNat) false)) (n:=0) (off:=(0+v1.toNat)) (len:=((a0.length:Int).toNat - v1.toNat)) (es:=(List.map Z3 v14)) (j:=(IntKind.i64.wrap (v13 - 1))) (m:=((0+v1.toNat)+(IntKind.i64.wrap (v13 - 1)).toNat)) rfl s35 rfl rfl (Z36 hg30) rfl hg31 (rfl)) ?_
      refine G1 h fun h=>?_
      refine jn (V:=Int×(List Z1)) (fun v=>Za1 K (Z5t K v1 a0 (Z6u K) k15) v13 v.1 v.2=some r) [(0,_),(4,_),(5,_)] [] (fun v t=>(3,(.int .i64 v.1))::t) (fun v s=>(0,(.vec 10 (List.map Z3 v.2)))::s) ?_ ?_
      ·intro v h
       obtain⟨v33,v34⟩:=v
       try dsimp only at h ⊢
       unfold Za1 at h
       refine Z17<|At.next ?_
       exact M2 h (k:=fun h=>wkx (IH15 _ (_,_,_) Z1p h))
      intro J35
      refine cnd h (fun h=>?_) (fun h=>?_)
      ·refine G1 h fun h=>?_
       have⟨hg36,h⟩:=Zg h
       have⟨hg37,h⟩:=Zg h
       refine oc (Z44 (k:=.i64) (v:=(.vsub 0 (0+v1.toNat) ((a0.length:Int).toNat - v1.toNat) false)) (n:=0) (off:=(0+v1.toNat)) (len:=((a0.length:Int).toNat - v1.toNat)) (es:=(List.map Z3 v14)) (j:=v13) (m:=((0+v1.toNat)+v13.toNat)) rfl s35 rfl rfl (Z36 hg36) rfl hg37 (rfl)) ?_
       refine G1 h fun h=>?_
       have⟨hg40,h⟩:=Zg h
       refine oc (Z4u (l:=v14) (enc:=Z3) (z:=Ze) (a:=(v14.getD ((0+v1.toNat)+v13.toNat) Ze)) (v:=(Z3 (v14.getD ((0+v1.toNat)+v13.toNat) Ze))) sz123 rfl rfl hg40 rfl Z16 rfl rfl rfl rfl) ?_
       refine AOps.nil<|At.next ?_
       exact M2 h (k:=fun h=>wkx (J35 (_,_) h))
      refine AWp.skip ?_
      exact wkx (J35 (_,_) h)
     refine AWp.exit<|Zz ?_
     exact wkx (J15 (_,_) h)
   refine AWp.skip<|Z17<|At.next ?_
   exact M2 h (k:=fun h=>wkx (IH2 _ _ Z1p h))
  refine AWp.exit<|Zz ?_
  exact wkx (J2 () h)
def F47 (K:Nat) (a0:(List Z1)):Option ((List Z1)) :=
 (F106 K a0).bind fun v2 =>
 (sortF (fun a b=>F108 K a b) v2).bind fun v4 =>
 (F109 K v4).bind fun v6 =>
 some v6
theorem F47_ok (K:Nat) (a0:(List Z1)) (r:(List Z1)) (h:F47 K a0=some r):ACall P 47 ⟨[(.sl 10 (a0.map Z3) false)],[],.vs 2,[(2,.vec 10 (List.map Z3 r))],[2]⟩:=by
 refine ac Tryz.func47 Tryz.results47 Tryz.ntmps47 fun w0 F0 p0 S0 β0 Q hret=>?_
 dsimp only [argT]
 unfold F47 at h
 refine AWp.seq<|AWp.region ?_
 refine oc (Zh (v:=(.sl 10 [] true)) rfl rfl) ?_
 refine G1 h fun h=>?_
 have⟨v2,hv2,h⟩:=Zd h
 refine oc (Z30 (sz:=10) (es:=(List.map Z3 v2)) (ar:=[_]) (caps:=[]) Tryz.call106 ((F106_ok (h:=hv2)).sw 2 5) rfl rfl ⟨rfl,trivial⟩ rfl) ?_
 refine G1 h fun h=>?_
 have⟨v4,hv4,h⟩:=Zd h
 refine oc (Z1d (d:=some 7) (c:=⟨_,[(5,_)],.tup [],[(5,.vec 10 (List.map Z3 v4))],[]⟩) (ar:=[_,_]) (caps:=[]) (news:=[]) (forg:=[]) Tryz.call107 (Zpu (n:=5) (enc:=Z3) (l:=v2) (caps:=[]) (c:=(fun a b=>F108 K a b)) Zrc Tryz.call108 Z16 (fun _=>rfl) (fun a b m hm=>F108_ok K a b m hm) hv4) rfl rfl ⟨rfl,rfl,trivial⟩ rfl ⟨rfl,trivial⟩ rfl) ?_
 refine G1 h fun h=>?_
 have⟨v6,hv6,h⟩:=Zd h
 refine oc (Z1d (d:=some 9) (c:=⟨_,[(5,_)],.vs 5,[(5,.vec 10 (List.map Z3 v6))],[5]⟩) (ar:=[_]) (caps:=[]) (news:=[]) (forg:=[5]) Tryz.call109 ((F109_ok (h:=hv6)).sw 0 5) rfl rfl ⟨rfl,trivial⟩ rfl ⟨rfl,trivial⟩ rfl) ?_
 refine G1 h fun h=>?_
 refine AWp.ret<|At.ghost (fun a w h=>gk ⟨[(2,_)],[(2,_)]⟩ (Z3x (a:=5) (b:=2) (gk ⟨[(2,_)],[(5,_)]⟩ h))) ?_
 exact RT
def Ze4 (_K:Nat) (v10:(List Int)):Option ((List Int)) :=
 (sortI v10).bind fun v14 =>
 some v14
noncomputable def Zji (K:Nat) (c12:(List Int)→Option ((List Int))):Nat→(List Int)→(List (Int×Bool))→Option ((List Int))
 | 0,_,_=>none
 | k9+1,v7,v8 =>
 ndNext v8 (
 c12 v7) fun x16 x17 =>
 if v7.length+[x16.1].length≤1073741824 then
 (Zji K c12 k9) (v7++[x16.1]) x17
 else none
noncomputable def Zf0 (K:Nat) (v4:(List (Int×Bool))):Option ((List Int)) :=
 Zji K (Ze4 K) K [] v4
def Zgy (K:Nat) (a0:(List Z1)) (c6:(List (Int×Bool))→Option ((List Int))):Nat→Int→(List (Int×Bool))→Option ((List Int))
 | 0,_,_=>none
 | k3+1,v1,v2 =>
 if (decide (v1<(a0.length:Int)))=true then
 if (0:Int)≤v1∧v1<a0.length then
 (Zgy K a0 c6 k3) (IntKind.i64.wrap (v1+1)) (mput Zv (a0.getD v1.toNat Ze).To true (mput Zv (a0.getD v1.toNat Ze).From true v2))
 else none
 else
 c6 v2
noncomputable def F48 (K:Nat) (a0:(List Z1)):Option ((List Int)) :=
 Zgy K a0 (Zf0 K) K 0 ([]:List (Int×Bool))
theorem F48_ok (K:Nat) (a0:(List Z1)) (r:(List Int)) (h:F48 K a0=some r):ACall P 48 ⟨[(.sl 10 (a0.map Z3) false)],[],(.sl 1 (r.map Z7) false),[],[]⟩:=by
 refine ac Tryz.func48 Tryz.results48 Tryz.ntmps48 fun w0 F0 p0 S0 β0 Q hret=>?_
 dsimp only [argT]
 unfold F48 at h
 refine AWp.seq<|AWp.region ?_
 refine oc (Zh (v:=(.sl 1 [] false)) rfl rfl) ?_
 refine G1 h fun h=>?_
 refine lb (V:=Int×(List (Int×Bool))) (X:=(List (Int×Bool))) (v:=(_,_)) (fun k v=>Zgy K a0 (Zf0 K) k v.1 v.2=some r) (fun v=>Zf0 K v=some r) [(3,_),(9,_),(10,_)] [] [(3,_)] [] (fun v t=>(11,(.int .i64 v.1))::t) (fun v s=>(8,(.map (Zn Z7 Zt v.2)))::s) (fun v t=>t) (fun v s=>(8,(.map (Zn Z7 Zt v)))::s) h ?_ ?_
 ·intro v h
  revert h
  revert v
  intro v4 h
  try dsimp only at h ⊢
  unfold Zf0 at h
  refine At.next<|AWp.seq<|AWp.region ?_
  refine oc (Zh (v:=(.sl 1 [] true)) rfl rfl) ?_
  refine G1 h fun h=>?_
  refine AOps.ghost (fun a w h=>gk ⟨[(6,_),(22,_)],[(8,_)]⟩ (Z66 (m:=8) (gk ⟨[(6,_),(22,_)],[(8,_)]⟩ h))) ?_
  refine oc (Zdb (l:=v4) rfl ⟨3,4,by kernel_rfl⟩ rfl rfl) ?_
  refine AOps.nil<|At.next<|AWp.ghost (fun a w h=>gk ⟨[(6,_),(23,_)],[(6,_),(23,_)]⟩ (Z38 (k:=6) (m:=6) (sz:=1) (gk ⟨[(6,_),(23,_)],[(23,_)]⟩ h))) ?_
  refine lb (V:=(List Int)×(List (Int×Bool))) (X:=(List Int)) (v:=(_,_)) (fun k v=>Zji K (Ze4 K) k v.1 v.2=some r) (fun v=>Ze4 K v=some r) [(6,_),(23,_)] [] [(6,_)] [] (fun v t=>t) (fun v s=>(6,(.vec 1 (List.map Z7 v.1)))::(23,(.iter none (Zn Z7 Zt v.2)))::s) (fun v t=>t) (fun v s=>(6,(.vec 1 (List.map Z7 v)))::s) h ?_ ?_
  ·intro v h
   revert h
   revert v
   intro v10 h
   try dsimp only at h ⊢
   unfold Ze4 at h
   refine G1 h fun h=>?_
   have⟨v14,hv14,h⟩:=Zd h
   refine oc (Z1d (d:=some 33) (c:=⟨_,[(6,_)],.tup [],[(6,.vec 1 (List.map Z7 v14))],[]⟩) (ar:=[_]) (caps:=[]) (news:=[]) (forg:=[]) Tryz.call110 (Zd7 (n:=6) (enc:=Z7) (l:=v10) Zd6 (fun _=>rfl) hv14) rfl rfl ⟨rfl,trivial⟩ rfl ⟨rfl,trivial⟩ rfl) ?_
   refine G1 h fun h=>?_
   refine AWp.ret<|At.ghost (fun a w h=>gk ⟨[(2,_)],[]⟩ (Z1j (m:=6) (sz:=1) (gk ⟨[(2,_)],[(6,_)]⟩ h))) ?_
   exact RT
  intro N k9 v h IH9 J9
  obtain⟨v7,v8⟩:=v
  try dsimp only at h IH9 J9 ⊢
  cases k9 with
  | zero=>cases h
  | succ k9 =>
   rw [Zji] at h
   refine AWp.seq<|AWp.region ?_
   have hn19:=of_ndNext h
   refine Z4l (encK:=Z7) (encV:=Zt) (rem:=v8) I I I (fun hc=>?_) (fun xx17p x16 xx17q hc=>?_)
   ·have h:=hn19.1 hc
    refine G1 h fun h=>?_
    refine AWp.cond (b:=false) I (fun hc=>?_) (fun hc=>?_)
    ·cases hc
    refine AWp.exit<|Zz ?_
    exact wkx (J9 _ h)
   have h:=hn19.2 _ _ _ hc
   generalize xx17p++xx17q=x17 at h ⊢
   refine G1 h fun h=>?_
   refine AWp.cond (b:=true) I (fun hc=>?_) (fun hc=>?_)
   rotate_left
   ·cases hc
   refine AWp.skip<|At.next<|AWp.block<|AWp.seq<|AWp.region ?_
   refine oc (Zda (k:=x16.1) (v:=x16.2) (encK:=Z7) (encV:=Zt) rfl rfl rfl) ?_
   refine G1 h fun h=>?_
   refine oc (Zj (vs:=[_]) (enc:=Z7) (l:=[x16.1]) rfl Z65 rfl rfl ⟨rfl,trivial⟩ rfl Z1u rfl rfl rfl rfl) ?_
   have⟨hg18,h⟩:=Zg h
   refine oc (Z1g (m:=6) rfl rfl Z65 rfl u38 rfl rfl rfl rfl (oneRead rfl) Z1u hg18) ?_
   refine G2 h fun h=>?_
   refine Z17<|At.ghost (fun a w h=>gk ⟨[(6,_),(23,_)],[(6,_),(23,_)]⟩ (gh_iter (m:=23) (gk ⟨[(6,_),(23,_)],[(23,_),(6,_)]⟩ h))) ?_
   exact wkx (IH9 _ (_,_) Z1p h)
 intro N k3 v h IH3 J3
 obtain⟨v1,v2⟩:=v
 try dsimp only at h IH3 J3 ⊢
 cases k3 with
 | zero=>cases h
 | succ k3 =>
  rw [Zgy] at h
  refine Mc h (fun h=>?_) (fun h=>?_)
  ·refine AWp.skip<|At.next<|AWp.seq<|AWp.block ?_
   refine G1 h fun h=>?_
   refine oc (Zm (ds:=_)) ?_
   refine G1 h fun h=>?_
   refine oD (Z1v (a:=(a0.getD v1.toNat Ze).From) (b:=true) (kv:=(.int .i64 (a0.getD v1.toNat Ze).From)) (vv:=(.bool true)) Zcc rfl rfl rfl rfl rfl rfl) ?_
   refine oD (Z1v (a:=(a0.getD v1.toNat Ze).To) (b:=true) (kv:=(.int .i64 (a0.getD v1.toNat Ze).To)) (vv:=(.bool true)) Zcc rfl rfl rfl rfl rfl rfl) ?_
   refine AOpsE.nil (by kernel_rfl) I ?_
   refine Z17<|At.next ?_
   exact M2 h (k:=fun h=>wkx (IH3 _ (_,_) Z1p h))
  refine AWp.exit<|Zz ?_
  exact wkx (J3 _ h)
def F113 (_K:Nat) (a0:Z1):Option (Int) :=
 some (IntKind.i64.wrap ((IntKind.i64.wrap (a0.Received - a0.Sent)) - a0.Least))
theorem Zkr (K:Nat) (a0:Z1) (r:Int) (h:F113 K a0=some r):ACall P 113 ⟨[(Z3 a0)],[],(.int .i64 r),[],[]⟩:=by
 refine ac Tryz.func113 Tryz.results113 Tryz.ntmps113 fun w0 F0 p0 S0 β0 Q hret=>?_
 dsimp only [argT]
 unfold F113 at h
 exact GR
def F112 (K:Nat) (a0:Z1):Option (Bool) :=
 if (a0.From != a0.To)=true then
 some true
 else
 (F113 K a0).bind fun v2 =>
 some (decide (v2<0))
theorem F112_ok (K:Nat) (a0:Z1) (r:Bool) (h:F112 K a0=some r):ACall P 112 ⟨[(Z3 a0)],[],(.bool r),[],[]⟩:=by
 refine ac Tryz.func112 Tryz.results112 Tryz.ntmps112 fun w0 F0 p0 S0 β0 Q hret=>?_
 dsimp only [argT]
 unfold F112 at h
 refine Ms h (fun h=>?_) (fun h=>?_)
 ·exact GR
 refine G1 h fun h=>?_
 have⟨v2,hv2,h⟩:=Zd h
 refine oT (Z15 Tryz.call113 (Zkr (h:=hv2))) ?_
 exact GR
def Zb7 (_K:Nat) (v4:(List Z1)):Option ((List Z1)) :=
 some v4
def Za2 (_K:Nat) (b7:Int→(List Z1)→Option ((List Z1))) (v1:Int) (v11:(List Z1)):Option ((List Z1)) :=
 b7 (IntKind.i64.wrap (v1+1)) v11
def Z7y (K:Nat) (a0:(List Z1)) (c6:(List Z1)→Option ((List Z1))):Nat→Int→(List Z1)→Option ((List Z1))
 | 0,_,_=>none
 | k3+1,v1,v2 =>
 if (decide (v1<(a0.length:Int)))=true then
 if (0:Int)≤v1∧v1<a0.length then
 (F112 K (a0.getD v1.toNat Ze)).bind fun v10 =>
 if v10=true then
 if v2.length+[(a0.getD v1.toNat Ze)].length≤1073741824 then
 Za2 K (Z7y K a0 c6 k3) v1 (v2++[(a0.getD v1.toNat Ze)])
 else none
 else
 Za2 K (Z7y K a0 c6 k3) v1 v2
 else none
 else
 c6 v2
def F111 (K:Nat) (a0:(List Z1)):Option ((List Z1)) :=
 Z7y K a0 (Zb7 K) K 0 []
theorem F111_ok (K:Nat) (a0:(List Z1)) (r:(List Z1)) (h:F111 K a0=some r):ACall P 111 ⟨[(.sl 10 (a0.map Z3) false),(.clo 112 [])],[],.vs 4,[(4,.vec 10 (List.map Z3 r))],[4]⟩:=by
 refine ac Tryz.func111 Tryz.results111 Tryz.ntmps111 fun w0 F0 p0 S0 β0 Q hret=>?_
 dsimp only [argT]
 unfold F111 at h
 refine AWp.seq<|AWp.region ?_
 refine oc (Zh (v:=(.sl 10 [] false)) rfl rfl) ?_
 refine G1 h fun h=>?_
 refine oc (Zh (v:=(.sl 10 [] true)) rfl rfl) ?_
 refine G1 h fun h=>?_
 refine AWp.ghost (fun a w h=>gk ⟨[(1,_),(5,_),(8,_),(9,_),(10,_)],[(5,_)]⟩ (Z38 (k:=5) (m:=5) (sz:=10) (gk ⟨[(5,_),(1,_),(8,_),(9,_),(10,_)],[]⟩ h))) ?_
 refine lb (V:=Int×(List Z1)) (X:=(List Z1)) (v:=(_,_)) (fun k v=>Z7y K a0 (Zb7 K) k v.1 v.2=some r) (fun v=>Zb7 K v=some r) [(1,_),(5,_),(8,_),(9,_)] [] [(5,_)] [] (fun v t=>(10,(.int .i64 v.1))::t) (fun v s=>(5,(.vec 10 (List.map Z3 v.2)))::s) (fun v t=>t) (fun v s=>(5,(.vec 10 (List.map Z3 v)))::s) h ?_ ?_
 ·intro v h
  revert h
  revert v
  intro v4 h
  try dsimp only at h ⊢
  unfold Zb7 at h
  refine G1 h fun h=>?_
  refine AWp.ret<|At.ghost (fun a w h=>gk ⟨[(4,_)],[(4,_)]⟩ (Z3x (a:=5) (b:=4) (gk ⟨[(4,_)],[(5,_)]⟩ h))) ?_
  exact RT
 intro N k3 v h IH3 J3
 obtain⟨v1,v2⟩:=v
 try dsimp only at h IH3 J3 ⊢
 cases k3 with
 | zero=>cases h
 | succ k3 =>
  rw [Z7y] at h
  refine Mc h (fun h=>?_) (fun h=>?_)
  ·refine AWp.skip<|At.next<|AWp.seq<|AWp.block ?_
   refine G1 h fun h=>?_
   refine oc (Zm (ds:=_)) ?_
   refine G1 h fun h=>?_
   have⟨v10,hv10,h⟩:=Zd h
   refine oc (Z15 Tryz.call112 (F112_ok (h:=hv10))) ?_
   refine AOps.nil<|At.next ?_
   refine jn (V:=(List Z1)) (fun v=>Za2 K (Z7y K a0 (Zb7 K) k3) v1 v=some r) [(1,_),(5,_),(8,_),(9,_),(10,_)] [] (fun v t=>t) (fun v s=>(5,(.vec 10 (List.map Z3 v)))::s) ?_ ?_
   ·intro v h
    revert h
    revert v
    intro v11 h
    try dsimp only at h ⊢
    unfold Za2 at h
    refine Z17<|At.next ?_
    exact M2 h (k:=fun h=>wkx (IH3 _ (_,_) Z1p h))
   intro J12
   refine cnd h (fun h=>?_) (fun h=>?_)
   ·refine G1 h fun h=>?_
    refine oc (Zj (vs:=[_]) (enc:=Z3) (l:=[(a0.getD v1.toNat Ze)]) rfl Ziu rfl rfl ⟨rfl,trivial⟩ rfl Z16 rfl rfl rfl rfl) ?_
    have⟨hg13,h⟩:=Zg h
    refine oc (Z1g (m:=5) rfl rfl Ziu rfl u35 rfl rfl rfl rfl (oneRead rfl) Z16 hg13) ?_
    exact M2 h (k:=fun h=>wkx (J12 _ h))
   refine AWp.skip ?_
   exact wkx (J12 _ h)
  refine AWp.exit<|Zz ?_
  exact wkx (J3 _ h)
def F114 (K:Nat) (a0:Z1) (a1:Z1):Option (Int) :=
 (Zit K a0.From a1.From).bind fun v2 =>
 (Zit K a0.To a1.To).bind fun v4 =>
 (F113 K a0).bind fun v6 =>
 (F113 K a1).bind fun v8 =>
 (Zit K v6 v8).bind fun v10 =>
 (F108 K a0 a1).bind fun v12 =>
 (F115 K [v2,v4,v10,v12]).bind fun v14 =>
 some v14
theorem F114_ok (K:Nat) (a0:Z1) (a1:Z1) (r:Int) (h:F114 K a0 a1=some r):ACall P 114 ⟨[(Z3 a0),(Z3 a1)],[],(.int .i64 r),[],[]⟩:=by
 refine ac Tryz.func114 Tryz.results114 Tryz.ntmps114 fun w0 F0 p0 S0 β0 Q hret=>?_
 dsimp only [argT]
 unfold F114 at h
 refine G1 h fun h=>?_
 have⟨v2,hv2,h⟩:=Zd h
 refine oD (Z15 Tryz.call116 (Z3p (h:=hv2))) ?_
 refine G1 h fun h=>?_
 have⟨v4,hv4,h⟩:=Zd h
 refine oD (Z15 Tryz.call116 (Z3p (h:=hv4))) ?_
 refine G1 h fun h=>?_
 have⟨v6,hv6,h⟩:=Zd h
 refine oD (Z15 Tryz.call113 (Zkr (h:=hv6))) ?_
 refine G1 h fun h=>?_
 have⟨v8,hv8,h⟩:=Zd h
 refine oD (Z15 Tryz.call113 (Zkr (h:=hv8))) ?_
 have⟨v10,hv10,h⟩:=Zd h
 refine oD (Z15 Tryz.call116 (Z3p (h:=hv10))) ?_
 refine G1 h fun h=>?_
 have⟨v12,hv12,h⟩:=Zd h
 refine oD (Z15 Tryz.call108 (F108_ok (h:=hv12))) ?_
 refine oD (Zj (vs:=[_,_,_,_]) (enc:=Z7) (l:=[v2,v4,v10,v12]) rfl Z65 rfl rfl ⟨rfl,rfl,rfl,rfl,trivial⟩ rfl Z1u rfl rfl rfl rfl) ?_
 have⟨v14,hv14,h⟩:=Zd h
 refine oD (Z2r (rd:=[(23,(.vec 1 (List.map Z7 [v2,v4,v10,v12])))]) (ar:=[_]) Tryz.call115 (Zdi (h:=hv14)) rfl rfl ⟨rfl,trivial⟩ (Z2f ⟨rfl,trivial⟩) rfl rfl rfl) ?_
 exact GR
def F118 (_K:Nat) (a0:Z1) (a1:Z1):Option (Bool) :=
 if (a0.From==a1.From)=true then
 some (a0.To==a1.To)
 else
 some false
theorem F118_ok (K:Nat) (a0:Z1) (a1:Z1) (r:Bool) (h:F118 K a0 a1=some r):ACall P 118 ⟨[(Z3 a0),(Z3 a1)],[],(.bool r),[],[]⟩:=by
 refine ac Tryz.func118 Tryz.results118 Tryz.ntmps118 fun w0 F0 p0 S0 β0 Q hret=>?_
 dsimp only [argT]
 unfold F118 at h
 refine Ms h (fun h=>?_) (fun h=>?_)
 ·exact GR
 exact GR
def Zga (_K:Nat) (a0:(List Z1)):Option ((List Z1)) :=
 some a0
def Z6v (_K:Nat) (v18:Int) (v19:(List Z1)):Option ((List Z1)) :=
 if (0:Int)≤v18∧v18≤(v19.length:Int)∧(v19.length:Int)≤(v19.length:Nat) then
 if (0+v18.toNat)+((v19.length:Int).toNat - v18.toNat)≤v19.length then
 if (0+v18.toNat)+((v19.length:Int).toNat - v18.toNat)≤v19.length then
 if (0:Int)≤0∧0≤v18∧v18≤((v19.take (0+v18.toNat)++List.replicate ((v19.length:Int).toNat - v18.toNat) Ze++v19.drop ((0+v18.toNat)+((v19.length:Int).toNat - v18.toNat))).length:Nat) then
 if (0+(0:Int).toNat)+(v18.toNat - (0:Int).toNat)≤(v19.take (0+v18.toNat)++List.replicate ((v19.length:Int).toNat - v18.toNat) Ze++v19.drop ((0+v18.toNat)+((v19.length:Int).toNat - v18.toNat))).length then
 some (((v19.take (0+v18.toNat)++List.replicate ((v19.length:Int).toNat - v18.toNat) Ze++v19.drop ((0+v18.toNat)+((v19.length:Int).toNat - v18.toNat))).drop (0+(0:Int).toNat)).take (v18.toNat - (0:Int).toNat))
 else none
 else none
 else none
 else none
 else none
def Za4 (_K:Nat) (b27:Int→Int→(List Z1)→Option ((List Z1))) (v15:Int) (v37:Int) (v38:(List Z1)):Option ((List Z1)) :=
 b27 v37 (IntKind.i64.wrap (v15+1)) v38
def Z5u (K:Nat) (v1:Int) (a0:(List Z1)) (c21:Int→(List Z1)→Option ((List Z1))):Nat→Int→Int→(List Z1)→Option ((List Z1))
 | 0,_,_,_=>none
 | k17+1,v14,v15,v16 =>
 if (0+v1.toNat)+((a0.length:Int).toNat - v1.toNat)≤v16.length then
 if (decide (v15<((((a0.length:Int).toNat - v1.toNat):Nat):Int)))=true then
 if (0+v1.toNat)+((a0.length:Int).toNat - v1.toNat)≤v16.length then
 if (0:Int)≤v15∧v15<(((a0.length:Int).toNat - v1.toNat):Nat) then
 if ((0+v1.toNat)+v15.toNat)<v16.length then
 if (0+v1.toNat)+((a0.length:Int).toNat - v1.toNat)≤v16.length then
 if (0:Int)≤(IntKind.i64.wrap (v15 - 1))∧(IntKind.i64.wrap (v15 - 1))<(((a0.length:Int).toNat - v1.toNat):Nat) then
 if ((0+v1.toNat)+(IntKind.i64.wrap (v15 - 1)).toNat)<v16.length then
 (F118 K (v16.getD ((0+v1.toNat)+v15.toNat) Ze) (v16.getD ((0+v1.toNat)+(IntKind.i64.wrap (v15 - 1)).toNat) Ze)).bind fun v36 =>
 if (!v36)=true then
 if (0+v1.toNat)+((a0.length:Int).toNat - v1.toNat)≤v16.length then
 if (0:Int)≤v15∧v15<(((a0.length:Int).toNat - v1.toNat):Nat) then
 if ((0+v1.toNat)+v15.toNat)<v16.length then
 if (0:Int)≤v14∧v14<(v16.length:Nat) then
 if v14.toNat<v16.length then
 Za4 K (Z5u K v1 a0 c21 k17) v15 (IntKind.i64.wrap (v14+1)) (v16.set v14.toNat (v16.getD ((0+v1.toNat)+v15.toNat) Ze))
 else none
 else none
 else none
 else none
 else none
 else
 Za4 K (Z5u K v1 a0 c21 k17) v15 v14 v16
 else none
 else none
 else none
 else none
 else none
 else none
 else
 c21 v14 v16
 else none
def Zba (K:Nat) (a0:(List Z1)) (c4:Option ((List Z1))):Nat→Int→Option ((List Z1))
 | 0,_=>none
 | k2+1,v1 =>
 if (decide (v1<(a0.length:Int)))=true then
 if (0:Int)≤v1∧v1<(a0.length:Nat) then
 if v1.toNat<a0.length then
 if (0:Int)≤(IntKind.i64.wrap (v1 - 1))∧(IntKind.i64.wrap (v1 - 1))<(a0.length:Nat) then
 if (IntKind.i64.wrap (v1 - 1)).toNat<a0.length then
 (F118 K (a0.getD v1.toNat Ze) (a0.getD (IntKind.i64.wrap (v1 - 1)).toNat Ze)).bind fun v11 =>
 if v11=true then
 if (0:Int)≤v1∧v1≤(a0.length:Int)∧(a0.length:Int)≤(a0.length:Nat) then
 if (0+v1.toNat)+((a0.length:Int).toNat - v1.toNat)≤a0.length then
 Z5u K v1 a0 (Z6v K) K v1 1 a0
 else none
 else none
 else
 (Zba K a0 c4 k2) (IntKind.i64.wrap (v1+1))
 else none
 else none
 else none
 else none
 else
 c4
def F117 (K:Nat) (a0:(List Z1)):Option ((List Z1)) :=
 if (decide ((a0.length:Int)<2))=true then
 some a0
 else
 Zba K a0 (Zga K a0) K 1
theorem F117_ok (K:Nat) (a0:(List Z1)) (r:(List Z1)) (h:F117 K a0=some r):ACall P 117 ⟨[(.vs 0),(.clo 118 [])],[(0,.vec 10 (List.map Z3 a0))],.vs 0,[(0,.vec 10 (List.map Z3 r))],[0]⟩:=by
 refine ac Tryz.func117 Tryz.results117 Tryz.ntmps117 fun w0 F0 p0 S0 β0 Q hret=>?_
 dsimp only [argT]
 unfold F117 at h
 refine AWp.seq<|AWp.region ?_
 refine oc (Zh (v:=(.sl 10 [] false)) rfl rfl) ?_
 refine G1 h fun h=>?_
 refine oc (Z2t rfl u35 rfl rfl) ?_
 refine Mc h (fun h=>?_) (fun h=>?_)
 ·exact GR
 refine G1 h fun h=>?_
 refine lb (V:=Int) (X:=Unit) (v:=_) (fun k v=>Zba K a0 (Zga K a0) k v=some r) (fun v=>Zga K a0=some r) [(0,_),(1,_)] [(0,_)] [(0,_)] [(0,_)] (fun v t=>(5,(.int .i64 v))::t) (fun v s=>s) (fun v t=>t) (fun v s=>s) h ?_ ?_
 ·intro v h
  try dsimp only at h ⊢
  unfold Zga at h
  exact GR
 intro N k2 v h IH2 J2
 revert h
 revert v
 intro v1 h
 try dsimp only at h IH2 J2 ⊢
 cases k2 with
 | zero=>cases h
 | succ k2 =>
  rw [Zba] at h
  refine G1 h fun h=>?_
  refine oc (Z2t rfl u35 rfl rfl) ?_
  refine Mc h (fun h=>?_) (fun h=>?_)
  ·refine AWp.skip<|At.next<|AWp.seq<|AWp.block ?_
   refine G1 h fun h=>?_
   have⟨v11,hv11,h⟩:=Zd h
   refine oD (Z15 Tryz.call118 (F118_ok (h:=hv11))) ?_
   refine AOpsE.nil (by kernel_rfl) I ?_
   refine At.next ?_
   refine cnd h (fun h=>?_) (fun h=>?_)
   ·refine G1 h fun h=>?_
    have⟨hg12,h⟩:=Zg h
    have⟨hg13,h⟩:=Zg h
    refine oc (Z3v (v:=(.vs 0)) (n:=0) (off:=0) (len:=a0.length) (l:=a0) (enc:=Z3) (kl:=.i64) (lo:=v1) rfl s35 rfl rfl (Z31 _ _ _) rfl hg12 rfl) ?_
    refine G1 h fun h=>?_
    refine lb (V:=Int×Int×(List Z1)) (X:=Int×(List Z1)) (v:=(_,_,_)) (fun k v=>Z5u K v1 a0 (Z6v K) k v.1 v.2.1 v.2.2=some r) (fun v=>Z6v K v.1 v.2=some r) [(0,_),(1,_),(6,_)] [] [(0,_)] [] (fun v t=>(5,(.int .i64 v.1))::(7,(.int .i64 v.2.1))::t) (fun v s=>(0,(.vec 10 (List.map Z3 v.2.2)))::s) (fun v t=>(5,(.int .i64 v.1))::t) (fun v s=>(0,(.vec 10 (List.map Z3 v.2)))::s) h ?_ ?_
    ·intro v h
     obtain⟨v18,v19⟩:=v
     try dsimp only at h ⊢
     unfold Z6v at h
     refine G1 h fun h=>?_
     have⟨hg22,h⟩:=Zg h
     have⟨hg23,h⟩:=Zg h
     refine oc (Z3v (v:=(.vs 0)) (n:=0) (off:=0) (len:=v19.length) (l:=v19) (enc:=Z3) (kl:=.i64) (lo:=v18) rfl s35 rfl rfl (Z31 _ _ _) rfl hg22 rfl) ?_
     have⟨hg24,h⟩:=Zg h
     refine oc (Zg6 (v:=(.vsub 0 (0+v18.toNat) ((v19.length:Int).toNat - v18.toNat) false)) (n:=0) (off:=(0+v18.toNat)) (len:=((v19.length:Int).toNat - v18.toNat)) (l:=v19) (enc:=Z3) Ziu ze123 rfl rfl rfl (Z36 hg24) Z16) ?_
     refine G1 h fun h=>?_
     have⟨hg25,h⟩:=Zg h
     have⟨hg26,h⟩:=Zg h
     refine oc (Z3i (v:=(.vs 0)) (n:=0) (off:=0) (len:=(v19.take (0+v18.toNat)++List.replicate ((v19.length:Int).toNat - v18.toNat) Ze++v19.drop ((0+v18.toNat)+((v19.length:Int).toNat - v18.toNat))).length) (l:=(v19.take (0+v18.toNat)++List.replicate ((v19.length:Int).toNat - v18.toNat) Ze++v19.drop ((0+v18.toNat)+((v19.length:Int).toNat - v18.toNat)))) (enc:=Z3) (kh:=.i64) (hi:=v18) rfl s35 rfl rfl (Z31 _ _ _) rfl hg25 rfl) ?_
     refine G1 h fun h=>?_
     refine AWp.ret<|Z3e<|Z27 ?_
     refine Z27 (Z3e ?_)
     refine Z27<|At.ghost (fun a w h=>gk ⟨[(4,_)],[(0,_)]⟩ (Z4c (k:=4) (m:=0) (sz:=10) (off:=(0+(0:Int).toNat)) (len:=(v18.toNat - (0:Int).toNat)) (enc:=Z3) (l:=(v19.take (0+v18.toNat)++List.replicate ((v19.length:Int).toNat - v18.toNat) Ze++v19.drop ((0+v18.toNat)+((v19.length:Int).toNat - v18.toNat)))) I hg26 a w (gk ⟨[(4,_)],[(0,_)]⟩ h))) ?_
     exact RT
    intro N k17 v h IH17 J17
    obtain⟨v14,v15,v16⟩:=v
    try dsimp only at h IH17 J17 ⊢
    cases k17 with
    | zero=>cases h
    | succ k17 =>
     rw [Z5u] at h
     refine G1 h fun h=>?_
     have⟨hg28,h⟩:=Zg h
     refine oc (Zin (v:=(.vsub 0 (0+v1.toNat) ((a0.length:Int).toNat - v1.toNat) false)) (n:=0) (off:=(0+v1.toNat)) (len:=((a0.length:Int).toNat - v1.toNat)) (l:=v16) (enc:=Z3) rfl u35 rfl rfl (Z36 hg28)) ?_
     refine Mc h (fun h=>?_) (fun h=>?_)
     ·refine AWp.skip<|At.next<|AWp.seq<|AWp.block ?_
      refine G1 h fun h=>?_
      have⟨hg29,h⟩:=Zg h
      have⟨hg30,h⟩:=Zg h
      refine oD (Z44 (k:=.i64) (v:=(.vsub 0 (0+v1.toNat) ((a0.length:Int).toNat - v1.toNat) false)) (n:=0) (off:=(0+v1.toNat)) (len:=((a0.length:Int).toNat - v1.toNat)) (es:=(List.map Z3 v16)) (j:=v15) (m:=((0+v1.toNat)+v15.toNat)) rfl s35 rfl rfl (Z36 hg29) rfl hg30 (rfl)) ?_
      refine G1 h fun h=>?_
      have⟨hg32,h⟩:=Zg h
      have⟨hg33,h⟩:=Zg h
      refine oD (Z44 (k:=.i64) (v:=(.vsub 0 (0+v1.toNat) ((a0.length:Int).toNat - v1.toNat) false)) (n:=0) (off:=(0+v1.toNat)) (len:=((a0.length:Int).toNat - v1.toNat)) (es:=(List.map Z3 v16)) (j:=(IntKind.i64.wrap (v15 - 1))) (m:=((0+v1.toNat)+(IntKind.i64.wrap (v15 - 1)).toNat)) rfl s35 rfl rfl (Z36 hg32) rfl hg33 (rfl)) ?_
      refine G1 h fun h=>?_
      have⟨v36,hv36,h⟩:=Zd h
      refine oD (Z15 Tryz.call118 (F118_ok (h:=hv36))) ?_
      refine G1 h fun h=>?_
      refine jn (V:=Int×(List Z1)) (fun v=>Za4 K (Z5u K v1 a0 (Z6v K) k17) v15 v.1 v.2=some r) [(0,_),(1,_),(6,_),(7,_)] [] (fun v t=>(5,(.int .i64 v.1))::t) (fun v s=>(0,(.vec 10 (List.map Z3 v.2)))::s) ?_ ?_
      ·intro v h
       obtain⟨v37,v38⟩:=v
       try dsimp only at h ⊢
       unfold Za4 at h
       refine Z17<|At.next ?_
       exact M2 h (k:=fun h=>wkx (IH17 _ (_,_,_) Z1p h))
      intro J39
      refine cnd h (fun h=>?_) (fun h=>?_)
      ·refine G1 h fun h=>?_
       have⟨hg40,h⟩:=Zg h
       have⟨hg41,h⟩:=Zg h
       refine oc (Z44 (k:=.i64) (v:=(.vsub 0 (0+v1.toNat) ((a0.length:Int).toNat - v1.toNat) false)) (n:=0) (off:=(0+v1.toNat)) (len:=((a0.length:Int).toNat - v1.toNat)) (es:=(List.map Z3 v16)) (j:=v15) (m:=((0+v1.toNat)+v15.toNat)) rfl s35 rfl rfl (Z36 hg40) rfl hg41 (rfl)) ?_
       refine G1 h fun h=>?_
       have⟨hg44,h⟩:=Zg h
       refine oc (Z4u (l:=v16) (enc:=Z3) (z:=Ze) (a:=(v16.getD ((0+v1.toNat)+v15.toNat) Ze)) (v:=(Z3 (v16.getD ((0+v1.toNat)+v15.toNat) Ze))) sz123 rfl rfl hg44 rfl Z16 rfl rfl rfl rfl) ?_
       refine AOps.nil<|At.next ?_
       exact M2 h (k:=fun h=>wkx (J39 (_,_) h))
      refine AWp.skip ?_
      exact wkx (J39 (_,_) h)
     refine AWp.exit<|Zz ?_
     exact wkx (J17 (_,_) h)
   refine AWp.skip<|Z17<|At.next ?_
   exact M2 h (k:=fun h=>wkx (IH2 _ _ Z1p h))
  refine AWp.exit<|Zz ?_
  exact wkx (J2 () h)
def F49 (K:Nat) (a0:(List Z1)):Option ((List Z1)) :=
 (F111 K a0).bind fun v2 =>
 (sortF (fun a b=>F114 K a b) v2).bind fun v4 =>
 (F117 K v4).bind fun v6 =>
 some v6
theorem F49_ok (K:Nat) (a0:(List Z1)) (r:(List Z1)) (h:F49 K a0=some r):ACall P 49 ⟨[(.sl 10 (a0.map Z3) false)],[],(.sl 10 (r.map Z3) false),[],[]⟩:=by
 refine ac Tryz.func49 Tryz.results49 Tryz.ntmps49 fun w0 F0 p0 S0 β0 Q hret=>?_
 dsimp only [argT]
 unfold F49 at h
 refine AWp.seq<|AWp.region ?_
 refine oc (Zh (v:=(.sl 10 [] true)) rfl rfl) ?_
 refine G1 h fun h=>?_
 have⟨v2,hv2,h⟩:=Zd h
 refine oc (Z30 (sz:=10) (es:=(List.map Z3 v2)) (ar:=[_,_]) (caps:=[]) Tryz.call111 ((F111_ok (h:=hv2)).sw 4 5) rfl rfl ⟨rfl,rfl,trivial⟩ rfl) ?_
 refine G1 h fun h=>?_
 have⟨v4,hv4,h⟩:=Zd h
 refine oc (Z1d (d:=some 7) (c:=⟨_,[(5,_)],.tup [],[(5,.vec 10 (List.map Z3 v4))],[]⟩) (ar:=[_,_]) (caps:=[]) (news:=[]) (forg:=[]) Tryz.call107 (Zpu (n:=5) (enc:=Z3) (l:=v2) (caps:=[]) (c:=(fun a b=>F114 K a b)) Zrc Tryz.call114 Z16 (fun _=>rfl) (fun a b m hm=>F114_ok K a b m hm) hv4) rfl rfl ⟨rfl,rfl,trivial⟩ rfl ⟨rfl,trivial⟩ rfl) ?_
 refine G1 h fun h=>?_
 have⟨v6,hv6,h⟩:=Zd h
 refine oc (Z1d (d:=some 9) (c:=⟨_,[(5,_)],.vs 5,[(5,.vec 10 (List.map Z3 v6))],[5]⟩) (ar:=[_,_]) (caps:=[]) (news:=[]) (forg:=[5]) Tryz.call117 ((F117_ok (h:=hv6)).sw 0 5) rfl rfl ⟨rfl,rfl,trivial⟩ rfl ⟨rfl,trivial⟩ rfl) ?_
 refine G1 h fun h=>?_
 refine AWp.ret<|At.ghost (fun a w h=>gk ⟨[(2,_)],[]⟩ (Z1j (m:=5) (sz:=10) (gk ⟨[(2,_)],[(5,_)]⟩ h))) ?_
 exact RT
def F119 (K:Nat) (a0:Z1):Option (Z4) :=
 (F113 K a0).bind fun v2 =>
 some (⟨a0.From,a0.To,v2⟩:Z4)
theorem F119_ok (K:Nat) (a0:Z1) (r:Z4) (h:F119 K a0=some r):ACall P 119 ⟨[(Z3 a0)],[],(Z9 r),[],[]⟩:=by
 refine ac Tryz.func119 Tryz.results119 Tryz.ntmps119 fun w0 F0 p0 S0 β0 Q hret=>?_
 dsimp only [argT]
 unfold F119 at h
 refine G1 h fun h=>?_
 have⟨v2,hv2,h⟩:=Zd h
 refine oD (Z15 Tryz.call113 (Zkr (h:=hv2))) ?_
 refine oD (Z1i (vs:=[(0,(.int .i64 a0.From)),(1,(.int .i64 a0.To)),(2,(.int .i64 v2))]) rfl st228 ⟨rfl,rfl,rfl,rfl,rfl,rfl,trivial⟩ rfl) ?_
 refine oD (Zm (ds:=[_,_,_])) ?_
 refine AOpsE.nil (by kernel_rfl) I ?_
 refine At.next<|AWp.ret ?_
 have h:=Option.some.inj h
 subst h
 refine (hret _ ?_).1
 exact⟨[(.ag [(.int .i64 a0.From),(.int .i64 a0.To),(.int .i64 v2)])],⟨⟨2,_,I,I,.inr ⟨_,a228,I,I⟩⟩,J0⟩,I,J0⟩
def Zgz (_K:Nat) (v4:(List Z4)):Option ((List Z4)) :=
 some v4
def Zh0 (K:Nat) (a0:(List Z1)) (c6:(List Z4)→Option ((List Z4))):Nat→Int→(List Z4)→Option ((List Z4))
 | 0,_,_=>none
 | k3+1,v1,v2 =>
 if (decide (v1<(a0.length:Int)))=true then
 if (0:Int)≤v1∧v1<a0.length then
 (F119 K (a0.getD v1.toNat Ze)).bind fun v10 =>
 if v2.length+[v10].length≤1073741824 then
 (Zh0 K a0 c6 k3) (IntKind.i64.wrap (v1+1)) (v2++[v10])
 else none
 else none
 else
 c6 v2
def F50 (K:Nat) (a0:(List Z1)):Option ((List Z4)) :=
 Zh0 K a0 (Zgz K) K 0 []
theorem F50_ok (K:Nat) (a0:(List Z1)) (r:(List Z4)) (h:F50 K a0=some r):ACall P 50 ⟨[(.sl 10 (a0.map Z3) false)],[],(.sl 3 (r.map Z9) false),[],[]⟩:=by
 refine ac Tryz.func50 Tryz.results50 Tryz.ntmps50 fun w0 F0 p0 S0 β0 Q hret=>?_
 dsimp only [argT]
 unfold F50 at h
 refine AWp.seq<|AWp.region ?_
 refine oc (Zh (v:=(.sl 3 [] false)) rfl rfl) ?_
 refine G1 h fun h=>?_
 refine oc (Zh (v:=(.sl 3 [] true)) rfl rfl) ?_
 refine G1 h fun h=>?_
 refine AWp.ghost (fun a w h=>gk ⟨[(3,_),(6,_),(7,_),(8,_)],[(3,_)]⟩ (Z38 (k:=3) (m:=3) (sz:=3) (gk ⟨[(3,_),(6,_),(7,_),(8,_)],[]⟩ h))) ?_
 refine lb (V:=Int×(List Z4)) (X:=(List Z4)) (v:=(_,_)) (fun k v=>Zh0 K a0 (Zgz K) k v.1 v.2=some r) (fun v=>Zgz K v=some r) [(3,_),(6,_),(7,_)] [] [(3,_)] [] (fun v t=>(8,(.int .i64 v.1))::t) (fun v s=>(3,(.vec 3 (List.map Z9 v.2)))::s) (fun v t=>t) (fun v s=>(3,(.vec 3 (List.map Z9 v)))::s) h ?_ ?_
 ·intro v h
  revert h
  revert v
  intro v4 h
  try dsimp only at h ⊢
  unfold Zgz at h
  refine G1 h fun h=>?_
  refine AWp.ret<|At.ghost (fun a w h=>gk ⟨[(2,_)],[]⟩ (Z1j (m:=3) (sz:=3) (gk ⟨[(2,_)],[(3,_)]⟩ h))) ?_
  exact RT
 intro N k3 v h IH3 J3
 obtain⟨v1,v2⟩:=v
 try dsimp only at h IH3 J3 ⊢
 cases k3 with
 | zero=>cases h
 | succ k3 =>
  rw [Zh0] at h
  refine Mc h (fun h=>?_) (fun h=>?_)
  ·refine AWp.skip<|At.next<|AWp.seq<|AWp.block ?_
   refine G1 h fun h=>?_
   refine oc (Zm (ds:=_)) ?_
   refine G1 h fun h=>?_
   have⟨v10,hv10,h⟩:=Zd h
   refine oc (Z15 Tryz.call119 (F119_ok (h:=hv10))) ?_
   refine oc (Zj (vs:=[_]) (enc:=Z9) (l:=[v10]) rfl el128 rfl rfl ⟨rfl,trivial⟩ rfl Z3g rfl rfl rfl rfl) ?_
   have⟨hg11,h⟩:=Zg h
   refine oc (Z1g (m:=3) rfl rfl el128 rfl u128 rfl rfl rfl rfl (oneRead rfl) Z3g hg11) ?_
   refine G2 h fun h=>?_
   refine Z17<|At.next ?_
   exact M2 h (k:=fun h=>wkx (IH3 _ (_,_) Z1p h))
  refine AWp.exit<|Zz ?_
  exact wkx (J3 _ h)
noncomputable def Z8w (K:Nat) (v4:(List (Int×Bool))):Option ((List Int)) :=
 (F124 K v4).bind fun _v8 =>
 (F123 K v4).bind fun v10 =>
 some v10
def Zbb (K:Nat) (a0:(List Z4)) (c6:(List (Int×Bool))→Option ((List Int))):Nat→Int→(List (Int×Bool))→Option ((List Int))
 | 0,_,_=>none
 | k3+1,v1,v2 =>
 if (decide (v1<(a0.length:Int)))=true then
 if (0:Int)≤v1∧v1<a0.length then
 (Zbb K a0 c6 k3) (IntKind.i64.wrap (v1+1)) (mput Zv (a0.getD v1.toNat Z8).To true (mput Zv (a0.getD v1.toNat Z8).From true v2))
 else none
 else
 c6 v2
noncomputable def Zmq (K:Nat) (a0:(List Z4)):Option ((List Int)) :=
 Zbb K a0 (Z8w K) K 0 ([]:List (Int×Bool))
theorem Zbc (K:Nat) (a0:(List Z4)) (r:(List Int)) (h:Zmq K a0=some r):ACall P 120 ⟨[(.sl 3 (a0.map Z9) false)],[],(.sl 1 (r.map Z7) false),[],[]⟩:=by
 refine ac Tryz.func120 Tryz.results120 Tryz.ntmps120 fun w0 F0 p0 S0 β0 Q hret=>?_
 dsimp only [argT]
 unfold Zmq at h
 refine AWp.seq<|AWp.region ?_
 refine oc (Zh (v:=(.sl 1 [] false)) rfl rfl) ?_
 refine G1 h fun h=>?_
 refine lb (V:=Int×(List (Int×Bool))) (X:=(List (Int×Bool))) (v:=(_,_)) (fun k v=>Zbb K a0 (Z8w K) k v.1 v.2=some r) (fun v=>Z8w K v=some r) [(3,_),(7,_),(8,_)] [] [(3,_)] [] (fun v t=>(9,(.int .i64 v.1))::t) (fun v s=>(6,(.map (Zn Z7 Zt v.2)))::s) (fun v t=>t) (fun v s=>(6,(.map (Zn Z7 Zt v)))::s) h ?_ ?_
 ·intro v h
  revert h
  revert v
  intro v4 h
  try dsimp only at h ⊢
  unfold Z8w at h
  refine G1 h fun h=>?_
  have⟨v8,hv8,h⟩:=Zd h
  refine oc (Z1d (d:=some 21) (c:=⟨_,[(6,_)],(.clo 182 [(.ptr 21 0)]),[(6,(.map (Zn Z7 Zt v4))),(21,(.box [(.map 6)]))],[21]⟩) (ar:=[_]) (caps:=[]) (news:=[21]) (forg:=[]) Tryz.call124 (((F124_ok (h:=hv8)).sw 2000 6).sw 1 21) rfl rfl ⟨rfl,trivial⟩ rfl ⟨rfl,trivial⟩ rfl) ?_
  have⟨v10,hv10,h⟩:=Zd h
  refine oc (Z1d (d:=some 22) (c:=⟨_,[(21,_),(6,_)],(.vs 22),[(21,(.box [(.map 6)])),(6,(.fmap (Zn Z7 Zt v4))),(22,(.vec 1 (List.map Z7 v10)))],[6,22]⟩) (ar:=[_]) (caps:=[]) (news:=[22]) (forg:=[6]) Tryz.call123 ((((F123_ok (h:=hv10)).sw 2000 21).sw 8 6).sw 5 22) rfl rfl ⟨rfl,trivial⟩ rfl ⟨rfl,rfl,trivial⟩ rfl) ?_
  refine G1 h fun h=>?_
  refine AWp.ret<|At.ghost (fun a w h=>gk ⟨[(2,_)],[]⟩ (Z1j (m:=22) (sz:=1) (gk ⟨[(2,_)],[(22,_)]⟩ h))) ?_
  exact RT
 intro N k3 v h IH3 J3
 obtain⟨v1,v2⟩:=v
 try dsimp only at h IH3 J3 ⊢
 cases k3 with
 | zero=>cases h
 | succ k3 =>
  rw [Zbb] at h
  refine Mc h (fun h=>?_) (fun h=>?_)
  ·refine AWp.skip<|At.next<|AWp.seq<|AWp.block ?_
   refine G1 h fun h=>?_
   refine oc (Zm (ds:=_)) ?_
   refine G1 h fun h=>?_
   refine oD (Z1v (a:=(a0.getD v1.toNat Z8).From) (b:=true) (kv:=(.int .i64 (a0.getD v1.toNat Z8).From)) (vv:=(.bool true)) Zcc rfl rfl rfl rfl rfl rfl) ?_
   refine oD (Z1v (a:=(a0.getD v1.toNat Z8).To) (b:=true) (kv:=(.int .i64 (a0.getD v1.toNat Z8).To)) (vv:=(.bool true)) Zcc rfl rfl rfl rfl rfl rfl) ?_
   refine AOpsE.nil (by kernel_rfl) I ?_
   refine Z17<|At.next ?_
   exact M2 h (k:=fun h=>wkx (IH3 _ (_,_) Z1p h))
  refine AWp.exit<|Zz ?_
  exact wkx (J3 _ h)
def Z76 (_K:Nat) (v5:(List (Int×Bool))):Option ((List (Int×Bool))) :=
 some v5
def Z7z (_K:Nat) (b8:Bool→(List (Int×Bool))→Option ((List (Int×Bool)))) (v13:Bool) (v14:(List (Int×Bool))):Option ((List (Int×Bool))) :=
 b8 v13 v14
def Za6 (_K:Nat) (b17:Bool→Int→(List (Int×Bool))→Option ((List (Int×Bool)))) (v10:Int) (v19:Bool) (v20:(List (Int×Bool))):Option ((List (Int×Bool))) :=
 b17 v19 (IntKind.i64.wrap (v10+1)) v20
def Z46 (K:Nat) (a0:(List Z4)) (c16:Bool→(List (Int×Bool))→Option ((List (Int×Bool)))):Nat→Bool→Int→(List (Int×Bool))→Option ((List (Int×Bool)))
 | 0,_,_,_=>none
 | k12+1,v9,v10,v11 =>
 if (decide (v10<(a0.length:Int)))=true then
 if (0:Int)≤v10∧v10<a0.length then
 if (((mget Zv (a0.getD v10.toNat Z8).From v11).getD false) != ((mget Zv (a0.getD v10.toNat Z8).To v11).getD false))=true then
 Za6 K (Z46 K a0 c16 k12) v10 true (mput Zv (a0.getD v10.toNat Z8).To true (mput Zv (a0.getD v10.toNat Z8).From true v11))
 else
 Za6 K (Z46 K a0 c16 k12) v10 v9 v11
 else none
 else
 c16 v9 v11
def Z6d (K:Nat) (a0:(List Z4)) (c7:(List (Int×Bool))→Option ((List (Int×Bool)))):Nat→Bool→(List (Int×Bool))→Option ((List (Int×Bool)))
 | 0,_,_=>none
 | k4+1,v2,v3 =>
 if v2=true then
 Z46 K a0 (Z7z K (Z6d K a0 c7 k4)) K false 0 v3
 else
 c7 v3
def F121 (K:Nat) (a0:(List Z4)) (a1:Int):Option ((List (Int×Bool))) :=
 Z6d K a0 (Z76 K) K true (mput Zv a1 true ([]:List (Int×Bool)))
theorem F121_ok (K:Nat) (a0:(List Z4)) (a1:Int) (r:(List (Int×Bool))) (h:F121 K a0 a1=some r):ACall P 121 ⟨[(.sl 3 (a0.map Z9) false),(.int .i64 a1)],[],(.map 9),[(9,(.map (Zn Z7 Zt r)))],[9]⟩:=by
 refine ac Tryz.func121 Tryz.results121 Tryz.ntmps121 fun w0 F0 p0 S0 β0 Q hret=>?_
 dsimp only [argT]
 unfold F121 at h
 refine G1 h fun h=>?_
 refine oc (st_insert (l:=([]:List (Int×Bool))) (a:=a1) (b:=true) (kv:=(.int .i64 a1)) (vv:=(.bool true)) Zcc rfl rfl rfl rfl rfl rfl) ?_
 refine G1 h fun h=>?_
 refine lb (V:=Bool×(List (Int×Bool))) (X:=(List (Int×Bool))) (v:=(_,_)) (fun k v=>Z6d K a0 (Z76 K) k v.1 v.2=some r) (fun v=>Z76 K v=some r) [(0,_),(5,_)] [] [(5,_)] [] (fun v t=>(6,(.bool v.1))::t) (fun v s=>(9,(.map (Zn Z7 Zt v.2)))::s) (fun v t=>t) (fun v s=>(9,(.map (Zn Z7 Zt v)))::s) h ?_ ?_
 ·intro v h
  revert h
  revert v
  intro v5 h
  try dsimp only at h ⊢
  unfold Z76 at h
  exact GR
 intro N k4 v h IH4 J4
 obtain⟨v2,v3⟩:=v
 try dsimp only at h IH4 J4 ⊢
 cases k4 with
 | zero=>cases h
 | succ k4 =>
  rw [Z6d] at h
  refine Mc h (fun h=>?_) (fun h=>?_)
  ·refine AWp.skip<|At.next<|AWp.block ?_
   refine G1 h fun h=>?_
   refine lb (V:=Bool×Int×(List (Int×Bool))) (X:=Bool×(List (Int×Bool))) (v:=(_,_,_)) (fun k v=>Z46 K a0 (Z7z K (Z6d K a0 (Z76 K) k4)) k v.1 v.2.1 v.2.2=some r) (fun v=>Z7z K (Z6d K a0 (Z76 K) k4) v.1 v.2=some r) [(0,_),(5,_),(13,_),(14,_)] [] [(0,_),(5,_)] [] (fun v t=>(6,(.bool v.1))::(15,(.int .i64 v.2.1))::t) (fun v s=>(9,(.map (Zn Z7 Zt v.2.2)))::s) (fun v t=>(6,(.bool v.1))::t) (fun v s=>(9,(.map (Zn Z7 Zt v.2)))::s) h ?_ ?_
   ·intro v h
    obtain⟨v13,v14⟩:=v
    try dsimp only at h ⊢
    unfold Z7z at h
    refine Z17 ?_
    exact wkx (IH4 _ (_,_) Z1p h)
   intro N k12 v h IH12 J12
   obtain⟨v9,v10,v11⟩:=v
   try dsimp only at h IH12 J12 ⊢
   cases k12 with
   | zero=>cases h
   | succ k12 =>
    rw [Z46] at h
    refine Mc h (fun h=>?_) (fun h=>?_)
    ·refine AWp.skip<|At.next<|AWp.seq<|AWp.block ?_
     refine G1 h fun h=>?_
     refine oc (Zm (ds:=_)) ?_
     refine G1 h fun h=>?_
     refine oc (Z2h (a:=(a0.getD v10.toNat Z8).From) rfl Zcc rfl rfl (.inl rfl) rfl rfl) ?_
     refine G1 h fun h=>?_
     refine oc (Z2h (a:=(a0.getD v10.toNat Z8).To) rfl Zcc rfl rfl (.inl rfl) rfl rfl) ?_
     refine oc (st_cmpB (c:=(((mget Zv (a0.getD v10.toNat Z8).From v11).getD false) != ((mget Zv (a0.getD v10.toNat Z8).To v11).getD false))) rfl u4 rfl rfl rfl) ?_
     refine AOps.nil<|At.next ?_
     refine jn (V:=Bool×(List (Int×Bool))) (fun v=>Za6 K (Z46 K a0 (Z7z K (Z6d K a0 (Z76 K) k4)) k12) v10 v.1 v.2=some r) [(0,_),(5,_),(13,_),(14,_),(15,_)] [] (fun v t=>(6,(.bool v.1))::t) (fun v s=>(9,(.map (Zn Z7 Zt v.2)))::s) ?_ ?_
     ·intro v h
      obtain⟨v19,v20⟩:=v
      try dsimp only at h ⊢
      unfold Za6 at h
      refine Z17<|At.next ?_
      exact M2 h (k:=fun h=>wkx (IH12 _ (_,_,_) Z1p h))
     intro J21
     refine cnd h (fun h=>?_) (fun h=>?_)
     ·refine G1 h fun h=>?_
      refine oD (Z1v (a:=(a0.getD v10.toNat Z8).From) (b:=true) (kv:=(.int .i64 (a0.getD v10.toNat Z8).From)) (vv:=(.bool true)) Zcc rfl rfl rfl rfl rfl rfl) ?_
      refine oD (Z1v (a:=(a0.getD v10.toNat Z8).To) (b:=true) (kv:=(.int .i64 (a0.getD v10.toNat Z8).To)) (vv:=(.bool true)) Zcc rfl rfl rfl rfl rfl rfl) ?_
      exact M2 h (k:=fun h=>wkx (J21 (_,_) h))
     refine AWp.skip ?_
     exact wkx (J21 (_,_) h)
    refine AWp.exit<|Zz ?_
    exact wkx (J12 (_,_) h)
  refine AWp.exit<|Zz ?_
  exact wkx (J4 _ h)
def Zbf (_K:Nat) (_a0:(List (Int×Bool))):Option (Unit) :=
 some ()
theorem Zj3 (K:Nat) (a0:(List (Int×Bool))) (r:Unit) (h:Zbf K a0=some r):ACall P 124 ⟨[(.map 2000)],[(2000,(.fmap (Zn Z7 Zt a0)))],(.clo 182 [(.ptr 1 0)]),[(2000,(.fmap (Zn Z7 Zt a0))),(1,(.box [(.map 2000)]))],[1]⟩:=by
 refine ac Tryz.func124 Tryz.results124 Tryz.ntmps124 fun w0 F0 p0 S0 β0 Q hret=>?_
 dsimp only [argT]
 unfold Zbf at h
 refine G1 h fun h=>?_
 refine oc (Z2k (vs:=[(.ptr 1 0)]) rfl ⟨rfl,trivial⟩) ?_
 refine G1 h fun h=>?_
 refine AWp.ret ?_
 have h:=Option.some.inj h
 subst h
 refine (hret _ ?_).1
 exact⟨[(.clo 182 [(.ptr 1 0)])],⟨I,J0⟩,I,⟨I,I,J0⟩⟩
noncomputable def Zdj (_K:Nat) (a0:(List (Int×Bool))):Option ((List Int)) :=
 if a0.length≤1073741824 then
 ndPerm a0 fun x3 =>
 (sortI (List.map (fun e:Int×Bool=>e.1) x3)).bind fun v5 =>
 some v5
 else none
theorem Zrp (K:Nat) (a0:(List (Int×Bool))) (r:(List Int)) (h:Zdj K a0=some r):ACall P 123 ⟨[(.clo 182 [(.ptr 2000 0)])],[(2000,(.box [(.map 2001)])),(2001,(.fmap (Zn Z7 Zt a0)))],(.vs 5),[(2000,(.box [(.map 2001)])),(2001,(.fmap (Zn Z7 Zt a0))),(5,(.vec 1 (List.map Z7 r)))],[5]⟩:=by
 refine ac Tryz.func123 Tryz.results123 Tryz.ntmps123 fun w0 F0 p0 S0 β0 Q hret=>?_
 dsimp only [argT]
 unfold Zdj at h
 refine AWp.seq<|AWp.region ?_
 refine oc (Zh (v:=(.sl 1 [] false)) rfl rfl) ?_
 refine G1 h fun h=>?_
 have⟨hg2,h⟩:=Zg h
 have hp6:=Z9q h
 refine Z4f (ar:=[(.clo 182 [(.ptr 2000 0)])]) (caps:=[]) (news:=[5]) (forg:=[]) Tryz.call153 ((Zgh a0 hg2).sw 4 5) I I ⟨I,J0⟩ I ⟨I,I,J0⟩ (fun _=>I) I (fun x3 hw6=>?_)
 have h:=hp6 x3 hw6
 refine G1 h fun h=>?_
 have⟨v5,hv5,h⟩:=Zd h
 refine oc (Z1d (d:=some 7) (c:=⟨_,[(5,_)],.tup [],[(5,.vec 1 (List.map Z7 v5))],[]⟩) (ar:=[_]) (caps:=[]) (news:=[]) (forg:=[]) Tryz.call110 (Zd7 (n:=5) (enc:=Z7) (l:=(List.map (fun e:Int×Bool=>e.1) x3)) Zd6 (fun _=>rfl) hv5) rfl rfl ⟨rfl,trivial⟩ rfl ⟨rfl,trivial⟩ rfl) ?_
 exact GR
theorem F122_copy (dst src:List (Int×Bool)):ACallX (X:=List (Int×Bool)) P 122 [.map 2000,.map 2001] [(2000,.map (Zn Z7 Zt dst)),(2001,.fmap (Zn Z7 Zt src))] (fun ω=>ω.Perm src) (fun _=>.tup []) (fun ω=>[(2000,.map (Zn Z7 Zt (mcopy Zv dst ω))),(2001,.fmap (Zn Z7 Zt src))]) []:=by
 refine Z3r Tryz.func122 Tryz.results122 rfl Tryz.ntmps122 rfl rfl (fun _=>rfl) ?_
 intro E Q hP hN hro hret
 obtain⟨P',nt',w0,F0,p0,S0,β0,ro0⟩:=E
 simp only at hP hN
 subst hP hN
 dsimp only [argT]
 refine AWp.seq<|AWp.region<|AOps.cons I (Z1h I I) I<|AOps.cons I (Zdb (l:=src) I ⟨3,4,by kernel_rfl⟩ I I) I<|AOps.nil<|At.next<|AWp.weaken (st':=⟨[(0,.map 2000),(7,.itr 7)],[(7,.iter none (Zn Z7 Zt src)),(2000,.map (Zn Z7 Zt (mcopy Zv dst []))),(2001,.fmap (Zn Z7 Zt src))]⟩) ⟨I,I,J0⟩ ⟨I,I,I,J0⟩ ?_
 refine Z4m (V:=List (Int×Bool)×List (Int×Bool)) (X:=List (Int×Bool)) (lp:=fun k v=>v.2.length<k∧(v.1++v.2).Perm src) (sh:=fun v=>⟨[(0,.map 2000),(7,.itr 7)],[(7,.iter none (Zn Z7 Zt v.2)),(2000,.map (Zn Z7 Zt (mcopy Zv dst v.1))),(2001,.fmap (Zn Z7 Zt src))]⟩) (x:=fun ω=>ω.Perm src) (shx:=fun ω=>⟨[],[(2000,.map (Zn Z7 Zt (mcopy Zv dst ω))),(2001,.fmap (Zn Z7 Zt src))]⟩) (k:=src.length+1) (v:=([],src)) ⟨Nat.lt_succ_self _,List.Perm.refl _⟩ ?_ ?_
 ·intro ω hω
  refine (hret _ ω hω ?_).2
  exact⟨[],J0,I,⟨I,I,J0⟩⟩
 intro N k v hv IH J
 obtain⟨pre,rem⟩:=v
 dsimp only at hv IH J ⊢
 obtain⟨hk,hperm⟩:=hv
 refine AWp.seq<|AWp.region ?_
 refine Z4l (encK:=Z7) (encV:=Zt) (rem:=rem) I I I (fun hc=>?_) (fun p kv q hc=>?_)
 ·subst hc
  rw [List.append_nil] at hperm
  refine AOps.cons I (Z2b I I I) I<|AOps.nil<|At.next<|AWp.seq ?_
  refine AWp.cond (b:=false) I (fun hc=>?_) (fun hc=>?_)
  ·cases hc
  refine AWp.exit<|Zz ?_
  exact Z5r (J pre hperm) J0 ⟨I,I,J0⟩
 subst hc
 refine AOps.cons I (Z2b I I I) I<|AOps.nil<|At.next<|AWp.seq ?_
 refine AWp.cond (b:=true) I (fun hc=>?_) (fun hc=>?_)
 rotate_left
 ·cases hc
 refine AWp.skip<|At.next<|AWp.block<|AWp.seq<|AWp.region<|AOps.cons I (Zda (k:=kv.1) (v:=kv.2) (encK:=Z7) (encV:=Zt) I I I) I<|AOps.cons I (Z2b I I I) I<|AOps.cons I (Z2b I I I) I<|AOps.cons I (Zh (v:=(.int .i64 kv.1)) I I) I<|AOps.cons I (Zh (v:=(.bool kv.2)) I I) I<|AOps.nil<|At.next<|AWp.region<|AOps.cons I (Z1h I I) I<|AOps.cons I (Z1h (v:=(.int .i64 kv.1)) I I) I<|AOps.cons I (Z1h (v:=(.bool kv.2)) I I) I<|AOps.cons I (Z1v (a:=kv.1) (b:=kv.2) (kv:=(.int .i64 kv.1)) (vv:=(.bool kv.2)) Zcc I I I I I I) I<|AOps.nil<|Z17 ?_
 have hstep:(p++q).length<(p++kv::q).length:=by
  simp only [List.length_append,List.length_cons]
  omega
 have hp2:((pre++[kv])++(p++q)).Perm src:=by
  refine List.Perm.trans ?_ hperm
  rw [List.append_assoc]
  exact List.Perm.append_left pre (show (kv::(p++q)).Perm (p++kv::q) from List.perm_middle.symm)
 have:=IH (p++q).length.succ (pre++[kv],p++q) (by omega) ⟨Nat.lt_succ_self _,hp2⟩
 dsimp only at this
 rw [Zsk] at this
 refine At.ghost (st':=⟨[(0,.map 2000),(7,.itr 7)],[(7,.iter none (Zn Z7 Zt (p++q))),(2000,.map (Zn Z7 Zt (mput Zv kv.1 kv.2 (mcopy Zv dst pre)))),(2001,.fmap (Zn Z7 Zt src))]⟩) (fun a w h=>Z28 _ (Z7m (m:=7) (cur:=some (Z7 kv.1,Zt kv.2)) (kvs:=(Zn Z7 Zt (p++q))) a w (Z28 ⟨[(0,.map 2000),(7,.itr 7)],[(7,.iter (some (Z7 kv.1,Zt kv.2)) (Zn Z7 Zt (p++q))),(2000,.map (Zn Z7 Zt (mput Zv kv.1 kv.2 (mcopy Zv dst pre)))),(2001,.fmap (Zn Z7 Zt src))]⟩ h ⟨I,I,J0⟩ ⟨I,I,I,J0⟩)) ⟨I,I,J0⟩ ⟨I,I,I,J0⟩) ?_
 exact Z5r this ⟨I,I,J0⟩ ⟨I,I,I,J0⟩
def Zh1 (_K:Nat) (v7:(List (List Int))):Option ((List (List Int))) :=
 some v7
def Ze5 (_K:Nat) (b10:Int→(List (List Int))→(List (Int×Bool))→Option ((List (List Int)))) (v3:Int) (v11:(List (List Int))) (v12:(List (Int×Bool))):Option ((List (List Int))) :=
 b10 (IntKind.i64.wrap (v3+1)) v11 v12
noncomputable def Zck (K:Nat) (v2:(List Int)) (a0:(List Z4)) (c9:(List (List Int))→Option ((List (List Int)))):Nat→Int→(List (List Int))→(List (Int×Bool))→Option ((List (List Int)))
 | 0,_,_,_=>none
 | k6+1,v3,v4,v5 =>
 if (decide (v3<(v2.length:Int)))=true then
 if (0:Int)≤v3∧v3<v2.length then
 if ((mget Zv (v2.getD v3.toNat 0) v5).getD false)=true then
 Ze5 K (Zck K v2 a0 c9 k6) v3 v4 v5
 else
 (F121 K a0 (v2.getD v3.toNat 0)).bind fun v16 =>
 ndPerm v16 fun x17 =>
 (Zbf K v16).bind fun _v19 =>
 (Zdj K v16).bind fun v21 =>
 if v4.length+[v21].length≤1073741824 then
 Ze5 K (Zck K v2 a0 c9 k6) v3 (v4++[v21]) (mcopy Zv v5 x17)
 else none
 else none
 else
 c9 v4
noncomputable def F51 (K:Nat) (a0:(List Z4)):Option ((List (List Int))) :=
 (Zmq K a0).bind fun v2 =>
 Zck K v2 a0 (Zh1 K) K 0 [] ([]:List (Int×Bool))
theorem F51_ok (K:Nat) (a0:(List Z4)) (r:(List (List Int))) (h:F51 K a0=some r):ACall P 51 ⟨[(.sl 3 (a0.map Z9) false)],[],.vs 2,[(2,.vec 1 (List.map Z19 r))],[2]⟩:=by
 refine ac Tryz.func51 Tryz.results51 Tryz.ntmps51 fun w0 F0 p0 S0 β0 Q hret=>?_
 dsimp only [argT]
 unfold F51 at h
 refine AWp.seq<|AWp.region ?_
 refine oc (Zh (v:=(.sl 1 [] false)) rfl rfl) ?_
 refine G1 h fun h=>?_
 refine oc (Zh (v:=(.sl 1 [] true)) rfl rfl) ?_
 refine G1 h fun h=>?_
 have⟨v2,hv2,h⟩:=Zd h
 refine oc (Z15 Tryz.call120 (Zbc (h:=hv2))) ?_
 refine G1 h fun h=>?_
 refine AWp.ghost (fun a w h=>gk ⟨[(0,_),(3,_),(4,_),(10,_),(11,_),(12,_)],[(3,_),(8,_)]⟩ (Z38 (k:=3) (m:=3) (sz:=1) (gk ⟨[(3,_),(0,_),(4,_),(10,_),(11,_),(12,_)],[(8,_)]⟩ h))) ?_
 refine lb (V:=Int×(List (List Int))×(List (Int×Bool))) (X:=(List (List Int))) (v:=(_,_,_)) (fun k v=>Zck K v2 a0 (Zh1 K) k v.1 v.2.1 v.2.2=some r) (fun v=>Zh1 K v=some r) [(0,_),(3,_),(4,_),(10,_),(11,_)] [] [(3,_)] [] (fun v t=>(12,(.int .i64 v.1))::t) (fun v s=>(3,(.vec 1 (List.map Z19 v.2.1)))::(8,(.map (Zn Z7 Zt v.2.2)))::s) (fun v t=>t) (fun v s=>(3,(.vec 1 (List.map Z19 v)))::s) h ?_ ?_
 ·intro v h
  revert h
  revert v
  intro v7 h
  try dsimp only at h ⊢
  unfold Zh1 at h
  refine G1 h fun h=>?_
  refine AWp.ret<|At.ghost (fun a w h=>gk ⟨[(2,_)],[(2,_)]⟩ (Z3x (a:=3) (b:=2) (gk ⟨[(2,_)],[(3,_)]⟩ h))) ?_
  exact RT
 intro N k6 v h IH6 J6
 obtain⟨v3,v4,v5⟩:=v
 try dsimp only at h IH6 J6 ⊢
 cases k6 with
 | zero=>cases h
 | succ k6 =>
  rw [Zck] at h
  refine Mc h (fun h=>?_) (fun h=>?_)
  ·refine AWp.skip<|At.next<|AWp.seq ?_
   refine bj (V:=(List (List Int))×(List (Int×Bool))) (fun v=>Ze5 K (Zck K v2 a0 (Zh1 K) k6) v3 v.1 v.2=some r) [(0,_),(3,_),(4,_),(10,_),(11,_),(12,_)] [] (fun v t=>t) (fun v s=>(3,(.vec 1 (List.map Z19 v.1)))::(8,(.map (Zn Z7 Zt v.2)))::s) ?_ ?_
   ·intro v h
    obtain⟨v11,v12⟩:=v
    try dsimp only at h ⊢
    unfold Ze5 at h
    refine At.next ?_
    exact M2 h (k:=fun h=>wkx (IH6 _ (_,_,_) Z1p h))
   intro J13
   refine G1 h fun h=>?_
   refine oc (Z2h (a:=(v2.getD v3.toNat 0)) rfl Zcc rfl rfl (.inl rfl) rfl rfl) ?_
   refine AOps.nil<|At.next ?_
   refine cnd h (fun h=>?_) (fun h=>?_)
   ·refine AWp.exit<|Zz<|At.out ?_
    exact wkx (J13 (_,_) h)
   refine G1 h fun h=>?_
   have⟨v16,hv16,h⟩:=Zd h
   refine oc (Z1d (d:=some 21) (c:=⟨_,[],(.map 21),[(21,(.map (Zn Z7 Zt v16)))],[21]⟩) (ar:=[_,_]) (caps:=[]) (news:=[21]) (forg:=[]) Tryz.call121 ((F121_ok (h:=hv16)).sw 9 21) rfl rfl ⟨rfl,rfl,trivial⟩ rfl trivial rfl) ?_
   refine G1 h fun h=>?_
   refine AOps.ghost (fun a w h=>gk ⟨[(0,_),(3,_),(4,_),(7,_),(10,_),(11,_),(12,_),(22,_),(23,_)],[(3,_),(8,_),(21,_)]⟩ (Z66 (m:=21) (gk ⟨[(0,_),(3,_),(4,_),(7,_),(10,_),(11,_),(12,_),(22,_),(23,_)],[(21,_),(3,_),(8,_)]⟩ h))) ?_
   have hp23:=Z9q h
   refine Z4f (ar:=[.map 8,.map 21]) (caps:=[]) (news:=[]) (forg:=[]) Tryz.call122 (((F122_copy v5 v16).sw 2000 8).sw 2001 21) I I ⟨I,I,J0⟩ I ⟨I,I,J0⟩ (fun _=>I) I (fun x17 hw23=>?_)
   have h:=hp23 x17 hw23
   refine G1 h fun h=>?_
   have⟨v19,hv19,h⟩:=Zd h
   refine oc (Z1d (d:=some 27) (c:=⟨_,[(21,_)],(.clo 182 [(.ptr 27 0)]),[(21,(.fmap (Zn Z7 Zt v16))),(27,(.box [(.map 21)]))],[27]⟩) (ar:=[_]) (caps:=[]) (news:=[27]) (forg:=[]) Tryz.call124 (((Zj3 (h:=hv19)).sw 2000 21).sw 1 27) rfl rfl ⟨rfl,trivial⟩ rfl ⟨rfl,trivial⟩ rfl) ?_
   have⟨v21,hv21,h⟩:=Zd h
   refine oc (Z1d (d:=some 28) (c:=⟨_,[(27,_),(21,_)],(.vs 28),[(27,(.box [(.map 21)])),(21,(.fmap (Zn Z7 Zt v16))),(28,(.vec 1 (List.map Z7 v21)))],[28]⟩) (ar:=[_]) (caps:=[]) (news:=[28]) (forg:=[]) Tryz.call123 ((((Zrp (h:=hv21)).sw 2000 27).sw 2001 21).sw 5 28) rfl rfl ⟨rfl,trivial⟩ rfl ⟨rfl,rfl,trivial⟩ rfl) ?_
   refine AOps.ghost (fun a w h=>gk ⟨[(0,_),(3,_),(4,_),(10,_),(11,_),(12,_),(25,_),(28,_)],[(3,_),(8,_)]⟩ (Z1j (m:=28) (sz:=1) (gk ⟨[(0,_),(3,_),(4,_),(10,_),(11,_),(12,_),(25,_),(28,_)],[(28,_),(3,_),(8,_)]⟩ h))) ?_
   refine oc (Zj (vs:=[_]) (enc:=Z19) (l:=[v21]) rfl Zs5 rfl rfl ⟨rfl,trivial⟩ rfl Z6m rfl rfl rfl rfl) ?_
   have⟨hg22,h⟩:=Zg h
   refine oc (Z1g (m:=3) rfl rfl Zs5 rfl u129 rfl rfl rfl rfl (oneRead rfl) Z6m hg22) ?_
   refine G2 h fun h=>?_
   refine Z17 ?_
   exact wkx (J13 (_,_) h)
  refine AWp.exit<|Zz ?_
  exact wkx (J6 _ h)
def F53 (K:Nat) (a0:(List Int)) (a1:Int):Option (Bool) :=
 (F54 K a0 a1).bind fun v2 =>
 some v2
theorem F53_ok (K:Nat) (a0:(List Int)) (a1:Int) (r:Bool) (h:F53 K a0 a1=some r):ACall P 53 ⟨[(.sl 1 (a0.map Z7) false),(.ip [(.int .i64 a1)])],[],(.bool r),[],[]⟩:=by
 refine ac Tryz.func53 Tryz.results53 Tryz.ntmps53 fun w0 F0 p0 S0 β0 Q hret=>?_
 dsimp only [argT]
 unfold F53 at h
 refine G1 h fun h=>?_
 have⟨v2,hv2,h⟩:=Zd h
 refine oc (Z15 Tryz.call54 (Zmu (h:=hv2))) ?_
 exact GR
def Zdk (_K:Nat):Option (Int) :=
 some (Int.negSucc 0)
def Zbg (K:Nat) (a0:(List (List Int))) (a100:Int) (c4:Option (Int)):Nat→Int→Option (Int)
 | 0,_=>none
 | k2+1,v1 =>
 if (decide (v1<(a0.length:Int)))=true then
 if (0:Int)≤v1∧v1<a0.length then
 (F53 K (a0.getD v1.toNat []) a100).bind fun v8 =>
 if v8=true then
 some v1
 else
 (Zbg K a0 a100 c4 k2) (IntKind.i64.wrap (v1+1))
 else none
 else
 c4
def F125 (K:Nat) (a0:(List (List Int))) (a100:Int):Option (Int) :=
 Zbg K a0 a100 (Zdk K) K 0
theorem F125_ok (K:Nat) (a0:(List (List Int))) (a100:Int) (r:Int) (h:F125 K a0 a100=some r):ACall P 125 ⟨[(.sl 1 (a0.map Z19) false),(.clo 53 [(.ip [(.int .i64 a100)])])],[],(.int .i64 r),[],[]⟩:=by
 refine ac Tryz.func125 Tryz.results125 Tryz.ntmps125 fun w0 F0 p0 S0 β0 Q hret=>?_
 dsimp only [argT]
 unfold F125 at h
 refine G1 h fun h=>?_
 refine lb (V:=Int) (X:=Unit) (v:=_) (fun k v=>Zbg K a0 a100 (Zdk K) k v=some r) (fun v=>Zdk K=some r) [(0,_),(1,_),(7,_)] [] [] [] (fun v t=>(8,(.int .i64 v))::t) (fun v s=>s) (fun v t=>t) (fun v s=>s) h ?_ ?_
 ·intro v h
  try dsimp only at h ⊢
  unfold Zdk at h
  exact GR
 intro N k2 v h IH2 J2
 revert h
 revert v
 intro v1 h
 try dsimp only at h IH2 J2 ⊢
 cases k2 with
 | zero=>cases h
 | succ k2 =>
  rw [Zbg] at h
  refine Mc h (fun h=>?_) (fun h=>?_)
  ·refine AWp.skip<|At.next<|AWp.seq<|AWp.block ?_
   refine G1 h fun h=>?_
   have⟨v8,hv8,h⟩:=Zd h
   refine oc (Zg5 (ar:=[(.sl 1 ((a0.getD v1.toNat []).map Z7) false)]) Tryz.call53 (F53_ok (h:=hv8)) rfl rfl ⟨rfl,trivial⟩ rfl) ?_
   refine AOps.nil<|At.next ?_
   refine cnd h (fun h=>?_) (fun h=>?_)
   ·exact GR
   refine AWp.skip<|Z17<|At.next ?_
   exact M2 h (k:=fun h=>wkx (IH2 _ _ Z1p h))
  refine AWp.exit<|Zz ?_
  exact wkx (J2 () h)
def F52 (K:Nat) (a0:(List (List Int))) (a100:Int):Option (Bool) :=
 (F125 K a0 a100).bind fun v2 =>
 some (decide (v2 ≥ 0))
theorem F52_ok (K:Nat) (a0:(List (List Int))) (a100:Int) (r:Bool) (h:F52 K a0 a100=some r):ACall P 52 ⟨[(.sl 1 (a0.map Z19) false),(.clo 53 [(.ip [(.int .i64 a100)])])],[],(.bool r),[],[]⟩:=by
 refine ac Tryz.func52 Tryz.results52 Tryz.ntmps52 fun w0 F0 p0 S0 β0 Q hret=>?_
 dsimp only [argT]
 unfold F52 at h
 refine G1 h fun h=>?_
 have⟨v2,hv2,h⟩:=Zd h
 refine oc (Z15 Tryz.call125 (F125_ok (h:=hv2))) ?_
 exact GR
def F130 (_K:Nat) (_a0:Int):Option (Bool) :=
 some true
theorem F130_ok (K:Nat) (a0:Int) (r:Bool) (h:F130 K a0=some r):ACall P 130 ⟨[(.int .i64 a0)],[],(.bool r),[],[]⟩:=by
 refine ac Tryz.func130 Tryz.results130 Tryz.ntmps130 fun w0 F0 p0 S0 β0 Q hret=>?_
 dsimp only [argT]
 unfold F130 at h
 exact GR
def Z4n (_K:Nat) (v9:Int) (v10:(List (Int×Int))) (v11:(List (Int×Int))):Option (Int×(List (Int×Int))×(List (Int×Int))) :=
 some (v9,v10,v11)
def Z5e (_K:Nat) (b14:Int→Int→(List (Int×Int))→(List (Int×Int))→Option (Int×(List (Int×Int))×(List (Int×Int)))) (v5:Int) (v15:Int) (v16:(List (Int×Int))) (v17:(List (Int×Int))):Option (Int×(List (Int×Int))×(List (Int×Int))) :=
 b14 v15 (IntKind.i64.wrap (v5+1)) v16 v17
def Zab (K:Nat) (b14:Int→Int→(List (Int×Int))→(List (Int×Int))→Option (Int×(List (Int×Int))×(List (Int×Int)))) (v5:Int) (v22:Int) (v23:(List (Int×Int))) (v24:(List (Int×Int))):Option (Int×(List (Int×Int))×(List (Int×Int))) :=
 Z5e K b14 v5 v22 v23 v24
def Z3q (K:Nat) (a0:(List Z4)) (c13:Int→(List (Int×Int))→(List (Int×Int))→Option (Int×(List (Int×Int))×(List (Int×Int)))):Nat→Int→Int→(List (Int×Int))→(List (Int×Int))→Option (Int×(List (Int×Int))×(List (Int×Int)))
 | 0,_,_,_,_=>none
 | k8+1,v4,v5,v6,v7 =>
 if (decide (v5<(a0.length:Int)))=true then
 if (0:Int)≤v5∧v5<a0.length then
 if (!(mget Zv (a0.getD v5.toNat Z8).From v6).isSome)=true then
 Z5e K (Z3q K a0 c13 k8) v5 v4 v6 v7
 else
 (F130 K v5).bind fun v21 =>
 if (!v21)=true then
 Z5e K (Z3q K a0 c13 k8) v5 v4 v6 v7
 else
 if (!(mget Zv (a0.getD v5.toNat Z8).To v6).isSome)=true then
 Z5e K (Z3q K a0 c13 k8) v5 v5 (mput Zv (a0.getD v5.toNat Z8).To (IntKind.i64.wrap (((mget Zv (a0.getD v5.toNat Z8).From v6).getD (0:Int))+(a0.getD v5.toNat Z8).Bound)) v6) (mput Zv (a0.getD v5.toNat Z8).To v5 v7)
 else
 if (decide ((IntKind.i64.wrap (((mget Zv (a0.getD v5.toNat Z8).From v6).getD (0:Int))+(a0.getD v5.toNat Z8).Bound))<((mget Zv (a0.getD v5.toNat Z8).To v6).getD (0:Int))))=true then
 Zab K (Z3q K a0 c13 k8) v5 v5 (mput Zv (a0.getD v5.toNat Z8).To (IntKind.i64.wrap (((mget Zv (a0.getD v5.toNat Z8).From v6).getD (0:Int))+(a0.getD v5.toNat Z8).Bound)) v6) (mput Zv (a0.getD v5.toNat Z8).To v5 v7)
 else
 Zab K (Z3q K a0 c13 k8) v5 v4 v6 v7
 else none
 else
 c13 v4 v6 v7
def F193 (K:Nat) (a0:(List Z4)) (a1:(List (Int×Int))) (a2:(List (Int×Int))):Option (Int×(List (Int×Int))×(List (Int×Int))) :=
 Z3q K a0 (Z4n K) K (Int.negSucc 0) 0 a1 a2
theorem F193_ok (K:Nat) (a0:(List Z4)) (a1:(List (Int×Int))) (a2:(List (Int×Int))) (r:Int×(List (Int×Int))×(List (Int×Int))) (h:F193 K a0 a1 a2=some r):ACall P 193 ⟨[(.ptr 2000 0),(.ptr 2001 0),(.ptr 2002 0)],[(2000,(.box [(.sl 3 (a0.map Z9) false)])),(2001,(.box [(.map 2003),(.map 2004)])),(2002,(.box [(.clo 130 [])])),(2003,(.map (Zn Z7 Z7 a1))),(2004,(.map (Zn Z7 Z7 a2)))],(.int .i64 r.1),[(2000,(.box [(.sl 3 (a0.map Z9) false)])),(2001,(.box [(.map 2003),(.map 2004)])),(2002,(.box [(.clo 130 [])])),(2003,(.map (Zn Z7 Z7 r.2.1))),(2004,(.map (Zn Z7 Z7 r.2.2)))],[]⟩:=by
 refine ac Tryz.func193 Tryz.results193 Tryz.ntmps193 fun w0 F0 p0 S0 β0 Q hret=>?_
 dsimp only [argT]
 unfold F193 at h
 refine G1 h fun h=>?_
 refine lb (V:=Int×Int×(List (Int×Int))×(List (Int×Int))) (X:=Int×(List (Int×Int))×(List (Int×Int))) (v:=(_,_,_,_)) (fun k v=>Z3q K a0 (Z4n K) k v.1 v.2.1 v.2.2.1 v.2.2.2=some r) (fun v=>Z4n K v.1 v.2.1 v.2.2=some r) [(1,_),(2,_),(11,_),(12,_)] [(2000,_),(2001,_),(2002,_)] [] [(2000,_),(2001,_),(2002,_)] (fun v t=>(4,(.int .i64 v.1))::(13,(.int .i64 v.2.1))::t) (fun v s=>(2003,(.map (Zn Z7 Z7 v.2.2.1)))::(2004,(.map (Zn Z7 Z7 v.2.2.2)))::s) (fun v t=>(4,(.int .i64 v.1))::t) (fun v s=>(2003,(.map (Zn Z7 Z7 v.2.1)))::(2004,(.map (Zn Z7 Z7 v.2.2)))::s) h ?_ ?_
 ·intro v h
  obtain⟨v9,v10,v11⟩:=v
  try dsimp only at h ⊢
  unfold Z4n at h
  exact GR
 intro N k8 v h IH8 J8
 obtain⟨v4,v5,v6,v7⟩:=v
 try dsimp only at h IH8 J8 ⊢
 cases k8 with
 | zero=>cases h
 | succ k8 =>
  rw [Z3q] at h
  refine Mc h (fun h=>?_) (fun h=>?_)
  ·refine AWp.skip<|At.next<|AWp.seq ?_
   refine bj (V:=Int×(List (Int×Int))×(List (Int×Int))) (fun v=>Z5e K (Z3q K a0 (Z4n K) k8) v5 v.1 v.2.1 v.2.2=some r) [(1,_),(2,_),(11,_),(12,_),(13,_)] [(2000,_),(2001,_),(2002,_)] (fun v t=>(4,(.int .i64 v.1))::t) (fun v s=>(2003,(.map (Zn Z7 Z7 v.2.1)))::(2004,(.map (Zn Z7 Z7 v.2.2)))::s) ?_ ?_
   ·intro v h
    obtain⟨v15,v16,v17⟩:=v
    try dsimp only at h ⊢
    unfold Z5e at h
    refine At.next ?_
    exact M2 h (k:=fun h=>wkx (IH8 _ (_,_,_,_) Z1p h))
   intro J18
   refine G1 h fun h=>?_
   refine oc (Zm (ds:=_)) ?_
   refine G1 h fun h=>?_
   refine oc (Z33 (a:=(a0.getD v5.toNat Z8).From) rfl Z4x rfl rfl (.inl rfl) rfl rfl) ?_
   refine Ms h (fun h=>?_) (fun h=>?_)
   ·refine G1 h fun h=>?_
    refine AWp.cond (b:=true) I (fun hc=>?_) (fun hc=>?_)
    rotate_left
    ·cases hc
    refine AWp.exit<|Zz<|At.out ?_
    exact wkx (J18 (_,_,_) h)
   refine G1 h fun h=>?_
   have⟨v21,hv21,h⟩:=Zd h
   refine oT (Z15 Tryz.call130 (F130_ok (h:=hv21))) ?_
   refine Mc h (fun h=>?_) (fun h=>?_)
   ·refine AWp.exit<|Zz<|At.out ?_
    exact wkx (J18 (_,_,_) h)
   refine G1 h fun h=>?_
   refine oc (Z33 (a:=(a0.getD v5.toNat Z8).To) rfl Z4x rfl rfl (.inl rfl) rfl rfl) ?_
   refine Ms h (fun h=>?_) (fun h=>?_)
   ·refine G1 h fun h=>?_
    refine AWp.cond (b:=true) I (fun hc=>?_) (fun hc=>?_)
    rotate_left
    ·cases hc
    refine G1 h fun h=>?_
    refine oD (Z1v (a:=(a0.getD v5.toNat Z8).To) (b:=(IntKind.i64.wrap (((mget Zv (a0.getD v5.toNat Z8).From v6).getD (0:Int))+(a0.getD v5.toNat Z8).Bound))) (kv:=(.int .i64 (a0.getD v5.toNat Z8).To)) (vv:=(.int .i64 (IntKind.i64.wrap (((mget Zv (a0.getD v5.toNat Z8).From v6).getD (0:Int))+(a0.getD v5.toNat Z8).Bound)))) Z4x rfl rfl rfl rfl rfl rfl) ?_
    refine oD (Z1v (a:=(a0.getD v5.toNat Z8).To) (b:=v5) (kv:=(.int .i64 (a0.getD v5.toNat Z8).To)) (vv:=(.int .i64 v5)) Z4x rfl rfl rfl rfl rfl rfl) ?_
    refine G2 h fun h=>?_
    refine Z17 ?_
    exact wkx (J18 (_,_,_) h)
   refine G1 h fun h=>?_
   refine jn (V:=Int×(List (Int×Int))×(List (Int×Int))) (fun v=>Zab K (Z3q K a0 (Z4n K) k8) v5 v.1 v.2.1 v.2.2=some r) [(1,_),(2,_),(11,_),(12,_),(13,_)] [(2000,_),(2001,_),(2002,_)] (fun v t=>(4,(.int .i64 v.1))::t) (fun v s=>(2003,(.map (Zn Z7 Z7 v.2.1)))::(2004,(.map (Zn Z7 Z7 v.2.2)))::s) ?_ ?_
   ·intro v h
    obtain⟨v22,v23,v24⟩:=v
    try dsimp only at h ⊢
    unfold Zab at h
    refine Z17 ?_
    exact wkx (J18 (_,_,_) h)
   intro J25
   refine cnd h (fun h=>?_) (fun h=>?_)
   ·refine G1 h fun h=>?_
    refine oD (Z1v (a:=(a0.getD v5.toNat Z8).To) (b:=(IntKind.i64.wrap (((mget Zv (a0.getD v5.toNat Z8).From v6).getD (0:Int))+(a0.getD v5.toNat Z8).Bound))) (kv:=(.int .i64 (a0.getD v5.toNat Z8).To)) (vv:=(.int .i64 (IntKind.i64.wrap (((mget Zv (a0.getD v5.toNat Z8).From v6).getD (0:Int))+(a0.getD v5.toNat Z8).Bound)))) Z4x rfl rfl rfl rfl rfl rfl) ?_
    refine oD (Z1v (a:=(a0.getD v5.toNat Z8).To) (b:=v5) (kv:=(.int .i64 (a0.getD v5.toNat Z8).To)) (vv:=(.int .i64 v5)) Z4x rfl rfl rfl rfl rfl rfl) ?_
    exact M2 h (k:=fun h=>wkx (J25 (_,_,_) h))
   refine AWp.skip ?_
   exact wkx (J25 (_,_,_) h)
  refine AWp.exit<|Zz ?_
  exact wkx (J8 (_,_,_) h)
def Z80 (K:Nat) (a0:(List Z4)) (v16:(List (Int×Int))) (v17:(List (Int×Int))):Option (Int×(List (Int×Int))×(List (Int×Int))) :=
 (F193 K a0 v16 v17).bind fun v21 =>
 some (v21.1,v21.2.1,v21.2.2)
def Z6w (K:Nat) (v11:(List Int)) (a1:(List Int)) (a0:(List Z4)) (c19:(List (Int×Int))→(List (Int×Int))→Option (Int×(List (Int×Int))×(List (Int×Int)))):Nat→Int→(List (Int×Int))→(List (Int×Int))→Option (Int×(List (Int×Int))×(List (Int×Int)))
 | 0,_,_,_=>none
 | k15+1,v12,v13,v14 =>
 if (decide (v12<(IntKind.i64.wrap ((v11.length:Int)+(a1.length:Int)))))=true then
 (F193 K a0 v13 v14).bind fun v24 =>
 if (decide (v24.1<0))=true then
 some ((Int.negSucc 0),v24.2.1,v24.2.2)
 else
 (Z6w K v11 a1 a0 c19 k15) (IntKind.i64.wrap (v12+1)) v24.2.1 v24.2.2
 else
 c19 v13 v14
noncomputable def Z8x (K:Nat) (a0:(List Z4)) (a1:(List Int)) (v7:(List (Int×Int))):Option (Int×(List (Int×Int))×(List (Int×Int))) :=
 (Zmq K a0).bind fun v11 =>
 Z6w K v11 a1 a0 (Z80 K a0) K 0 v7 ([]:List (Int×Int))
def Zbi (K:Nat) (a1:(List Int)) (c9:(List (Int×Int))→Option (Int×(List (Int×Int))×(List (Int×Int)))):Nat→Int→(List (Int×Int))→Option (Int×(List (Int×Int))×(List (Int×Int)))
 | 0,_,_=>none
 | k6+1,v4,v5 =>
 if (decide (v4<(a1.length:Int)))=true then
 if (0:Int)≤v4∧v4<a1.length then
 (Zbi K a1 c9 k6) (IntKind.i64.wrap (v4+1)) (mput Zv (a1.getD v4.toNat 0) (0:Int) v5)
 else none
 else
 c9 v5
noncomputable def F129 (K:Nat) (a0:(List Z4)) (a1:(List Int)):Option (Int×(List (Int×Int))×(List (Int×Int))) :=
 Zbi K a1 (Z8x K a0 a1) K 0 ([]:List (Int×Int))
theorem Zop (K:Nat) (a0:(List Z4)) (a1:(List Int)) (r:Int×(List (Int×Int))×(List (Int×Int))) (h:F129 K a0 a1=some r):ACall P 129 ⟨[(.sl 3 (a0.map Z9) false),(.sl 1 (a1.map Z7) false),(.clo 130 [])],[],(.tup [(.ag [(.map 12),(.map 13)]),(.int .i64 r.1)]),[(12,(.map (Zn Z7 Z7 r.2.1))),(13,(.map (Zn Z7 Z7 r.2.2)))],[12,13]⟩:=by
 refine ac Tryz.func129 Tryz.results129 Tryz.ntmps129 fun w0 F0 p0 S0 β0 Q hret=>?_
 dsimp only [argT]
 unfold F129 at h
 refine G1 h fun h=>?_
 refine oc (Z1i (vs:=[(0,(.map 12)),(1,(.map 13))]) rfl st243 ⟨rfl,rfl,rfl,rfl,trivial⟩ rfl) ?_
 refine G1 h fun h=>?_
 refine oc (Zm (ds:=[_,_])) ?_
 refine G1 h fun h=>?_
 refine lb (V:=Int×(List (Int×Int))) (X:=(List (Int×Int))) (v:=(_,_)) (fun k v=>Zbi K a1 (Z8x K a0 a1) k v.1 v.2=some r) (fun v=>Z8x K a0 a1 v=some r) [(1,_),(3,_),(5,_),(6,_),(8,_),(15,_),(16,_)] [(3,_),(5,_),(6,_),(8,_),(13,_)] [(1,_),(3,_),(5,_),(6,_),(8,_)] [(3,_),(5,_),(6,_),(8,_),(13,_)] (fun v t=>(17,(.int .i64 v.1))::t) (fun v s=>(12,(.map (Zn Z7 Z7 v.2)))::s) (fun v t=>t) (fun v s=>(12,(.map (Zn Z7 Z7 v)))::s) h ?_ ?_
 ·intro v h
  revert h
  revert v
  intro v7 h
  try dsimp only at h ⊢
  unfold Z8x at h
  refine At.next<|AWp.seq<|AWp.region ?_
  refine oc (Z2k (vs:=[(.ptr 3 0),(.ptr 8 0),(.ptr 5 0)]) rfl ⟨rfl,rfl,rfl,trivial⟩) ?_
  refine G1 h fun h=>?_
  have⟨v11,hv11,h⟩:=Zd h
  refine oc (Z15 Tryz.call120 (Zbc (h:=hv11))) ?_
  refine G1 h fun h=>?_
  refine lb (V:=Int×(List (Int×Int))×(List (Int×Int))) (X:=(List (Int×Int))×(List (Int×Int))) (v:=(_,_,_)) (fun k v=>Z6w K v11 a1 a0 (Z80 K a0) k v.1 v.2.1 v.2.2=some r) (fun v=>Z80 K a0 v.1 v.2=some r) [(6,_),(8,_),(11,_),(31,_)] [(3,_),(5,_),(6,_),(8,_)] [(6,_),(8,_),(11,_)] [(3,_),(5,_),(6,_),(8,_)] (fun v t=>(32,(.int .i64 v.1))::t) (fun v s=>(12,(.map (Zn Z7 Z7 v.2.1)))::(13,(.map (Zn Z7 Z7 v.2.2)))::s) (fun v t=>t) (fun v s=>(12,(.map (Zn Z7 Z7 v.1)))::(13,(.map (Zn Z7 Z7 v.2)))::s) h ?_ ?_
  ·intro v h
   obtain⟨v16,v17⟩:=v
   try dsimp only at h ⊢
   unfold Z80 at h
   refine G1 h fun h=>?_
   have⟨v21,hv21,h⟩:=Zd h
   refine oD (Z1d (d:=some 41) (c:=⟨_,[(3,_),(8,_),(5,_),(12,_),(13,_)],(.int .i64 v21.1),[(3,(.box [(.sl 3 (a0.map Z9) false)])),(8,(.box [(.map 12),(.map 13)])),(5,(.box [(.clo 130 [])])),(12,(.map (Zn Z7 Z7 v21.2.1))),(13,(.map (Zn Z7 Z7 v21.2.2)))],[]⟩) (ar:=[]) (caps:=[(.ptr 3 0),(.ptr 8 0),(.ptr 5 0)]) (news:=[]) (forg:=[]) Tryz.call193 ((((((F193_ok (h:=hv21)).sw 2000 3).sw 2001 8).sw 2002 5).sw 2003 12).sw 2004 13) rfl rfl trivial rfl ⟨rfl,rfl,rfl,rfl,rfl,trivial⟩ rfl) ?_
   refine oD (Zm (ds:=[_,_])) ?_
   refine G1 h fun h=>?_
   refine AWp.ret ?_
   have h:=Option.some.inj h
   subst h
   refine (hret _ ?_).1
   exact⟨[(.ag [(.map 12),(.map 13)]),(.int .i64 v21.1)],⟨⟨6,_,I,I,.inr ⟨_,a243,I,I⟩⟩,I,J0⟩,I,⟨I,I,J0⟩⟩
  intro N k15 v h IH15 J15
  obtain⟨v12,v13,v14⟩:=v
  try dsimp only at h IH15 J15 ⊢
  cases k15 with
  | zero=>cases h
  | succ k15 =>
   rw [Z6w] at h
   refine Mc h (fun h=>?_) (fun h=>?_)
   ·refine AWp.skip<|At.next<|AWp.seq<|AWp.block ?_
    refine G1 h fun h=>?_
    have⟨v24,hv24,h⟩:=Zd h
    refine oc (Z1d (d:=some 35) (c:=⟨_,[(3,_),(8,_),(5,_),(12,_),(13,_)],(.int .i64 v24.1),[(3,(.box [(.sl 3 (a0.map Z9) false)])),(8,(.box [(.map 12),(.map 13)])),(5,(.box [(.clo 130 [])])),(12,(.map (Zn Z7 Z7 v24.2.1))),(13,(.map (Zn Z7 Z7 v24.2.2)))],[]⟩) (ar:=[]) (caps:=[(.ptr 3 0),(.ptr 8 0),(.ptr 5 0)]) (news:=[]) (forg:=[]) Tryz.call193 ((((((F193_ok (h:=hv24)).sw 2000 3).sw 2001 8).sw 2002 5).sw 2003 12).sw 2004 13) rfl rfl trivial rfl ⟨rfl,rfl,rfl,rfl,rfl,trivial⟩ rfl) ?_
    refine Mc h (fun h=>?_) (fun h=>?_)
    ·refine G1 h fun h=>?_
     refine oc (Zm (ds:=[_,_])) ?_
     refine G1 h fun h=>?_
     refine AWp.ret<|Z3e<|Z27 ?_
     refine Z27 (Z3e ?_)
     refine Z27 ?_
     have h:=Option.some.inj h
     subst h
     refine (hret _ ?_).1
     exact⟨[(.ag [(.map 12),(.map 13)]),(.int .i64 (Int.negSucc 0))],⟨⟨6,_,I,I,.inr ⟨_,a243,I,I⟩⟩,I,J0⟩,I,⟨I,I,J0⟩⟩
    refine AWp.skip<|Z17<|At.next ?_
    exact M2 h (k:=fun h=>wkx (IH15 _ (_,_,_) Z1p h))
   refine AWp.exit<|Zz ?_
   exact wkx (J15 (_,_) h)
 intro N k6 v h IH6 J6
 obtain⟨v4,v5⟩:=v
 try dsimp only at h IH6 J6 ⊢
 cases k6 with
 | zero=>cases h
 | succ k6 =>
  rw [Zbi] at h
  refine Mc h (fun h=>?_) (fun h=>?_)
  ·refine AWp.skip<|At.next<|AWp.seq<|AWp.block ?_
   refine G1 h fun h=>?_
   refine oc (Z1v (a:=(a1.getD v4.toNat 0)) (b:=(0:Int)) (kv:=(.int .i64 (a1.getD v4.toNat 0))) (vv:=(.int .i64 0)) Z4x rfl rfl rfl rfl rfl rfl) ?_
   refine AOps.nil<|Z17<|At.next ?_
   exact M2 h (k:=fun h=>wkx (IH6 _ (_,_) Z1p h))
  refine AWp.exit<|Zz ?_
  exact wkx (J6 _ h)
def Z60 (_K:Nat) (v6:(List Int)):Option ((List Int)) :=
 some v6
def Z61 (K:Nat) (c8:(List Int)→Option ((List Int))):Nat→Int→Int→(List Int)→Option ((List Int))
 | 0,_,_,_=>none
 | k5+1,v2,v3,v4 =>
 if (decide (v2<v3))=true then
 if (0:Int)≤v3∧v3<(v4.length:Nat) then
 if v3.toNat<v4.length then
 if (0:Int)≤v2∧v2<(v4.length:Nat) then
 if v2.toNat<v4.length then
 if (0:Int)≤v2∧v2<(v4.length:Nat) then
 if v2.toNat<v4.length then
 if (0:Int)≤v3∧v3<((v4.set v2.toNat (v4.getD v3.toNat 0)).length:Nat) then
 if v3.toNat<(v4.set v2.toNat (v4.getD v3.toNat 0)).length then
 (Z61 K c8 k5) (IntKind.i64.wrap (v2+1)) (IntKind.i64.wrap (v3 - 1)) ((v4.set v2.toNat (v4.getD v3.toNat 0)).set v3.toNat (v4.getD v2.toNat 0))
 else none
 else none
 else none
 else none
 else none
 else none
 else none
 else none
 else
 c8 v4
def Zdn (K:Nat) (a0:(List Int)):Option ((List Int)) :=
 Z61 K (Z60 K) K 0 (IntKind.i64.wrap ((a0.length:Int) - 1)) a0
theorem Zrs (K:Nat) (a0:(List Int)) (r:(List Int)) (h:Zdn K a0=some r):ACall P 131 ⟨[(.vs 2000)],[(2000,(.vec 1 (List.map Z7 a0)))],(.tup []),[(2000,(.vec 1 (List.map Z7 r)))],[]⟩:=by
 refine ac Tryz.func131 Tryz.results131 Tryz.ntmps131 fun w0 F0 p0 S0 β0 Q hret=>?_
 dsimp only [argT]
 unfold Zdn at h
 refine G1 h fun h=>?_
 refine oc (Z2t rfl u38 rfl rfl) ?_
 refine G1 h fun h=>?_
 refine lb (V:=Int×Int×(List Int)) (X:=(List Int)) (v:=(_,_,_)) (fun k v=>Z61 K (Z60 K) k v.1 v.2.1 v.2.2=some r) (fun v=>Z60 K v=some r) [(0,_)] [] [] [] (fun v t=>(2,(.int .i64 v.1))::(3,(.int .i64 v.2.1))::t) (fun v s=>(2000,(.vec 1 (List.map Z7 v.2.2)))::s) (fun v t=>t) (fun v s=>(2000,(.vec 1 (List.map Z7 v)))::s) h ?_ ?_
 ·intro v h
  revert h
  revert v
  intro v6 h
  try dsimp only at h ⊢
  unfold Z60 at h
  have h:=Option.some.inj h
  subst h
  refine (hret _ ?_).2
  exact⟨[],J0,I,⟨I,J0⟩⟩
 intro N k5 v h IH5 J5
 obtain⟨v2,v3,v4⟩:=v
 try dsimp only at h IH5 J5 ⊢
 cases k5 with
 | zero=>cases h
 | succ k5 =>
  rw [Z61] at h
  refine Mc h (fun h=>?_) (fun h=>?_)
  ·refine AWp.skip<|At.next<|AWp.seq<|AWp.block ?_
   refine G1 h fun h=>?_
   have⟨hg15,h⟩:=Zg h
   refine oD (Z4u (l:=v4) (enc:=Z7) (z:=0) (a:=(v4.getD v3.toNat 0)) (v:=(.int .i64 (v4.getD v3.toNat 0))) sz3 rfl rfl hg15 rfl Z1u rfl rfl rfl rfl) ?_
   refine G1 h fun h=>?_
   have⟨hg17,h⟩:=Zg h
   refine oD (Z4u (l:=(v4.set v2.toNat (v4.getD v3.toNat 0))) (enc:=Z7) (z:=0) (a:=(v4.getD v2.toNat 0)) (v:=(.int .i64 (v4.getD v2.toNat 0))) sz3 rfl rfl hg17 rfl Z1u rfl rfl rfl rfl) ?_
   refine AOpsE.nil (by kernel_rfl) I ?_
   refine Z17<|At.next ?_
   exact M2 h (k:=fun h=>wkx (IH5 _ (_,_,_) Z1p h))
  refine AWp.exit<|Zz ?_
  exact wkx (J5 _ h)
def Zdo (_K:Nat) (v5:Int):Option (Int) :=
 some v5
def Zbj (K:Nat) (a0:(List Int)) (c7:Int→Option (Int)):Nat→Int→Int→Option (Int)
 | 0,_,_=>none
 | k4+1,v2,v3 =>
 if (decide (v3<(a0.length:Int)))=true then
 if (0:Int)≤v3∧v3<a0.length then
 (Zbj K a0 c7 k4) (if (a0.getD v3.toNat 0)<v2 then (a0.getD v3.toNat 0) else v2) (IntKind.i64.wrap (v3+1))
 else none
 else
 c7 v2
def F132 (K:Nat) (a0:(List Int)):Option (Int) :=
 if (decide ((a0.length:Int)<1))=true then
 none
 else
 if (0:Int)≤0∧(0:Int)<a0.length then
 Zbj K a0 (Zdo K) K (a0.getD (0:Int).toNat 0) 1
 else none
theorem F132_ok (K:Nat) (a0:(List Int)) (r:Int) (h:F132 K a0=some r):ACall P 132 ⟨[(.sl 1 (a0.map Z7) false)],[],(.int .i64 r),[],[]⟩:=by
 refine ac Tryz.func132 Tryz.results132 Tryz.ntmps132 fun w0 F0 p0 S0 β0 Q hret=>?_
 dsimp only [argT]
 unfold F132 at h
 refine Mc h (fun h=>?_) (fun h=>?_)
 ·cases h
 refine G1 h fun h=>?_
 refine lb (V:=Int×Int) (X:=Int) (v:=(_,_)) (fun k v=>Zbj K a0 (Zdo K) k v.1 v.2=some r) (fun v=>Zdo K v=some r) [(0,_)] [] [] [] (fun v t=>(3,(.int .i64 v.1))::(4,(.int .i64 v.2))::t) (fun v s=>s) (fun v t=>(3,(.int .i64 v))::t) (fun v s=>s) h ?_ ?_
 ·intro v h
  revert h
  revert v
  intro v5 h
  try dsimp only at h ⊢
  unfold Zdo at h
  exact GR
 intro N k4 v h IH4 J4
 obtain⟨v2,v3⟩:=v
 try dsimp only at h IH4 J4 ⊢
 cases k4 with
 | zero=>cases h
 | succ k4 =>
  rw [Zbj] at h
  refine Mc h (fun h=>?_) (fun h=>?_)
  ·refine AWp.skip<|At.next<|AWp.seq<|AWp.block ?_
   refine G1 h fun h=>?_
   refine oc (st_min (k:=.i64) (a:=v2) (b:=(a0.getD v3.toNat 0)) rfl rfl rfl) ?_
   refine G2 h fun h=>?_
   refine Z17<|At.next ?_
   exact M2 h (k:=fun h=>wkx (IH4 _ (_,_) Z1p h))
  refine AWp.exit<|Zz ?_
  exact wkx (J4 _ h)
def Zbt (K:Nat) (v23:(List Int)):Option ((List Int)×Bool) :=
 (Zdn K v23).bind fun v27 =>
 (F132 K v27).bind fun v29 =>
 (F126 K v27 v29).bind fun v31 =>
 if (0:Int)≤v31∧v31≤(v27.length:Int)∧(v27.length:Int)≤v27.length then
 if (0:Int)≤0∧0≤v31∧v31≤v27.length then
 (F133 K [(v27.drop v31.toNat),(v27.take v31.toNat)]).bind fun v35 =>
 some (v35,true)
 else none
 else none
def Ze6 (K:Nat) (v4:Int×(List (Int×Int))×(List (Int×Int))) (a0:(List Z4)) (v17:Int) (c25:(List Int)→Option ((List Int)×Bool)):Nat→Int→(List Int)→Option ((List Int)×Bool)
 | 0,_,_=>none
 | k22+1,v20,v21 =>
 if v21.length+[((mget Zv v20 v4.2.2).getD (0:Int))].length≤1073741824 then
 if (0:Int)≤((mget Zv v20 v4.2.2).getD (0:Int))∧((mget Zv v20 v4.2.2).getD (0:Int))<a0.length then
 if ((a0.getD ((mget Zv v20 v4.2.2).getD (0:Int)).toNat Z8).From==v17)=true then
 c25 (v21++[((mget Zv v20 v4.2.2).getD (0:Int))])
 else
 (Ze6 K v4 a0 v17 c25 k22) (a0.getD ((mget Zv v20 v4.2.2).getD (0:Int)).toNat Z8).From (v21++[((mget Zv v20 v4.2.2).getD (0:Int))])
 else none
 else none
def Zbs (K:Nat) (v4:Int×(List (Int×Int))×(List (Int×Int))) (a0:(List Z4)) (v17:Int):Option ((List Int)×Bool) :=
 Ze6 K v4 a0 v17 (Zbt K) K v17 []
def Zbu (K:Nat) (v13:(List Int)) (v4:Int×(List (Int×Int))×(List (Int×Int))) (a0:(List Z4)) (c19:Int→Option ((List Int)×Bool)):Nat→Int→Int→Option ((List Int)×Bool)
 | 0,_,_=>none
 | k16+1,v14,v15 =>
 if (decide (v15<(v13.length:Int)))=true then
 if (0:Int)≤((mget Zv v14 v4.2.2).getD (0:Int))∧((mget Zv v14 v4.2.2).getD (0:Int))<a0.length then
 (Zbu K v13 v4 a0 c19 k16) (a0.getD ((mget Zv v14 v4.2.2).getD (0:Int)).toNat Z8).From (IntKind.i64.wrap (v15+1))
 else none
 else
 c19 v14
noncomputable def Zbr (K:Nat) (a0:(List Z4)) (v4:Int×(List (Int×Int))×(List (Int×Int))) (v9:Int):Option ((List Int)×Bool) :=
 (Zmq K a0).bind fun v13 =>
 Zbu K v13 v4 a0 (Zbs K v4 a0) K v9 0
def Zh3 (K:Nat) (a0:(List Z4)) (v4:Int×(List (Int×Int))×(List (Int×Int))) (c11:Int→Option ((List Int)×Bool)):Nat→Int→Int→Option ((List Int)×Bool)
 | 0,_,_=>none
 | k8+1,v6,v7 =>
 if (decide (v7<(a0.length:Int)))=true then
 if (0:Int)≤((mget Zv v6 v4.2.2).getD (0:Int))∧((mget Zv v6 v4.2.2).getD (0:Int))<a0.length then
 (Zh3 K a0 v4 c11 k8) (a0.getD ((mget Zv v6 v4.2.2).getD (0:Int)).toNat Z8).From (IntKind.i64.wrap (v7+1))
 else none
 else
 c11 v6
noncomputable def F58 (K:Nat) (a0:(List Z4)):Option ((List Int)×Bool) :=
 (Zmq K a0).bind fun v2 =>
 (F129 K a0 v2).bind fun v4 =>
 if (decide (v4.1<0))=true then
 some ([],false)
 else
 if (0:Int)≤v4.1∧v4.1<a0.length then
 Zh3 K a0 v4 (Zbr K a0 v4) K (a0.getD v4.1.toNat Z8).To 0
 else none
theorem F58_ok (K:Nat) (a0:(List Z4)) (r:(List Int)×Bool) (h:F58 K a0=some r):ACall P 58 ⟨[(.sl 3 (a0.map Z9) false)],[],(.tup [(.sl 1 (r.1.map Z7) false),(.bool r.2)]),[],[]⟩:=by
 refine ac Tryz.func58 Tryz.results58 Tryz.ntmps58 fun w0 F0 p0 S0 β0 Q hret=>?_
 dsimp only [argT]
 unfold F58 at h
 refine AWp.seq<|AWp.region ?_
 refine oc (Zh (v:=(.sl 1 [] false)) rfl rfl) ?_
 refine G1 h fun h=>?_
 have⟨v2,hv2,h⟩:=Zd h
 refine oc (Z15 Tryz.call120 (Zbc (h:=hv2))) ?_
 have⟨v4,hv4,h⟩:=Zd h
 refine oc (Z1d (d:=some 15) (c:=⟨_,[],(.tup [(.ag [(.map 15),(.map 80)]),(.int .i64 v4.1)]),[(15,(.map (Zn Z7 Z7 v4.2.1))),(80,(.map (Zn Z7 Z7 v4.2.2)))],[15,80]⟩) (ar:=[_,_,_]) (caps:=[]) (news:=[15,80]) (forg:=[]) Tryz.call129 (((Zop (h:=hv4)).sw 12 15).sw 13 80) rfl rfl ⟨rfl,rfl,rfl,trivial⟩ rfl trivial rfl) ?_
 refine G1 h fun h=>?_
 refine oc (Zm (ds:=[_,_])) ?_
 refine Mc h (fun h=>?_) (fun h=>?_)
 ·refine AWp.seq<|AWp.region ?_
  refine oc (Zh (v:=(.sl 1 [] false)) rfl rfl) ?_
  exact GR
 refine G1 h fun h=>?_
 refine lb (V:=Int×Int) (X:=Int) (v:=(_,_)) (fun k v=>Zh3 K a0 v4 (Zbr K a0 v4) k v.1 v.2=some r) (fun v=>Zbr K a0 v4 v=some r) [(0,_),(4,_),(26,_)] [(4,_),(15,_),(80,_)] [(0,_),(4,_)] [(4,_),(15,_),(80,_)] (fun v t=>(6,(.int .i64 v.1))::(27,(.int .i64 v.2))::t) (fun v s=>s) (fun v t=>(6,(.int .i64 v))::t) (fun v s=>s) h ?_ ?_
 ·intro v h
  revert h
  revert v
  intro v9 h
  try dsimp only at h ⊢
  unfold Zbr at h
  refine G1 h fun h=>?_
  have⟨v13,hv13,h⟩:=Zd h
  refine oc (Z15 Tryz.call120 (Zbc (h:=hv13))) ?_
  refine G1 h fun h=>?_
  refine lb (V:=Int×Int) (X:=Int) (v:=(_,_)) (fun k v=>Zbu K v13 v4 a0 (Zbs K v4 a0) k v.1 v.2=some r) (fun v=>Zbs K v4 a0 v=some r) [(0,_),(4,_),(40,_)] [(4,_),(15,_),(80,_)] [(0,_),(4,_)] [(4,_),(15,_),(80,_)] (fun v t=>(6,(.int .i64 v.1))::(41,(.int .i64 v.2))::t) (fun v s=>s) (fun v t=>(6,(.int .i64 v))::t) (fun v s=>s) h ?_ ?_
  ·intro v h
   revert h
   revert v
   intro v17 h
   try dsimp only at h ⊢
   unfold Zbs at h
   refine At.next<|AWp.seq<|AWp.region ?_
   refine oc (Zh (v:=(.sl 1 [] true)) rfl rfl) ?_
   refine G1 h fun h=>?_
   refine AWp.ghost (fun a w h=>gk ⟨[(0,_),(4,_),(6,_),(7,_),(8,_)],[(4,_),(7,_),(15,_),(80,_)]⟩ (Z38 (k:=7) (m:=7) (sz:=1) (gk ⟨[(7,_),(0,_),(4,_),(6,_),(8,_)],[(4,_),(15,_),(80,_)]⟩ h))) ?_
   refine lb (V:=Int×(List Int)) (X:=(List Int)) (v:=(_,_)) (fun k v=>Ze6 K v4 a0 v17 (Zbt K) k v.1 v.2=some r) (fun v=>Zbt K v=some r) [(0,_),(4,_),(6,_),(7,_)] [(4,_),(15,_),(80,_)] [(7,_)] [] (fun v t=>(8,(.int .i64 v.1))::t) (fun v s=>(7,(.vec 1 (List.map Z7 v.2)))::s) (fun v t=>t) (fun v s=>(7,(.vec 1 (List.map Z7 v)))::s) h ?_ ?_
   ·intro v h
    revert h
    revert v
    intro v23 h
    try dsimp only at h ⊢
    unfold Zbt at h
    refine G1 h fun h=>?_
    have⟨v27,hv27,h⟩:=Zd h
    refine oc (Z1d (d:=some 70) (c:=⟨_,[(7,_)],(.tup []),[(7,(.vec 1 (List.map Z7 v27)))],[]⟩) (ar:=[_]) (caps:=[]) (news:=[]) (forg:=[]) Tryz.call131 ((Zrs (h:=hv27)).sw 2000 7) rfl rfl ⟨rfl,trivial⟩ rfl ⟨rfl,trivial⟩ rfl) ?_
    refine G1 h fun h=>?_
    have⟨v29,hv29,h⟩:=Zd h
    refine oc (Z2r (rd:=[(7,(.vec 1 (List.map Z7 v27)))]) (ar:=[_]) Tryz.call132 (F132_ok (h:=hv29)) rfl rfl ⟨rfl,trivial⟩ (Z2f ⟨rfl,trivial⟩) rfl rfl rfl) ?_
    have⟨v31,hv31,h⟩:=Zd h
    refine oc (Z2r (rd:=[(7,(.vec 1 (List.map Z7 v27)))]) (ar:=[_,_]) Tryz.call126 (F126_ok (h:=hv31)) rfl rfl ⟨rfl,rfl,trivial⟩ (Z2f ⟨rfl,trivial⟩) rfl rfl rfl) ?_
    refine G2 h fun h=>?_
    refine At.next<|AWp.seq<|AWp.ghost (fun a w h=>gk ⟨[(7,_),(10,_)],[]⟩ (Z1j (m:=7) (sz:=1) (gk ⟨[(7,_),(10,_)],[(7,_)]⟩ h))) ?_
    refine G1 h fun h=>?_
    have⟨hg32,h⟩:=Zg h
    refine oD (Zsy (l:=v27) (enc:=Z7) (kl:=.i64) (lo:=v31) rfl s38 rfl rfl hg32) ?_
    refine G1 h fun h=>?_
    have⟨hg33,h⟩:=Zg h
    refine oD (Zsx (l:=v27) (enc:=Z7) (kh:=.i64) (hi:=v31) rfl s38 rfl rfl hg33) ?_
    refine oD (Zj (vs:=[_,_]) (enc:=Z19) (l:=[(v27.drop v31.toNat),(v27.take v31.toNat)]) rfl Zs5 rfl rfl ⟨rfl,rfl,trivial⟩ rfl Z6m rfl rfl rfl rfl) ?_
    have⟨v35,hv35,h⟩:=Zd h
    refine oD (Z9w (enc:=Z7) (l:=v35) (rd:=[(81,(.vec 1 (List.map Z19 [(v27.drop v31.toNat),(v27.take v31.toNat)])))]) (ar:=[_]) (caps:=[]) Tryz.call133 ((F133_ok (h:=hv35)).sw 2 82) rfl rfl ⟨rfl,trivial⟩ (Z2f ⟨rfl,trivial⟩) rfl rfl (fun _=>rfl)) ?_
    refine G1 h fun h=>?_
    refine AWp.ret<|At.ghost (fun a w h=>gk ⟨[(2,_),(3,_)],[]⟩ (Z1j (m:=82) (sz:=1) (gk ⟨[(2,_),(3,_)],[(82,_)]⟩ h))) ?_
    exact RT
   intro N k22 v h IH22 J22
   obtain⟨v20,v21⟩:=v
   try dsimp only at h IH22 J22 ⊢
   cases k22 with
   | zero=>cases h
   | succ k22 =>
    rw [Ze6] at h
    refine AWp.block ?_
    refine G1 h fun h=>?_
    refine oc (Z2h (a:=v20) rfl Z4x rfl rfl (.inl rfl) rfl rfl) ?_
    refine G1 h fun h=>?_
    refine oD (Zj (vs:=[_]) (enc:=Z7) (l:=[((mget Zv v20 v4.2.2).getD (0:Int))]) rfl Z65 rfl rfl ⟨rfl,trivial⟩ rfl Z1u rfl rfl rfl rfl) ?_
    have⟨hg37,h⟩:=Zg h
    refine oD (Z1g (m:=7) rfl rfl Z65 rfl u38 rfl rfl rfl rfl (oneRead rfl) Z1u hg37) ?_
    refine Mc h (fun h=>?_) (fun h=>?_)
    ·refine AWp.exit<|At.over I ?_
     exact wkx (J22 _ h)
    refine AWp.skip<|Z17 ?_
    exact wkx (IH22 _ (_,_) Z1p h)
  intro N k16 v h IH16 J16
  obtain⟨v14,v15⟩:=v
  try dsimp only at h IH16 J16 ⊢
  cases k16 with
  | zero=>cases h
  | succ k16 =>
   rw [Zbu] at h
   refine Mc h (fun h=>?_) (fun h=>?_)
   ·refine AWp.skip<|At.next<|AWp.seq<|AWp.block ?_
    refine G1 h fun h=>?_
    refine oc (Z2h (a:=v14) rfl Z4x rfl rfl (.inl rfl) rfl rfl) ?_
    refine G2 h fun h=>?_
    refine Z17<|At.next ?_
    exact M2 h (k:=fun h=>wkx (IH16 _ (_,_) Z1p h))
   refine AWp.exit<|Zz ?_
   exact wkx (J16 _ h)
 intro N k8 v h IH8 J8
 obtain⟨v6,v7⟩:=v
 try dsimp only at h IH8 J8 ⊢
 cases k8 with
 | zero=>cases h
 | succ k8 =>
  rw [Zh3] at h
  refine Mc h (fun h=>?_) (fun h=>?_)
  ·refine AWp.skip<|At.next<|AWp.seq<|AWp.block ?_
   refine G1 h fun h=>?_
   refine oc (Z2h (a:=v6) rfl Z4x rfl rfl (.inl rfl) rfl rfl) ?_
   refine G2 h fun h=>?_
   refine Z17<|At.next ?_
   exact M2 h (k:=fun h=>wkx (IH8 _ (_,_) Z1p h))
  refine AWp.exit<|Zz ?_
  exact wkx (J8 _ h)
end Go.AM.Tp
