/- What these functions compute, each with its walk: F120, F78, F34, F112, F121, F80, F79, F35, F81, F36, F8. -/
import Derived.Test.YtkhbjnkckblkjaaGreatTopZT
import Derived.Test.YtkhbjnkckblkjaaGreatTopZG1
import Derived.Test.YtkhbjnkckblkjaaGreatTopZG2
import Derived.Test.YtkhbjnkckblkjaaGreatTopZG3
import Derived.Test.YtkhbjnkckblkjaaGreatTopZG6
namespace Go.AM.TopZ
open Go Go.AM Go.Proofs
set_option maxRecDepth 100000
set_option maxHeartbeats 2000000
def F120_c3 (K : Nat) : Option (Bool) :=
 some true
def F120_l2 (K : Nat) (a0 : (List Zv)) (a1 : (List Zv)) (c4 : Option (Bool)) : Nat → Int → Option (Bool)
 | 0, _ => none
 | k2 + 1, v1 =>
  if (decide (v1 < (a0.length : Int))) = true then
   if (0 : Int) ≤ v1 ∧ v1 < a0.length then
    if (0 : Int) ≤ v1 ∧ v1 < a1.length then
     if (!(((a0.getD v1.toNat Zd).From == (a1.getD v1.toNat Zd).From) && (((a0.getD v1.toNat Zd).To == (a1.getD v1.toNat Zd).To) && true))) = true then
      some false
     else
      (F120_l2 K a0 a1 c4 k2) (IntKind.i64.wrap (v1 + 1))
    else none
   else none
  else
   c4
def F120 (K : Nat) (a0 : (List Zv)) (a1 : (List Zv)) : Option (Bool) :=
 if ((a0.length : Int) != (a1.length : Int)) = true then
  some false
 else
  F120_l2 K a0 a1 (F120_c3 K) K 0
theorem F120_ok (K : Nat) (a0 : (List Zv)) (a1 : (List Zv)) (r : Bool) (h : F120 K a0 a1 = some r) : ACall P 120 ⟨[(.sl 2 (a0.map Zg) false), (.sl 2 (a1.map Zg) false)], [], (.bool r), [], []⟩ := by
 refine Z1n Tryz.func120 Tryz.results120 rfl Tryz.ntmps120 rfl rfl rfl ?_
 intro E Q hP hN hro hret
 obtain ⟨P', nt', w0, F0, p0, S0, β0, ro0⟩ := E
 simp only at hP hN
 subst hP hN
 dsimp only [argT]
 unfold F120 at h
 refine Zi <| Za <| Z1 I (Zk (v := (.bool false)) I I) I <| Zf <| Zh <| Zi <| Zi <| Za ?_
 refine Z1 I (Zj (v := (.sl 2 (a0.map Zg) false)) I I) I <| Z1 I (stx_len (l := a0) (enc := Zg) I s81 I) I <| Z1 I (Zj (v := (.sl 2 (a1.map Zg) false)) I I) I <| Z1 I (stx_len (l := a1) (enc := Zg) I s81 I) I <| Z1 I (Z1t (k := .i64) (a := (a0.length : Int)) (b := (a1.length : Int)) (c := ((a0.length : Int) != (a1.length : Int))) I I I I) I <| Zf <| Zh ?_
 have hif := of_if h
 refine Z15 I (fun hc => ?_) (fun hc => ?_)
 ·have h := hif.1 hc
  refine Zi <| Za <| Z1 I (Zk (v := (.bool false)) I I) I <| Zf <| Zh <| Z1a <| Z1f ?_
  have h := Option.some.inj h
  subst h
  refine (hret _ ?_).1
  exact ⟨[(.bool false)], ⟨rfl, trivial⟩, rfl, trivial⟩
 ·have h := hif.2 hc
  refine Z17 <| Zh <| Zi <| Zi <| Za <| Z1 I (Zj (v := (.sl 2 (a0.map Zg) false)) I I) I <| Z1 I (stx_len (l := a0) (enc := Zg) I s81 I) I <| Z1 I (Zj (v := (.int .i64 0)) I I) I ?_
  refine Zf <| Zh <| Z1r (st' := ⟨[(0, (.sl 2 (a0.map Zg) false)), (1, (.sl 2 (a1.map Zg) false)), (12, (.int .i64 (a0.length : Int))), (13, (.int .i64 0))], []⟩) ⟨rfl, rfl, rfl, rfl, trivial⟩ trivial ?_
  refine Z1g (V := Int) (X := Unit) (lp := fun k v => F120_l2 K a0 a1 (F120_c3 K) k v = some r) (sh := fun v => ⟨[(0, (.sl 2 (a0.map Zg) false)), (1, (.sl 2 (a1.map Zg) false)), (12, (.int .i64 (a0.length : Int))), (13, (.int .i64 v))], []⟩) (x := fun v => F120_c3 K = some r) (shx := fun v => ⟨[], []⟩) (k := K) (v := 0) h ?_ ?_
  ·intro v h
   try dsimp only at h ⊢
   unfold F120_c3 at h
   refine Zh <| Zi <| Za <| Z1 I (Zk (v := (.bool true)) I I) I <| Zf <| Zh <| Z1a ?_
   have h := Option.some.inj h
   subst h
   refine (hret _ ?_).1
   exact ⟨[(.bool true)], ⟨rfl, trivial⟩, rfl, trivial⟩
  ·intro N k2 v h IH2 J2
   revert h
   revert v
   intro v1 h
   try dsimp only at h IH2 J2 ⊢
   cases k2 with
   | zero => cases h
   | succ k2 =>
    rw [F120_l2] at h
    refine Zi <| Za <| Z1 I (Z1t (k := .i64) (a := v1) (b := (a0.length : Int)) (c := (decide (v1 < (a0.length : Int)))) I I I I) I <| Zf <| Zh <| Zi ?_
    have hif := of_if h
    refine Z15 I (fun hc => ?_) (fun hc => ?_)
    ·have h := hif.1 hc
     refine Z17 <| Zh <| Zi <| AWp.block <| Zi <| Za <| Z1 I (Zj (v := (.int .i64 v1)) I I) I <| Z1 I (Zk (v := (.int .i64 v1)) I I) I ?_
     refine Zf <| Zh <| Zi <| Z1w mixed <| Z8 0 I (Zj (v := (.sl 2 (a0.map Zg) false)) I I) <| Z8 1 I (Zj (v := (.int .i64 v1)) I I) ?_
     have ⟨hg6, h⟩ := Zy h
     refine Z8 2 I (Z1s (k := .i64) (l := a0) (enc := Zg) (z := Zd) (n := v1) (cs := (Zg (a0.getD v1.toNat Zd)).cells) (full := false) I s81 I I hg6 I) <| Z8 3 I (st_loadIA (cs := (Zg (a0.getD v1.toNat Zd)).cells) (vs := (Zg (a0.getD v1.toNat Zd)).cells) I a86 I I I) <| Z8 4 I (Zj (v := (.sl 2 (a1.map Zg) false)) I I) <| Z8 5 I (Zj (v := (.int .i64 v1)) I I) ?_
     have ⟨hg7, h⟩ := Zy h
     refine Z8 6 I (Z1s (k := .i64) (l := a1) (enc := Zg) (z := Zd) (n := v1) (cs := (Zg (a1.getD v1.toNat Zd)).cells) (full := false) I s81 I I hg7 I) <| Z8 7 I (st_loadIA (cs := (Zg (a1.getD v1.toNat Zd)).cells) (vs := (Zg (a1.getD v1.toNat Zd)).cells) I a86 I I I) <| Z8 8 I (st_cmpA (xs := (Zg (a0.getD v1.toNat Zd)).cells) (ys := (Zg (a1.getD v1.toNat Zd)).cells) (b := (((a0.getD v1.toNat Zd).From == (a1.getD v1.toNat Zd).From) && (((a0.getD v1.toNat Zd).To == (a1.getD v1.toNat Zd).To) && true))) (c := (!(((a0.getD v1.toNat Zd).From == (a1.getD v1.toNat Zd).From) && (((a0.getD v1.toNat Zd).To == (a1.getD v1.toNat Zd).To) && true)))) I eq86 I I I I) <| AOpsD.nil (by kernel_rfl) I <| Zh ?_
     have hif := of_if h
     refine Z15 I (fun hc => ?_) (fun hc => ?_)
     ·have h := hif.1 hc
      refine Zi <| Za <| Z1 I (Zk (v := (.bool false)) I I) I <| Zf <| Zh <| Z1a <| At.overR <| Z1f ?_
      refine Z1f (At.overR ?_)
      refine Z1f ?_
      have h := Option.some.inj h
      subst h
      refine (hret _ ?_).1
      exact ⟨[(.bool false)], ⟨rfl, trivial⟩, rfl, trivial⟩
     ·have h := hif.2 hc
      refine Z17 <| At.end <| Zh <| Za <| Z1 I (Z1o (k := .i64) (a := v1) (b := 1) (c := (IntKind.i64.wrap (v1 + 1))) I I I I) I <| Z1 I (Zj (v := (.int .i64 (IntKind.i64.wrap (v1 + 1)))) I I) I <| Zf ?_
      exact Zw (st' := ⟨[(0, (.sl 2 (a0.map Zg) false)), (1, (.sl 2 (a1.map Zg) false)), (12, (.int .i64 (a0.length : Int))), (13, (.int .i64 (IntKind.i64.wrap (v1 + 1))))], []⟩) ⟨rfl, rfl, rfl, rfl, trivial⟩ trivial (IH2 _ (IntKind.i64.wrap (v1 + 1)) (Nat.lt_succ_self _) h)
    ·have h := hif.2 hc
     refine AWp.exit <| At.thru ?_
     exact Zw (st' := ⟨[], []⟩) trivial trivial (J2 () h)
def F78 (K : Nat) (a0 : Z1e) (a1 : Z1e) : Option (Bool) :=
 if (a0.Count == a1.Count) = true then
  (F120 K a0.Edges a1.Edges).bind fun v2 =>
   some v2
 else
  some false
theorem F78_ok (K : Nat) (a0 : Z1e) (a1 : Z1e) (r : Bool) (h : F78 K a0 a1 = some r) : ACall P 78 ⟨[(Zr a0), (Zr a1)], [], (.bool r), [], []⟩ := by
 refine Z1n Tryz.func78 Tryz.results78 rfl Tryz.ntmps78 rfl rfl rfl ?_
 intro E Q hP hN hro hret
 obtain ⟨P', nt', w0, F0, p0, S0, β0, ro0⟩ := E
 simp only at hP hN
 subst hP hN
 dsimp only [argT]
 unfold F78 at h
 refine Zi <| Za <| Z1 I (st_box (v := (Zr a0)) (cs := (Zr a0).cells) I I I I I) I <| Z1 I (st_box (v := (Zr a1)) (cs := (Zr a1).cells) I I I I I) I <| Z1 I (Zk (v := (.bool false)) I I) I <| Zf <| Zh <| Zi ?_
 refine Za <| Z1 I (Zq (m := 2) (o := 0) I f83_0 I I) I <| Z1 I (Zt (cs := (Zr a0).cells) (v := (.int .i64 a0.Count)) I o3 I I I) I <| Z1 I (Zq (m := 3) (o := 0) I f83_0 I I) I <| Z1 I (Zt (cs := (Zr a1).cells) (v := (.int .i64 a1.Count)) I o3 I I I) I <| Z1 I (Z1t (k := .i64) (a := a0.Count) (b := a1.Count) (c := (a0.Count == a1.Count)) I I I I) I <| Z1 I (Zj (v := (.bool (a0.Count == a1.Count))) I I) I ?_
 have hif := of_if h
 refine AOps.split (fun hc => ?_) (fun hc => ?_)
 ·have h := hif.1 hc
  refine Zz I I I I (Zq (m := 2) (o := 0) I f83_1 I I) I <| Zz I I I I (Zt (cs := (Zr a0).cells) (v := (.sl 2 (a0.Edges.map Zg) false)) I o81 I I I) I <| Zz I I I I (Zq (m := 3) (o := 0) I f83_1 I I) I <| Zz I I I I (Zt (cs := (Zr a1).cells) (v := (.sl 2 (a1.Edges.map Zg) false)) I o81 I I I) I ?_
  have ⟨v2, hv2, h⟩ := Z1d h
  refine Zz I I I I (Z1h (ar := [(.sl 2 (a0.Edges.map Zg) false), (.sl 2 (a1.Edges.map Zg) false)]) (caps := []) Tryz.call120 (F120_ok K a0.Edges a1.Edges v2 hv2) I I ⟨rfl, rfl, trivial⟩ I) I <| Z1 I (st_pickT (v := (.bool v2)) I I I) I <| Z1 I (Zk (v := (.bool v2)) I I) I <| Zf <| Zh <| Z1a ?_
  have h := Option.some.inj h
  subst h
  refine (hret _ ?_).1
  exact ⟨[(.bool v2)], ⟨rfl, trivial⟩, rfl, trivial⟩
 ·have h := hif.2 hc
  refine Zu I I I I I I I <| Zu I I I I I I I <| Zu I I I I I I I <| Zu I I I I I I I <| Zu I I I I I I I <| Z1 I (st_pickF (v := (.bool false)) I I I) I <| Z1 I (Zk (v := (.bool false)) I I) I <| Zf ?_
  refine Zh <| Z1a ?_
  have h := Option.some.inj h
  subst h
  refine (hret _ ?_).1
  exact ⟨[(.bool false)], ⟨rfl, trivial⟩, rfl, trivial⟩
def F34 (K : Nat) (a0 : Z1e) : Option (Int) :=
 (F77 K a0.Count a0.Edges).bind fun v2 =>
  if (v2.2 != 0) = true then
   some v2.2
  else
   (F78 K v2.1 a0).bind fun v4 =>
    if (!v4) = true then
     some 8
    else
     some 0
theorem F34_ok (K : Nat) (a0 : Z1e) (r : Int) (h : F34 K a0 = some r) : ACall P 34 ⟨[(Zr a0)], [], (.int .i64 r), [], []⟩ := by
 refine Z1n Tryz.func34 Tryz.results34 rfl Tryz.ntmps34 rfl rfl rfl ?_
 intro E Q hP hN hro hret
 obtain ⟨P', nt', w0, F0, p0, S0, β0, ro0⟩ := E
 simp only at hP hN
 subst hP hN
 dsimp only [argT]
 unfold F34 at h
 refine Zi <| Za <| Z1 I (st_box (v := (Zr a0)) (cs := (Zr a0).cells) I I I I I) I <| Z1 I (Zk (v := (.int .i64 0)) I I) I <| Zf <| Zh <| Zi <| Za ?_
 refine Z1 I (Zq (m := 1) (o := 0) I f83_0 I I) I <| Z1 I (Zt (cs := (Zr a0).cells) (v := (.int .i64 a0.Count)) I o3 I I I) I <| Z1 I (Zq (m := 1) (o := 0) I f83_1 I I) I <| Z1 I (Zt (cs := (Zr a0).cells) (v := (.sl 2 (a0.Edges.map Zg) false)) I o81 I I I) I ?_
 have ⟨v2, hv2, h⟩ := Z1d h
 refine Z1 I (Z1h (ar := [(.int .i64 a0.Count), (.sl 2 (a0.Edges.map Zg) false)]) (caps := []) Tryz.call77 (F77_ok K a0.Count a0.Edges v2 hv2) I I ⟨rfl, rfl, trivial⟩ I) I <| Z1 I (Zj (v := (.tup [(Zr v2.1), (.int .i64 v2.2)])) I I) I <| Z1 I (st_extract (vs := [(Zr v2.1), (.int .i64 v2.2)]) (v := (Zr v2.1)) I I I) I <| Z1 I (st_extract (vs := [(Zr v2.1), (.int .i64 v2.2)]) (v := (.int .i64 v2.2)) I I I) I <| Z1 I (st_alloc (cs := [(.int .i64 0), (.sl 2 [] false)]) I z83 I I I) I <| Z1 I (Z1i (cs := [(.int .i64 0), (.sl 2 [] false)]) (vs := (Zr v2.1).cells) (ds := (Zr v2.1).cells) (v := (Zr v2.1)) sz83 I I I I I I I I) I <| Z1 I (Zk (v := (.int .i64 v2.2)) I I) I <| Zf ?_
 refine Zh <| Zi <| Zi <| Za <| Z1 I (Zj (v := (.int .i64 v2.2)) I I) I <| Z1 I (Z1t (k := .i64) (a := v2.2) (b := 0) (c := (v2.2 != 0)) I I I I) I <| Zf <| Zh ?_
 have hif := of_if h
 refine Z15 I (fun hc => ?_) (fun hc => ?_)
 ·have h := hif.1 hc
  refine Zi <| Za <| Z1 I (Zj (v := (.int .i64 v2.2)) I I) I <| Z1 I (Zk (v := (.int .i64 v2.2)) I I) I <| Zf <| Zh <| Z1a <| Z1f ?_
  have h := Option.some.inj h
  subst h
  refine (hret _ ?_).1
  exact ⟨[(.int .i64 v2.2)], ⟨rfl, trivial⟩, rfl, trivial⟩
 ·have h := hif.2 hc
  refine Z17 <| Zh <| Zi <| Zi <| Za <| Z1 I (Z1p (cs := (Zr v2.1).cells) (vs := (Zr v2.1).cells) I a83 I I I I) I <| Z1 I (Z1p (cs := (Zr a0).cells) (vs := (Zr a0).cells) I a83 I I I I) I ?_
  have ⟨v4, hv4, h⟩ := Z1d h
  refine Z1 I (Z1h (ar := [(Zr v2.1), (Zr a0)]) (caps := []) Tryz.call78 (F78_ok K v2.1 a0 v4 hv4) I I ⟨rfl, rfl, trivial⟩ I) I <| Z1 I (st_not (b := v4) I I) I <| Zf <| Zh ?_
  have hif := of_if h
  refine Z15 I (fun hc => ?_) (fun hc => ?_)
  ·have h := hif.1 hc
   refine Zi <| Za <| Z1 I (Zk (v := (.int .i64 8)) I I) I <| Zf <| Zh <| Z1a <| Z1f ?_
   have h := Option.some.inj h
   subst h
   refine (hret _ ?_).1
   exact ⟨[(.int .i64 8)], ⟨rfl, trivial⟩, rfl, trivial⟩
  ·have h := hif.2 hc
   refine Z17 <| Zh <| Zi <| Za <| Z1 I (Zk (v := (.int .i64 0)) I I) I <| Zf <| Zh <| Z1a ?_
   have h := Option.some.inj h
   subst h
   refine (hret _ ?_).1
   exact ⟨[(.int .i64 0)], ⟨rfl, trivial⟩, rfl, trivial⟩
def F112_c20 (K : Nat) (v19 : (List Int)) : Option ((List Int)) :=
 some v19
def F112_c34 (K : Nat) (b22 : (List Int) → (List Int) → Option ((List Int))) (v32 : (List Int)) (v33 : (List Int)) : Option ((List Int)) :=
 b22 v32 v33
def F112_j39 (K : Nat) (b36 : Int → (List Int) → (List Int) → Option ((List Int))) (v28 : Int) (v37 : (List Int)) (v38 : (List Int)) : Option ((List Int)) :=
 b36 (IntKind.i64.wrap (v28 + 1)) v37 v38
def F112_j45 (K : Nat) (b36 : Int → (List Int) → (List Int) → Option ((List Int))) (v28 : Int) (v43 : (List Int)) (v44 : (List Int)) : Option ((List Int)) :=
 F112_j39 K b36 v28 v43 v44
def F112_l31 (K : Nat) (a0 : (List (List Int))) (v17 : (List Int)) (a2 : Int) (c35 : (List Int) → (List Int) → Option ((List Int))) : Nat → Int → (List Int) → (List Int) → Option ((List Int))
 | 0, _, _, _ => none
 | k31 + 1, v28, v29, v30 =>
  if (decide (v28 < ((a0.getD (v17.getD (0 : Int).toNat 0).toNat []).length : Int))) = true then
   if (0 : Int) ≤ v28 ∧ v28 < (a0.getD (v17.getD (0 : Int).toNat 0).toNat []).length then
    if (((a0.getD (v17.getD (0 : Int).toNat 0).toNat []).getD v28.toNat 0) != a2) = true then
     if (0 : Int) ≤ ((a0.getD (v17.getD (0 : Int).toNat 0).toNat []).getD v28.toNat 0) ∧ ((a0.getD (v17.getD (0 : Int).toNat 0).toNat []).getD v28.toNat 0) < (v29.length : Nat) then
      if ((a0.getD (v17.getD (0 : Int).toNat 0).toNat []).getD v28.toNat 0).toNat < v29.length then
       if (decide ((v29.getD ((a0.getD (v17.getD (0 : Int).toNat 0).toNat []).getD v28.toNat 0).toNat 0) < 0)) = true then
        if (0 : Int) ≤ (v17.getD (0 : Int).toNat 0) ∧ (v17.getD (0 : Int).toNat 0) < (v29.length : Nat) then
         if (v17.getD (0 : Int).toNat 0).toNat < v29.length then
          if (0 : Int) ≤ ((a0.getD (v17.getD (0 : Int).toNat 0).toNat []).getD v28.toNat 0) ∧ ((a0.getD (v17.getD (0 : Int).toNat 0).toNat []).getD v28.toNat 0) < (v29.length : Nat) then
           if ((a0.getD (v17.getD (0 : Int).toNat 0).toNat []).getD v28.toNat 0).toNat < v29.length then
            if v30.length + ([((a0.getD (v17.getD (0 : Int).toNat 0).toNat []).getD v28.toNat 0)]).length ≤ 1073741824 then
             F112_j45 K (F112_l31 K a0 v17 a2 c35 k31) v28 (v29.set ((a0.getD (v17.getD (0 : Int).toNat 0).toNat []).getD v28.toNat 0).toNat (IntKind.i64.wrap ((v29.getD (v17.getD (0 : Int).toNat 0).toNat 0) + 1))) (v30 ++ ([((a0.getD (v17.getD (0 : Int).toNat 0).toNat []).getD v28.toNat 0)]))
            else none
           else none
          else none
         else none
        else none
       else
        F112_j45 K (F112_l31 K a0 v17 a2 c35 k31) v28 v29 v30
      else none
     else none
    else
     F112_j39 K (F112_l31 K a0 v17 a2 c35 k31) v28 v29 v30
   else none
  else
   c35 v29 v30
def F112_l18 (K : Nat) (a0 : (List (List Int))) (a2 : Int) (c21 : (List Int) → Option ((List Int))) : Nat → (List Int) → (List Int) → Option ((List Int))
 | 0, _, _ => none
 | k18 + 1, v16, v17 =>
  if (decide ((v17.length : Int) > 0)) = true then
   if (0 : Int) ≤ 0 ∧ (0 : Int) < (v17.length : Nat) then
    if (0 : Int).toNat < v17.length then
     if (0 : Int) ≤ 1 ∧ 1 ≤ (v17.length : Int) ∧ (v17.length : Int) ≤ (v17.length : Nat) then
      if (0 + (1 : Int).toNat) + ((v17.length : Int).toNat - (1 : Int).toNat) ≤ v17.length then
       if (0 : Int) ≤ (v17.getD (0 : Int).toNat 0) ∧ (v17.getD (0 : Int).toNat 0) < a0.length then
        if (0 + (1 : Int).toNat) + ((v17.length : Int).toNat - (1 : Int).toNat) ≤ v17.length then
         F112_l31 K a0 v17 a2 (F112_c34 K (F112_l18 K a0 a2 c21 k18)) K 0 v16 ((v17.drop (0 + (1 : Int).toNat)).take ((v17.length : Int).toNat - (1 : Int).toNat))
        else none
       else none
      else none
     else none
    else none
   else none
  else
   c21 v16
def F112_c14 (K : Nat) (a0 : (List (List Int))) (a2 : Int) (v12 : (List Int)) (v13 : (List Int)) : Option ((List Int)) :=
 F112_l18 K a0 a2 (F112_c20 K) K v12 v13
def F112_j55 (K : Nat) (b52 : Int → (List Int) → (List Int) → Option ((List Int))) (v8 : Int) (v53 : (List Int)) (v54 : (List Int)) : Option ((List Int)) :=
 b52 (IntKind.i64.wrap (v8 + 1)) v53 v54
def F112_j61 (K : Nat) (b52 : Int → (List Int) → (List Int) → Option ((List Int))) (v8 : Int) (v59 : (List Int)) (v60 : (List Int)) : Option ((List Int)) :=
 F112_j55 K b52 v8 v59 v60
def F112_l11 (K : Nat) (a1 : (List Int)) (a2 : Int) (c15 : (List Int) → (List Int) → Option ((List Int))) : Nat → Int → (List Int) → (List Int) → Option ((List Int))
 | 0, _, _, _ => none
 | k11 + 1, v8, v9, v10 =>
  if (decide (v8 < (a1.length : Int))) = true then
   if (0 : Int) ≤ v8 ∧ v8 < a1.length then
    if ((a1.getD v8.toNat 0) != a2) = true then
     if (0 : Int) ≤ (a1.getD v8.toNat 0) ∧ (a1.getD v8.toNat 0) < (v9.length : Nat) then
      if (a1.getD v8.toNat 0).toNat < v9.length then
       if (decide ((v9.getD (a1.getD v8.toNat 0).toNat 0) < 0)) = true then
        if (0 : Int) ≤ (a1.getD v8.toNat 0) ∧ (a1.getD v8.toNat 0) < (v9.length : Nat) then
         if (a1.getD v8.toNat 0).toNat < v9.length then
          if v10.length + [(a1.getD v8.toNat 0)].length ≤ 1073741824 then
           F112_j61 K (F112_l11 K a1 a2 c15 k11) v8 (v9.set (a1.getD v8.toNat 0).toNat 0) (v10 ++ [(a1.getD v8.toNat 0)])
          else none
         else none
        else none
       else
        F112_j61 K (F112_l11 K a1 a2 c15 k11) v8 v9 v10
      else none
     else none
    else
     F112_j55 K (F112_l11 K a1 a2 c15 k11) v8 v9 v10
   else none
  else
   c15 v9 v10
def F112_c6 (K : Nat) (a1 : (List Int)) (a2 : Int) (a0 : (List (List Int))) (v5 : (List Int)) : Option ((List Int)) :=
 F112_l11 K a1 a2 (F112_c14 K a0 a2) K 0 v5 []
def F112_l4 (K : Nat) (a0 : (List (List Int))) (c7 : (List Int) → Option ((List Int))) : Nat → Int → (List Int) → Option ((List Int))
 | 0, _, _ => none
 | k4 + 1, v2, v3 =>
  if (decide (v2 < ((List.replicate (a0.length : Int).toNat (0 : Int)).length : Int))) = true then
   if (0 : Int) ≤ v2 ∧ v2 < (v3.length : Nat) then
    if v2.toNat < v3.length then
     (F112_l4 K a0 c7 k4) (IntKind.i64.wrap (v2 + 1)) (v3.set v2.toNat (Int.negSucc 0))
    else none
   else none
  else
   c7 v3
def F112 (K : Nat) (a0 : (List (List Int))) (a1 : (List Int)) (a2 : Int) : Option ((List Int)) :=
 if (0 : Int) ≤ (a0.length : Int) ∧ (a0.length : Int) ≤ (a0.length : Int) ∧ (a0.length : Int) ≤ 1073741824 then
  F112_l4 K a0 (F112_c6 K a1 a2 a0) K 0 (List.replicate (a0.length : Int).toNat (0 : Int))
 else none
theorem F112_ok (K : Nat) (a0 : (List (List Int))) (a1 : (List Int)) (a2 : Int) (r : (List Int)) (h : F112 K a0 a1 a2 = some r) : ACall P 112 ⟨[(.sl 1 (a0.map e_l_i64) false), (.sl 1 (a1.map Z18) false), (.int .i64 a2)], [], (.sl 1 (r.map Z18) false), [], []⟩ := by
 refine Z1n Tryz.func112 Tryz.results112 rfl Tryz.ntmps112 rfl rfl rfl ?_
 intro E Q hP hN hro hret
 obtain ⟨P', nt', w0, F0, p0, S0, β0, ro0⟩ := E
 simp only at hP hN
 subst hP hN
 dsimp only [argT]
 unfold F112 at h
 refine Zi <| Za <| Z1 I (Zk (v := (.sl 1 [] false)) I I) I <| Zf <| Zh <| Zi <| Za <| Z1 I (Zj (v := (.sl 1 (a0.map e_l_i64) false)) I I) I ?_
 refine Z1 I (stx_len (l := a0) (enc := e_l_i64) I s168 I) I ?_
 have ⟨hg1, h⟩ := Zy h
 refine Z1 I (st_makeSlice (kx := .i64) (ky := .i64) (a := (a0.length : Int)) (c := (a0.length : Int)) (n := (a0.length : Int).toNat) I el65 I ze3 els_i64 I I I hg1 I) I <| Z1 I (Zk (v := (.vs 17)) I I) I <| Zf <| Zh <| Zi <| Zi <| Za <| Z1 I (Zj (v := (.vs 17)) I I) I ?_
 refine Z1 I (stx_lenV (l := (List.replicate (a0.length : Int).toNat (0 : Int))) (enc := Z18) I u65 I I) I <| Z1 I (Zj (v := (.int .i64 0)) I I) I <| Zf <| Zh <| AWp.ghost (st' := ⟨[(0, (.sl 1 (a0.map e_l_i64) false)), (1, (.sl 1 (a1.map Z18) false)), (2, (.int .i64 a2)), (7, (.vs 7)), (19, (.int .i64 ((List.replicate (a0.length : Int).toNat (0 : Int)).length : Int))), (20, (.int .i64 0))], [(7, (.vec 1 (List.map Z18 (List.replicate (a0.length : Int).toNat (0 : Int)))))]⟩) (fun a w h => (Z19 ⟨[(0, (.sl 1 (a0.map e_l_i64) false)), (1, (.sl 1 (a1.map Z18) false)), (2, (.int .i64 a2)), (7, (.vs 7)), (19, (.int .i64 ((List.replicate (a0.length : Int).toNat (0 : Int)).length : Int))), (20, (.int .i64 0))], [(7, (.vec 1 (List.map Z18 (List.replicate (a0.length : Int).toNat (0 : Int)))))]⟩ (ghost_sw (a := 17) (b := 7) I I a w (Z19 ⟨[(0, (.sl 1 (a0.map e_l_i64) false)), (1, (.sl 1 (a1.map Z18) false)), (2, (.int .i64 a2)), (7, (.vs 17)), (19, (.int .i64 ((List.replicate (a0.length : Int).toNat (0 : Int)).length : Int))), (20, (.int .i64 0))], [(17, (.vec 1 (List.map Z18 (List.replicate (a0.length : Int).toNat (0 : Int)))))]⟩ h ⟨rfl, rfl, rfl, rfl, rfl, rfl, trivial⟩ ⟨rfl, trivial⟩)) ⟨rfl, rfl, rfl, rfl, rfl, rfl, trivial⟩ ⟨rfl, trivial⟩)) <| Z1r (st' := ⟨[(0, (.sl 1 (a0.map e_l_i64) false)), (1, (.sl 1 (a1.map Z18) false)), (2, (.int .i64 a2)), (7, (.vs 7)), (19, (.int .i64 ((List.replicate (a0.length : Int).toNat (0 : Int)).length : Int))), (20, (.int .i64 0))], [(7, (.vec 1 (List.map Z18 (List.replicate (a0.length : Int).toNat (0 : Int)))))]⟩) ⟨rfl, rfl, rfl, rfl, rfl, rfl, trivial⟩ ⟨rfl, trivial⟩ ?_
 refine Z1g (V := Int × (List Int)) (X := (List Int)) (lp := fun k v => F112_l4 K a0 (F112_c6 K a1 a2 a0) k v.1 v.2 = some r) (sh := fun v => ⟨[(0, (.sl 1 (a0.map e_l_i64) false)), (1, (.sl 1 (a1.map Z18) false)), (2, (.int .i64 a2)), (7, (.vs 7)), (19, (.int .i64 ((List.replicate (a0.length : Int).toNat (0 : Int)).length : Int))), (20, (.int .i64 v.1))], [(7, (.vec 1 (List.map Z18 v.2)))]⟩) (x := fun v => F112_c6 K a1 a2 a0 v = some r) (shx := fun v => ⟨[(0, (.sl 1 (a0.map e_l_i64) false)), (1, (.sl 1 (a1.map Z18) false)), (2, (.int .i64 a2)), (7, (.vs 7))], [(7, (.vec 1 (List.map Z18 v)))]⟩) (k := K) (v := (0, (List.replicate (a0.length : Int).toNat (0 : Int)))) h ?_ ?_
 ·intro v h
  revert h
  revert v
  intro v5 h
  try dsimp only at h ⊢
  unfold F112_c6 at h
  refine Zh <| Zi <| Za <| Z1 I (Zk (v := (.sl 1 [] true)) I I) I <| Zf <| Zh <| Zi <| Zi ?_
  refine Za <| Z1 I (Zj (v := (.sl 1 (a1.map Z18) false)) I I) I <| Z1 I (stx_len (l := a1) (enc := Z18) I s65 I) I <| Z1 I (Zj (v := (.int .i64 0)) I I) I <| Zf <| Zh <| AWp.ghost (st' := ⟨[(0, (.sl 1 (a0.map e_l_i64) false)), (2, (.int .i64 a2)), (7, (.vs 7)), (9, (.vs 9)), (27, (.sl 1 (a1.map Z18) false)), (28, (.int .i64 (a1.length : Int))), (29, (.int .i64 0))], [(7, (.vec 1 (List.map Z18 v5))), (9, (.vec 1 (List.map Z18 ([] : List Int))))]⟩) (fun a w h => (Z19 ⟨[(0, (.sl 1 (a0.map e_l_i64) false)), (2, (.int .i64 a2)), (7, (.vs 7)), (9, (.vs 9)), (27, (.sl 1 (a1.map Z18) false)), (28, (.int .i64 (a1.length : Int))), (29, (.int .i64 0))], [(7, (.vec 1 (List.map Z18 v5))), (9, (.vec 1 (List.map Z18 ([] : List Int))))]⟩ (ghost_own (k := 9) (m := 9) (sz := 1) I I a w (Z19 ⟨[(9, (.sl 1 [] true)), (0, (.sl 1 (a0.map e_l_i64) false)), (2, (.int .i64 a2)), (7, (.vs 7)), (27, (.sl 1 (a1.map Z18) false)), (28, (.int .i64 (a1.length : Int))), (29, (.int .i64 0))], [(7, (.vec 1 (List.map Z18 v5)))]⟩ h ⟨rfl, rfl, rfl, rfl, rfl, rfl, rfl, trivial⟩ ⟨rfl, trivial⟩)) ⟨rfl, rfl, rfl, rfl, rfl, rfl, rfl, trivial⟩ ⟨rfl, rfl, trivial⟩)) <| Z1r (st' := ⟨[(0, (.sl 1 (a0.map e_l_i64) false)), (2, (.int .i64 a2)), (7, (.vs 7)), (9, (.vs 9)), (27, (.sl 1 (a1.map Z18) false)), (28, (.int .i64 (a1.length : Int))), (29, (.int .i64 0))], [(7, (.vec 1 (List.map Z18 v5))), (9, (.vec 1 (List.map Z18 [])))]⟩) ⟨rfl, rfl, rfl, rfl, rfl, rfl, rfl, trivial⟩ ⟨rfl, rfl, trivial⟩ ?_
  refine Z1g (V := Int × (List Int) × (List Int)) (X := (List Int) × (List Int)) (lp := fun k v => F112_l11 K a1 a2 (F112_c14 K a0 a2) k v.1 v.2.1 v.2.2 = some r) (sh := fun v => ⟨[(0, (.sl 1 (a0.map e_l_i64) false)), (2, (.int .i64 a2)), (7, (.vs 7)), (9, (.vs 9)), (27, (.sl 1 (a1.map Z18) false)), (28, (.int .i64 (a1.length : Int))), (29, (.int .i64 v.1))], [(7, (.vec 1 (List.map Z18 v.2.1))), (9, (.vec 1 (List.map Z18 v.2.2)))]⟩) (x := fun v => F112_c14 K a0 a2 v.1 v.2 = some r) (shx := fun v => ⟨[(0, (.sl 1 (a0.map e_l_i64) false)), (2, (.int .i64 a2)), (7, (.vs 7)), (9, (.vs 9))], [(7, (.vec 1 (List.map Z18 v.1))), (9, (.vec 1 (List.map Z18 v.2)))]⟩) (k := K) (v := (0, v5, [])) h ?_ ?_
  ·intro v h
   obtain ⟨v12, v13⟩ := v
   try dsimp only at h ⊢
   unfold F112_c14 at h
   refine Zh <| Zi <| Z1r (st' := ⟨[(0, (.sl 1 (a0.map e_l_i64) false)), (2, (.int .i64 a2)), (7, (.vs 7)), (9, (.vs 9))], [(7, (.vec 1 (List.map Z18 v12))), (9, (.vec 1 (List.map Z18 v13)))]⟩) ⟨rfl, rfl, rfl, rfl, trivial⟩ ⟨rfl, rfl, trivial⟩ ?_
   refine Z1g (V := (List Int) × (List Int)) (X := (List Int)) (lp := fun k v => F112_l18 K a0 a2 (F112_c20 K) k v.1 v.2 = some r) (sh := fun v => ⟨[(0, (.sl 1 (a0.map e_l_i64) false)), (2, (.int .i64 a2)), (7, (.vs 7)), (9, (.vs 9))], [(7, (.vec 1 (List.map Z18 v.1))), (9, (.vec 1 (List.map Z18 v.2)))]⟩) (x := fun v => F112_c20 K v = some r) (shx := fun v => ⟨[(7, (.vs 7))], [(7, (.vec 1 (List.map Z18 v)))]⟩) (k := K) (v := (v12, v13)) h ?_ ?_
   ·intro v h
    revert h
    revert v
    intro v19 h
    try dsimp only at h ⊢
    unfold F112_c20 at h
    refine Zh <| Zi <| Za <| Z1 I (Zj (v := (.vs 7)) I I) I <| Z1 I (Zk (v := (.vs 7)) I I) I <| Zf <| Zh <| Z1a ?_
    refine At.ghost (st' := ⟨[(6, (.sl 1 (v19.map Z18) false))], []⟩) (fun a w h => (Z19 ⟨[(6, (.sl 1 (v19.map Z18) false))], []⟩ (ghost_freeze (m := 7) (sz := 1) (es := (List.map Z18 v19)) a w (Z19 ⟨[(6, (.vs 7))], [(7, (.vec 1 (List.map Z18 v19)))]⟩ h ⟨rfl, trivial⟩ ⟨rfl, trivial⟩)) ⟨rfl, trivial⟩ trivial)) ?_
    have h := Option.some.inj h
    subst h
    refine (hret _ ?_).1
    exact ⟨[(.sl 1 (v19.map Z18) false)], ⟨rfl, trivial⟩, rfl, trivial⟩
   ·intro N k18 v h IH18 J18
    obtain ⟨v16, v17⟩ := v
    try dsimp only at h IH18 J18 ⊢
    cases k18 with
    | zero => cases h
    | succ k18 =>
     rw [F112_l18] at h
     refine Zi <| Zi <| Za <| Z1 I (Zj (v := (.vs 9)) I I) I <| Z1 I (stx_lenV (l := v17) (enc := Z18) I u65 I I) I <| Z1 I (Z1t (k := .i64) (a := (v17.length : Int)) (b := 0) (c := (decide ((v17.length : Int) > 0))) I I I I) I <| Zf <| Zh ?_
     have hif := of_if h
     refine Z15 I (fun hc => ?_) (fun hc => ?_)
     ·have h := hif.1 hc
      refine Z17 <| Zh <| AWp.block <| Zi <| Za <| Z1 I (Zj (v := (.vs 9)) I I) I ?_
      have ⟨hg23, h⟩ := Zy h
      refine Z1 I (st_indexV (k := .i64) (v := (.vs 9)) (n := 9) (off := 0) (len := v17.length) (es := (List.map Z18 v17)) (j := 0) (m := (0 : Int).toNat) I s65 I I (vecR_map _ _ _) I hg23 (Nat.zero_add _)) I ?_
      have ⟨hg24, h⟩ := Zy h
      refine Z1 I (st_loadV (l := v17) (enc := Z18) (z := 0) (v := (.int .i64 (v17.getD (0 : Int).toNat 0))) I o3 I I hg24 I) I <| Z1 I (Zk (v := (.int .i64 (v17.getD (0 : Int).toNat 0))) I I) I <| Zf <| Zh <| Zi <| Za <| Z1 I (Zj (v := (.vs 9)) I I) I ?_
      have ⟨hg25, h⟩ := Zy h
      have ⟨hg26, h⟩ := Zy h
      refine Z1 I (stx_sliceVL (v := (.vs 9)) (n := 9) (off := 0) (len := v17.length) (l := v17) (enc := Z18) (kl := .i64) (lo := 1) I s65 I I (vecR_map _ _ _) I hg25 I) I <| Z1 I (Zk (v := (.vsub 9 (0 + (1 : Int).toNat) ((v17.length : Int).toNat - (1 : Int).toNat) false)) I I) I <| Zf <| Zh <| Zi <| Za <| Z1 I (Zj (v := (.sl 1 (a0.map e_l_i64) false)) I I) I <| Z1 I (Zj (v := (.int .i64 (v17.getD (0 : Int).toNat 0))) I I) I ?_
      have ⟨hg27, h⟩ := Zy h
      refine Z1 I (Z1s (k := .i64) (l := a0) (enc := e_l_i64) (z := []) (n := (v17.getD (0 : Int).toNat 0)) (cs := [(.sl 1 ((a0.getD (v17.getD (0 : Int).toNat 0).toNat []).map Z18) false)]) (full := false) I s168 I I hg27 I) I <| Z1 I (st_loadI (cs := [(.sl 1 ((a0.getD (v17.getD (0 : Int).toNat 0).toNat []).map Z18) false)]) (v := (.sl 1 ((a0.getD (v17.getD (0 : Int).toNat 0).toNat []).map Z18) false)) I o65 I I) I <| Z1 I (stx_len (l := (a0.getD (v17.getD (0 : Int).toNat 0).toNat [])) (enc := Z18) I s65 I) I <| Z1 I (Zj (v := (.int .i64 0)) I I) I <| Zf <| Zh ?_
      have ⟨hg51, h⟩ := Zy h
      refine AWp.ghost (st' := ⟨[(0, (.sl 1 (a0.map e_l_i64) false)), (2, (.int .i64 a2)), (7, (.vs 7)), (9, (.vs 9)), (12, (.int .i64 (v17.getD (0 : Int).toNat 0))), (62, (.sl 1 ((a0.getD (v17.getD (0 : Int).toNat 0).toNat []).map Z18) false)), (63, (.int .i64 ((a0.getD (v17.getD (0 : Int).toNat 0).toNat []).length : Int))), (64, (.int .i64 0))], [(7, (.vec 1 (List.map Z18 v16))), (9, (.vec 1 (List.map Z18 ((v17.drop (0 + (1 : Int).toNat)).take ((v17.length : Int).toNat - (1 : Int).toNat)))))]⟩) (fun a w h => (Z19 ⟨[(0, (.sl 1 (a0.map e_l_i64) false)), (2, (.int .i64 a2)), (7, (.vs 7)), (9, (.vs 9)), (12, (.int .i64 (v17.getD (0 : Int).toNat 0))), (62, (.sl 1 ((a0.getD (v17.getD (0 : Int).toNat 0).toNat []).map Z18) false)), (63, (.int .i64 ((a0.getD (v17.getD (0 : Int).toNat 0).toNat []).length : Int))), (64, (.int .i64 0))], [(7, (.vec 1 (List.map Z18 v16))), (9, (.vec 1 (List.map Z18 ((v17.drop (0 + (1 : Int).toNat)).take ((v17.length : Int).toNat - (1 : Int).toNat)))))]⟩ (ghost_trunc (k := 9) (m := 9) (sz := 1) (off := (0 + (1 : Int).toNat)) (len := ((v17.length : Int).toNat - (1 : Int).toNat)) (enc := Z18) (l := v17) I hg51 a w (Z19 ⟨[(9, (.vsub 9 (0 + (1 : Int).toNat) ((v17.length : Int).toNat - (1 : Int).toNat) false)), (0, (.sl 1 (a0.map e_l_i64) false)), (2, (.int .i64 a2)), (7, (.vs 7)), (12, (.int .i64 (v17.getD (0 : Int).toNat 0))), (62, (.sl 1 ((a0.getD (v17.getD (0 : Int).toNat 0).toNat []).map Z18) false)), (63, (.int .i64 ((a0.getD (v17.getD (0 : Int).toNat 0).toNat []).length : Int))), (64, (.int .i64 0))], [(9, (.vec 1 (List.map Z18 v17))), (7, (.vec 1 (List.map Z18 v16)))]⟩ h ⟨rfl, rfl, rfl, rfl, rfl, rfl, rfl, rfl, trivial⟩ ⟨rfl, rfl, trivial⟩)) ⟨rfl, rfl, rfl, rfl, rfl, rfl, rfl, rfl, trivial⟩ ⟨rfl, rfl, trivial⟩)) <| Z1r (st' := ⟨[(0, (.sl 1 (a0.map e_l_i64) false)), (2, (.int .i64 a2)), (7, (.vs 7)), (9, (.vs 9)), (12, (.int .i64 (v17.getD (0 : Int).toNat 0))), (62, (.sl 1 ((a0.getD (v17.getD (0 : Int).toNat 0).toNat []).map Z18) false)), (63, (.int .i64 ((a0.getD (v17.getD (0 : Int).toNat 0).toNat []).length : Int))), (64, (.int .i64 0))], [(7, (.vec 1 (List.map Z18 v16))), (9, (.vec 1 (List.map Z18 ((v17.drop (0 + (1 : Int).toNat)).take ((v17.length : Int).toNat - (1 : Int).toNat)))))]⟩) ⟨rfl, rfl, rfl, rfl, rfl, rfl, rfl, rfl, trivial⟩ ⟨rfl, rfl, trivial⟩ ?_
      refine Z1g (V := Int × (List Int) × (List Int)) (X := (List Int) × (List Int)) (lp := fun k v => F112_l31 K a0 v17 a2 (F112_c34 K (F112_l18 K a0 a2 (F112_c20 K) k18)) k v.1 v.2.1 v.2.2 = some r) (sh := fun v => ⟨[(0, (.sl 1 (a0.map e_l_i64) false)), (2, (.int .i64 a2)), (7, (.vs 7)), (9, (.vs 9)), (12, (.int .i64 (v17.getD (0 : Int).toNat 0))), (62, (.sl 1 ((a0.getD (v17.getD (0 : Int).toNat 0).toNat []).map Z18) false)), (63, (.int .i64 ((a0.getD (v17.getD (0 : Int).toNat 0).toNat []).length : Int))), (64, (.int .i64 v.1))], [(7, (.vec 1 (List.map Z18 v.2.1))), (9, (.vec 1 (List.map Z18 v.2.2)))]⟩) (x := fun v => F112_c34 K (F112_l18 K a0 a2 (F112_c20 K) k18) v.1 v.2 = some r) (shx := fun v => ⟨[(0, (.sl 1 (a0.map e_l_i64) false)), (2, (.int .i64 a2)), (7, (.vs 7)), (9, (.vs 9))], [(7, (.vec 1 (List.map Z18 v.1))), (9, (.vec 1 (List.map Z18 v.2)))]⟩) (k := K) (v := (0, v16, ((v17.drop (0 + (1 : Int).toNat)).take ((v17.length : Int).toNat - (1 : Int).toNat)))) h ?_ ?_
      ·intro v h
       obtain ⟨v32, v33⟩ := v
       try dsimp only at h ⊢
       unfold F112_c34 at h
       refine At.end ?_
       exact Zw (st' := ⟨[(0, (.sl 1 (a0.map e_l_i64) false)), (2, (.int .i64 a2)), (7, (.vs 7)), (9, (.vs 9))], [(7, (.vec 1 (List.map Z18 v32))), (9, (.vec 1 (List.map Z18 v33)))]⟩) ⟨rfl, rfl, rfl, rfl, trivial⟩ ⟨rfl, rfl, trivial⟩ (IH18 _ (v32, v33) (Nat.lt_succ_self _) h)
      ·intro N k31 v h IH31 J31
       obtain ⟨v28, v29, v30⟩ := v
       try dsimp only at h IH31 J31 ⊢
       cases k31 with
       | zero => cases h
       | succ k31 =>
        rw [F112_l31] at h
        refine Zi <| Za <| Z1 I (Z1t (k := .i64) (a := v28) (b := ((a0.getD (v17.getD (0 : Int).toNat 0).toNat []).length : Int)) (c := (decide (v28 < ((a0.getD (v17.getD (0 : Int).toNat 0).toNat []).length : Int)))) I I I I) I <| Zf <| Zh <| Zi ?_
        have hif := of_if h
        refine Z15 I (fun hc => ?_) (fun hc => ?_)
        ·have h := hif.1 hc
         refine Z17 <| Zh <| Zi ?_
         refine AWp.blockJoin (V := (List Int) × (List Int)) (lp := fun v => F112_j39 K (F112_l31 K a0 v17 a2 (F112_c34 K (F112_l18 K a0 a2 (F112_c20 K) k18)) k31) v28 v.1 v.2 = some r) (sh := fun v => ⟨[(0, (.sl 1 (a0.map e_l_i64) false)), (2, (.int .i64 a2)), (7, (.vs 7)), (9, (.vs 9)), (12, (.int .i64 (v17.getD (0 : Int).toNat 0))), (62, (.sl 1 ((a0.getD (v17.getD (0 : Int).toNat 0).toNat []).map Z18) false)), (63, (.int .i64 ((a0.getD (v17.getD (0 : Int).toNat 0).toNat []).length : Int))), (64, (.int .i64 v28))], [(7, (.vec 1 (List.map Z18 v.1))), (9, (.vec 1 (List.map Z18 v.2)))]⟩) ?_ ?_
         ·intro v h
          obtain ⟨v37, v38⟩ := v
          try dsimp only at h ⊢
          unfold F112_j39 at h
          refine Zh <| Za <| Z1 I (Z1o (k := .i64) (a := v28) (b := 1) (c := (IntKind.i64.wrap (v28 + 1))) I I I I) I <| Z1 I (Zj (v := (.int .i64 (IntKind.i64.wrap (v28 + 1)))) I I) I <| Zf ?_
          exact Zw (st' := ⟨[(0, (.sl 1 (a0.map e_l_i64) false)), (2, (.int .i64 a2)), (7, (.vs 7)), (9, (.vs 9)), (12, (.int .i64 (v17.getD (0 : Int).toNat 0))), (62, (.sl 1 ((a0.getD (v17.getD (0 : Int).toNat 0).toNat []).map Z18) false)), (63, (.int .i64 ((a0.getD (v17.getD (0 : Int).toNat 0).toNat []).length : Int))), (64, (.int .i64 (IntKind.i64.wrap (v28 + 1))))], [(7, (.vec 1 (List.map Z18 v37))), (9, (.vec 1 (List.map Z18 v38)))]⟩) ⟨rfl, rfl, rfl, rfl, rfl, rfl, rfl, rfl, trivial⟩ ⟨rfl, rfl, trivial⟩ (IH31 _ ((IntKind.i64.wrap (v28 + 1)), v37, v38) (Nat.lt_succ_self _) h)
         ·intro J39
          refine Zi <| Za ?_
          have ⟨hg40, h⟩ := Zy h
          refine Z1 I (Z1s (k := .i64) (l := (a0.getD (v17.getD (0 : Int).toNat 0).toNat [])) (enc := Z18) (z := 0) (n := v28) (cs := [(.int .i64 ((a0.getD (v17.getD (0 : Int).toNat 0).toNat []).getD v28.toNat 0))]) (full := false) I s65 I I hg40 I) I <| Z1 I (st_loadI (cs := [(.int .i64 ((a0.getD (v17.getD (0 : Int).toNat 0).toNat []).getD v28.toNat 0))]) (v := (.int .i64 ((a0.getD (v17.getD (0 : Int).toNat 0).toNat []).getD v28.toNat 0))) I o3 I I) I <| Z1 I (Zk (v := (.int .i64 ((a0.getD (v17.getD (0 : Int).toNat 0).toNat []).getD v28.toNat 0))) I I) I <| Zf <| Zh <| Zi <| Za <| Z1 I (Zj (v := (.int .i64 ((a0.getD (v17.getD (0 : Int).toNat 0).toNat []).getD v28.toNat 0))) I I) I ?_
          refine Z1 I (Zj (v := (.int .i64 a2)) I I) I <| Z1 I (Z1t (k := .i64) (a := ((a0.getD (v17.getD (0 : Int).toNat 0).toNat []).getD v28.toNat 0)) (b := a2) (c := (((a0.getD (v17.getD (0 : Int).toNat 0).toNat []).getD v28.toNat 0) != a2)) I I I I) I <| Z1 I (Zj (v := (.bool (((a0.getD (v17.getD (0 : Int).toNat 0).toNat []).getD v28.toNat 0) != a2))) I I) I ?_
          have hif := of_if h
          refine AOps.split (fun hc => ?_) (fun hc => ?_)
          ·have h := hif.1 hc
           refine Zz I I I I (Zj (v := (.vs 7)) I I) I <| Zz I I I I (Zj (v := (.int .i64 ((a0.getD (v17.getD (0 : Int).toNat 0).toNat []).getD v28.toNat 0))) I I) I ?_
           have ⟨hg41, h⟩ := Zy h
           refine Zz I I I I (st_indexV (k := .i64) (v := (.vs 7)) (n := 7) (off := 0) (len := v29.length) (es := (List.map Z18 v29)) (j := ((a0.getD (v17.getD (0 : Int).toNat 0).toNat []).getD v28.toNat 0)) (m := ((a0.getD (v17.getD (0 : Int).toNat 0).toNat []).getD v28.toNat 0).toNat) I s65 I I (vecR_map _ _ _) I hg41 (Nat.zero_add _)) I ?_
           have ⟨hg42, h⟩ := Zy h
           refine Zz I I I I (st_loadV (l := v29) (enc := Z18) (z := 0) (v := (.int .i64 (v29.getD ((a0.getD (v17.getD (0 : Int).toNat 0).toNat []).getD v28.toNat 0).toNat 0))) I o3 I I hg42 I) I <| Zz I I I I (Z1t (k := .i64) (a := (v29.getD ((a0.getD (v17.getD (0 : Int).toNat 0).toNat []).getD v28.toNat 0).toNat 0)) (b := 0) (c := (decide ((v29.getD ((a0.getD (v17.getD (0 : Int).toNat 0).toNat []).getD v28.toNat 0).toNat 0) < 0))) I I I I) I <| Z1 I (st_pickT (v := (.bool (decide ((v29.getD ((a0.getD (v17.getD (0 : Int).toNat 0).toNat []).getD v28.toNat 0).toNat 0) < 0)))) I I I) I <| Zf <| Zh ?_
           refine AWp.join (V := (List Int) × (List Int)) (lp := fun v => F112_j45 K (F112_l31 K a0 v17 a2 (F112_c34 K (F112_l18 K a0 a2 (F112_c20 K) k18)) k31) v28 v.1 v.2 = some r) (sh := fun v => ⟨[(0, (.sl 1 (a0.map e_l_i64) false)), (2, (.int .i64 a2)), (7, (.vs 7)), (9, (.vs 9)), (12, (.int .i64 (v17.getD (0 : Int).toNat 0))), (62, (.sl 1 ((a0.getD (v17.getD (0 : Int).toNat 0).toNat []).map Z18) false)), (63, (.int .i64 ((a0.getD (v17.getD (0 : Int).toNat 0).toNat []).length : Int))), (64, (.int .i64 v28))], [(7, (.vec 1 (List.map Z18 v.1))), (9, (.vec 1 (List.map Z18 v.2)))]⟩) ?_ ?_
           ·intro v h
            obtain ⟨v43, v44⟩ := v
            try dsimp only at h ⊢
            unfold F112_j45 at h
            refine At.end ?_
            exact Zw (st' := ⟨[(0, (.sl 1 (a0.map e_l_i64) false)), (2, (.int .i64 a2)), (7, (.vs 7)), (9, (.vs 9)), (12, (.int .i64 (v17.getD (0 : Int).toNat 0))), (62, (.sl 1 ((a0.getD (v17.getD (0 : Int).toNat 0).toNat []).map Z18) false)), (63, (.int .i64 ((a0.getD (v17.getD (0 : Int).toNat 0).toNat []).length : Int))), (64, (.int .i64 v28))], [(7, (.vec 1 (List.map Z18 v43))), (9, (.vec 1 (List.map Z18 v44)))]⟩) ⟨rfl, rfl, rfl, rfl, rfl, rfl, rfl, rfl, trivial⟩ ⟨rfl, rfl, trivial⟩ (J39 (v43, v44) h)
           ·intro J45
            have hif := of_if h
            refine Z15 I (fun hc => ?_) (fun hc => ?_)
            ·have h := hif.1 hc
             refine Zi <| Za <| Z1 I (Zj (v := (.vs 7)) I I) I <| Z1 I (Zj (v := (.int .i64 ((a0.getD (v17.getD (0 : Int).toNat 0).toNat []).getD v28.toNat 0))) I I) I <| Z1 I (Zj (v := (.vs 7)) I I) I <| Z1 I (Zj (v := (.int .i64 (v17.getD (0 : Int).toNat 0))) I I) I ?_
             have ⟨hg46, h⟩ := Zy h
             refine Z1 I (st_indexV (k := .i64) (v := (.vs 7)) (n := 7) (off := 0) (len := v29.length) (es := (List.map Z18 v29)) (j := (v17.getD (0 : Int).toNat 0)) (m := (v17.getD (0 : Int).toNat 0).toNat) I s65 I I (vecR_map _ _ _) I hg46 (Nat.zero_add _)) I ?_
             have ⟨hg47, h⟩ := Zy h
             refine Z1 I (st_loadV (l := v29) (enc := Z18) (z := 0) (v := (.int .i64 (v29.getD (v17.getD (0 : Int).toNat 0).toNat 0))) I o3 I I hg47 I) I <| Z1 I (Z1o (k := .i64) (a := (v29.getD (v17.getD (0 : Int).toNat 0).toNat 0)) (b := 1) (c := (IntKind.i64.wrap ((v29.getD (v17.getD (0 : Int).toNat 0).toNat 0) + 1))) I I I I) I ?_
             have ⟨hg48, h⟩ := Zy h
             refine Z1 I (st_indexV (k := .i64) (v := (.vs 7)) (n := 7) (off := 0) (len := v29.length) (es := (List.map Z18 v29)) (j := ((a0.getD (v17.getD (0 : Int).toNat 0).toNat []).getD v28.toNat 0)) (m := ((a0.getD (v17.getD (0 : Int).toNat 0).toNat []).getD v28.toNat 0).toNat) I s65 I I (vecR_map _ _ _) I hg48 (Nat.zero_add _)) I ?_
             have ⟨hg49, h⟩ := Zy h
             refine Z1 I (st_storeV (l := v29) (enc := Z18) (z := 0) (a := (IntKind.i64.wrap ((v29.getD (v17.getD (0 : Int).toNat 0).toNat 0) + 1))) (v := (.int .i64 (IntKind.i64.wrap ((v29.getD (v17.getD (0 : Int).toNat 0).toNat 0) + 1)))) sz3 I I hg49 I els_i64 I I I I) I <| Zf <| Zh <| Za <| Z1 I (Zj (v := (.vs 9)) I I) I <| Z1 I (Zj (v := (.int .i64 ((a0.getD (v17.getD (0 : Int).toNat 0).toNat []).getD v28.toNat 0))) I I) I <| Z1 I (Z1j (vs := [(.int .i64 ((a0.getD (v17.getD (0 : Int).toNat 0).toNat []).getD v28.toNat 0))]) (enc := Z18) (l := [((a0.getD (v17.getD (0 : Int).toNat 0).toNat []).getD v28.toNat 0)]) I el65 I I ⟨rfl, trivial⟩ I els_i64 I I I I) I ?_
             have ⟨hg50, h⟩ := Zy h
             refine Z1 I (st_append (m := 9) (enc := Z18) (l := v30) (l' := ([((a0.getD (v17.getD (0 : Int).toNat 0).toNat []).getD v28.toNat 0)])) (src := (.vs 88)) (rd := [(88, (.vec 1 (List.map Z18 ([((a0.getD (v17.getD (0 : Int).toNat 0).toNat []).getD v28.toNat 0)]))))]) I I el65 I u65 I I I I (oneRead I) els_i64 hg50) I <| Z1 I (Zk (v := (.vs 9)) I I) I <| Zf ?_
             exact Zw (st' := ⟨[(0, (.sl 1 (a0.map e_l_i64) false)), (2, (.int .i64 a2)), (7, (.vs 7)), (9, (.vs 9)), (12, (.int .i64 (v17.getD (0 : Int).toNat 0))), (62, (.sl 1 ((a0.getD (v17.getD (0 : Int).toNat 0).toNat []).map Z18) false)), (63, (.int .i64 ((a0.getD (v17.getD (0 : Int).toNat 0).toNat []).length : Int))), (64, (.int .i64 v28))], [(7, (.vec 1 (List.map Z18 (v29.set ((a0.getD (v17.getD (0 : Int).toNat 0).toNat []).getD v28.toNat 0).toNat (IntKind.i64.wrap ((v29.getD (v17.getD (0 : Int).toNat 0).toNat 0) + 1)))))), (9, (.vec 1 (List.map Z18 (v30 ++ ([((a0.getD (v17.getD (0 : Int).toNat 0).toNat []).getD v28.toNat 0)])))))]⟩) ⟨rfl, rfl, rfl, rfl, rfl, rfl, rfl, rfl, trivial⟩ ⟨rfl, rfl, trivial⟩ (J45 ((v29.set ((a0.getD (v17.getD (0 : Int).toNat 0).toNat []).getD v28.toNat 0).toNat (IntKind.i64.wrap ((v29.getD (v17.getD (0 : Int).toNat 0).toNat 0) + 1))), (v30 ++ ([((a0.getD (v17.getD (0 : Int).toNat 0).toNat []).getD v28.toNat 0)]))) h)
            ·have h := hif.2 hc
             refine Z17 ?_
             exact Zw (st' := ⟨[(0, (.sl 1 (a0.map e_l_i64) false)), (2, (.int .i64 a2)), (7, (.vs 7)), (9, (.vs 9)), (12, (.int .i64 (v17.getD (0 : Int).toNat 0))), (62, (.sl 1 ((a0.getD (v17.getD (0 : Int).toNat 0).toNat []).map Z18) false)), (63, (.int .i64 ((a0.getD (v17.getD (0 : Int).toNat 0).toNat []).length : Int))), (64, (.int .i64 v28))], [(7, (.vec 1 (List.map Z18 v29))), (9, (.vec 1 (List.map Z18 v30)))]⟩) ⟨rfl, rfl, rfl, rfl, rfl, rfl, rfl, rfl, trivial⟩ ⟨rfl, rfl, trivial⟩ (J45 (v29, v30) h)
          ·have h := hif.2 hc
           refine Zu I I I I I I I <| Zu I I I I I I I <| Zu I I I I I I I <| Zu I I I I I I I <| Zu I I I I I I I <| Z1 I (st_pickF (v := (.bool false)) I I I) I <| Zf <| Zh ?_
           refine Z15 (b := false) I (fun hc => ?_) (fun hc => ?_)
           ·cases hc
           refine Z17 <| At.end ?_
           exact Zw (st' := ⟨[(0, (.sl 1 (a0.map e_l_i64) false)), (2, (.int .i64 a2)), (7, (.vs 7)), (9, (.vs 9)), (12, (.int .i64 (v17.getD (0 : Int).toNat 0))), (62, (.sl 1 ((a0.getD (v17.getD (0 : Int).toNat 0).toNat []).map Z18) false)), (63, (.int .i64 ((a0.getD (v17.getD (0 : Int).toNat 0).toNat []).length : Int))), (64, (.int .i64 v28))], [(7, (.vec 1 (List.map Z18 v29))), (9, (.vec 1 (List.map Z18 v30)))]⟩) ⟨rfl, rfl, rfl, rfl, rfl, rfl, rfl, rfl, trivial⟩ ⟨rfl, rfl, trivial⟩ (J39 (v29, v30) h)
        ·have h := hif.2 hc
         refine AWp.exit <| At.thru ?_
         exact Zw (st' := ⟨[(0, (.sl 1 (a0.map e_l_i64) false)), (2, (.int .i64 a2)), (7, (.vs 7)), (9, (.vs 9))], [(7, (.vec 1 (List.map Z18 v29))), (9, (.vec 1 (List.map Z18 v30)))]⟩) ⟨rfl, rfl, rfl, rfl, trivial⟩ ⟨rfl, rfl, trivial⟩ (J31 (v29, v30) h)
     ·have h := hif.2 hc
      refine AWp.exit <| At.thru ?_
      exact Zw (st' := ⟨[(7, (.vs 7))], [(7, (.vec 1 (List.map Z18 v16)))]⟩) ⟨rfl, trivial⟩ ⟨rfl, trivial⟩ (J18 v16 h)
  ·intro N k11 v h IH11 J11
   obtain ⟨v8, v9, v10⟩ := v
   try dsimp only at h IH11 J11 ⊢
   cases k11 with
   | zero => cases h
   | succ k11 =>
    rw [F112_l11] at h
    refine Zi <| Za <| Z1 I (Z1t (k := .i64) (a := v8) (b := (a1.length : Int)) (c := (decide (v8 < (a1.length : Int)))) I I I I) I <| Zf <| Zh <| Zi ?_
    have hif := of_if h
    refine Z15 I (fun hc => ?_) (fun hc => ?_)
    ·have h := hif.1 hc
     refine Z17 <| Zh <| Zi ?_
     refine AWp.blockJoin (V := (List Int) × (List Int)) (lp := fun v => F112_j55 K (F112_l11 K a1 a2 (F112_c14 K a0 a2) k11) v8 v.1 v.2 = some r) (sh := fun v => ⟨[(0, (.sl 1 (a0.map e_l_i64) false)), (2, (.int .i64 a2)), (7, (.vs 7)), (9, (.vs 9)), (27, (.sl 1 (a1.map Z18) false)), (28, (.int .i64 (a1.length : Int))), (29, (.int .i64 v8))], [(7, (.vec 1 (List.map Z18 v.1))), (9, (.vec 1 (List.map Z18 v.2)))]⟩) ?_ ?_
     ·intro v h
      obtain ⟨v53, v54⟩ := v
      try dsimp only at h ⊢
      unfold F112_j55 at h
      refine Zh <| Za <| Z1 I (Z1o (k := .i64) (a := v8) (b := 1) (c := (IntKind.i64.wrap (v8 + 1))) I I I I) I <| Z1 I (Zj (v := (.int .i64 (IntKind.i64.wrap (v8 + 1)))) I I) I <| Zf ?_
      exact Zw (st' := ⟨[(0, (.sl 1 (a0.map e_l_i64) false)), (2, (.int .i64 a2)), (7, (.vs 7)), (9, (.vs 9)), (27, (.sl 1 (a1.map Z18) false)), (28, (.int .i64 (a1.length : Int))), (29, (.int .i64 (IntKind.i64.wrap (v8 + 1))))], [(7, (.vec 1 (List.map Z18 v53))), (9, (.vec 1 (List.map Z18 v54)))]⟩) ⟨rfl, rfl, rfl, rfl, rfl, rfl, rfl, trivial⟩ ⟨rfl, rfl, trivial⟩ (IH11 _ ((IntKind.i64.wrap (v8 + 1)), v53, v54) (Nat.lt_succ_self _) h)
     ·intro J55
      refine Zi <| Za ?_
      have ⟨hg56, h⟩ := Zy h
      refine Z1 I (Z1s (k := .i64) (l := a1) (enc := Z18) (z := 0) (n := v8) (cs := [(.int .i64 (a1.getD v8.toNat 0))]) (full := false) I s65 I I hg56 I) I <| Z1 I (st_loadI (cs := [(.int .i64 (a1.getD v8.toNat 0))]) (v := (.int .i64 (a1.getD v8.toNat 0))) I o3 I I) I <| Z1 I (Zk (v := (.int .i64 (a1.getD v8.toNat 0))) I I) I <| Zf <| Zh <| Zi <| Za <| Z1 I (Zj (v := (.int .i64 (a1.getD v8.toNat 0))) I I) I ?_
      refine Z1 I (Zj (v := (.int .i64 a2)) I I) I <| Z1 I (Z1t (k := .i64) (a := (a1.getD v8.toNat 0)) (b := a2) (c := ((a1.getD v8.toNat 0) != a2)) I I I I) I <| Z1 I (Zj (v := (.bool ((a1.getD v8.toNat 0) != a2))) I I) I ?_
      have hif := of_if h
      refine AOps.split (fun hc => ?_) (fun hc => ?_)
      ·have h := hif.1 hc
       refine Zz I I I I (Zj (v := (.vs 7)) I I) I <| Zz I I I I (Zj (v := (.int .i64 (a1.getD v8.toNat 0))) I I) I ?_
       have ⟨hg57, h⟩ := Zy h
       refine Zz I I I I (st_indexV (k := .i64) (v := (.vs 7)) (n := 7) (off := 0) (len := v9.length) (es := (List.map Z18 v9)) (j := (a1.getD v8.toNat 0)) (m := (a1.getD v8.toNat 0).toNat) I s65 I I (vecR_map _ _ _) I hg57 (Nat.zero_add _)) I ?_
       have ⟨hg58, h⟩ := Zy h
       refine Zz I I I I (st_loadV (l := v9) (enc := Z18) (z := 0) (v := (.int .i64 (v9.getD (a1.getD v8.toNat 0).toNat 0))) I o3 I I hg58 I) I <| Zz I I I I (Z1t (k := .i64) (a := (v9.getD (a1.getD v8.toNat 0).toNat 0)) (b := 0) (c := (decide ((v9.getD (a1.getD v8.toNat 0).toNat 0) < 0))) I I I I) I <| Z1 I (st_pickT (v := (.bool (decide ((v9.getD (a1.getD v8.toNat 0).toNat 0) < 0)))) I I I) I <| Zf <| Zh ?_
       refine AWp.join (V := (List Int) × (List Int)) (lp := fun v => F112_j61 K (F112_l11 K a1 a2 (F112_c14 K a0 a2) k11) v8 v.1 v.2 = some r) (sh := fun v => ⟨[(0, (.sl 1 (a0.map e_l_i64) false)), (2, (.int .i64 a2)), (7, (.vs 7)), (9, (.vs 9)), (27, (.sl 1 (a1.map Z18) false)), (28, (.int .i64 (a1.length : Int))), (29, (.int .i64 v8))], [(7, (.vec 1 (List.map Z18 v.1))), (9, (.vec 1 (List.map Z18 v.2)))]⟩) ?_ ?_
       ·intro v h
        obtain ⟨v59, v60⟩ := v
        try dsimp only at h ⊢
        unfold F112_j61 at h
        refine At.end ?_
        exact Zw (st' := ⟨[(0, (.sl 1 (a0.map e_l_i64) false)), (2, (.int .i64 a2)), (7, (.vs 7)), (9, (.vs 9)), (27, (.sl 1 (a1.map Z18) false)), (28, (.int .i64 (a1.length : Int))), (29, (.int .i64 v8))], [(7, (.vec 1 (List.map Z18 v59))), (9, (.vec 1 (List.map Z18 v60)))]⟩) ⟨rfl, rfl, rfl, rfl, rfl, rfl, rfl, trivial⟩ ⟨rfl, rfl, trivial⟩ (J55 (v59, v60) h)
       ·intro J61
        have hif := of_if h
        refine Z15 I (fun hc => ?_) (fun hc => ?_)
        ·have h := hif.1 hc
         refine Zi <| Za <| Z1 I (Zj (v := (.vs 7)) I I) I <| Z1 I (Zj (v := (.int .i64 (a1.getD v8.toNat 0))) I I) I ?_
         have ⟨hg62, h⟩ := Zy h
         refine Z1 I (st_indexV (k := .i64) (v := (.vs 7)) (n := 7) (off := 0) (len := v9.length) (es := (List.map Z18 v9)) (j := (a1.getD v8.toNat 0)) (m := (a1.getD v8.toNat 0).toNat) I s65 I I (vecR_map _ _ _) I hg62 (Nat.zero_add _)) I ?_
         have ⟨hg63, h⟩ := Zy h
         refine Z1 I (st_storeV (l := v9) (enc := Z18) (z := 0) (a := 0) (v := (.int .i64 0)) sz3 I I hg63 I els_i64 I I I I) I <| Zf <| Zh <| Za <| Z1 I (Zj (v := (.vs 9)) I I) I <| Z1 I (Zj (v := (.int .i64 (a1.getD v8.toNat 0))) I I) I <| Z1 I (Z1j (vs := [(.int .i64 (a1.getD v8.toNat 0))]) (enc := Z18) (l := [(a1.getD v8.toNat 0)]) I el65 I I ⟨rfl, trivial⟩ I els_i64 I I I I) I ?_
         have ⟨hg64, h⟩ := Zy h
         refine Z1 I (st_append (m := 9) (enc := Z18) (l := v10) (l' := [(a1.getD v8.toNat 0)]) (src := (.vs 48)) (rd := [(48, (.vec 1 (List.map Z18 [(a1.getD v8.toNat 0)])))]) I I el65 I u65 I I I I (oneRead I) els_i64 hg64) I <| Z1 I (Zk (v := (.vs 9)) I I) I <| Zf ?_
         exact Zw (st' := ⟨[(0, (.sl 1 (a0.map e_l_i64) false)), (2, (.int .i64 a2)), (7, (.vs 7)), (9, (.vs 9)), (27, (.sl 1 (a1.map Z18) false)), (28, (.int .i64 (a1.length : Int))), (29, (.int .i64 v8))], [(7, (.vec 1 (List.map Z18 (v9.set (a1.getD v8.toNat 0).toNat 0)))), (9, (.vec 1 (List.map Z18 (v10 ++ [(a1.getD v8.toNat 0)]))))]⟩) ⟨rfl, rfl, rfl, rfl, rfl, rfl, rfl, trivial⟩ ⟨rfl, rfl, trivial⟩ (J61 ((v9.set (a1.getD v8.toNat 0).toNat 0), (v10 ++ [(a1.getD v8.toNat 0)])) h)
        ·have h := hif.2 hc
         refine Z17 ?_
         exact Zw (st' := ⟨[(0, (.sl 1 (a0.map e_l_i64) false)), (2, (.int .i64 a2)), (7, (.vs 7)), (9, (.vs 9)), (27, (.sl 1 (a1.map Z18) false)), (28, (.int .i64 (a1.length : Int))), (29, (.int .i64 v8))], [(7, (.vec 1 (List.map Z18 v9))), (9, (.vec 1 (List.map Z18 v10)))]⟩) ⟨rfl, rfl, rfl, rfl, rfl, rfl, rfl, trivial⟩ ⟨rfl, rfl, trivial⟩ (J61 (v9, v10) h)
      ·have h := hif.2 hc
       refine Zu I I I I I I I <| Zu I I I I I I I <| Zu I I I I I I I <| Zu I I I I I I I <| Zu I I I I I I I <| Z1 I (st_pickF (v := (.bool false)) I I I) I <| Zf <| Zh ?_
       refine Z15 (b := false) I (fun hc => ?_) (fun hc => ?_)
       ·cases hc
       refine Z17 <| At.end ?_
       exact Zw (st' := ⟨[(0, (.sl 1 (a0.map e_l_i64) false)), (2, (.int .i64 a2)), (7, (.vs 7)), (9, (.vs 9)), (27, (.sl 1 (a1.map Z18) false)), (28, (.int .i64 (a1.length : Int))), (29, (.int .i64 v8))], [(7, (.vec 1 (List.map Z18 v9))), (9, (.vec 1 (List.map Z18 v10)))]⟩) ⟨rfl, rfl, rfl, rfl, rfl, rfl, rfl, trivial⟩ ⟨rfl, rfl, trivial⟩ (J55 (v9, v10) h)
    ·have h := hif.2 hc
     refine AWp.exit <| At.thru ?_
     exact Zw (st' := ⟨[(0, (.sl 1 (a0.map e_l_i64) false)), (2, (.int .i64 a2)), (7, (.vs 7)), (9, (.vs 9))], [(7, (.vec 1 (List.map Z18 v9))), (9, (.vec 1 (List.map Z18 v10)))]⟩) ⟨rfl, rfl, rfl, rfl, trivial⟩ ⟨rfl, rfl, trivial⟩ (J11 (v9, v10) h)
 ·intro N k4 v h IH4 J4
  obtain ⟨v2, v3⟩ := v
  try dsimp only at h IH4 J4 ⊢
  cases k4 with
  | zero => cases h
  | succ k4 =>
   rw [F112_l4] at h
   refine Zi <| Za <| Z1 I (Z1t (k := .i64) (a := v2) (b := ((List.replicate (a0.length : Int).toNat (0 : Int)).length : Int)) (c := (decide (v2 < ((List.replicate (a0.length : Int).toNat (0 : Int)).length : Int)))) I I I I) I <| Zf <| Zh <| Zi ?_
   have hif := of_if h
   refine Z15 I (fun hc => ?_) (fun hc => ?_)
   ·have h := hif.1 hc
    refine Z17 <| Zh <| Zi <| AWp.block <| Zi <| Za <| Z1 I (Zj (v := (.int .i64 v2)) I I) I <| Z1 I (Zk (v := (.int .i64 v2)) I I) I ?_
    refine Zf <| Zh <| Za <| Z1 I (Zj (v := (.vs 7)) I I) I <| Z1 I (Zj (v := (.int .i64 v2)) I I) I ?_
    have ⟨hg66, h⟩ := Zy h
    refine Z1 I (st_indexV (k := .i64) (v := (.vs 7)) (n := 7) (off := 0) (len := v3.length) (es := (List.map Z18 v3)) (j := v2) (m := v2.toNat) I s65 I I (vecR_map _ _ _) I hg66 (Nat.zero_add _)) I ?_
    have ⟨hg67, h⟩ := Zy h
    refine Z1 I (st_storeV (l := v3) (enc := Z18) (z := 0) (a := (Int.negSucc 0)) (v := (.int .i64 (Int.negSucc 0))) sz3 I I hg67 I els_i64 I I I I) I <| Zf <| At.end <| Zh <| Za <| Z1 I (Z1o (k := .i64) (a := v2) (b := 1) (c := (IntKind.i64.wrap (v2 + 1))) I I I I) I <| Z1 I (Zj (v := (.int .i64 (IntKind.i64.wrap (v2 + 1)))) I I) I <| Zf ?_
    exact Zw (st' := ⟨[(0, (.sl 1 (a0.map e_l_i64) false)), (1, (.sl 1 (a1.map Z18) false)), (2, (.int .i64 a2)), (7, (.vs 7)), (19, (.int .i64 ((List.replicate (a0.length : Int).toNat (0 : Int)).length : Int))), (20, (.int .i64 (IntKind.i64.wrap (v2 + 1))))], [(7, (.vec 1 (List.map Z18 (v3.set v2.toNat (Int.negSucc 0)))))]⟩) ⟨rfl, rfl, rfl, rfl, rfl, rfl, trivial⟩ ⟨rfl, trivial⟩ (IH4 _ ((IntKind.i64.wrap (v2 + 1)), (v3.set v2.toNat (Int.negSucc 0))) (Nat.lt_succ_self _) h)
   ·have h := hif.2 hc
    refine AWp.exit <| At.thru ?_
    exact Zw (st' := ⟨[(0, (.sl 1 (a0.map e_l_i64) false)), (1, (.sl 1 (a1.map Z18) false)), (2, (.int .i64 a2)), (7, (.vs 7))], [(7, (.vec 1 (List.map Z18 v3)))]⟩) ⟨rfl, rfl, rfl, rfl, trivial⟩ ⟨rfl, trivial⟩ (J4 v3 h)
def F121_c8 (K : Nat) (v7 : (List (List Bool))) : Option ((List (List Bool))) :=
 some v7
def F121_c21 (K : Nat) (b10 : Int → (List (List Bool)) → Option ((List (List Bool)))) (v4 : Int) (v20 : (List (List Bool))) : Option ((List (List Bool))) :=
 b10 (IntKind.i64.wrap (v4 + 1)) v20
def F121_l19 (K : Nat) (v16 : (List Int)) (v4 : Int) (c22 : (List (List Bool)) → Option ((List (List Bool)))) : Nat → Int → (List (List Bool)) → Option ((List (List Bool)))
 | 0, _, _ => none
 | k19 + 1, v17, v18 =>
  if (decide (v17 < (v16.length : Int))) = true then
   if (0 : Int) ≤ v17 ∧ v17 < v16.length then
    if (0 : Int) ≤ v4 ∧ v4 < v18.length then
     if v4.toNat < v18.length then
      if v4.toNat < v18.length then
       if (0 : Int) ≤ v17 ∧ v17 < (v18.getD v4.toNat []).length then
        if v4.toNat < v18.length then
         if v17.toNat < (v18.getD v4.toNat []).length then
          (F121_l19 K v16 v4 c22 k19) (IntKind.i64.wrap (v17 + 1)) (v18.set v4.toNat ((v18.getD v4.toNat []).set v17.toNat (decide ((v16.getD v17.toNat 0) ≥ 0))))
         else none
        else none
       else none
      else none
     else none
    else none
   else none
  else
   c22 v18
def F121_l6 (K : Nat) (a0 : Z1e) (v2 : (List (List Int))) (c9 : (List (List Bool)) → Option ((List (List Bool)))) : Nat → Int → (List (List Bool)) → Option ((List (List Bool)))
 | 0, _, _ => none
 | k6 + 1, v4, v5 =>
  if (decide (v4 < a0.Count)) = true then
   if (0 : Int) ≤ a0.Count ∧ a0.Count ≤ a0.Count ∧ a0.Count ≤ 1073741824 then
    if (0 : Int) ≤ v4 ∧ v4 < v5.length then
     if v4.toNat < v5.length then
      if (0 : Int) ≤ v4 ∧ v4 < v2.length then
       (F112 K v2 (v2.getD v4.toNat []) (Int.negSucc 0)).bind fun v16 =>
        F121_l19 K v16 v4 (F121_c21 K (F121_l6 K a0 v2 c9 k6) v4) K 0 (v5.set v4.toNat (List.replicate a0.Count.toNat (false : Bool)))
      else none
     else none
    else none
   else none
  else
   c9 v5
def F121 (K : Nat) (a0 : Z1e) : Option ((List (List Bool))) :=
 (F113 K a0).bind fun v2 =>
  if (0 : Int) ≤ a0.Count ∧ a0.Count ≤ a0.Count ∧ a0.Count ≤ 1073741824 then
   F121_l6 K a0 v2 (F121_c8 K) K 0 (List.replicate a0.Count.toNat ([] : List Bool))
  else none
theorem F121_ok (K : Nat) (a0 : Z1e) (r : (List (List Bool))) (h : F121 K a0 = some r) : ACall P 121 ⟨[(Zr a0)], [], (.sl 1 (r.map e_l_bool) false), [], []⟩ := by
 refine Z1n Tryz.func121 Tryz.results121 rfl Tryz.ntmps121 rfl rfl rfl ?_
 intro E Q hP hN hro hret
 obtain ⟨P', nt', w0, F0, p0, S0, β0, ro0⟩ := E
 simp only at hP hN
 subst hP hN
 dsimp only [argT]
 unfold F121 at h
 refine Zi <| Za <| Z1 I (st_box (v := (Zr a0)) (cs := (Zr a0).cells) I I I I I) I <| Z1 I (Zk (v := (.sl 1 [] false)) I I) I <| Zf <| Zh <| Zi <| Za ?_
 refine Z1 I (Z1p (cs := (Zr a0).cells) (vs := (Zr a0).cells) I a83 I I I I) I ?_
 have ⟨v2, hv2, h⟩ := Z1d h
 refine Z1 I (Z1h (ar := [(Zr a0)]) (caps := []) Tryz.call113 (F113_ok K a0 v2 hv2) I I ⟨rfl, trivial⟩ I) I <| Z1 I (Zk (v := (.sl 1 (v2.map e_l_i64) false)) I I) I <| Zf <| Zh <| Zi <| Za <| Z1 I (Zq (m := 1) (o := 0) I f83_0 I I) I <| Z1 I (Zt (cs := (Zr a0).cells) (v := (.int .i64 a0.Count)) I o3 I I I) I ?_
 have ⟨hg3, h⟩ := Zy h
 refine Z1 I (st_makeSlice (enc := (fun _ : Unit => AV.sl 1 [] true)) (z := ()) (kx := .i64) (ky := .i64) (a := a0.Count) (c := a0.Count) (n := a0.Count.toNat) I el205 I zeT207 (fun _ => I) I I I hg3 I) I <| AOps.ghost (st' := ⟨[(1, (.ptr 1 0)), (3, (.sl 1 (v2.map e_l_i64) false)), (11, (.int .i64 a0.Count)), (12, (.vs 12))], [(1, (.box (Zr a0).cells)), (12, (.tab (List.map (List.map e_bool) (List.replicate a0.Count.toNat ([] : List Bool))) none))]⟩) (fun a w h => (Z19 ⟨[(1, (.ptr 1 0)), (3, (.sl 1 (v2.map e_l_i64) false)), (11, (.int .i64 a0.Count)), (12, (.vs 12))], [(1, (.box (Zr a0).cells)), (12, (.tab (List.map (List.map e_bool) (List.replicate a0.Count.toNat ([] : List Bool))) none))]⟩ (ghost_tab (m := 12) (k := a0.Count.toNat) (sz := 1) (enc := e_bool) I I a w (Z19 ⟨[(1, (.ptr 1 0)), (3, (.sl 1 (v2.map e_l_i64) false)), (11, (.int .i64 a0.Count)), (12, (.vs 12))], [(12, (.vec 1 (List.map (fun _ : Unit => AV.sl 1 [] true) (List.replicate a0.Count.toNat ())))), (1, (.box (Zr a0).cells))]⟩ h ⟨rfl, rfl, rfl, rfl, trivial⟩ ⟨rfl, rfl, trivial⟩)) ⟨rfl, rfl, rfl, rfl, trivial⟩ ⟨rfl, rfl, trivial⟩)) <| Z1 I (Zk (v := (.vs 12)) I I) I <| Zf <| Zh <| Zi <| Zi <| Za ?_
 refine Z1 I (Zq (m := 1) (o := 0) I f83_0 I I) I <| Z1 I (Zt (cs := (Zr a0).cells) (v := (.int .i64 a0.Count)) I o3 I I I) I <| Z1 I (Zj (v := (.int .i64 0)) I I) I <| Zf <| Zh <| AWp.ghost (st' := ⟨[(1, (.ptr 1 0)), (3, (.sl 1 (v2.map e_l_i64) false)), (4, (.vs 4)), (14, (.int .i64 a0.Count)), (15, (.int .i64 0))], [(1, (.box (Zr a0).cells)), (4, (.tab (List.map (List.map e_bool) (List.replicate a0.Count.toNat ([] : List Bool))) none))]⟩) (fun a w h => (Z19 ⟨[(1, (.ptr 1 0)), (3, (.sl 1 (v2.map e_l_i64) false)), (4, (.vs 4)), (14, (.int .i64 a0.Count)), (15, (.int .i64 0))], [(1, (.box (Zr a0).cells)), (4, (.tab (List.map (List.map e_bool) (List.replicate a0.Count.toNat ([] : List Bool))) none))]⟩ (ghost_sw (a := 12) (b := 4) I I a w (Z19 ⟨[(1, (.ptr 1 0)), (3, (.sl 1 (v2.map e_l_i64) false)), (4, (.vs 12)), (14, (.int .i64 a0.Count)), (15, (.int .i64 0))], [(1, (.box (Zr a0).cells)), (12, (.tab (List.map (List.map e_bool) (List.replicate a0.Count.toNat ([] : List Bool))) none))]⟩ h ⟨rfl, rfl, rfl, rfl, rfl, trivial⟩ ⟨rfl, rfl, trivial⟩)) ⟨rfl, rfl, rfl, rfl, rfl, trivial⟩ ⟨rfl, rfl, trivial⟩)) <| Z1r (st' := ⟨[(1, (.ptr 1 0)), (3, (.sl 1 (v2.map e_l_i64) false)), (4, (.vs 4)), (14, (.int .i64 a0.Count)), (15, (.int .i64 0))], [(1, (.box (Zr a0).cells)), (4, (.tab (List.map (List.map e_bool) (List.replicate a0.Count.toNat ([] : List Bool))) none))]⟩) ⟨rfl, rfl, rfl, rfl, rfl, trivial⟩ ⟨rfl, rfl, trivial⟩ ?_
 refine Z1g (V := Int × (List (List Bool))) (X := (List (List Bool))) (lp := fun k v => F121_l6 K a0 v2 (F121_c8 K) k v.1 v.2 = some r) (sh := fun v => ⟨[(1, (.ptr 1 0)), (3, (.sl 1 (v2.map e_l_i64) false)), (4, (.vs 4)), (14, (.int .i64 a0.Count)), (15, (.int .i64 v.1))], [(1, (.box (Zr a0).cells)), (4, (.tab (List.map (List.map e_bool) v.2) none))]⟩) (x := fun v => F121_c8 K v = some r) (shx := fun v => ⟨[(4, (.vs 4))], [(4, (.tab (List.map (List.map e_bool) v) none))]⟩) (k := K) (v := (0, (List.replicate a0.Count.toNat ([] : List Bool)))) h ?_ ?_
 ·intro v h
  revert h
  revert v
  intro v7 h
  try dsimp only at h ⊢
  unfold F121_c8 at h
  refine Zh <| Zi <| Za <| Z1 I (Zj (v := (.vs 4)) I I) I <| Z1 I (Zk (v := (.vs 4)) I I) I <| Zf <| Zh <| Z1a ?_
  refine At.ghost (st' := ⟨[(2, (.sl 1 (v7.map e_l_bool) false))], []⟩) (fun a w h => (Z19 ⟨[(2, (.sl 1 (v7.map e_l_bool) false))], []⟩ (ghost_freezeT (m := 4) (enc := e_bool) (l := v7) a w (Z19 ⟨[(2, (.vs 4))], [(4, (.tab (List.map (List.map e_bool) v7) none))]⟩ h ⟨rfl, trivial⟩ ⟨rfl, trivial⟩)) ⟨rfl, trivial⟩ trivial)) ?_
  have h := Option.some.inj h
  subst h
  refine (hret _ ?_).1
  exact ⟨[(.sl 1 (v7.map e_l_bool) false)], ⟨rfl, trivial⟩, rfl, trivial⟩
 ·intro N k6 v h IH6 J6
  obtain ⟨v4, v5⟩ := v
  try dsimp only at h IH6 J6 ⊢
  cases k6 with
  | zero => cases h
  | succ k6 =>
   rw [F121_l6] at h
   refine Zi <| Za <| Z1 I (Z1t (k := .i64) (a := v4) (b := a0.Count) (c := (decide (v4 < a0.Count))) I I I I) I <| Zf <| Zh <| Zi ?_
   have hif := of_if h
   refine Z15 I (fun hc => ?_) (fun hc => ?_)
   ·have h := hif.1 hc
    refine Z17 <| Zh <| Zi <| AWp.block <| Zi <| Za <| Z1 I (Zj (v := (.int .i64 v4)) I I) I <| Z1 I (Zk (v := (.int .i64 v4)) I I) I ?_
    refine Zf <| Zh <| Zi <| Za <| Z1 I (Zj (v := (.vs 4)) I I) I <| Z1 I (Zj (v := (.int .i64 v4)) I I) I <| Z1 I (Zq (m := 1) (o := 0) I f83_0 I I) I <| Z1 I (Zt (cs := (Zr a0).cells) (v := (.int .i64 a0.Count)) I o3 I I I) I ?_
    have ⟨hg11, h⟩ := Zy h
    refine Z1 I (st_makeSlice (kx := .i64) (ky := .i64) (a := a0.Count) (c := a0.Count) (n := a0.Count.toNat) I el207 I ze4 els_bool I I I hg11 I) I ?_
    have ⟨hg12, h⟩ := Zy h
    refine Z1 I (st_indexT (enc := e_bool) (l := v5) (k := .i64) (j := v4) (m := v4.toNat) I s205 I I I hg12 I) I ?_
    have ⟨hg13, h⟩ := Zy h
    refine Z1 I (st_storeTV (enc := e_bool) (l := v5) (es := (List.replicate a0.Count.toNat (false : Bool))) I sz207 I I I I I hg13 (.inl I)) I <| Zf <| Zh <| Zi <| Za <| Z1 I (Zj (v := (.sl 1 (v2.map e_l_i64) false)) I I) I <| Z1 I (Zj (v := (.sl 1 (v2.map e_l_i64) false)) I I) I <| Z1 I (Zj (v := (.int .i64 v4)) I I) I ?_
    have ⟨hg14, h⟩ := Zy h
    refine Z1 I (Z1s (k := .i64) (l := v2) (enc := e_l_i64) (z := []) (n := v4) (cs := [(.sl 1 ((v2.getD v4.toNat []).map Z18) false)]) (full := false) I s168 I I hg14 I) I <| Z1 I (st_loadI (cs := [(.sl 1 ((v2.getD v4.toNat []).map Z18) false)]) (v := (.sl 1 ((v2.getD v4.toNat []).map Z18) false)) I o65 I I) I ?_
    have ⟨v16, hv16, h⟩ := Z1d h
    refine Z1 I (Z1h (ar := [(.sl 1 (v2.map e_l_i64) false), (.sl 1 ((v2.getD v4.toNat []).map Z18) false), (.int .i64 (Int.negSucc 0))]) (caps := []) Tryz.call112 (F112_ok K v2 (v2.getD v4.toNat []) (Int.negSucc 0) v16 hv16) I I ⟨rfl, rfl, rfl, trivial⟩ I) I <| Z1 I (stx_len (l := v16) (enc := Z18) I s65 I) I <| Z1 I (Zj (v := (.int .i64 0)) I I) I <| Zf <| Zh <| Z1r (st' := ⟨[(1, (.ptr 1 0)), (3, (.sl 1 (v2.map e_l_i64) false)), (4, (.vs 4)), (5, (.int .i64 v4)), (14, (.int .i64 a0.Count)), (15, (.int .i64 v4)), (29, (.sl 1 (v16.map Z18) false)), (30, (.int .i64 (v16.length : Int))), (31, (.int .i64 0))], [(1, (.box (Zr a0).cells)), (4, (.tab (List.map (List.map e_bool) (v5.set v4.toNat (List.replicate a0.Count.toNat (false : Bool)))) none))]⟩) ⟨rfl, rfl, rfl, rfl, rfl, rfl, rfl, rfl, rfl, trivial⟩ ⟨rfl, rfl, trivial⟩ ?_
    refine Z1g (V := Int × (List (List Bool))) (X := (List (List Bool))) (lp := fun k v => F121_l19 K v16 v4 (F121_c21 K (F121_l6 K a0 v2 (F121_c8 K) k6) v4) k v.1 v.2 = some r) (sh := fun v => ⟨[(1, (.ptr 1 0)), (3, (.sl 1 (v2.map e_l_i64) false)), (4, (.vs 4)), (5, (.int .i64 v4)), (14, (.int .i64 a0.Count)), (15, (.int .i64 v4)), (29, (.sl 1 (v16.map Z18) false)), (30, (.int .i64 (v16.length : Int))), (31, (.int .i64 v.1))], [(1, (.box (Zr a0).cells)), (4, (.tab (List.map (List.map e_bool) v.2) none))]⟩) (x := fun v => F121_c21 K (F121_l6 K a0 v2 (F121_c8 K) k6) v4 v = some r) (shx := fun v => ⟨[(1, (.ptr 1 0)), (3, (.sl 1 (v2.map e_l_i64) false)), (4, (.vs 4)), (14, (.int .i64 a0.Count)), (15, (.int .i64 v4))], [(1, (.box (Zr a0).cells)), (4, (.tab (List.map (List.map e_bool) v) none))]⟩) (k := K) (v := (0, (v5.set v4.toNat (List.replicate a0.Count.toNat (false : Bool))))) h ?_ ?_
    ·intro v h
     revert h
     revert v
     intro v20 h
     try dsimp only at h ⊢
     unfold F121_c21 at h
     refine At.end <| Zh <| Za <| Z1 I (Z1o (k := .i64) (a := v4) (b := 1) (c := (IntKind.i64.wrap (v4 + 1))) I I I I) I <| Z1 I (Zj (v := (.int .i64 (IntKind.i64.wrap (v4 + 1)))) I I) I <| Zf ?_
     exact Zw (st' := ⟨[(1, (.ptr 1 0)), (3, (.sl 1 (v2.map e_l_i64) false)), (4, (.vs 4)), (14, (.int .i64 a0.Count)), (15, (.int .i64 (IntKind.i64.wrap (v4 + 1))))], [(1, (.box (Zr a0).cells)), (4, (.tab (List.map (List.map e_bool) v20) none))]⟩) ⟨rfl, rfl, rfl, rfl, rfl, trivial⟩ ⟨rfl, rfl, trivial⟩ (IH6 _ ((IntKind.i64.wrap (v4 + 1)), v20) (Nat.lt_succ_self _) h)
    ·intro N k19 v h IH19 J19
     obtain ⟨v17, v18⟩ := v
     try dsimp only at h IH19 J19 ⊢
     cases k19 with
     | zero => cases h
     | succ k19 =>
      rw [F121_l19] at h
      refine Zi <| Za <| Z1 I (Z1t (k := .i64) (a := v17) (b := (v16.length : Int)) (c := (decide (v17 < (v16.length : Int)))) I I I I) I <| Zf <| Zh <| Zi ?_
      have hif := of_if h
      refine Z15 I (fun hc => ?_) (fun hc => ?_)
      ·have h := hif.1 hc
       refine Z17 <| Zh <| Zi <| AWp.block <| Zi <| Za <| Z1 I (Zj (v := (.int .i64 v17)) I I) I ?_
       have ⟨hg24, h⟩ := Zy h
       refine Z1 I (Z1s (k := .i64) (l := v16) (enc := Z18) (z := 0) (n := v17) (cs := [(.int .i64 (v16.getD v17.toNat 0))]) (full := false) I s65 I I hg24 I) I <| Z1 I (st_loadI (cs := [(.int .i64 (v16.getD v17.toNat 0))]) (v := (.int .i64 (v16.getD v17.toNat 0))) I o3 I I) I <| Z1 I (Zk (v := (.int .i64 v17)) I I) I <| Z1 I (Zk (v := (.int .i64 (v16.getD v17.toNat 0))) I I) I <| Zf <| Zh <| Za <| Z1 I (Zj (v := (.vs 4)) I I) I ?_
       refine Z1 I (Zj (v := (.int .i64 v4)) I I) I ?_
       have ⟨hg25, h⟩ := Zy h
       refine Z1 I (st_indexT (enc := e_bool) (l := v18) (k := .i64) (j := v4) (m := v4.toNat) I s205 I I I hg25 I) I ?_
       have ⟨hg26, h⟩ := Zy h
       refine Z1 I (st_loadT (enc := e_bool) (l := v18) I o207 I I hg26) I <| Z1 I (Zj (v := (.int .i64 v17)) I I) I <| Z1 I (Zj (v := (.int .i64 (v16.getD v17.toNat 0))) I I) I <| Z1 I (Z1t (k := .i64) (a := (v16.getD v17.toNat 0)) (b := 0) (c := (decide ((v16.getD v17.toNat 0) ≥ 0))) I I I I) I ?_
       have ⟨hg27, h⟩ := Zy h
       have ⟨hg28, h⟩ := Zy h
       refine Z1 I (st_indexTR (enc := e_bool) (l := v18) (k := .i64) (j := v17) (m := v17.toNat) I s207 I I I hg27 hg28 I) I ?_
       have ⟨hg29, h⟩ := Zy h
       have ⟨hg30, h⟩ := Zy h
       refine Z1 I (st_storeTP (enc := e_bool) (l := v18) (a := (decide ((v16.getD v17.toNat 0) ≥ 0))) (v := (.bool (decide ((v16.getD v17.toNat 0) ≥ 0)))) sz4 I I hg29 hg30 I I I I) I <| Zf <| At.end <| Zh <| Za <| Z1 I (Z1o (k := .i64) (a := v17) (b := 1) (c := (IntKind.i64.wrap (v17 + 1))) I I I I) I <| Z1 I (Zj (v := (.int .i64 (IntKind.i64.wrap (v17 + 1)))) I I) I <| Zf ?_
       exact Zw (st' := ⟨[(1, (.ptr 1 0)), (3, (.sl 1 (v2.map e_l_i64) false)), (4, (.vs 4)), (5, (.int .i64 v4)), (14, (.int .i64 a0.Count)), (15, (.int .i64 v4)), (29, (.sl 1 (v16.map Z18) false)), (30, (.int .i64 (v16.length : Int))), (31, (.int .i64 (IntKind.i64.wrap (v17 + 1))))], [(1, (.box (Zr a0).cells)), (4, (.tab (List.map (List.map e_bool) (v18.set v4.toNat ((v18.getD v4.toNat []).set v17.toNat (decide ((v16.getD v17.toNat 0) ≥ 0))))) none))]⟩) ⟨rfl, rfl, rfl, rfl, rfl, rfl, rfl, rfl, rfl, trivial⟩ ⟨rfl, rfl, trivial⟩ (IH19 _ ((IntKind.i64.wrap (v17 + 1)), (v18.set v4.toNat ((v18.getD v4.toNat []).set v17.toNat (decide ((v16.getD v17.toNat 0) ≥ 0))))) (Nat.lt_succ_self _) h)
      ·have h := hif.2 hc
       refine AWp.exit <| At.thru ?_
       exact Zw (st' := ⟨[(1, (.ptr 1 0)), (3, (.sl 1 (v2.map e_l_i64) false)), (4, (.vs 4)), (14, (.int .i64 a0.Count)), (15, (.int .i64 v4))], [(1, (.box (Zr a0).cells)), (4, (.tab (List.map (List.map e_bool) v18) none))]⟩) ⟨rfl, rfl, rfl, rfl, rfl, trivial⟩ ⟨rfl, rfl, trivial⟩ (J19 v18 h)
   ·have h := hif.2 hc
    refine AWp.exit <| At.thru ?_
    exact Zw (st' := ⟨[(4, (.vs 4))], [(4, (.tab (List.map (List.map e_bool) v5) none))]⟩) ⟨rfl, trivial⟩ ⟨rfl, trivial⟩ (J6 v5 h)
def F80_c7 (K : Nat) (a0 : Z1e) (v6 : (List Zv)) : Option (Z1e) :=
 some (⟨a0.Count, v6⟩ : Z1e)
def F80_c15 (K : Nat) (b9 : Int → (List Zv) → Option (Z1e)) (v3 : Int) (v14 : (List Zv)) : Option (Z1e) :=
 b9 (IntKind.i64.wrap (v3 + 1)) v14
def F80_j20 (K : Nat) (b17 : Int → (List Zv) → Option (Z1e)) (v11 : Int) (v19 : (List Zv)) : Option (Z1e) :=
 b17 (IntKind.i64.wrap (v11 + 1)) v19
def F80_l13 (K : Nat) (v2 : (List (List Bool))) (v3 : Int) (c16 : (List Zv) → Option (Z1e)) : Nat → Int → (List Zv) → Option (Z1e)
 | 0, _, _ => none
 | k13 + 1, v11, v12 =>
  if (decide (v11 < ((v2.getD v3.toNat []).length : Int))) = true then
   if (0 : Int) ≤ v11 ∧ v11 < (v2.getD v3.toNat []).length then
    if ((v2.getD v3.toNat []).getD v11.toNat false) = true then
     if v12.length + [(⟨v3, v11⟩ : Zv)].length ≤ 1073741824 then
      F80_j20 K (F80_l13 K v2 v3 c16 k13) v11 (v12 ++ [(⟨v3, v11⟩ : Zv)])
     else none
    else
     F80_j20 K (F80_l13 K v2 v3 c16 k13) v11 v12
   else none
  else
   c16 v12
def F80_l5 (K : Nat) (v2 : (List (List Bool))) (c8 : (List Zv) → Option (Z1e)) : Nat → Int → (List Zv) → Option (Z1e)
 | 0, _, _ => none
 | k5 + 1, v3, v4 =>
  if (decide (v3 < (v2.length : Int))) = true then
   if (0 : Int) ≤ v3 ∧ v3 < v2.length then
    F80_l13 K v2 v3 (F80_c15 K (F80_l5 K v2 c8 k5) v3) K 0 v4
   else none
  else
   c8 v4
def F80 (K : Nat) (a0 : Z1e) : Option (Z1e) :=
 (F121 K a0).bind fun v2 =>
  F80_l5 K v2 (F80_c7 K a0) K 0 []
theorem F80_ok (K : Nat) (a0 : Z1e) (r : Z1e) (h : F80 K a0 = some r) : ACall P 80 ⟨[(Zr a0)], [], (Zr r), [], []⟩ := by
 refine Z1n Tryz.func80 Tryz.results80 rfl Tryz.ntmps80 rfl rfl rfl ?_
 intro E Q hP hN hro hret
 obtain ⟨P', nt', w0, F0, p0, S0, β0, ro0⟩ := E
 simp only at hP hN
 subst hP hN
 dsimp only [argT]
 unfold F80 at h
 refine Zi <| Za <| Z1 I (st_box (v := (Zr a0)) (cs := (Zr a0).cells) I I I I I) I <| Z1 I (st_alloc (cs := [(.int .i64 0), (.sl 2 [] true)]) I z83f I I I) I <| Zf <| Zh <| Zi <| Za ?_
 refine Z1 I (Zq (m := 1) (o := 0) I f83_0 I I) I <| Z1 I (Zt (cs := (Zr a0).cells) (v := (.int .i64 a0.Count)) I o3 I I I) I <| Z1 I (stx_build (vs := [(0, (.int .i64 a0.Count))]) (cs := [(.int .i64 a0.Count), (.sl 2 [] true)]) I st83f ⟨rfl, rfl, trivial⟩ I) I <| Z1 I (st_alloc (cs := [(.int .i64 0), (.sl 2 [] true)]) I z83f I I I) I <| Z1 I (Z1i (cs := [(.int .i64 0), (.sl 2 [] true)]) (vs := [(.int .i64 a0.Count), (.sl 2 [] true)]) (ds := [(.int .i64 a0.Count), (.sl 2 [] true)]) (v := (.ag [(.int .i64 a0.Count), (.sl 2 [] true)])) sz83 I I I I I I I I) I <| Zf <| Zh <| Zi ?_
 refine Zi <| Za <| Z1 I (Z1p (cs := (Zr a0).cells) (vs := (Zr a0).cells) I a83 I I I I) I ?_
 have ⟨v2, hv2, h⟩ := Z1d h
 refine Z1 I (Z1h (ar := [(Zr a0)]) (caps := []) Tryz.call121 (F121_ok K a0 v2 hv2) I I ⟨rfl, trivial⟩ I) I <| Z1 I (stx_len (l := v2) (enc := e_l_bool) I s205 I) I <| Z1 I (Zj (v := (.int .i64 0)) I I) I <| Zf <| Zh <| AWp.ghost (st' := ⟨[(2, (.ptr 2 0)), (3, (.ptr 3 0)), (12, (.sl 1 (v2.map e_l_bool) false)), (13, (.int .i64 (v2.length : Int))), (14, (.int .i64 0))], [(2, (.box [(.int .i64 0), (.sl 2 [] true)])), (3, (.box [(.int .i64 a0.Count), (.vs 37)])), (37, (.vec 2 (List.map Zg ([] : List Zv))))]⟩) (fun a w h => (Z19 ⟨[(2, (.ptr 2 0)), (3, (.ptr 3 0)), (12, (.sl 1 (v2.map e_l_bool) false)), (13, (.int .i64 (v2.length : Int))), (14, (.int .i64 0))], [(2, (.box [(.int .i64 0), (.sl 2 [] true)])), (3, (.box [(.int .i64 a0.Count), (.vs 37)])), (37, (.vec 2 (List.map Zg ([] : List Zv))))]⟩ (ghost_ownB (n := 3) (m := 37) (sz := 2) (j := 1) I I I a w (Z19 ⟨[(2, (.ptr 2 0)), (3, (.ptr 3 0)), (12, (.sl 1 (v2.map e_l_bool) false)), (13, (.int .i64 (v2.length : Int))), (14, (.int .i64 0))], [(3, (.box [(.int .i64 a0.Count), (.sl 2 [] true)])), (2, (.box [(.int .i64 0), (.sl 2 [] true)]))]⟩ h ⟨rfl, rfl, rfl, rfl, rfl, trivial⟩ ⟨rfl, rfl, trivial⟩)) ⟨rfl, rfl, rfl, rfl, rfl, trivial⟩ ⟨rfl, rfl, rfl, trivial⟩)) <| Z1r (st' := ⟨[(2, (.ptr 2 0)), (3, (.ptr 3 0)), (12, (.sl 1 (v2.map e_l_bool) false)), (13, (.int .i64 (v2.length : Int))), (14, (.int .i64 0))], [(2, (.box [(.int .i64 0), (.sl 2 [] true)])), (3, (.box [(.int .i64 a0.Count), (.vs 37)])), (37, (.vec 2 (List.map Zg [])))]⟩) ⟨rfl, rfl, rfl, rfl, rfl, trivial⟩ ⟨rfl, rfl, rfl, trivial⟩ ?_
 refine Z1g (V := Int × (List Zv)) (X := (List Zv)) (lp := fun k v => F80_l5 K v2 (F80_c7 K a0) k v.1 v.2 = some r) (sh := fun v => ⟨[(2, (.ptr 2 0)), (3, (.ptr 3 0)), (12, (.sl 1 (v2.map e_l_bool) false)), (13, (.int .i64 (v2.length : Int))), (14, (.int .i64 v.1))], [(2, (.box [(.int .i64 0), (.sl 2 [] true)])), (3, (.box [(.int .i64 a0.Count), (.vs 37)])), (37, (.vec 2 (List.map Zg v.2)))]⟩) (x := fun v => F80_c7 K a0 v = some r) (shx := fun v => ⟨[(2, (.ptr 2 0)), (3, (.ptr 3 0))], [(2, (.box [(.int .i64 0), (.sl 2 [] true)])), (3, (.box [(.int .i64 a0.Count), (.vs 37)])), (37, (.vec 2 (List.map Zg v)))]⟩) (k := K) (v := (0, [])) h ?_ ?_
 ·intro v h
  revert h
  revert v
  intro v6 h
  try dsimp only at h ⊢
  unfold F80_c7 at h
  refine Zh <| Zi <| Za <| Z1 I (Z1p (cs := [(.int .i64 a0.Count), (.vs 37)]) (vs := [(.int .i64 a0.Count), (.vs 37)]) I a83 I I I I) I <| Z1 I (Z1i (cs := [(.int .i64 0), (.sl 2 [] true)]) (vs := [(.int .i64 a0.Count), (.vs 37)]) (ds := [(.int .i64 a0.Count), (.vs 37)]) (v := (.ag [(.int .i64 a0.Count), (.vs 37)])) sz83 I I I I I I I I) I <| Zf <| Zh <| Z1a ?_
  refine At.ghost (st' := ⟨[(2, (.ptr 2 0))], [(2, (.box [(.int .i64 a0.Count), (.sl 2 (v6.map Zg) false)]))]⟩) (fun a w h => (Z19 ⟨[(2, (.ptr 2 0))], [(2, (.box [(.int .i64 a0.Count), (.sl 2 (v6.map Zg) false)]))]⟩ (ghost_freeze (m := 37) (sz := 2) (es := (List.map Zg v6)) a w (Z19 ⟨[(2, (.ptr 2 0))], [(37, (.vec 2 (List.map Zg v6))), (2, (.box [(.int .i64 a0.Count), (.vs 37)]))]⟩ h ⟨rfl, trivial⟩ ⟨rfl, rfl, trivial⟩)) ⟨rfl, trivial⟩ ⟨rfl, trivial⟩)) ?_
  have h := Option.some.inj h
  subst h
  refine (hret _ ?_).1
  exact ⟨[(.ag [(.int .i64 a0.Count), (.sl 2 (v6.map Zg) false)])], ⟨⟨2, _, rfl, rfl, .inr ⟨_, a83, rfl, rfl⟩⟩, trivial⟩, rfl, trivial⟩
 ·intro N k5 v h IH5 J5
  obtain ⟨v3, v4⟩ := v
  try dsimp only at h IH5 J5 ⊢
  cases k5 with
  | zero => cases h
  | succ k5 =>
   rw [F80_l5] at h
   refine Zi <| Za <| Z1 I (Z1t (k := .i64) (a := v3) (b := (v2.length : Int)) (c := (decide (v3 < (v2.length : Int)))) I I I I) I <| Zf <| Zh <| Zi ?_
   have hif := of_if h
   refine Z15 I (fun hc => ?_) (fun hc => ?_)
   ·have h := hif.1 hc
    refine Z17 <| Zh <| Zi <| AWp.block <| Zi <| Za <| Z1 I (Zj (v := (.int .i64 v3)) I I) I ?_
    have ⟨hg10, h⟩ := Zy h
    refine Z1 I (Z1s (k := .i64) (l := v2) (enc := e_l_bool) (z := []) (n := v3) (cs := [(.sl 1 ((v2.getD v3.toNat []).map e_bool) false)]) (full := false) I s205 I I hg10 I) I <| Z1 I (st_loadI (cs := [(.sl 1 ((v2.getD v3.toNat []).map e_bool) false)]) (v := (.sl 1 ((v2.getD v3.toNat []).map e_bool) false)) I o207 I I) I <| Z1 I (Zk (v := (.int .i64 v3)) I I) I <| Z1 I (Zk (v := (.sl 1 ((v2.getD v3.toNat []).map e_bool) false)) I I) I <| Zf <| Zh <| Zi <| Za ?_
    refine Z1 I (Zj (v := (.sl 1 ((v2.getD v3.toNat []).map e_bool) false)) I I) I <| Z1 I (stx_len (l := (v2.getD v3.toNat [])) (enc := e_bool) I s207 I) I <| Z1 I (Zj (v := (.int .i64 0)) I I) I <| Zf <| Zh <| Z1r (st' := ⟨[(2, (.ptr 2 0)), (3, (.ptr 3 0)), (4, (.int .i64 v3)), (12, (.sl 1 (v2.map e_l_bool) false)), (13, (.int .i64 (v2.length : Int))), (14, (.int .i64 v3)), (19, (.sl 1 ((v2.getD v3.toNat []).map e_bool) false)), (20, (.int .i64 ((v2.getD v3.toNat []).length : Int))), (21, (.int .i64 0))], [(2, (.box [(.int .i64 0), (.sl 2 [] true)])), (3, (.box [(.int .i64 a0.Count), (.vs 37)])), (37, (.vec 2 (List.map Zg v4)))]⟩) ⟨rfl, rfl, rfl, rfl, rfl, rfl, rfl, rfl, rfl, trivial⟩ ⟨rfl, rfl, rfl, trivial⟩ ?_
    refine Z1g (V := Int × (List Zv)) (X := (List Zv)) (lp := fun k v => F80_l13 K v2 v3 (F80_c15 K (F80_l5 K v2 (F80_c7 K a0) k5) v3) k v.1 v.2 = some r) (sh := fun v => ⟨[(2, (.ptr 2 0)), (3, (.ptr 3 0)), (4, (.int .i64 v3)), (12, (.sl 1 (v2.map e_l_bool) false)), (13, (.int .i64 (v2.length : Int))), (14, (.int .i64 v3)), (19, (.sl 1 ((v2.getD v3.toNat []).map e_bool) false)), (20, (.int .i64 ((v2.getD v3.toNat []).length : Int))), (21, (.int .i64 v.1))], [(2, (.box [(.int .i64 0), (.sl 2 [] true)])), (3, (.box [(.int .i64 a0.Count), (.vs 37)])), (37, (.vec 2 (List.map Zg v.2)))]⟩) (x := fun v => F80_c15 K (F80_l5 K v2 (F80_c7 K a0) k5) v3 v = some r) (shx := fun v => ⟨[(2, (.ptr 2 0)), (3, (.ptr 3 0)), (12, (.sl 1 (v2.map e_l_bool) false)), (13, (.int .i64 (v2.length : Int))), (14, (.int .i64 v3))], [(2, (.box [(.int .i64 0), (.sl 2 [] true)])), (3, (.box [(.int .i64 a0.Count), (.vs 37)])), (37, (.vec 2 (List.map Zg v)))]⟩) (k := K) (v := (0, v4)) h ?_ ?_
    ·intro v h
     revert h
     revert v
     intro v14 h
     try dsimp only at h ⊢
     unfold F80_c15 at h
     refine At.end <| Zh <| Za <| Z1 I (Z1o (k := .i64) (a := v3) (b := 1) (c := (IntKind.i64.wrap (v3 + 1))) I I I I) I <| Z1 I (Zj (v := (.int .i64 (IntKind.i64.wrap (v3 + 1)))) I I) I <| Zf ?_
     exact Zw (st' := ⟨[(2, (.ptr 2 0)), (3, (.ptr 3 0)), (12, (.sl 1 (v2.map e_l_bool) false)), (13, (.int .i64 (v2.length : Int))), (14, (.int .i64 (IntKind.i64.wrap (v3 + 1))))], [(2, (.box [(.int .i64 0), (.sl 2 [] true)])), (3, (.box [(.int .i64 a0.Count), (.vs 37)])), (37, (.vec 2 (List.map Zg v14)))]⟩) ⟨rfl, rfl, rfl, rfl, rfl, trivial⟩ ⟨rfl, rfl, rfl, trivial⟩ (IH5 _ ((IntKind.i64.wrap (v3 + 1)), v14) (Nat.lt_succ_self _) h)
    ·intro N k13 v h IH13 J13
     obtain ⟨v11, v12⟩ := v
     try dsimp only at h IH13 J13 ⊢
     cases k13 with
     | zero => cases h
     | succ k13 =>
      rw [F80_l13] at h
      refine Zi <| Za <| Z1 I (Z1t (k := .i64) (a := v11) (b := ((v2.getD v3.toNat []).length : Int)) (c := (decide (v11 < ((v2.getD v3.toNat []).length : Int)))) I I I I) I <| Zf <| Zh <| Zi ?_
      have hif := of_if h
      refine Z15 I (fun hc => ?_) (fun hc => ?_)
      ·have h := hif.1 hc
       refine Z17 <| Zh <| Zi <| AWp.block <| Zi <| Za <| Z1 I (Zj (v := (.int .i64 v11)) I I) I ?_
       have ⟨hg18, h⟩ := Zy h
       refine Z1 I (Z1s (k := .i64) (l := (v2.getD v3.toNat [])) (enc := e_bool) (z := false) (n := v11) (cs := [(.bool ((v2.getD v3.toNat []).getD v11.toNat false))]) (full := false) I s207 I I hg18 I) I <| Z1 I (st_loadI (cs := [(.bool ((v2.getD v3.toNat []).getD v11.toNat false))]) (v := (.bool ((v2.getD v3.toNat []).getD v11.toNat false))) I o4 I I) I <| Z1 I (Zk (v := (.int .i64 v11)) I I) I <| Z1 I (Zk (v := (.bool ((v2.getD v3.toNat []).getD v11.toNat false))) I I) I <| Zf <| Zh <| Zi <| Za ?_
       refine Z1 I (Zj (v := (.bool ((v2.getD v3.toNat []).getD v11.toNat false))) I I) I <| Zf <| Zh ?_
       refine AWp.join (V := (List Zv)) (lp := fun v => F80_j20 K (F80_l13 K v2 v3 (F80_c15 K (F80_l5 K v2 (F80_c7 K a0) k5) v3) k13) v11 v = some r) (sh := fun v => ⟨[(2, (.ptr 2 0)), (3, (.ptr 3 0)), (4, (.int .i64 v3)), (12, (.sl 1 (v2.map e_l_bool) false)), (13, (.int .i64 (v2.length : Int))), (14, (.int .i64 v3)), (19, (.sl 1 ((v2.getD v3.toNat []).map e_bool) false)), (20, (.int .i64 ((v2.getD v3.toNat []).length : Int))), (21, (.int .i64 v11))], [(2, (.box [(.int .i64 0), (.sl 2 [] true)])), (3, (.box [(.int .i64 a0.Count), (.vs 37)])), (37, (.vec 2 (List.map Zg v)))]⟩) ?_ ?_
       ·intro v h
        revert h
        revert v
        intro v19 h
        try dsimp only at h ⊢
        unfold F80_j20 at h
        refine At.end <| Zh <| Za <| Z1 I (Z1o (k := .i64) (a := v11) (b := 1) (c := (IntKind.i64.wrap (v11 + 1))) I I I I) I <| Z1 I (Zj (v := (.int .i64 (IntKind.i64.wrap (v11 + 1)))) I I) I <| Zf ?_
        exact Zw (st' := ⟨[(2, (.ptr 2 0)), (3, (.ptr 3 0)), (4, (.int .i64 v3)), (12, (.sl 1 (v2.map e_l_bool) false)), (13, (.int .i64 (v2.length : Int))), (14, (.int .i64 v3)), (19, (.sl 1 ((v2.getD v3.toNat []).map e_bool) false)), (20, (.int .i64 ((v2.getD v3.toNat []).length : Int))), (21, (.int .i64 (IntKind.i64.wrap (v11 + 1))))], [(2, (.box [(.int .i64 0), (.sl 2 [] true)])), (3, (.box [(.int .i64 a0.Count), (.vs 37)])), (37, (.vec 2 (List.map Zg v19)))]⟩) ⟨rfl, rfl, rfl, rfl, rfl, rfl, rfl, rfl, rfl, trivial⟩ ⟨rfl, rfl, rfl, trivial⟩ (IH13 _ ((IntKind.i64.wrap (v11 + 1)), v19) (Nat.lt_succ_self _) h)
       ·intro J20
        have hif := of_if h
        refine Z15 I (fun hc => ?_) (fun hc => ?_)
        ·have h := hif.1 hc
         refine Za <| Z1 I (Zq (m := 3) (o := 0) I f83_1 I I) I <| Z1 I (Zt (cs := [(.int .i64 a0.Count), (.vs 37)]) (v := (.vs 37)) I o81 I I I) I <| Z1 I (Zj (v := (.int .i64 v3)) I I) I <| Z1 I (Zj (v := (.int .i64 v11)) I I) I <| Z1 I (stx_build (vs := [(0, (.int .i64 v3)), (1, (.int .i64 v11))]) (cs := [(.int .i64 v3), (.int .i64 v11)]) I st86 ⟨rfl, rfl, rfl, rfl, trivial⟩ I) I <| Z1 I (Z1j (vs := [(.ag [(.int .i64 v3), (.int .i64 v11)])]) (enc := Zg) (l := [(⟨v3, v11⟩ : Zv)]) I el81 I I ⟨rfl, trivial⟩ I els_Tgraph_Edge I I I I) I ?_
         have ⟨hg21, h⟩ := Zy h
         refine Z1 I (st_append (m := 37) (enc := Zg) (l := v12) (l' := [(⟨v3, v11⟩ : Zv)]) (src := (.vs 32)) (rd := [(32, (.vec 2 (List.map Zg [(⟨v3, v11⟩ : Zv)])))]) I I el81 I u81 I I I I (oneRead I) els_Tgraph_Edge hg21) I <| Z1 I (Zq (m := 3) (o := 0) I f83_1 I I) I <| Z1 I (Z1i (cs := [(.int .i64 a0.Count), .undef]) (vs := [(.vs 37)]) (ds := [(.int .i64 a0.Count), (.vs 37)]) (v := (.vs 37)) sz81 I I I I I I I I) I <| Zf ?_
         exact Zw (st' := ⟨[(2, (.ptr 2 0)), (3, (.ptr 3 0)), (4, (.int .i64 v3)), (12, (.sl 1 (v2.map e_l_bool) false)), (13, (.int .i64 (v2.length : Int))), (14, (.int .i64 v3)), (19, (.sl 1 ((v2.getD v3.toNat []).map e_bool) false)), (20, (.int .i64 ((v2.getD v3.toNat []).length : Int))), (21, (.int .i64 v11))], [(2, (.box [(.int .i64 0), (.sl 2 [] true)])), (3, (.box [(.int .i64 a0.Count), (.vs 37)])), (37, (.vec 2 (List.map Zg (v12 ++ [(⟨v3, v11⟩ : Zv)]))))]⟩) ⟨rfl, rfl, rfl, rfl, rfl, rfl, rfl, rfl, rfl, trivial⟩ ⟨rfl, rfl, rfl, trivial⟩ (J20 (v12 ++ [(⟨v3, v11⟩ : Zv)]) h)
        ·have h := hif.2 hc
         refine Z17 ?_
         exact Zw (st' := ⟨[(2, (.ptr 2 0)), (3, (.ptr 3 0)), (4, (.int .i64 v3)), (12, (.sl 1 (v2.map e_l_bool) false)), (13, (.int .i64 (v2.length : Int))), (14, (.int .i64 v3)), (19, (.sl 1 ((v2.getD v3.toNat []).map e_bool) false)), (20, (.int .i64 ((v2.getD v3.toNat []).length : Int))), (21, (.int .i64 v11))], [(2, (.box [(.int .i64 0), (.sl 2 [] true)])), (3, (.box [(.int .i64 a0.Count), (.vs 37)])), (37, (.vec 2 (List.map Zg v12)))]⟩) ⟨rfl, rfl, rfl, rfl, rfl, rfl, rfl, rfl, rfl, trivial⟩ ⟨rfl, rfl, rfl, trivial⟩ (J20 v12 h)
      ·have h := hif.2 hc
       refine AWp.exit <| At.thru ?_
       exact Zw (st' := ⟨[(2, (.ptr 2 0)), (3, (.ptr 3 0)), (12, (.sl 1 (v2.map e_l_bool) false)), (13, (.int .i64 (v2.length : Int))), (14, (.int .i64 v3))], [(2, (.box [(.int .i64 0), (.sl 2 [] true)])), (3, (.box [(.int .i64 a0.Count), (.vs 37)])), (37, (.vec 2 (List.map Zg v12)))]⟩) ⟨rfl, rfl, rfl, rfl, rfl, trivial⟩ ⟨rfl, rfl, rfl, trivial⟩ (J13 v12 h)
   ·have h := hif.2 hc
    refine AWp.exit <| At.thru ?_
    exact Zw (st' := ⟨[(2, (.ptr 2 0)), (3, (.ptr 3 0))], [(2, (.box [(.int .i64 0), (.sl 2 [] true)])), (3, (.box [(.int .i64 a0.Count), (.vs 37)])), (37, (.vec 2 (List.map Zg v4)))]⟩) ⟨rfl, rfl, trivial⟩ ⟨rfl, rfl, rfl, trivial⟩ (J5 v4 h)
def F79_c5 (K : Nat) (v4 : (List Int)) : Option ((List Int)) :=
 some v4
def F79_j10 (K : Nat) (b7 : Int → (List Int) → Option ((List Int))) (v1 : Int) (v9 : (List Int)) : Option ((List Int)) :=
 b7 (IntKind.i64.wrap (v1 + 1)) v9
def F79_l3 (K : Nat) (a0 : Z1e) (a1 : Int) (c6 : (List Int) → Option ((List Int))) : Nat → Int → (List Int) → Option ((List Int))
 | 0, _, _ => none
 | k3 + 1, v1, v2 =>
  if (decide (v1 < (a0.Edges.length : Int))) = true then
   if (0 : Int) ≤ v1 ∧ v1 < a0.Edges.length then
    if ((a0.Edges.getD v1.toNat Zd).To == a1) = true then
     if v2.length + [(a0.Edges.getD v1.toNat Zd).From].length ≤ 1073741824 then
      F79_j10 K (F79_l3 K a0 a1 c6 k3) v1 (v2 ++ [(a0.Edges.getD v1.toNat Zd).From])
     else none
    else
     F79_j10 K (F79_l3 K a0 a1 c6 k3) v1 v2
   else none
  else
   c6 v2
def F79 (K : Nat) (a0 : Z1e) (a1 : Int) : Option ((List Int)) :=
 F79_l3 K a0 a1 (F79_c5 K) K 0 []
theorem F79_ok (K : Nat) (a0 : Z1e) (a1 : Int) (r : (List Int)) (h : F79 K a0 a1 = some r) : ACall P 79 ⟨[(Zr a0), (.int .i64 a1)], [], (.sl 1 (r.map Z18) false), [], []⟩ := by
 refine Z1n Tryz.func79 Tryz.results79 rfl Tryz.ntmps79 rfl rfl rfl ?_
 intro E Q hP hN hro hret
 obtain ⟨P', nt', w0, F0, p0, S0, β0, ro0⟩ := E
 simp only at hP hN
 subst hP hN
 dsimp only [argT]
 unfold F79 at h
 refine Zi <| Za <| Z1 I (st_box (v := (Zr a0)) (cs := (Zr a0).cells) I I I I I) I <| Z1 I (Zk (v := (.sl 1 [] false)) I I) I <| Zf <| Zh <| Zi <| Za ?_
 refine Z1 I (Zk (v := (.sl 1 [] true)) I I) I <| Zf <| Zh <| Zi <| Zi <| Za <| Z1 I (Zq (m := 2) (o := 0) I f83_1 I I) I <| Z1 I (Zt (cs := (Zr a0).cells) (v := (.sl 2 (a0.Edges.map Zg) false)) I o81 I I I) I ?_
 refine Z1 I (stx_len (l := a0.Edges) (enc := Zg) I s81 I) I <| Z1 I (Zj (v := (.int .i64 0)) I I) I <| Zf <| Zh <| AWp.ghost (st' := ⟨[(1, (.int .i64 a1)), (5, (.vs 5)), (9, (.sl 2 (a0.Edges.map Zg) false)), (10, (.int .i64 (a0.Edges.length : Int))), (11, (.int .i64 0))], [(5, (.vec 1 (List.map Z18 ([] : List Int))))]⟩) (fun a w h => (Z19 ⟨[(1, (.int .i64 a1)), (5, (.vs 5)), (9, (.sl 2 (a0.Edges.map Zg) false)), (10, (.int .i64 (a0.Edges.length : Int))), (11, (.int .i64 0))], [(5, (.vec 1 (List.map Z18 ([] : List Int))))]⟩ (ghost_own (k := 5) (m := 5) (sz := 1) I I a w (Z19 ⟨[(5, (.sl 1 [] true)), (1, (.int .i64 a1)), (9, (.sl 2 (a0.Edges.map Zg) false)), (10, (.int .i64 (a0.Edges.length : Int))), (11, (.int .i64 0))], []⟩ h ⟨rfl, rfl, rfl, rfl, rfl, trivial⟩ trivial)) ⟨rfl, rfl, rfl, rfl, rfl, trivial⟩ ⟨rfl, trivial⟩)) <| Z1r (st' := ⟨[(1, (.int .i64 a1)), (5, (.vs 5)), (9, (.sl 2 (a0.Edges.map Zg) false)), (10, (.int .i64 (a0.Edges.length : Int))), (11, (.int .i64 0))], [(5, (.vec 1 (List.map Z18 [])))]⟩) ⟨rfl, rfl, rfl, rfl, rfl, trivial⟩ ⟨rfl, trivial⟩ ?_
 refine Z1g (V := Int × (List Int)) (X := (List Int)) (lp := fun k v => F79_l3 K a0 a1 (F79_c5 K) k v.1 v.2 = some r) (sh := fun v => ⟨[(1, (.int .i64 a1)), (5, (.vs 5)), (9, (.sl 2 (a0.Edges.map Zg) false)), (10, (.int .i64 (a0.Edges.length : Int))), (11, (.int .i64 v.1))], [(5, (.vec 1 (List.map Z18 v.2)))]⟩) (x := fun v => F79_c5 K v = some r) (shx := fun v => ⟨[(5, (.vs 5))], [(5, (.vec 1 (List.map Z18 v)))]⟩) (k := K) (v := (0, [])) h ?_ ?_
 ·intro v h
  revert h
  revert v
  intro v4 h
  try dsimp only at h ⊢
  unfold F79_c5 at h
  refine Zh <| Zi <| Za <| Z1 I (Zj (v := (.vs 5)) I I) I <| Z1 I (Zk (v := (.vs 5)) I I) I <| Zf <| Zh <| Z1a ?_
  refine At.ghost (st' := ⟨[(4, (.sl 1 (v4.map Z18) false))], []⟩) (fun a w h => (Z19 ⟨[(4, (.sl 1 (v4.map Z18) false))], []⟩ (ghost_freeze (m := 5) (sz := 1) (es := (List.map Z18 v4)) a w (Z19 ⟨[(4, (.vs 5))], [(5, (.vec 1 (List.map Z18 v4)))]⟩ h ⟨rfl, trivial⟩ ⟨rfl, trivial⟩)) ⟨rfl, trivial⟩ trivial)) ?_
  have h := Option.some.inj h
  subst h
  refine (hret _ ?_).1
  exact ⟨[(.sl 1 (v4.map Z18) false)], ⟨rfl, trivial⟩, rfl, trivial⟩
 ·intro N k3 v h IH3 J3
  obtain ⟨v1, v2⟩ := v
  try dsimp only at h IH3 J3 ⊢
  cases k3 with
  | zero => cases h
  | succ k3 =>
   rw [F79_l3] at h
   refine Zi <| Za <| Z1 I (Z1t (k := .i64) (a := v1) (b := (a0.Edges.length : Int)) (c := (decide (v1 < (a0.Edges.length : Int)))) I I I I) I <| Zf <| Zh <| Zi ?_
   have hif := of_if h
   refine Z15 I (fun hc => ?_) (fun hc => ?_)
   ·have h := hif.1 hc
    refine Z17 <| Zh <| Zi <| AWp.block <| Zi <| Za ?_
    have ⟨hg8, h⟩ := Zy h
    refine Z1 I (Z1s (k := .i64) (l := a0.Edges) (enc := Zg) (z := Zd) (n := v1) (cs := (Zg (a0.Edges.getD v1.toNat Zd)).cells) (full := false) I s81 I I hg8 I) I <| Z1 I (st_loadIA (cs := (Zg (a0.Edges.getD v1.toNat Zd)).cells) (vs := (Zg (a0.Edges.getD v1.toNat Zd)).cells) I a86 I I I) I <| Z1 I (st_alloc (cs := [(.int .i64 0), (.int .i64 0)]) I z86 I I I) I <| Z1 I (Z1i (cs := [(.int .i64 0), (.int .i64 0)]) (vs := (Zg (a0.Edges.getD v1.toNat Zd)).cells) (ds := (Zg (a0.Edges.getD v1.toNat Zd)).cells) (v := (Zg (a0.Edges.getD v1.toNat Zd))) sz86 I I I I I I I I) I <| Zf <| Zh <| Zi <| Za ?_
    refine Z1 I (Zq (m := 7) (o := 0) I f86_1 I I) I <| Z1 I (Zt (cs := (Zg (a0.Edges.getD v1.toNat Zd)).cells) (v := (.int .i64 (a0.Edges.getD v1.toNat Zd).To)) I o3 I I I) I <| Z1 I (Zj (v := (.int .i64 a1)) I I) I <| Z1 I (Z1t (k := .i64) (a := (a0.Edges.getD v1.toNat Zd).To) (b := a1) (c := ((a0.Edges.getD v1.toNat Zd).To == a1)) I I I I) I <| Zf <| Zh ?_
    refine AWp.join (V := (List Int)) (lp := fun v => F79_j10 K (F79_l3 K a0 a1 (F79_c5 K) k3) v1 v = some r) (sh := fun v => ⟨[(1, (.int .i64 a1)), (5, (.vs 5)), (9, (.sl 2 (a0.Edges.map Zg) false)), (10, (.int .i64 (a0.Edges.length : Int))), (11, (.int .i64 v1))], [(5, (.vec 1 (List.map Z18 v)))]⟩) ?_ ?_
    ·intro v h
     revert h
     revert v
     intro v9 h
     try dsimp only at h ⊢
     unfold F79_j10 at h
     refine At.end <| Zh <| Za <| Z1 I (Z1o (k := .i64) (a := v1) (b := 1) (c := (IntKind.i64.wrap (v1 + 1))) I I I I) I <| Z1 I (Zj (v := (.int .i64 (IntKind.i64.wrap (v1 + 1)))) I I) I <| Zf ?_
     exact Zw (st' := ⟨[(1, (.int .i64 a1)), (5, (.vs 5)), (9, (.sl 2 (a0.Edges.map Zg) false)), (10, (.int .i64 (a0.Edges.length : Int))), (11, (.int .i64 (IntKind.i64.wrap (v1 + 1))))], [(5, (.vec 1 (List.map Z18 v9)))]⟩) ⟨rfl, rfl, rfl, rfl, rfl, trivial⟩ ⟨rfl, trivial⟩ (IH3 _ ((IntKind.i64.wrap (v1 + 1)), v9) (Nat.lt_succ_self _) h)
    ·intro J10
     have hif := of_if h
     refine Z15 I (fun hc => ?_) (fun hc => ?_)
     ·have h := hif.1 hc
      refine Za <| Z1 I (Zj (v := (.vs 5)) I I) I <| Z1 I (Zq (m := 7) (o := 0) I f86_0 I I) I <| Z1 I (Zt (cs := (Zg (a0.Edges.getD v1.toNat Zd)).cells) (v := (.int .i64 (a0.Edges.getD v1.toNat Zd).From)) I o3 I I I) I <| Z1 I (Z1j (vs := [(.int .i64 (a0.Edges.getD v1.toNat Zd).From)]) (enc := Z18) (l := [(a0.Edges.getD v1.toNat Zd).From]) I el65 I I ⟨rfl, trivial⟩ I els_i64 I I I I) I ?_
      have ⟨hg11, h⟩ := Zy h
      refine Z1 I (st_append (m := 5) (enc := Z18) (l := v2) (l' := [(a0.Edges.getD v1.toNat Zd).From]) (src := (.vs 22)) (rd := [(22, (.vec 1 (List.map Z18 [(a0.Edges.getD v1.toNat Zd).From])))]) I I el65 I u65 I I I I (oneRead I) els_i64 hg11) I <| Z1 I (Zk (v := (.vs 5)) I I) I <| Zf ?_
      exact Zw (st' := ⟨[(1, (.int .i64 a1)), (5, (.vs 5)), (9, (.sl 2 (a0.Edges.map Zg) false)), (10, (.int .i64 (a0.Edges.length : Int))), (11, (.int .i64 v1))], [(5, (.vec 1 (List.map Z18 (v2 ++ [(a0.Edges.getD v1.toNat Zd).From]))))]⟩) ⟨rfl, rfl, rfl, rfl, rfl, trivial⟩ ⟨rfl, trivial⟩ (J10 (v2 ++ [(a0.Edges.getD v1.toNat Zd).From]) h)
     ·have h := hif.2 hc
      refine Z17 ?_
      exact Zw (st' := ⟨[(1, (.int .i64 a1)), (5, (.vs 5)), (9, (.sl 2 (a0.Edges.map Zg) false)), (10, (.int .i64 (a0.Edges.length : Int))), (11, (.int .i64 v1))], [(5, (.vec 1 (List.map Z18 v2)))]⟩) ⟨rfl, rfl, rfl, rfl, rfl, trivial⟩ ⟨rfl, trivial⟩ (J10 v2 h)
   ·have h := hif.2 hc
    refine AWp.exit <| At.thru ?_
    exact Zw (st' := ⟨[(5, (.vs 5))], [(5, (.vec 1 (List.map Z18 v2)))]⟩) ⟨rfl, trivial⟩ ⟨rfl, trivial⟩ (J3 v2 h)
def F35 (K : Nat) (a0 : Zb) (a1 : Str) : Option ((List Str) × Int) :=
 (F58 K a0 a1).bind fun v2 =>
  if (!v2.2) = true then
   some ([], 10)
  else
   (F33 K a0).bind fun v4 =>
    (F80 K v4).bind fun v6 =>
     (F79 K v6 v2.1).bind fun v8 =>
      (F75 K a0 v8).bind fun v10 =>
       some (v10, 0)
theorem F35_ok (K : Nat) (a0 : Zb) (a1 : Str) (r : (List Str) × Int) (h : F35 K a0 a1 = some r) : ACall P 35 ⟨[(Z4 a0), (.str a1)], [], (.tup [(.sl 1 (r.1.map Z1c) false), (.int .i64 r.2)]), [], []⟩ := by
 refine Z1n Tryz.func35 Tryz.results35 rfl Tryz.ntmps35 rfl rfl rfl ?_
 intro E Q hP hN hro hret
 obtain ⟨P', nt', w0, F0, p0, S0, β0, ro0⟩ := E
 simp only at hP hN
 subst hP hN
 dsimp only [argT]
 unfold F35 at h
 refine Zi <| Za <| Z1 I (st_box (v := (Z4 a0)) (cs := (Z4 a0).cells) I I I I I) I <| Z1 I (Zk (v := (.sl 1 [] false)) I I) I <| Z1 I (Zk (v := (.int .i64 0)) I I) I <| Zf <| Zh <| Zi ?_
 refine Za <| Z1 I (Z1p (cs := (Z4 a0).cells) (vs := (Z4 a0).cells) I a44 I I I I) I <| Z1 I (Zj (v := (.str a1)) I I) I ?_
 have ⟨v2, hv2, h⟩ := Z1d h
 refine Z1 I (Z1h (ar := [(Z4 a0), (.str a1)]) (caps := []) Tryz.call58 (F58_ok K a0 a1 v2 hv2) I I ⟨rfl, rfl, trivial⟩ I) I <| Z1 I (Zj (v := (.tup [(.int .i64 v2.1), (.bool v2.2)])) I I) I <| Z1 I (st_extract (vs := [(.int .i64 v2.1), (.bool v2.2)]) (v := (.int .i64 v2.1)) I I I) I <| Z1 I (st_extract (vs := [(.int .i64 v2.1), (.bool v2.2)]) (v := (.bool v2.2)) I I I) I <| Z1 I (Zk (v := (.int .i64 v2.1)) I I) I <| Z1 I (Zk (v := (.bool v2.2)) I I) I <| Zf <| Zh ?_
 refine Zi <| Zi <| Za <| Z1 I (Zj (v := (.bool v2.2)) I I) I <| Z1 I (st_not (b := v2.2) I I) I <| Zf <| Zh ?_
 have hif := of_if h
 refine Z15 I (fun hc => ?_) (fun hc => ?_)
 ·have h := hif.1 hc
  refine Zi <| Za <| Z1 I (Zk (v := (.sl 1 [] false)) I I) I <| Z1 I (Zk (v := (.int .i64 10)) I I) I <| Zf <| Zh <| Z1a <| Z1f ?_
  have h := Option.some.inj h
  subst h
  refine (hret _ ?_).1
  exact ⟨[(.sl 1 [] false), (.int .i64 10)], ⟨rfl, rfl, trivial⟩, rfl, trivial⟩
 ·have h := hif.2 hc
  refine Z17 <| Zh <| Zi <| Z1w mixed <| Z8 0 I (Z1p (cs := (Z4 a0).cells) (vs := (Z4 a0).cells) I a44 I I I I) <| Z8 1 I (Z1p (cs := (Z4 a0).cells) (vs := (Z4 a0).cells) I a44 I I I I) ?_
  have ⟨v4, hv4, h⟩ := Z1d h
  refine Z8 2 I (Z1h (ar := [(Z4 a0)]) (caps := []) Tryz.call33 (F33_ok K a0 v4 hv4) I I ⟨rfl, trivial⟩ I) ?_
  have ⟨v6, hv6, h⟩ := Z1d h
  refine Z8 3 I (Z1h (ar := [(Zr v4)]) (caps := []) Tryz.call80 (F80_ok K v4 v6 hv6) I I ⟨rfl, trivial⟩ I) <| Z8 4 I (Zj (v := (.int .i64 v2.1)) I I) ?_
  have ⟨v8, hv8, h⟩ := Z1d h
  refine Z8 5 I (Z1h (ar := [(Zr v6), (.int .i64 v2.1)]) (caps := []) Tryz.call79 (F79_ok K v6 v2.1 v8 hv8) I I ⟨rfl, rfl, trivial⟩ I) ?_
  have ⟨v10, hv10, h⟩ := Z1d h
  refine Z8 6 I (Z1h (ar := [(Z4 a0), (.sl 1 (v8.map Z18) false)]) (caps := []) Tryz.call75 (F75_ok K a0 v8 v10 hv10) I I ⟨rfl, rfl, trivial⟩ I) <| Z8 7 I (Zk (v := (.sl 1 (v10.map Z1c) false)) I I) <| Z8 8 I (Zk (v := (.int .i64 0)) I I) <| AOpsD.nil (by kernel_rfl) I <| Zh <| Z1a ?_
  have h := Option.some.inj h
  subst h
  refine (hret _ ?_).1
  exact ⟨[(.sl 1 (v10.map Z1c) false), (.int .i64 0)], ⟨rfl, rfl, trivial⟩, rfl, trivial⟩
def F81_c5 (K : Nat) (v4 : (List Int)) : Option ((List Int)) :=
 some v4
def F81_j10 (K : Nat) (b7 : Int → (List Int) → Option ((List Int))) (v1 : Int) (v9 : (List Int)) : Option ((List Int)) :=
 b7 (IntKind.i64.wrap (v1 + 1)) v9
def F81_l3 (K : Nat) (a0 : Z1e) (a1 : Int) (c6 : (List Int) → Option ((List Int))) : Nat → Int → (List Int) → Option ((List Int))
 | 0, _, _ => none
 | k3 + 1, v1, v2 =>
  if (decide (v1 < (a0.Edges.length : Int))) = true then
   if (0 : Int) ≤ v1 ∧ v1 < a0.Edges.length then
    if ((a0.Edges.getD v1.toNat Zd).From == a1) = true then
     if v2.length + [(a0.Edges.getD v1.toNat Zd).To].length ≤ 1073741824 then
      F81_j10 K (F81_l3 K a0 a1 c6 k3) v1 (v2 ++ [(a0.Edges.getD v1.toNat Zd).To])
     else none
    else
     F81_j10 K (F81_l3 K a0 a1 c6 k3) v1 v2
   else none
  else
   c6 v2
def F81 (K : Nat) (a0 : Z1e) (a1 : Int) : Option ((List Int)) :=
 F81_l3 K a0 a1 (F81_c5 K) K 0 []
theorem F81_ok (K : Nat) (a0 : Z1e) (a1 : Int) (r : (List Int)) (h : F81 K a0 a1 = some r) : ACall P 81 ⟨[(Zr a0), (.int .i64 a1)], [], (.sl 1 (r.map Z18) false), [], []⟩ := by
 refine Z1n Tryz.func81 Tryz.results81 rfl Tryz.ntmps81 rfl rfl rfl ?_
 intro E Q hP hN hro hret
 obtain ⟨P', nt', w0, F0, p0, S0, β0, ro0⟩ := E
 simp only at hP hN
 subst hP hN
 dsimp only [argT]
 unfold F81 at h
 refine Zi <| Za <| Z1 I (st_box (v := (Zr a0)) (cs := (Zr a0).cells) I I I I I) I <| Z1 I (Zk (v := (.sl 1 [] false)) I I) I <| Zf <| Zh <| Zi <| Za ?_
 refine Z1 I (Zk (v := (.sl 1 [] true)) I I) I <| Zf <| Zh <| Zi <| Zi <| Za <| Z1 I (Zq (m := 2) (o := 0) I f83_1 I I) I <| Z1 I (Zt (cs := (Zr a0).cells) (v := (.sl 2 (a0.Edges.map Zg) false)) I o81 I I I) I ?_
 refine Z1 I (stx_len (l := a0.Edges) (enc := Zg) I s81 I) I <| Z1 I (Zj (v := (.int .i64 0)) I I) I <| Zf <| Zh <| AWp.ghost (st' := ⟨[(1, (.int .i64 a1)), (5, (.vs 5)), (9, (.sl 2 (a0.Edges.map Zg) false)), (10, (.int .i64 (a0.Edges.length : Int))), (11, (.int .i64 0))], [(5, (.vec 1 (List.map Z18 ([] : List Int))))]⟩) (fun a w h => (Z19 ⟨[(1, (.int .i64 a1)), (5, (.vs 5)), (9, (.sl 2 (a0.Edges.map Zg) false)), (10, (.int .i64 (a0.Edges.length : Int))), (11, (.int .i64 0))], [(5, (.vec 1 (List.map Z18 ([] : List Int))))]⟩ (ghost_own (k := 5) (m := 5) (sz := 1) I I a w (Z19 ⟨[(5, (.sl 1 [] true)), (1, (.int .i64 a1)), (9, (.sl 2 (a0.Edges.map Zg) false)), (10, (.int .i64 (a0.Edges.length : Int))), (11, (.int .i64 0))], []⟩ h ⟨rfl, rfl, rfl, rfl, rfl, trivial⟩ trivial)) ⟨rfl, rfl, rfl, rfl, rfl, trivial⟩ ⟨rfl, trivial⟩)) <| Z1r (st' := ⟨[(1, (.int .i64 a1)), (5, (.vs 5)), (9, (.sl 2 (a0.Edges.map Zg) false)), (10, (.int .i64 (a0.Edges.length : Int))), (11, (.int .i64 0))], [(5, (.vec 1 (List.map Z18 [])))]⟩) ⟨rfl, rfl, rfl, rfl, rfl, trivial⟩ ⟨rfl, trivial⟩ ?_
 refine Z1g (V := Int × (List Int)) (X := (List Int)) (lp := fun k v => F81_l3 K a0 a1 (F81_c5 K) k v.1 v.2 = some r) (sh := fun v => ⟨[(1, (.int .i64 a1)), (5, (.vs 5)), (9, (.sl 2 (a0.Edges.map Zg) false)), (10, (.int .i64 (a0.Edges.length : Int))), (11, (.int .i64 v.1))], [(5, (.vec 1 (List.map Z18 v.2)))]⟩) (x := fun v => F81_c5 K v = some r) (shx := fun v => ⟨[(5, (.vs 5))], [(5, (.vec 1 (List.map Z18 v)))]⟩) (k := K) (v := (0, [])) h ?_ ?_
 ·intro v h
  revert h
  revert v
  intro v4 h
  try dsimp only at h ⊢
  unfold F81_c5 at h
  refine Zh <| Zi <| Za <| Z1 I (Zj (v := (.vs 5)) I I) I <| Z1 I (Zk (v := (.vs 5)) I I) I <| Zf <| Zh <| Z1a ?_
  refine At.ghost (st' := ⟨[(4, (.sl 1 (v4.map Z18) false))], []⟩) (fun a w h => (Z19 ⟨[(4, (.sl 1 (v4.map Z18) false))], []⟩ (ghost_freeze (m := 5) (sz := 1) (es := (List.map Z18 v4)) a w (Z19 ⟨[(4, (.vs 5))], [(5, (.vec 1 (List.map Z18 v4)))]⟩ h ⟨rfl, trivial⟩ ⟨rfl, trivial⟩)) ⟨rfl, trivial⟩ trivial)) ?_
  have h := Option.some.inj h
  subst h
  refine (hret _ ?_).1
  exact ⟨[(.sl 1 (v4.map Z18) false)], ⟨rfl, trivial⟩, rfl, trivial⟩
 ·intro N k3 v h IH3 J3
  obtain ⟨v1, v2⟩ := v
  try dsimp only at h IH3 J3 ⊢
  cases k3 with
  | zero => cases h
  | succ k3 =>
   rw [F81_l3] at h
   refine Zi <| Za <| Z1 I (Z1t (k := .i64) (a := v1) (b := (a0.Edges.length : Int)) (c := (decide (v1 < (a0.Edges.length : Int)))) I I I I) I <| Zf <| Zh <| Zi ?_
   have hif := of_if h
   refine Z15 I (fun hc => ?_) (fun hc => ?_)
   ·have h := hif.1 hc
    refine Z17 <| Zh <| Zi <| AWp.block <| Zi <| Za ?_
    have ⟨hg8, h⟩ := Zy h
    refine Z1 I (Z1s (k := .i64) (l := a0.Edges) (enc := Zg) (z := Zd) (n := v1) (cs := (Zg (a0.Edges.getD v1.toNat Zd)).cells) (full := false) I s81 I I hg8 I) I <| Z1 I (st_loadIA (cs := (Zg (a0.Edges.getD v1.toNat Zd)).cells) (vs := (Zg (a0.Edges.getD v1.toNat Zd)).cells) I a86 I I I) I <| Z1 I (st_alloc (cs := [(.int .i64 0), (.int .i64 0)]) I z86 I I I) I <| Z1 I (Z1i (cs := [(.int .i64 0), (.int .i64 0)]) (vs := (Zg (a0.Edges.getD v1.toNat Zd)).cells) (ds := (Zg (a0.Edges.getD v1.toNat Zd)).cells) (v := (Zg (a0.Edges.getD v1.toNat Zd))) sz86 I I I I I I I I) I <| Zf <| Zh <| Zi <| Za ?_
    refine Z1 I (Zq (m := 7) (o := 0) I f86_0 I I) I <| Z1 I (Zt (cs := (Zg (a0.Edges.getD v1.toNat Zd)).cells) (v := (.int .i64 (a0.Edges.getD v1.toNat Zd).From)) I o3 I I I) I <| Z1 I (Zj (v := (.int .i64 a1)) I I) I <| Z1 I (Z1t (k := .i64) (a := (a0.Edges.getD v1.toNat Zd).From) (b := a1) (c := ((a0.Edges.getD v1.toNat Zd).From == a1)) I I I I) I <| Zf <| Zh ?_
    refine AWp.join (V := (List Int)) (lp := fun v => F81_j10 K (F81_l3 K a0 a1 (F81_c5 K) k3) v1 v = some r) (sh := fun v => ⟨[(1, (.int .i64 a1)), (5, (.vs 5)), (9, (.sl 2 (a0.Edges.map Zg) false)), (10, (.int .i64 (a0.Edges.length : Int))), (11, (.int .i64 v1))], [(5, (.vec 1 (List.map Z18 v)))]⟩) ?_ ?_
    ·intro v h
     revert h
     revert v
     intro v9 h
     try dsimp only at h ⊢
     unfold F81_j10 at h
     refine At.end <| Zh <| Za <| Z1 I (Z1o (k := .i64) (a := v1) (b := 1) (c := (IntKind.i64.wrap (v1 + 1))) I I I I) I <| Z1 I (Zj (v := (.int .i64 (IntKind.i64.wrap (v1 + 1)))) I I) I <| Zf ?_
     exact Zw (st' := ⟨[(1, (.int .i64 a1)), (5, (.vs 5)), (9, (.sl 2 (a0.Edges.map Zg) false)), (10, (.int .i64 (a0.Edges.length : Int))), (11, (.int .i64 (IntKind.i64.wrap (v1 + 1))))], [(5, (.vec 1 (List.map Z18 v9)))]⟩) ⟨rfl, rfl, rfl, rfl, rfl, trivial⟩ ⟨rfl, trivial⟩ (IH3 _ ((IntKind.i64.wrap (v1 + 1)), v9) (Nat.lt_succ_self _) h)
    ·intro J10
     have hif := of_if h
     refine Z15 I (fun hc => ?_) (fun hc => ?_)
     ·have h := hif.1 hc
      refine Za <| Z1 I (Zj (v := (.vs 5)) I I) I <| Z1 I (Zq (m := 7) (o := 0) I f86_1 I I) I <| Z1 I (Zt (cs := (Zg (a0.Edges.getD v1.toNat Zd)).cells) (v := (.int .i64 (a0.Edges.getD v1.toNat Zd).To)) I o3 I I I) I <| Z1 I (Z1j (vs := [(.int .i64 (a0.Edges.getD v1.toNat Zd).To)]) (enc := Z18) (l := [(a0.Edges.getD v1.toNat Zd).To]) I el65 I I ⟨rfl, trivial⟩ I els_i64 I I I I) I ?_
      have ⟨hg11, h⟩ := Zy h
      refine Z1 I (st_append (m := 5) (enc := Z18) (l := v2) (l' := [(a0.Edges.getD v1.toNat Zd).To]) (src := (.vs 22)) (rd := [(22, (.vec 1 (List.map Z18 [(a0.Edges.getD v1.toNat Zd).To])))]) I I el65 I u65 I I I I (oneRead I) els_i64 hg11) I <| Z1 I (Zk (v := (.vs 5)) I I) I <| Zf ?_
      exact Zw (st' := ⟨[(1, (.int .i64 a1)), (5, (.vs 5)), (9, (.sl 2 (a0.Edges.map Zg) false)), (10, (.int .i64 (a0.Edges.length : Int))), (11, (.int .i64 v1))], [(5, (.vec 1 (List.map Z18 (v2 ++ [(a0.Edges.getD v1.toNat Zd).To]))))]⟩) ⟨rfl, rfl, rfl, rfl, rfl, trivial⟩ ⟨rfl, trivial⟩ (J10 (v2 ++ [(a0.Edges.getD v1.toNat Zd).To]) h)
     ·have h := hif.2 hc
      refine Z17 ?_
      exact Zw (st' := ⟨[(1, (.int .i64 a1)), (5, (.vs 5)), (9, (.sl 2 (a0.Edges.map Zg) false)), (10, (.int .i64 (a0.Edges.length : Int))), (11, (.int .i64 v1))], [(5, (.vec 1 (List.map Z18 v2)))]⟩) ⟨rfl, rfl, rfl, rfl, rfl, trivial⟩ ⟨rfl, trivial⟩ (J10 v2 h)
   ·have h := hif.2 hc
    refine AWp.exit <| At.thru ?_
    exact Zw (st' := ⟨[(5, (.vs 5))], [(5, (.vec 1 (List.map Z18 v2)))]⟩) ⟨rfl, trivial⟩ ⟨rfl, trivial⟩ (J3 v2 h)
def F36 (K : Nat) (a0 : Zb) (a1 : Str) : Option ((List Str) × Int) :=
 (F58 K a0 a1).bind fun v2 =>
  if (!v2.2) = true then
   some ([], 10)
  else
   (F33 K a0).bind fun v4 =>
    (F80 K v4).bind fun v6 =>
     (F81 K v6 v2.1).bind fun v8 =>
      (F75 K a0 v8).bind fun v10 =>
       some (v10, 0)
theorem F36_ok (K : Nat) (a0 : Zb) (a1 : Str) (r : (List Str) × Int) (h : F36 K a0 a1 = some r) : ACall P 36 ⟨[(Z4 a0), (.str a1)], [], (.tup [(.sl 1 (r.1.map Z1c) false), (.int .i64 r.2)]), [], []⟩ := by
 refine Z1n Tryz.func36 Tryz.results36 rfl Tryz.ntmps36 rfl rfl rfl ?_
 intro E Q hP hN hro hret
 obtain ⟨P', nt', w0, F0, p0, S0, β0, ro0⟩ := E
 simp only at hP hN
 subst hP hN
 dsimp only [argT]
 unfold F36 at h
 refine Zi <| Za <| Z1 I (st_box (v := (Z4 a0)) (cs := (Z4 a0).cells) I I I I I) I <| Z1 I (Zk (v := (.sl 1 [] false)) I I) I <| Z1 I (Zk (v := (.int .i64 0)) I I) I <| Zf <| Zh <| Zi ?_
 refine Za <| Z1 I (Z1p (cs := (Z4 a0).cells) (vs := (Z4 a0).cells) I a44 I I I I) I <| Z1 I (Zj (v := (.str a1)) I I) I ?_
 have ⟨v2, hv2, h⟩ := Z1d h
 refine Z1 I (Z1h (ar := [(Z4 a0), (.str a1)]) (caps := []) Tryz.call58 (F58_ok K a0 a1 v2 hv2) I I ⟨rfl, rfl, trivial⟩ I) I <| Z1 I (Zj (v := (.tup [(.int .i64 v2.1), (.bool v2.2)])) I I) I <| Z1 I (st_extract (vs := [(.int .i64 v2.1), (.bool v2.2)]) (v := (.int .i64 v2.1)) I I I) I <| Z1 I (st_extract (vs := [(.int .i64 v2.1), (.bool v2.2)]) (v := (.bool v2.2)) I I I) I <| Z1 I (Zk (v := (.int .i64 v2.1)) I I) I <| Z1 I (Zk (v := (.bool v2.2)) I I) I <| Zf <| Zh ?_
 refine Zi <| Zi <| Za <| Z1 I (Zj (v := (.bool v2.2)) I I) I <| Z1 I (st_not (b := v2.2) I I) I <| Zf <| Zh ?_
 have hif := of_if h
 refine Z15 I (fun hc => ?_) (fun hc => ?_)
 ·have h := hif.1 hc
  refine Zi <| Za <| Z1 I (Zk (v := (.sl 1 [] false)) I I) I <| Z1 I (Zk (v := (.int .i64 10)) I I) I <| Zf <| Zh <| Z1a <| Z1f ?_
  have h := Option.some.inj h
  subst h
  refine (hret _ ?_).1
  exact ⟨[(.sl 1 [] false), (.int .i64 10)], ⟨rfl, rfl, trivial⟩, rfl, trivial⟩
 ·have h := hif.2 hc
  refine Z17 <| Zh <| Zi <| Z1w mixed <| Z8 0 I (Z1p (cs := (Z4 a0).cells) (vs := (Z4 a0).cells) I a44 I I I I) <| Z8 1 I (Z1p (cs := (Z4 a0).cells) (vs := (Z4 a0).cells) I a44 I I I I) ?_
  have ⟨v4, hv4, h⟩ := Z1d h
  refine Z8 2 I (Z1h (ar := [(Z4 a0)]) (caps := []) Tryz.call33 (F33_ok K a0 v4 hv4) I I ⟨rfl, trivial⟩ I) ?_
  have ⟨v6, hv6, h⟩ := Z1d h
  refine Z8 3 I (Z1h (ar := [(Zr v4)]) (caps := []) Tryz.call80 (F80_ok K v4 v6 hv6) I I ⟨rfl, trivial⟩ I) <| Z8 4 I (Zj (v := (.int .i64 v2.1)) I I) ?_
  have ⟨v8, hv8, h⟩ := Z1d h
  refine Z8 5 I (Z1h (ar := [(Zr v6), (.int .i64 v2.1)]) (caps := []) Tryz.call81 (F81_ok K v6 v2.1 v8 hv8) I I ⟨rfl, rfl, trivial⟩ I) ?_
  have ⟨v10, hv10, h⟩ := Z1d h
  refine Z8 6 I (Z1h (ar := [(Z4 a0), (.sl 1 (v8.map Z18) false)]) (caps := []) Tryz.call75 (F75_ok K a0 v8 v10 hv10) I I ⟨rfl, rfl, trivial⟩ I) <| Z8 7 I (Zk (v := (.sl 1 (v10.map Z1c) false)) I I) <| Z8 8 I (Zk (v := (.int .i64 0)) I I) <| AOpsD.nil (by kernel_rfl) I <| Zh <| Z1a ?_
  have h := Option.some.inj h
  subst h
  refine (hret _ ?_).1
  exact ⟨[(.sl 1 (v10.map Z1c) false), (.int .i64 0)], ⟨rfl, rfl, trivial⟩, rfl, trivial⟩
def F8_j20 (K : Nat) (v19 : Bool) : Option (Bool) :=
 some v19
def F8_j22 (K : Nat) (v4 : Zb) (a2 : Int) (v14 : (List Str) × Int) (a1 : Int) (v21 : Bool) : Option (Bool) :=
 if v21 = true then
  some false
 else
  (F36 K v4 (List.map (fun n : Int => UInt8.ofNat n.toNat) [(IntKind.u8.wrap (97 + (a2.tmod 7)))])).bind fun v24 =>
   if (v24.2 != 0) = true then
    some true
   else
    (F38 K v14.1 (List.map (fun n : Int => UInt8.ofNat n.toNat) [(IntKind.u8.wrap (97 + (a2.tmod 7)))])).bind fun v26 =>
     (F38 K v24.1 (List.map (fun n : Int => UInt8.ofNat n.toNat) [(IntKind.u8.wrap (97 + (a1.tmod 7)))])).bind fun v28 =>
      some (v26 == v28)
def F8_c11 (K : Nat) (v4 : Zb) (a1 : Int) (a2 : Int) : Option (Bool) :=
 (F35 K v4 (List.map (fun n : Int => UInt8.ofNat n.toNat) [(IntKind.u8.wrap (97 + (a1.tmod 7)))])).bind fun v14 =>
  (F36 K v4 (List.map (fun n : Int => UInt8.ofNat n.toNat) [(IntKind.u8.wrap (97 + (a1.tmod 7)))])).bind fun v16 =>
   (F31 K v4 (List.map (fun n : Int => UInt8.ofNat n.toNat) [(IntKind.u8.wrap (97 + (a1.tmod 7)))])).bind fun v18 =>
    if (v18.Spans == 0) = true then
     if ((v14.1.length : Int) == 0) = true then
      if (v14.2 == 10) = true then
       if ((v16.1.length : Int) == 0) = true then
        F8_j20 K (v16.2 == 10)
       else
        F8_j20 K false
      else
       F8_j20 K false
     else
      F8_j20 K false
    else
     (F37 K v4 (List.map (fun n : Int => UInt8.ofNat n.toNat) [(IntKind.u8.wrap (97 + (a1.tmod 7)))]) true).bind fun v30 =>
      (F32 K v14.1 v30).bind fun v32 =>
       if (!v32) = true then
        F8_j22 K v4 a2 v14 a1 true
       else
        if (v14.2 != 0) = true then
         F8_j22 K v4 a2 v14 a1 true
        else
         (F37 K v4 (List.map (fun n : Int => UInt8.ofNat n.toNat) [(IntKind.u8.wrap (97 + (a1.tmod 7)))]) false).bind fun v34 =>
          (F32 K v16.1 v34).bind fun v36 =>
           if (!v36) = true then
            F8_j22 K v4 a2 v14 a1 true
           else
            F8_j22 K v4 a2 v14 a1 (v16.2 != 0)
def F8_j40 (K : Nat) (b37 : Int → Option (Bool)) (v9 : Int) (v39 : Bool) : Option (Bool) :=
 if v39 = true then
  some false
 else
  b37 (IntKind.i64.wrap (v9 + 1))
def F8_l10 (K : Nat) (v4 : Zb) (v6 : Z1e) (c12 : Option (Bool)) : Nat → Int → Option (Bool)
 | 0, _ => none
 | k10 + 1, v9 =>
  if (decide (v9 < (v4.Calls.length : Int))) = true then
   if (0 : Int) ≤ v9 ∧ v9 < v6.Edges.length then
    if (decide ((v6.Edges.getD v9.toNat Zd).From < 0)) = true then
     F8_j40 K (F8_l10 K v4 v6 c12 k10) v9 true
    else
     if (decide ((v6.Edges.getD v9.toNat Zd).From ≥ (v4.Services.length : Int))) = true then
      F8_j40 K (F8_l10 K v4 v6 c12 k10) v9 true
     else
      if (decide ((v6.Edges.getD v9.toNat Zd).To < 0)) = true then
       F8_j40 K (F8_l10 K v4 v6 c12 k10) v9 true
      else
       if (decide ((v6.Edges.getD v9.toNat Zd).To ≥ (v4.Services.length : Int))) = true then
        F8_j40 K (F8_l10 K v4 v6 c12 k10) v9 true
       else
        if (0 : Int) ≤ (v6.Edges.getD v9.toNat Zd).From ∧ (v6.Edges.getD v9.toNat Zd).From < v4.Services.length then
         if (0 : Int) ≤ v9 ∧ v9 < v4.Calls.length then
          if (!((v4.Services.getD (v6.Edges.getD v9.toNat Zd).From.toNat Z6).Name == (v4.Calls.getD v9.toNat Z5).Caller)) = true then
           F8_j40 K (F8_l10 K v4 v6 c12 k10) v9 true
          else
           if (0 : Int) ≤ (v6.Edges.getD v9.toNat Zd).To ∧ (v6.Edges.getD v9.toNat Zd).To < v4.Services.length then
            if (0 : Int) ≤ v9 ∧ v9 < v4.Calls.length then
             F8_j40 K (F8_l10 K v4 v6 c12 k10) v9 (!((v4.Services.getD (v6.Edges.getD v9.toNat Zd).To.toNat Z6).Name == (v4.Calls.getD v9.toNat Z5).Callee))
            else none
           else none
         else none
        else none
   else none
  else
   c12
def F8_j8 (K : Nat) (v4 : Zb) (v6 : Z1e) (a1 : Int) (a2 : Int) (v7 : Bool) : Option (Bool) :=
 if v7 = true then
  some false
 else
  F8_l10 K v4 v6 (F8_c11 K v4 a1 a2) K 0
noncomputable def F8 (K : Nat) (a0 : (List Z1l)) (a1 : Int) (a2 : Int) : Option (Bool) :=
 (F11 K).bind fun v2 =>
  if (!v2) = true then
   some false
  else
   (F22 K a0).bind fun v4 =>
    (F33 K v4).bind fun v6 =>
     if (v6.Count != (v4.Services.length : Int)) = true then
      F8_j8 K v4 v6 a1 a2 true
     else
      if ((v6.Edges.length : Int) != (v4.Calls.length : Int)) = true then
       F8_j8 K v4 v6 a1 a2 true
      else
       (F34 K v6).bind fun v46 =>
        F8_j8 K v4 v6 a1 a2 (v46 != 0)
theorem F8_ok (K : Nat) (a0 : (List Z1l)) (a1 : Int) (a2 : Int) (r : Bool) (h : F8 K a0 a1 a2 = some r) : ACall P 8 ⟨[(.sl 3 (a0.map Z13) false), (.int .u8 a1), (.int .u8 a2)], [], (.bool r), [], []⟩ := by
 refine Z1n Tryz.func8 Tryz.results8 rfl Tryz.ntmps8 rfl rfl rfl ?_
 intro E Q hP hN hro hret
 obtain ⟨P', nt', w0, F0, p0, S0, β0, ro0⟩ := E
 simp only at hP hN
 subst hP hN
 dsimp only [argT]
 unfold F8 at h
 refine Zi <| Za <| Z1 I (Zk (v := (.bool false)) I I) I <| Zf <| Zh <| Zi <| Zi <| Za ?_
 have ⟨v2, hv2, h⟩ := Z1d h
 refine Z1 I (Z1h (ar := []) (caps := []) Tryz.call11 (F11_ok K v2 hv2) I I trivial I) I <| Z1 I (st_not (b := v2) I I) I <| Zf <| Zh ?_
 have hif := of_if h
 refine Z15 I (fun hc => ?_) (fun hc => ?_)
 ·have h := hif.1 hc
  refine Zi <| Za <| Z1 I (Zk (v := (.bool false)) I I) I <| Zf <| Zh <| Z1a <| Z1f ?_
  have h := Option.some.inj h
  subst h
  refine (hret _ ?_).1
  exact ⟨[(.bool false)], ⟨rfl, trivial⟩, rfl, trivial⟩
 ·have h := hif.2 hc
  refine Z17 <| Zh <| Zi <| Za <| Z1 I (Zj (v := (.sl 3 (a0.map Z13) false)) I I) I ?_
  have ⟨v4, hv4, h⟩ := Z1d h
  refine Z1 I (Z1h (ar := [(.sl 3 (a0.map Z13) false)]) (caps := []) Tryz.call22 (F22_ok K a0 v4 hv4) I I ⟨rfl, trivial⟩ I) I <| Z1 I (st_alloc (cs := [(.sl 4 [] false), (.sl 5 [] false)]) I z44 I I I) I <| Z1 I (Z1i (cs := [(.sl 4 [] false), (.sl 5 [] false)]) (vs := (Z4 v4).cells) (ds := (Z4 v4).cells) (v := (Z4 v4)) sz44 I I I I I I I I) I <| Zf <| Zh <| Zi <| Za <| Z1 I (Z1p (cs := (Z4 v4).cells) (vs := (Z4 v4).cells) I a44 I I I I) I ?_
  have ⟨v6, hv6, h⟩ := Z1d h
  refine Z1 I (Z1h (ar := [(Z4 v4)]) (caps := []) Tryz.call33 (F33_ok K v4 v6 hv6) I I ⟨rfl, trivial⟩ I) I <| Z1 I (st_alloc (cs := [(.int .i64 0), (.sl 2 [] false)]) I z83 I I I) I <| Z1 I (Z1i (cs := [(.int .i64 0), (.sl 2 [] false)]) (vs := (Zr v6).cells) (ds := (Zr v6).cells) (v := (Zr v6)) sz83 I I I I I I I I) I <| Zf <| Zh <| Zi <| Zi ?_
  refine AWp.join (V := Bool) (lp := fun v => F8_j8 K v4 v6 a1 a2 v = some r) (sh := fun v => ⟨[(1, (.int .u8 a1)), (2, (.int .u8 a2)), (7, (.ptr 7 0)), (8, (.ptr 8 0)), (44, (.bool v))], [(7, (.box (Z4 v4).cells)), (8, (.box (Zr v6).cells))]⟩) ?_ ?_
  ·intro v h
   revert h
   revert v
   intro v7 h
   try dsimp only at h ⊢
   unfold F8_j8 at h
   refine Zh ?_
   have hif := of_if h
   refine Z15 I (fun hc => ?_) (fun hc => ?_)
   ·have h := hif.1 hc
    refine Zi <| Za <| Z1 I (Zk (v := (.bool false)) I I) I <| Zf <| Zh <| Z1a <| Z1f ?_
    have h := Option.some.inj h
    subst h
    refine (hret _ ?_).1
    exact ⟨[(.bool false)], ⟨rfl, trivial⟩, rfl, trivial⟩
   ·have h := hif.2 hc
    refine Z17 <| Zh <| Zi <| Zi <| Za <| Z1 I (Zk (v := (.int .i64 0)) I I) I <| Zf <| Zh ?_
    refine Z1r (st' := ⟨[(1, (.int .u8 a1)), (2, (.int .u8 a2)), (7, (.ptr 7 0)), (8, (.ptr 8 0)), (9, (.int .i64 0))], [(7, (.box (Z4 v4).cells)), (8, (.box (Zr v6).cells))]⟩) ⟨rfl, rfl, rfl, rfl, rfl, trivial⟩ ⟨rfl, rfl, trivial⟩ ?_
    refine Z1g (V := Int) (X := Unit) (lp := fun k v => F8_l10 K v4 v6 (F8_c11 K v4 a1 a2) k v = some r) (sh := fun v => ⟨[(1, (.int .u8 a1)), (2, (.int .u8 a2)), (7, (.ptr 7 0)), (8, (.ptr 8 0)), (9, (.int .i64 v))], [(7, (.box (Z4 v4).cells)), (8, (.box (Zr v6).cells))]⟩) (x := fun v => F8_c11 K v4 a1 a2 = some r) (shx := fun v => ⟨[(1, (.int .u8 a1)), (2, (.int .u8 a2)), (7, (.ptr 7 0))], [(7, (.box (Z4 v4).cells))]⟩) (k := K) (v := 0) h ?_ ?_
    ·intro v h
     try dsimp only at h ⊢
     unfold F8_c11 at h
     refine Zh <| Zi <| Z1w mixed <| Z8 0 I (Zj (v := (.int .u8 a1)) I I) <| Z8 1 I (st_div (k := .u8) (a := a1) (b := 7) (c := (a1.tmod 7)) I I I I (by decide)) <| Z8 2 I (Z1o (k := .u8) (a := 97) (b := (a1.tmod 7)) (c := (IntKind.u8.wrap (97 + (a1.tmod 7)))) I I I I) <| Z8 3 I (Z1j (vs := [(.int .u8 (IntKind.u8.wrap (97 + (a1.tmod 7))))]) (enc := e_u8) (l := [(IntKind.u8.wrap (97 + (a1.tmod 7)))]) I el70 I I ⟨rfl, trivial⟩ I els_u8 I I I I) <| Z8 4 I (st_convBS (enc := e_u8) (l := [(IntKind.u8.wrap (97 + (a1.tmod 7)))]) I u70 u5 u9 I I (fun _ => I)) ?_
     refine Z8 5 I (Zj (v := (.int .u8 a2)) I I) <| Z8 6 I (st_div (k := .u8) (a := a2) (b := 7) (c := (a2.tmod 7)) I I I I (by decide)) <| Z8 7 I (Z1o (k := .u8) (a := 97) (b := (a2.tmod 7)) (c := (IntKind.u8.wrap (97 + (a2.tmod 7)))) I I I I) <| Z8 8 I (Z1j (vs := [(.int .u8 (IntKind.u8.wrap (97 + (a2.tmod 7))))]) (enc := e_u8) (l := [(IntKind.u8.wrap (97 + (a2.tmod 7)))]) I el70 I I ⟨rfl, trivial⟩ I els_u8 I I I I) <| Z8 9 I (st_convBS (enc := e_u8) (l := [(IntKind.u8.wrap (97 + (a2.tmod 7)))]) I u70 u5 u9 I I (fun _ => I)) <| Z8 10 I (Zk (v := (.str (List.map (fun n : Int => UInt8.ofNat n.toNat) [(IntKind.u8.wrap (97 + (a1.tmod 7)))]))) I I) <| Z8 11 I (Zk (v := (.str (List.map (fun n : Int => UInt8.ofNat n.toNat) [(IntKind.u8.wrap (97 + (a2.tmod 7)))]))) I I) <| AOpsD.nil (by kernel_rfl) I ?_
     refine Zh <| Zi <| Za <| Z1 I (Z1p (cs := (Z4 v4).cells) (vs := (Z4 v4).cells) I a44 I I I I) I <| Z1 I (Zj (v := (.str (List.map (fun n : Int => UInt8.ofNat n.toNat) [(IntKind.u8.wrap (97 + (a1.tmod 7)))]))) I I) I ?_
     have ⟨v14, hv14, h⟩ := Z1d h
     refine Z1 I (Z1h (ar := [(Z4 v4), (.str (List.map (fun n : Int => UInt8.ofNat n.toNat) [(IntKind.u8.wrap (97 + (a1.tmod 7)))]))]) (caps := []) Tryz.call35 (F35_ok K v4 (List.map (fun n : Int => UInt8.ofNat n.toNat) [(IntKind.u8.wrap (97 + (a1.tmod 7)))]) v14 hv14) I I ⟨rfl, rfl, trivial⟩ I) I <| Z1 I (Zj (v := (.tup [(.sl 1 (v14.1.map Z1c) false), (.int .i64 v14.2)])) I I) I <| Z1 I (st_extract (vs := [(.sl 1 (v14.1.map Z1c) false), (.int .i64 v14.2)]) (v := (.sl 1 (v14.1.map Z1c) false)) I I I) I <| Z1 I (st_extract (vs := [(.sl 1 (v14.1.map Z1c) false), (.int .i64 v14.2)]) (v := (.int .i64 v14.2)) I I I) I <| Z1 I (Zk (v := (.sl 1 (v14.1.map Z1c) false)) I I) I <| Z1 I (Zk (v := (.int .i64 v14.2)) I I) I <| Zf <| Zh ?_
     refine Zi <| Za <| Z1 I (Z1p (cs := (Z4 v4).cells) (vs := (Z4 v4).cells) I a44 I I I I) I <| Z1 I (Zj (v := (.str (List.map (fun n : Int => UInt8.ofNat n.toNat) [(IntKind.u8.wrap (97 + (a1.tmod 7)))]))) I I) I ?_
     have ⟨v16, hv16, h⟩ := Z1d h
     refine Z1 I (Z1h (ar := [(Z4 v4), (.str (List.map (fun n : Int => UInt8.ofNat n.toNat) [(IntKind.u8.wrap (97 + (a1.tmod 7)))]))]) (caps := []) Tryz.call36 (F36_ok K v4 (List.map (fun n : Int => UInt8.ofNat n.toNat) [(IntKind.u8.wrap (97 + (a1.tmod 7)))]) v16 hv16) I I ⟨rfl, rfl, trivial⟩ I) I <| Z1 I (Zj (v := (.tup [(.sl 1 (v16.1.map Z1c) false), (.int .i64 v16.2)])) I I) I <| Z1 I (st_extract (vs := [(.sl 1 (v16.1.map Z1c) false), (.int .i64 v16.2)]) (v := (.sl 1 (v16.1.map Z1c) false)) I I I) I <| Z1 I (st_extract (vs := [(.sl 1 (v16.1.map Z1c) false), (.int .i64 v16.2)]) (v := (.int .i64 v16.2)) I I I) I <| Z1 I (Zk (v := (.sl 1 (v16.1.map Z1c) false)) I I) I <| Z1 I (Zk (v := (.int .i64 v16.2)) I I) I <| Zf <| Zh ?_
     refine Zi <| Zi <| Za <| Z1 I (Z1p (cs := (Z4 v4).cells) (vs := (Z4 v4).cells) I a44 I I I I) I <| Z1 I (Zj (v := (.str (List.map (fun n : Int => UInt8.ofNat n.toNat) [(IntKind.u8.wrap (97 + (a1.tmod 7)))]))) I I) I ?_
     have ⟨v18, hv18, h⟩ := Z1d h
     refine Z1 I (Z1h (ar := [(Z4 v4), (.str (List.map (fun n : Int => UInt8.ofNat n.toNat) [(IntKind.u8.wrap (97 + (a1.tmod 7)))]))]) (caps := []) Tryz.call31 (F31_ok K v4 (List.map (fun n : Int => UInt8.ofNat n.toNat) [(IntKind.u8.wrap (97 + (a1.tmod 7)))]) v18 hv18) I I ⟨rfl, rfl, trivial⟩ I) I <| Z1 I (st_field (cs := (Z2 v18).cells) (v := (.int .i64 v18.Spans)) I ft68_1 o3 I I) I <| Z1 I (Z1t (k := .i64) (a := v18.Spans) (b := 0) (c := (v18.Spans == 0)) I I I I) I <| Zf <| Zh ?_
     have hif := of_if h
     refine Z15 I (fun hc => ?_) (fun hc => ?_)
     ·have h := hif.1 hc
      refine Zi ?_
      refine AWp.join (V := Bool) (lp := fun v => F8_j20 K v = some r) (sh := fun v => ⟨[(6, (.bool v))], []⟩) ?_ ?_
      ·intro v h
       revert h
       revert v
       intro v19 h
       try dsimp only at h ⊢
       unfold F8_j20 at h
       refine Zh <| Z1a <| Z1f ?_
       have h := Option.some.inj h
       subst h
       refine (hret _ ?_).1
       exact ⟨[(.bool v19)], ⟨rfl, trivial⟩, rfl, trivial⟩
      ·intro J20
       refine Za <| Z1 I (Zj (v := (.sl 1 (v14.1.map Z1c) false)) I I) I <| Z1 I (stx_len (l := v14.1) (enc := Z1c) I s73 I) I <| Z1 I (Z1t (k := .i64) (a := (v14.1.length : Int)) (b := 0) (c := ((v14.1.length : Int) == 0)) I I I I) I <| Z1 I (Zj (v := (.bool ((v14.1.length : Int) == 0))) I I) I ?_
       have hif := of_if h
       refine AOps.split (fun hc => ?_) (fun hc => ?_)
       ·have h := hif.1 hc
        refine Zz I I I I (Zj (v := (.int .i64 v14.2)) I I) I <| Zz I I I I (Z1t (k := .i64) (a := v14.2) (b := 10) (c := (v14.2 == 10)) I I I I) I <| Z1 I (st_pickT (v := (.bool (v14.2 == 10))) I I I) I <| Z1 I (Zj (v := (.bool (v14.2 == 10))) I I) I ?_
        have hif := of_if h
        refine AOps.split (fun hc => ?_) (fun hc => ?_)
        ·have h := hif.1 hc
         refine Zz I I I I (Zj (v := (.sl 1 (v16.1.map Z1c) false)) I I) I <| Zz I I I I (stx_len (l := v16.1) (enc := Z1c) I s73 I) I <| Zz I I I I (Z1t (k := .i64) (a := (v16.1.length : Int)) (b := 0) (c := ((v16.1.length : Int) == 0)) I I I I) I <| Z1 I (st_pickT (v := (.bool ((v16.1.length : Int) == 0))) I I I) I <| Z1 I (Zj (v := (.bool ((v16.1.length : Int) == 0))) I I) I ?_
         have hif := of_if h
         refine AOps.split (fun hc => ?_) (fun hc => ?_)
         ·have h := hif.1 hc
          refine Zz I I I I (Zj (v := (.int .i64 v16.2)) I I) I <| Zz I I I I (Z1t (k := .i64) (a := v16.2) (b := 10) (c := (v16.2 == 10)) I I I I) I <| Z1 I (st_pickT (v := (.bool (v16.2 == 10))) I I I) I <| Z1 I (Zk (v := (.bool (v16.2 == 10))) I I) I <| Zf ?_
          exact Zw (st' := ⟨[(6, (.bool (v16.2 == 10)))], []⟩) ⟨rfl, trivial⟩ trivial (J20 (v16.2 == 10) h)
         ·have h := hif.2 hc
          refine Zu I I I I I I I <| Zu I I I I I I I <| Z1 I (st_pickF (v := (.bool false)) I I I) I <| Z1 I (Zk (v := (.bool false)) I I) I <| Zf ?_
          exact Zw (st' := ⟨[(6, (.bool false))], []⟩) ⟨rfl, trivial⟩ trivial (J20 false h)
        ·have h := hif.2 hc
         refine Zu I I I I I I I <| Zu I I I I I I I <| Zu I I I I I I I <| Z1 I (st_pickF (v := (.bool false)) I I I) I <| Z1 I (Zj (v := (.bool false)) I I) I <| Zu I I I I I I I <| Zu I I I I I I I <| Z1 I (st_pickF (v := (.bool false)) I I I) I ?_
         refine Z1 I (Zk (v := (.bool false)) I I) I <| Zf ?_
         exact Zw (st' := ⟨[(6, (.bool false))], []⟩) ⟨rfl, trivial⟩ trivial (J20 false h)
       ·have h := hif.2 hc
        refine Zu I I I I I I I <| Zu I I I I I I I <| Z1 I (st_pickF (v := (.bool false)) I I I) I <| Z1 I (Zj (v := (.bool false)) I I) I <| Zu I I I I I I I <| Zu I I I I I I I <| Zu I I I I I I I <| Z1 I (st_pickF (v := (.bool false)) I I I) I ?_
        refine Z1 I (Zj (v := (.bool false)) I I) I <| Zu I I I I I I I <| Zu I I I I I I I <| Z1 I (st_pickF (v := (.bool false)) I I I) I <| Z1 I (Zk (v := (.bool false)) I I) I <| Zf ?_
        exact Zw (st' := ⟨[(6, (.bool false))], []⟩) ⟨rfl, trivial⟩ trivial (J20 false h)
     ·have h := hif.2 hc
      refine Z17 <| Zh <| Zi <| Zi ?_
      refine AWp.join (V := Bool) (lp := fun v => F8_j22 K v4 a2 v14 a1 v = some r) (sh := fun v => ⟨[(7, (.ptr 7 0)), (11, (.str (List.map (fun n : Int => UInt8.ofNat n.toNat) [(IntKind.u8.wrap (97 + (a1.tmod 7)))]))), (12, (.str (List.map (fun n : Int => UInt8.ofNat n.toNat) [(IntKind.u8.wrap (97 + (a2.tmod 7)))]))), (13, (.sl 1 (v14.1.map Z1c) false)), (177, (.bool v))], [(7, (.box (Z4 v4).cells))]⟩) ?_ ?_
      ·intro v h
       revert h
       revert v
       intro v21 h
       try dsimp only at h ⊢
       unfold F8_j22 at h
       refine Zh ?_
       have hif := of_if h
       refine Z15 I (fun hc => ?_) (fun hc => ?_)
       ·have h := hif.1 hc
        refine Zi <| Za <| Z1 I (Zk (v := (.bool false)) I I) I <| Zf <| Zh <| Z1a <| Z1f ?_
        have h := Option.some.inj h
        subst h
        refine (hret _ ?_).1
        exact ⟨[(.bool false)], ⟨rfl, trivial⟩, rfl, trivial⟩
       ·have h := hif.2 hc
        refine Z17 <| Zh <| Zi <| Za <| Z1 I (Z1p (cs := (Z4 v4).cells) (vs := (Z4 v4).cells) I a44 I I I I) I <| Z1 I (Zj (v := (.str (List.map (fun n : Int => UInt8.ofNat n.toNat) [(IntKind.u8.wrap (97 + (a2.tmod 7)))]))) I I) I ?_
        have ⟨v24, hv24, h⟩ := Z1d h
        refine Z1 I (Z1h (ar := [(Z4 v4), (.str (List.map (fun n : Int => UInt8.ofNat n.toNat) [(IntKind.u8.wrap (97 + (a2.tmod 7)))]))]) (caps := []) Tryz.call36 (F36_ok K v4 (List.map (fun n : Int => UInt8.ofNat n.toNat) [(IntKind.u8.wrap (97 + (a2.tmod 7)))]) v24 hv24) I I ⟨rfl, rfl, trivial⟩ I) I <| Z1 I (Zj (v := (.tup [(.sl 1 (v24.1.map Z1c) false), (.int .i64 v24.2)])) I I) I <| Z1 I (st_extract (vs := [(.sl 1 (v24.1.map Z1c) false), (.int .i64 v24.2)]) (v := (.sl 1 (v24.1.map Z1c) false)) I I I) I <| Z1 I (st_extract (vs := [(.sl 1 (v24.1.map Z1c) false), (.int .i64 v24.2)]) (v := (.int .i64 v24.2)) I I I) I <| Z1 I (Zk (v := (.sl 1 (v24.1.map Z1c) false)) I I) I <| Z1 I (Zk (v := (.int .i64 v24.2)) I I) I <| Zf <| Zh ?_
        refine Zi <| Za <| Z1 I (Zj (v := (.int .i64 v24.2)) I I) I <| Z1 I (Z1t (k := .i64) (a := v24.2) (b := 0) (c := (v24.2 != 0)) I I I I) I <| Z1 I (Zj (v := (.bool (v24.2 != 0))) I I) I ?_
        have hif := of_if h
        refine AOps.split (fun hc => ?_) (fun hc => ?_)
        ·have h := hif.1 hc
         refine Zu I I I I I I I <| Zu I I I I I I I <| Zu I I I I I I I <| Zu I I I I I I I <| Zu I I I I I I I <| Zu I I I I I I I <| Zu I I I I I I I <| Z1 I (st_pickT (v := (.bool true)) I I I) I ?_
         refine Z1 I (Zk (v := (.bool true)) I I) I <| Zf <| Zh <| Z1a ?_
         have h := Option.some.inj h
         subst h
         refine (hret _ ?_).1
         exact ⟨[(.bool true)], ⟨rfl, trivial⟩, rfl, trivial⟩
        ·have h := hif.2 hc
         refine Zz I I I I (Zj (v := (.sl 1 (v14.1.map Z1c) false)) I I) I <| Zz I I I I (Zj (v := (.str (List.map (fun n : Int => UInt8.ofNat n.toNat) [(IntKind.u8.wrap (97 + (a2.tmod 7)))]))) I I) I ?_
         have ⟨v26, hv26, h⟩ := Z1d h
         refine Zz I I I I (Z1h (ar := [(.sl 1 (v14.1.map Z1c) false), (.str (List.map (fun n : Int => UInt8.ofNat n.toNat) [(IntKind.u8.wrap (97 + (a2.tmod 7)))]))]) (caps := []) Tryz.call38 (F38_ok K v14.1 (List.map (fun n : Int => UInt8.ofNat n.toNat) [(IntKind.u8.wrap (97 + (a2.tmod 7)))]) v26 hv26) I I ⟨rfl, rfl, trivial⟩ I) I <| Zz I I I I (Zj (v := (.sl 1 (v24.1.map Z1c) false)) I I) I <| Zz I I I I (Zj (v := (.str (List.map (fun n : Int => UInt8.ofNat n.toNat) [(IntKind.u8.wrap (97 + (a1.tmod 7)))]))) I I) I ?_
         have ⟨v28, hv28, h⟩ := Z1d h
         refine Zz I I I I (Z1h (ar := [(.sl 1 (v24.1.map Z1c) false), (.str (List.map (fun n : Int => UInt8.ofNat n.toNat) [(IntKind.u8.wrap (97 + (a1.tmod 7)))]))]) (caps := []) Tryz.call38 (F38_ok K v24.1 (List.map (fun n : Int => UInt8.ofNat n.toNat) [(IntKind.u8.wrap (97 + (a1.tmod 7)))]) v28 hv28) I I ⟨rfl, rfl, trivial⟩ I) I <| Zz I I I I (st_cmpB (c := (v26 == v28)) I u4 I I I) I <| Z1 I (st_pickF (v := (.bool (v26 == v28))) I I I) I <| Z1 I (Zk (v := (.bool (v26 == v28))) I I) I <| Zf <| Zh <| Z1a ?_
         have h := Option.some.inj h
         subst h
         refine (hret _ ?_).1
         exact ⟨[(.bool (v26 == v28))], ⟨rfl, trivial⟩, rfl, trivial⟩
      ·intro J22
       refine Za <| Z1 I (Zj (v := (.sl 1 (v14.1.map Z1c) false)) I I) I <| Z1 I (Z1p (cs := (Z4 v4).cells) (vs := (Z4 v4).cells) I a44 I I I I) I <| Z1 I (Zj (v := (.str (List.map (fun n : Int => UInt8.ofNat n.toNat) [(IntKind.u8.wrap (97 + (a1.tmod 7)))]))) I I) I ?_
       have ⟨v30, hv30, h⟩ := Z1d h
       refine Z1 I (Z1h (ar := [(Z4 v4), (.str (List.map (fun n : Int => UInt8.ofNat n.toNat) [(IntKind.u8.wrap (97 + (a1.tmod 7)))])), (.bool true)]) (caps := []) Tryz.call37 (F37_ok K v4 (List.map (fun n : Int => UInt8.ofNat n.toNat) [(IntKind.u8.wrap (97 + (a1.tmod 7)))]) true v30 hv30) I I ⟨rfl, rfl, rfl, trivial⟩ I) I ?_
       have ⟨v32, hv32, h⟩ := Z1d h
       refine Z1 I (Z1h (ar := [(.sl 1 (v14.1.map Z1c) false), (.sl 1 (v30.map Z1c) false)]) (caps := []) Tryz.call32 (F32_ok K v14.1 v30 v32 hv32) I I ⟨rfl, rfl, trivial⟩ I) I <| Z1 I (st_not (b := v32) I I) I <| Z1 I (Zj (v := (.bool (!v32))) I I) I ?_
       have hif := of_if h
       refine AOps.split (fun hc => ?_) (fun hc => ?_)
       ·have h := hif.1 hc
        refine Zu I I I I I I I <| Zu I I I I I I I <| Z1 I (st_pickT (v := (.bool true)) I I I) I <| Z1 I (Zj (v := (.bool true)) I I) I <| Zu I I I I I I I <| Zu I I I I I I I <| Zu I I I I I I I <| Zu I I I I I I I ?_
        refine Zu I I I I I I I <| Zu I I I I I I I <| Z1 I (st_pickT (v := (.bool true)) I I I) I <| Z1 I (Zj (v := (.bool true)) I I) I <| Zu I I I I I I I <| Zu I I I I I I I <| Z1 I (st_pickT (v := (.bool true)) I I I) I <| Zf ?_
        exact Zw (st' := ⟨[(7, (.ptr 7 0)), (11, (.str (List.map (fun n : Int => UInt8.ofNat n.toNat) [(IntKind.u8.wrap (97 + (a1.tmod 7)))]))), (12, (.str (List.map (fun n : Int => UInt8.ofNat n.toNat) [(IntKind.u8.wrap (97 + (a2.tmod 7)))]))), (13, (.sl 1 (v14.1.map Z1c) false)), (177, (.bool true))], [(7, (.box (Z4 v4).cells))]⟩) ⟨rfl, rfl, rfl, rfl, rfl, trivial⟩ ⟨rfl, trivial⟩ (J22 true h)
       ·have h := hif.2 hc
        refine Zz I I I I (Zj (v := (.int .i64 v14.2)) I I) I <| Zz I I I I (Z1t (k := .i64) (a := v14.2) (b := 0) (c := (v14.2 != 0)) I I I I) I <| Z1 I (st_pickF (v := (.bool (v14.2 != 0))) I I I) I <| Z1 I (Zj (v := (.bool (v14.2 != 0))) I I) I ?_
        have hif := of_if h
        refine AOps.split (fun hc => ?_) (fun hc => ?_)
        ·have h := hif.1 hc
         refine Zu I I I I I I I <| Zu I I I I I I I <| Zu I I I I I I I <| Zu I I I I I I I <| Zu I I I I I I I <| Zu I I I I I I I <| Z1 I (st_pickT (v := (.bool true)) I I I) I <| Z1 I (Zj (v := (.bool true)) I I) I ?_
         refine Zu I I I I I I I <| Zu I I I I I I I <| Z1 I (st_pickT (v := (.bool true)) I I I) I <| Zf ?_
         exact Zw (st' := ⟨[(7, (.ptr 7 0)), (11, (.str (List.map (fun n : Int => UInt8.ofNat n.toNat) [(IntKind.u8.wrap (97 + (a1.tmod 7)))]))), (12, (.str (List.map (fun n : Int => UInt8.ofNat n.toNat) [(IntKind.u8.wrap (97 + (a2.tmod 7)))]))), (13, (.sl 1 (v14.1.map Z1c) false)), (177, (.bool true))], [(7, (.box (Z4 v4).cells))]⟩) ⟨rfl, rfl, rfl, rfl, rfl, trivial⟩ ⟨rfl, trivial⟩ (J22 true h)
        ·have h := hif.2 hc
         refine Zz I I I I (Zj (v := (.sl 1 (v16.1.map Z1c) false)) I I) I <| Zz I I I I (Z1p (cs := (Z4 v4).cells) (vs := (Z4 v4).cells) I a44 I I I I) I <| Zz I I I I (Zj (v := (.str (List.map (fun n : Int => UInt8.ofNat n.toNat) [(IntKind.u8.wrap (97 + (a1.tmod 7)))]))) I I) I ?_
         have ⟨v34, hv34, h⟩ := Z1d h
         refine Zz I I I I (Z1h (ar := [(Z4 v4), (.str (List.map (fun n : Int => UInt8.ofNat n.toNat) [(IntKind.u8.wrap (97 + (a1.tmod 7)))])), (.bool false)]) (caps := []) Tryz.call37 (F37_ok K v4 (List.map (fun n : Int => UInt8.ofNat n.toNat) [(IntKind.u8.wrap (97 + (a1.tmod 7)))]) false v34 hv34) I I ⟨rfl, rfl, rfl, trivial⟩ I) I ?_
         have ⟨v36, hv36, h⟩ := Z1d h
         refine Zz I I I I (Z1h (ar := [(.sl 1 (v16.1.map Z1c) false), (.sl 1 (v34.map Z1c) false)]) (caps := []) Tryz.call32 (F32_ok K v16.1 v34 v36 hv36) I I ⟨rfl, rfl, trivial⟩ I) I <| Zz I I I I (st_not (b := v36) I I) I <| Z1 I (st_pickF (v := (.bool (!v36))) I I I) I <| Z1 I (Zj (v := (.bool (!v36))) I I) I ?_
         have hif := of_if h
         refine AOps.split (fun hc => ?_) (fun hc => ?_)
         ·have h := hif.1 hc
          refine Zu I I I I I I I <| Zu I I I I I I I <| Z1 I (st_pickT (v := (.bool true)) I I I) I <| Zf ?_
          exact Zw (st' := ⟨[(7, (.ptr 7 0)), (11, (.str (List.map (fun n : Int => UInt8.ofNat n.toNat) [(IntKind.u8.wrap (97 + (a1.tmod 7)))]))), (12, (.str (List.map (fun n : Int => UInt8.ofNat n.toNat) [(IntKind.u8.wrap (97 + (a2.tmod 7)))]))), (13, (.sl 1 (v14.1.map Z1c) false)), (177, (.bool true))], [(7, (.box (Z4 v4).cells))]⟩) ⟨rfl, rfl, rfl, rfl, rfl, trivial⟩ ⟨rfl, trivial⟩ (J22 true h)
         ·have h := hif.2 hc
          refine Zz I I I I (Zj (v := (.int .i64 v16.2)) I I) I <| Zz I I I I (Z1t (k := .i64) (a := v16.2) (b := 0) (c := (v16.2 != 0)) I I I I) I <| Z1 I (st_pickF (v := (.bool (v16.2 != 0))) I I I) I <| Zf ?_
          exact Zw (st' := ⟨[(7, (.ptr 7 0)), (11, (.str (List.map (fun n : Int => UInt8.ofNat n.toNat) [(IntKind.u8.wrap (97 + (a1.tmod 7)))]))), (12, (.str (List.map (fun n : Int => UInt8.ofNat n.toNat) [(IntKind.u8.wrap (97 + (a2.tmod 7)))]))), (13, (.sl 1 (v14.1.map Z1c) false)), (177, (.bool (v16.2 != 0)))], [(7, (.box (Z4 v4).cells))]⟩) ⟨rfl, rfl, rfl, rfl, rfl, trivial⟩ ⟨rfl, trivial⟩ (J22 (v16.2 != 0) h)
    ·intro N k10 v h IH10 J10
     revert h
     revert v
     intro v9 h
     try dsimp only at h IH10 J10 ⊢
     cases k10 with
     | zero => cases h
     | succ k10 =>
      rw [F8_l10] at h
      refine Zi <| Zi <| Za <| Z1 I (Zj (v := (.int .i64 v9)) I I) I <| Z1 I (Zq (m := 7) (o := 0) I f44_1 I I) I <| Z1 I (Zt (cs := (Z4 v4).cells) (v := (.sl 5 (v4.Calls.map Z3) false)) I o42 I I I) I <| Z1 I (stx_len (l := v4.Calls) (enc := Z3) I s42 I) I <| Z1 I (Z1t (k := .i64) (a := v9) (b := (v4.Calls.length : Int)) (c := (decide (v9 < (v4.Calls.length : Int)))) I I I I) I ?_
      refine Zf <| Zh ?_
      have hif := of_if h
      refine Z15 I (fun hc => ?_) (fun hc => ?_)
      ·have h := hif.1 hc
       refine Z17 <| Zh <| Zi <| AWp.block <| Zi <| Za <| Z1 I (Zq (m := 8) (o := 0) I f83_1 I I) I <| Z1 I (Zt (cs := (Zr v6).cells) (v := (.sl 2 (v6.Edges.map Zg) false)) I o81 I I I) I ?_
       refine Z1 I (Zj (v := (.int .i64 v9)) I I) I ?_
       have ⟨hg38, h⟩ := Zy h
       refine Z1 I (Z1s (k := .i64) (l := v6.Edges) (enc := Zg) (z := Zd) (n := v9) (cs := (Zg (v6.Edges.getD v9.toNat Zd)).cells) (full := false) I s81 I I hg38 I) I <| Z1 I (st_loadIA (cs := (Zg (v6.Edges.getD v9.toNat Zd)).cells) (vs := (Zg (v6.Edges.getD v9.toNat Zd)).cells) I a86 I I I) I <| Z1 I (st_alloc (cs := [(.int .i64 0), (.int .i64 0)]) I z86 I I I) I <| Z1 I (Z1i (cs := [(.int .i64 0), (.int .i64 0)]) (vs := (Zg (v6.Edges.getD v9.toNat Zd)).cells) (ds := (Zg (v6.Edges.getD v9.toNat Zd)).cells) (v := (Zg (v6.Edges.getD v9.toNat Zd))) sz86 I I I I I I I I) I <| Zf <| Zh <| Zi ?_
       refine AWp.join (V := Bool) (lp := fun v => F8_j40 K (F8_l10 K v4 v6 (F8_c11 K v4 a1 a2) k10) v9 v = some r) (sh := fun v => ⟨[(1, (.int .u8 a1)), (2, (.int .u8 a2)), (7, (.ptr 7 0)), (8, (.ptr 8 0)), (9, (.int .i64 v9)), (112, (.bool v))], [(7, (.box (Z4 v4).cells)), (8, (.box (Zr v6).cells))]⟩) ?_ ?_
       ·intro v h
        revert h
        revert v
        intro v39 h
        try dsimp only at h ⊢
        unfold F8_j40 at h
        refine Zh ?_
        have hif := of_if h
        refine Z15 I (fun hc => ?_) (fun hc => ?_)
        ·have h := hif.1 hc
         refine Zi <| Za <| Z1 I (Zk (v := (.bool false)) I I) I <| Zf <| Zh <| Z1a <| At.overR <| Z1f ?_
         refine Z1f (At.overR ?_)
         refine Z1f ?_
         have h := Option.some.inj h
         subst h
         refine (hret _ ?_).1
         exact ⟨[(.bool false)], ⟨rfl, trivial⟩, rfl, trivial⟩
        ·have h := hif.2 hc
         refine Z17 <| At.end <| Zh <| Za <| Z1 I (Zj (v := (.int .i64 v9)) I I) I <| Z1 I (Z1o (k := .i64) (a := v9) (b := 1) (c := (IntKind.i64.wrap (v9 + 1))) I I I I) I <| Z1 I (Zk (v := (.int .i64 (IntKind.i64.wrap (v9 + 1)))) I I) I <| Zf ?_
         exact Zw (st' := ⟨[(1, (.int .u8 a1)), (2, (.int .u8 a2)), (7, (.ptr 7 0)), (8, (.ptr 8 0)), (9, (.int .i64 (IntKind.i64.wrap (v9 + 1))))], [(7, (.box (Z4 v4).cells)), (8, (.box (Zr v6).cells))]⟩) ⟨rfl, rfl, rfl, rfl, rfl, trivial⟩ ⟨rfl, rfl, trivial⟩ (IH10 _ (IntKind.i64.wrap (v9 + 1)) (Nat.lt_succ_self _) h)
       ·intro J40
        refine Z1w mixed <| Z8 0 I (Zq (m := 10) (o := 0) I f86_0 I I) <| Z8 1 I (Zt (cs := (Zg (v6.Edges.getD v9.toNat Zd)).cells) (v := (.int .i64 (v6.Edges.getD v9.toNat Zd).From)) I o3 I I I) <| Z8 2 I (Z1t (k := .i64) (a := (v6.Edges.getD v9.toNat Zd).From) (b := 0) (c := (decide ((v6.Edges.getD v9.toNat Zd).From < 0))) I I I I) <| Z8 3 I (Zj (v := (.bool (decide ((v6.Edges.getD v9.toNat Zd).From < 0)))) I I) ?_
        have hif := of_if h
        refine AOpsD.split (fun hc => ?_) (fun hc => ?_)
        ·have h := hif.1 hc
         refine Zl 4 I I I I I I I <| Zl 5 I I I I I I I <| Zl 6 I I I I I I I <| Zl 7 I I I I I I I <| Zl 8 I I I I I I I <| Zl 9 I I I I I I I <| Z8 10 I (st_pickT (v := (.bool true)) I I I) <| Z8 11 I (Zj (v := (.bool true)) I I) ?_
         refine Zl 12 I I I I I I I <| Zl 13 I I I I I I I <| Zl 14 I I I I I I I <| Z8 15 I (st_pickT (v := (.bool true)) I I I) <| Z8 16 I (Zj (v := (.bool true)) I I) <| Zl 17 I I I I I I I <| Zl 18 I I I I I I I <| Zl 19 I I I I I I I ?_
         refine Zl 20 I I I I I I I <| Zl 21 I I I I I I I <| Zl 22 I I I I I I I <| Z8 23 I (st_pickT (v := (.bool true)) I I I) <| Z8 24 I (Zj (v := (.bool true)) I I) <| Zl 25 I I I I I I I <| Zl 26 I I I I I I I <| Zl 27 I I I I I I I ?_
         refine Zl 28 I I I I I I I <| Zl 29 I I I I I I I <| Zl 30 I I I I I I I <| Zl 31 I I I I I I I <| Zl 32 I I I I I I I <| Zl 33 I I I I I I I <| Zl 34 I I I I I I I <| Zl 35 I I I I I I I ?_
         refine Zl 36 I I I I I I I <| Zl 37 I I I I I I I <| Zl 38 I I I I I I I <| Z8 39 I (st_pickT (v := (.bool true)) I I I) <| Z8 40 I (Zj (v := (.bool true)) I I) <| Zl 41 I I I I I I I <| Zl 42 I I I I I I I <| Zl 43 I I I I I I I ?_
         refine Zl 44 I I I I I I I <| Zl 45 I I I I I I I <| Zl 46 I I I I I I I <| Zl 47 I I I I I I I <| Zl 48 I I I I I I I <| Zl 49 I I I I I I I <| Zl 50 I I I I I I I <| Zl 51 I I I I I I I ?_
         refine Zl 52 I I I I I I I <| Zl 53 I I I I I I I <| Zl 54 I I I I I I I <| Z8 55 I (st_pickT (v := (.bool true)) I I I) <| AOpsD.nil (by kernel_rfl) I ?_
         exact Zw (st' := ⟨[(1, (.int .u8 a1)), (2, (.int .u8 a2)), (7, (.ptr 7 0)), (8, (.ptr 8 0)), (9, (.int .i64 v9)), (112, (.bool true))], [(7, (.box (Z4 v4).cells)), (8, (.box (Zr v6).cells))]⟩) ⟨rfl, rfl, rfl, rfl, rfl, rfl, trivial⟩ ⟨rfl, rfl, trivial⟩ (J40 true h)
        ·have h := hif.2 hc
         refine Z10 4 I I I I (Zq (m := 10) (o := 0) I f86_0 I I) <| Z10 5 I I I I (Zt (cs := (Zg (v6.Edges.getD v9.toNat Zd)).cells) (v := (.int .i64 (v6.Edges.getD v9.toNat Zd).From)) I o3 I I I) <| Z10 6 I I I I (Zq (m := 7) (o := 0) I f44_0 I I) <| Z10 7 I I I I (Zt (cs := (Z4 v4).cells) (v := (.sl 4 (v4.Services.map Z2) false)) I o41 I I I) <| Z10 8 I I I I (stx_len (l := v4.Services) (enc := Z2) I s41 I) <| Z10 9 I I I I (Z1t (k := .i64) (a := (v6.Edges.getD v9.toNat Zd).From) (b := (v4.Services.length : Int)) (c := (decide ((v6.Edges.getD v9.toNat Zd).From ≥ (v4.Services.length : Int)))) I I I I) <| Z8 10 I (st_pickF (v := (.bool (decide ((v6.Edges.getD v9.toNat Zd).From ≥ (v4.Services.length : Int))))) I I I) <| Z8 11 I (Zj (v := (.bool (decide ((v6.Edges.getD v9.toNat Zd).From ≥ (v4.Services.length : Int))))) I I) ?_
         have hif := of_if h
         refine AOpsD.split (fun hc => ?_) (fun hc => ?_)
         ·have h := hif.1 hc
          refine Zl 12 I I I I I I I <| Zl 13 I I I I I I I <| Zl 14 I I I I I I I <| Z8 15 I (st_pickT (v := (.bool true)) I I I) <| Z8 16 I (Zj (v := (.bool true)) I I) <| Zl 17 I I I I I I I <| Zl 18 I I I I I I I <| Zl 19 I I I I I I I ?_
          refine Zl 20 I I I I I I I <| Zl 21 I I I I I I I <| Zl 22 I I I I I I I <| Z8 23 I (st_pickT (v := (.bool true)) I I I) <| Z8 24 I (Zj (v := (.bool true)) I I) <| Zl 25 I I I I I I I <| Zl 26 I I I I I I I <| Zl 27 I I I I I I I ?_
          refine Zl 28 I I I I I I I <| Zl 29 I I I I I I I <| Zl 30 I I I I I I I <| Zl 31 I I I I I I I <| Zl 32 I I I I I I I <| Zl 33 I I I I I I I <| Zl 34 I I I I I I I <| Zl 35 I I I I I I I ?_
          refine Zl 36 I I I I I I I <| Zl 37 I I I I I I I <| Zl 38 I I I I I I I <| Z8 39 I (st_pickT (v := (.bool true)) I I I) <| Z8 40 I (Zj (v := (.bool true)) I I) <| Zl 41 I I I I I I I <| Zl 42 I I I I I I I <| Zl 43 I I I I I I I ?_
          refine Zl 44 I I I I I I I <| Zl 45 I I I I I I I <| Zl 46 I I I I I I I <| Zl 47 I I I I I I I <| Zl 48 I I I I I I I <| Zl 49 I I I I I I I <| Zl 50 I I I I I I I <| Zl 51 I I I I I I I ?_
          refine Zl 52 I I I I I I I <| Zl 53 I I I I I I I <| Zl 54 I I I I I I I <| Z8 55 I (st_pickT (v := (.bool true)) I I I) <| AOpsD.nil (by kernel_rfl) I ?_
          exact Zw (st' := ⟨[(1, (.int .u8 a1)), (2, (.int .u8 a2)), (7, (.ptr 7 0)), (8, (.ptr 8 0)), (9, (.int .i64 v9)), (112, (.bool true))], [(7, (.box (Z4 v4).cells)), (8, (.box (Zr v6).cells))]⟩) ⟨rfl, rfl, rfl, rfl, rfl, rfl, trivial⟩ ⟨rfl, rfl, trivial⟩ (J40 true h)
         ·have h := hif.2 hc
          refine Z10 12 I I I I (Zq (m := 10) (o := 0) I f86_1 I I) <| Z10 13 I I I I (Zt (cs := (Zg (v6.Edges.getD v9.toNat Zd)).cells) (v := (.int .i64 (v6.Edges.getD v9.toNat Zd).To)) I o3 I I I) <| Z10 14 I I I I (Z1t (k := .i64) (a := (v6.Edges.getD v9.toNat Zd).To) (b := 0) (c := (decide ((v6.Edges.getD v9.toNat Zd).To < 0))) I I I I) <| Z8 15 I (st_pickF (v := (.bool (decide ((v6.Edges.getD v9.toNat Zd).To < 0)))) I I I) <| Z8 16 I (Zj (v := (.bool (decide ((v6.Edges.getD v9.toNat Zd).To < 0)))) I I) ?_
          have hif := of_if h
          refine AOpsD.split (fun hc => ?_) (fun hc => ?_)
          ·have h := hif.1 hc
           refine Zl 17 I I I I I I I <| Zl 18 I I I I I I I <| Zl 19 I I I I I I I <| Zl 20 I I I I I I I <| Zl 21 I I I I I I I <| Zl 22 I I I I I I I <| Z8 23 I (st_pickT (v := (.bool true)) I I I) <| Z8 24 I (Zj (v := (.bool true)) I I) ?_
           refine Zl 25 I I I I I I I <| Zl 26 I I I I I I I <| Zl 27 I I I I I I I <| Zl 28 I I I I I I I <| Zl 29 I I I I I I I <| Zl 30 I I I I I I I <| Zl 31 I I I I I I I <| Zl 32 I I I I I I I ?_
           refine Zl 33 I I I I I I I <| Zl 34 I I I I I I I <| Zl 35 I I I I I I I <| Zl 36 I I I I I I I <| Zl 37 I I I I I I I <| Zl 38 I I I I I I I <| Z8 39 I (st_pickT (v := (.bool true)) I I I) <| Z8 40 I (Zj (v := (.bool true)) I I) ?_
           refine Zl 41 I I I I I I I <| Zl 42 I I I I I I I <| Zl 43 I I I I I I I <| Zl 44 I I I I I I I <| Zl 45 I I I I I I I <| Zl 46 I I I I I I I <| Zl 47 I I I I I I I <| Zl 48 I I I I I I I ?_
           refine Zl 49 I I I I I I I <| Zl 50 I I I I I I I <| Zl 51 I I I I I I I <| Zl 52 I I I I I I I <| Zl 53 I I I I I I I <| Zl 54 I I I I I I I <| Z8 55 I (st_pickT (v := (.bool true)) I I I) <| AOpsD.nil (by kernel_rfl) I ?_
           exact Zw (st' := ⟨[(1, (.int .u8 a1)), (2, (.int .u8 a2)), (7, (.ptr 7 0)), (8, (.ptr 8 0)), (9, (.int .i64 v9)), (112, (.bool true))], [(7, (.box (Z4 v4).cells)), (8, (.box (Zr v6).cells))]⟩) ⟨rfl, rfl, rfl, rfl, rfl, rfl, trivial⟩ ⟨rfl, rfl, trivial⟩ (J40 true h)
          ·have h := hif.2 hc
           refine Z10 17 I I I I (Zq (m := 10) (o := 0) I f86_1 I I) <| Z10 18 I I I I (Zt (cs := (Zg (v6.Edges.getD v9.toNat Zd)).cells) (v := (.int .i64 (v6.Edges.getD v9.toNat Zd).To)) I o3 I I I) <| Z10 19 I I I I (Zq (m := 7) (o := 0) I f44_0 I I) <| Z10 20 I I I I (Zt (cs := (Z4 v4).cells) (v := (.sl 4 (v4.Services.map Z2) false)) I o41 I I I) <| Z10 21 I I I I (stx_len (l := v4.Services) (enc := Z2) I s41 I) <| Z10 22 I I I I (Z1t (k := .i64) (a := (v6.Edges.getD v9.toNat Zd).To) (b := (v4.Services.length : Int)) (c := (decide ((v6.Edges.getD v9.toNat Zd).To ≥ (v4.Services.length : Int)))) I I I I) <| Z8 23 I (st_pickF (v := (.bool (decide ((v6.Edges.getD v9.toNat Zd).To ≥ (v4.Services.length : Int))))) I I I) <| Z8 24 I (Zj (v := (.bool (decide ((v6.Edges.getD v9.toNat Zd).To ≥ (v4.Services.length : Int))))) I I) ?_
           have hif := of_if h
           refine AOpsD.split (fun hc => ?_) (fun hc => ?_)
           ·have h := hif.1 hc
            refine Zl 25 I I I I I I I <| Zl 26 I I I I I I I <| Zl 27 I I I I I I I <| Zl 28 I I I I I I I <| Zl 29 I I I I I I I <| Zl 30 I I I I I I I <| Zl 31 I I I I I I I <| Zl 32 I I I I I I I ?_
            refine Zl 33 I I I I I I I <| Zl 34 I I I I I I I <| Zl 35 I I I I I I I <| Zl 36 I I I I I I I <| Zl 37 I I I I I I I <| Zl 38 I I I I I I I <| Z8 39 I (st_pickT (v := (.bool true)) I I I) <| Z8 40 I (Zj (v := (.bool true)) I I) ?_
            refine Zl 41 I I I I I I I <| Zl 42 I I I I I I I <| Zl 43 I I I I I I I <| Zl 44 I I I I I I I <| Zl 45 I I I I I I I <| Zl 46 I I I I I I I <| Zl 47 I I I I I I I <| Zl 48 I I I I I I I ?_
            refine Zl 49 I I I I I I I <| Zl 50 I I I I I I I <| Zl 51 I I I I I I I <| Zl 52 I I I I I I I <| Zl 53 I I I I I I I <| Zl 54 I I I I I I I <| Z8 55 I (st_pickT (v := (.bool true)) I I I) <| AOpsD.nil (by kernel_rfl) I ?_
            exact Zw (st' := ⟨[(1, (.int .u8 a1)), (2, (.int .u8 a2)), (7, (.ptr 7 0)), (8, (.ptr 8 0)), (9, (.int .i64 v9)), (112, (.bool true))], [(7, (.box (Z4 v4).cells)), (8, (.box (Zr v6).cells))]⟩) ⟨rfl, rfl, rfl, rfl, rfl, rfl, trivial⟩ ⟨rfl, rfl, trivial⟩ (J40 true h)
           ·have h := hif.2 hc
            refine Z10 25 I I I I (Zq (m := 7) (o := 0) I f44_0 I I) <| Z10 26 I I I I (Zt (cs := (Z4 v4).cells) (v := (.sl 4 (v4.Services.map Z2) false)) I o41 I I I) <| Z10 27 I I I I (Zq (m := 10) (o := 0) I f86_0 I I) <| Z10 28 I I I I (Zt (cs := (Zg (v6.Edges.getD v9.toNat Zd)).cells) (v := (.int .i64 (v6.Edges.getD v9.toNat Zd).From)) I o3 I I I) ?_
            have ⟨hg41, h⟩ := Zy h
            refine Z10 29 I I I I (Z1s (k := .i64) (l := v4.Services) (enc := Z2) (z := Z6) (n := (v6.Edges.getD v9.toNat Zd).From) (cs := (Z2 (v4.Services.getD (v6.Edges.getD v9.toNat Zd).From.toNat Z6)).cells) (full := false) I s41 I I hg41 I) <| Z10 30 I I I I (st_fieldI (cs := (Z2 (v4.Services.getD (v6.Edges.getD v9.toNat Zd).From.toNat Z6)).cells) (ds := (Z2 (v4.Services.getD (v6.Edges.getD v9.toNat Zd).From.toNat Z6)).cells) I f68_0 I I I) <| Z10 31 I I I I (st_loadI (cs := (Z2 (v4.Services.getD (v6.Edges.getD v9.toNat Zd).From.toNat Z6)).cells) (v := (.str (v4.Services.getD (v6.Edges.getD v9.toNat Zd).From.toNat Z6).Name)) I o9 I I) <| Z10 32 I I I I (Zq (m := 7) (o := 0) I f44_1 I I) <| Z10 33 I I I I (Zt (cs := (Z4 v4).cells) (v := (.sl 5 (v4.Calls.map Z3) false)) I o42 I I I) <| Z10 34 I I I I (Zj (v := (.int .i64 v9)) I I) ?_
            have ⟨hg42, h⟩ := Zy h
            refine Z10 35 I I I I (Z1s (k := .i64) (l := v4.Calls) (enc := Z3) (z := Z5) (n := v9) (cs := (Z3 (v4.Calls.getD v9.toNat Z5)).cells) (full := false) I s42 I I hg42 I) <| Z10 36 I I I I (st_fieldI (cs := (Z3 (v4.Calls.getD v9.toNat Z5)).cells) (ds := (Z3 (v4.Calls.getD v9.toNat Z5)).cells) I f88_0 I I I) <| Z10 37 I I I I (st_loadI (cs := (Z3 (v4.Calls.getD v9.toNat Z5)).cells) (v := (.str (v4.Calls.getD v9.toNat Z5).Caller)) I o9 I I) <| Z10 38 I I I I (st_cmpS (a := (v4.Services.getD (v6.Edges.getD v9.toNat Zd).From.toNat Z6).Name) (b := (v4.Calls.getD v9.toNat Z5).Caller) (c := (!((v4.Services.getD (v6.Edges.getD v9.toNat Zd).From.toNat Z6).Name == (v4.Calls.getD v9.toNat Z5).Caller))) I I I I) <| Z8 39 I (st_pickF (v := (.bool (!((v4.Services.getD (v6.Edges.getD v9.toNat Zd).From.toNat Z6).Name == (v4.Calls.getD v9.toNat Z5).Caller)))) I I I) <| Z8 40 I (Zj (v := (.bool (!((v4.Services.getD (v6.Edges.getD v9.toNat Zd).From.toNat Z6).Name == (v4.Calls.getD v9.toNat Z5).Caller)))) I I) ?_
            have hif := of_if h
            refine AOpsD.split (fun hc => ?_) (fun hc => ?_)
            ·have h := hif.1 hc
             refine Zl 41 I I I I I I I <| Zl 42 I I I I I I I <| Zl 43 I I I I I I I <| Zl 44 I I I I I I I <| Zl 45 I I I I I I I <| Zl 46 I I I I I I I <| Zl 47 I I I I I I I <| Zl 48 I I I I I I I ?_
             refine Zl 49 I I I I I I I <| Zl 50 I I I I I I I <| Zl 51 I I I I I I I <| Zl 52 I I I I I I I <| Zl 53 I I I I I I I <| Zl 54 I I I I I I I <| Z8 55 I (st_pickT (v := (.bool true)) I I I) <| AOpsD.nil (by kernel_rfl) I ?_
             exact Zw (st' := ⟨[(1, (.int .u8 a1)), (2, (.int .u8 a2)), (7, (.ptr 7 0)), (8, (.ptr 8 0)), (9, (.int .i64 v9)), (112, (.bool true))], [(7, (.box (Z4 v4).cells)), (8, (.box (Zr v6).cells))]⟩) ⟨rfl, rfl, rfl, rfl, rfl, rfl, trivial⟩ ⟨rfl, rfl, trivial⟩ (J40 true h)
            ·have h := hif.2 hc
             refine Z10 41 I I I I (Zq (m := 7) (o := 0) I f44_0 I I) <| Z10 42 I I I I (Zt (cs := (Z4 v4).cells) (v := (.sl 4 (v4.Services.map Z2) false)) I o41 I I I) <| Z10 43 I I I I (Zq (m := 10) (o := 0) I f86_1 I I) <| Z10 44 I I I I (Zt (cs := (Zg (v6.Edges.getD v9.toNat Zd)).cells) (v := (.int .i64 (v6.Edges.getD v9.toNat Zd).To)) I o3 I I I) ?_
             have ⟨hg43, h⟩ := Zy h
             refine Z10 45 I I I I (Z1s (k := .i64) (l := v4.Services) (enc := Z2) (z := Z6) (n := (v6.Edges.getD v9.toNat Zd).To) (cs := (Z2 (v4.Services.getD (v6.Edges.getD v9.toNat Zd).To.toNat Z6)).cells) (full := false) I s41 I I hg43 I) <| Z10 46 I I I I (st_fieldI (cs := (Z2 (v4.Services.getD (v6.Edges.getD v9.toNat Zd).To.toNat Z6)).cells) (ds := (Z2 (v4.Services.getD (v6.Edges.getD v9.toNat Zd).To.toNat Z6)).cells) I f68_0 I I I) <| Z10 47 I I I I (st_loadI (cs := (Z2 (v4.Services.getD (v6.Edges.getD v9.toNat Zd).To.toNat Z6)).cells) (v := (.str (v4.Services.getD (v6.Edges.getD v9.toNat Zd).To.toNat Z6).Name)) I o9 I I) <| Z10 48 I I I I (Zq (m := 7) (o := 0) I f44_1 I I) <| Z10 49 I I I I (Zt (cs := (Z4 v4).cells) (v := (.sl 5 (v4.Calls.map Z3) false)) I o42 I I I) <| Z10 50 I I I I (Zj (v := (.int .i64 v9)) I I) ?_
             have ⟨hg44, h⟩ := Zy h
             refine Z10 51 I I I I (Z1s (k := .i64) (l := v4.Calls) (enc := Z3) (z := Z5) (n := v9) (cs := (Z3 (v4.Calls.getD v9.toNat Z5)).cells) (full := false) I s42 I I hg44 I) <| Z10 52 I I I I (st_fieldI (cs := (Z3 (v4.Calls.getD v9.toNat Z5)).cells) (ds := [(.str (v4.Calls.getD v9.toNat Z5).Callee), (.int .i64 (v4.Calls.getD v9.toNat Z5).Count), (.int .i64 (v4.Calls.getD v9.toNat Z5).Errors), (.int .i64 (v4.Calls.getD v9.toNat Z5).Time)]) I f88_1 I I I) <| Z10 53 I I I I (st_loadI (cs := [(.str (v4.Calls.getD v9.toNat Z5).Callee), (.int .i64 (v4.Calls.getD v9.toNat Z5).Count), (.int .i64 (v4.Calls.getD v9.toNat Z5).Errors), (.int .i64 (v4.Calls.getD v9.toNat Z5).Time)]) (v := (.str (v4.Calls.getD v9.toNat Z5).Callee)) I o9 I I) <| Z10 54 I I I I (st_cmpS (a := (v4.Services.getD (v6.Edges.getD v9.toNat Zd).To.toNat Z6).Name) (b := (v4.Calls.getD v9.toNat Z5).Callee) (c := (!((v4.Services.getD (v6.Edges.getD v9.toNat Zd).To.toNat Z6).Name == (v4.Calls.getD v9.toNat Z5).Callee))) I I I I) <| Z8 55 I (st_pickF (v := (.bool (!((v4.Services.getD (v6.Edges.getD v9.toNat Zd).To.toNat Z6).Name == (v4.Calls.getD v9.toNat Z5).Callee)))) I I I) <| AOpsD.nil (by kernel_rfl) I ?_
             exact Zw (st' := ⟨[(1, (.int .u8 a1)), (2, (.int .u8 a2)), (7, (.ptr 7 0)), (8, (.ptr 8 0)), (9, (.int .i64 v9)), (112, (.bool (!((v4.Services.getD (v6.Edges.getD v9.toNat Zd).To.toNat Z6).Name == (v4.Calls.getD v9.toNat Z5).Callee))))], [(7, (.box (Z4 v4).cells)), (8, (.box (Zr v6).cells))]⟩) ⟨rfl, rfl, rfl, rfl, rfl, rfl, trivial⟩ ⟨rfl, rfl, trivial⟩ (J40 (!((v4.Services.getD (v6.Edges.getD v9.toNat Zd).To.toNat Z6).Name == (v4.Calls.getD v9.toNat Z5).Callee)) h)
      ·have h := hif.2 hc
       refine AWp.exit <| At.thru ?_
       exact Zw (st' := ⟨[(1, (.int .u8 a1)), (2, (.int .u8 a2)), (7, (.ptr 7 0))], [(7, (.box (Z4 v4).cells))]⟩) ⟨rfl, rfl, rfl, trivial⟩ ⟨rfl, trivial⟩ (J10 () h)
  ·intro J8
   refine Za <| Z1 I (Zq (m := 8) (o := 0) I f83_0 I I) I <| Z1 I (Zt (cs := (Zr v6).cells) (v := (.int .i64 v6.Count)) I o3 I I I) I <| Z1 I (Zq (m := 7) (o := 0) I f44_0 I I) I <| Z1 I (Zt (cs := (Z4 v4).cells) (v := (.sl 4 (v4.Services.map Z2) false)) I o41 I I I) I <| Z1 I (stx_len (l := v4.Services) (enc := Z2) I s41 I) I <| Z1 I (Z1t (k := .i64) (a := v6.Count) (b := (v4.Services.length : Int)) (c := (v6.Count != (v4.Services.length : Int))) I I I I) I <| Z1 I (Zj (v := (.bool (v6.Count != (v4.Services.length : Int)))) I I) I ?_
   have hif := of_if h
   refine AOps.split (fun hc => ?_) (fun hc => ?_)
   ·have h := hif.1 hc
    refine Zu I I I I I I I <| Zu I I I I I I I <| Zu I I I I I I I <| Zu I I I I I I I <| Zu I I I I I I I <| Zu I I I I I I I <| Zu I I I I I I I <| Z1 I (st_pickT (v := (.bool true)) I I I) I ?_
    refine Z1 I (Zj (v := (.bool true)) I I) I <| Zu I I I I I I I <| Zu I I I I I I I <| Zu I I I I I I I <| Z1 I (st_pickT (v := (.bool true)) I I I) I <| Zf ?_
    exact Zw (st' := ⟨[(1, (.int .u8 a1)), (2, (.int .u8 a2)), (7, (.ptr 7 0)), (8, (.ptr 8 0)), (44, (.bool true))], [(7, (.box (Z4 v4).cells)), (8, (.box (Zr v6).cells))]⟩) ⟨rfl, rfl, rfl, rfl, rfl, trivial⟩ ⟨rfl, rfl, trivial⟩ (J8 true h)
   ·have h := hif.2 hc
    refine Zz I I I I (Zq (m := 8) (o := 0) I f83_1 I I) I <| Zz I I I I (Zt (cs := (Zr v6).cells) (v := (.sl 2 (v6.Edges.map Zg) false)) I o81 I I I) I <| Zz I I I I (stx_len (l := v6.Edges) (enc := Zg) I s81 I) I <| Zz I I I I (Zq (m := 7) (o := 0) I f44_1 I I) I <| Zz I I I I (Zt (cs := (Z4 v4).cells) (v := (.sl 5 (v4.Calls.map Z3) false)) I o42 I I I) I <| Zz I I I I (stx_len (l := v4.Calls) (enc := Z3) I s42 I) I <| Zz I I I I (Z1t (k := .i64) (a := (v6.Edges.length : Int)) (b := (v4.Calls.length : Int)) (c := ((v6.Edges.length : Int) != (v4.Calls.length : Int))) I I I I) I <| Z1 I (st_pickF (v := (.bool ((v6.Edges.length : Int) != (v4.Calls.length : Int)))) I I I) I ?_
    refine Z1 I (Zj (v := (.bool ((v6.Edges.length : Int) != (v4.Calls.length : Int)))) I I) I ?_
    have hif := of_if h
    refine AOps.split (fun hc => ?_) (fun hc => ?_)
    ·have h := hif.1 hc
     refine Zu I I I I I I I <| Zu I I I I I I I <| Zu I I I I I I I <| Z1 I (st_pickT (v := (.bool true)) I I I) I <| Zf ?_
     exact Zw (st' := ⟨[(1, (.int .u8 a1)), (2, (.int .u8 a2)), (7, (.ptr 7 0)), (8, (.ptr 8 0)), (44, (.bool true))], [(7, (.box (Z4 v4).cells)), (8, (.box (Zr v6).cells))]⟩) ⟨rfl, rfl, rfl, rfl, rfl, trivial⟩ ⟨rfl, rfl, trivial⟩ (J8 true h)
    ·have h := hif.2 hc
     refine Zz I I I I (Z1p (cs := (Zr v6).cells) (vs := (Zr v6).cells) I a83 I I I I) I ?_
     have ⟨v46, hv46, h⟩ := Z1d h
     refine Zz I I I I (Z1h (ar := [(Zr v6)]) (caps := []) Tryz.call34 (F34_ok K v6 v46 hv46) I I ⟨rfl, trivial⟩ I) I <| Zz I I I I (Z1t (k := .i64) (a := v46) (b := 0) (c := (v46 != 0)) I I I I) I <| Z1 I (st_pickF (v := (.bool (v46 != 0))) I I I) I <| Zf ?_
     exact Zw (st' := ⟨[(1, (.int .u8 a1)), (2, (.int .u8 a2)), (7, (.ptr 7 0)), (8, (.ptr 8 0)), (44, (.bool (v46 != 0)))], [(7, (.box (Z4 v4).cells)), (8, (.box (Zr v6).cells))]⟩) ⟨rfl, rfl, rfl, rfl, rfl, trivial⟩ ⟨rfl, rfl, trivial⟩ (J8 (v46 != 0) h)
end Go.AM.TopZ
