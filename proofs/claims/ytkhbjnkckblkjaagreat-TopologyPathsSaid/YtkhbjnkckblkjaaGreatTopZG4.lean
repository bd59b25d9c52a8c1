/- What these functions compute, each with its walk: F116, F118, F119, F77, F33, F113, F75, F38, F32. -/
import Derived.Test.YtkhbjnkckblkjaaGreatTopZT
import Derived.Test.YtkhbjnkckblkjaaGreatTopZG2
namespace Go.AM.TopZ
open Go Go.AM Go.Proofs
set_option maxRecDepth 100000
set_option maxHeartbeats 2000000
def F116 (K : Nat) (a0 : (List Zr)) : Option ((List Zr)) :=
 if ([] : List Zr).length + a0.length ≤ 1073741824 then
  some a0
 else none
theorem F116_ok (K : Nat) (a0 : (List Zr)) (r : (List Zr)) (h : F116 K a0 = some r) : ACall P 116 ⟨[(.sl 2 (a0.map Zk) false)], [], .vs 2, [(2, .vec 2 (List.map Zk r))], [2]⟩ := by
 refine Z1p Tryz.func116 Tryz.results116 rfl Tryz.ntmps116 rfl rfl rfl ?_
 intro E Q hP hN hro hret
 obtain ⟨P', nt', w0, F0, p0, S0, β0, ro0⟩ := E
 simp only at hP hN
 subst hP hN
 dsimp only [argT]
 unfold F116 at h
 refine Zg <| Za <| Z1 I (Zi (v := (.sl 2 [] true)) I I) I <| Ze <| Zf <| Zg <| Zg <| Za ?_
 refine Z1 I (Zh (v := (.sl 2 (a0.map Zk) false)) I I) I ?_
 refine AOps.consNil (enc := Zk) (es := a0) (full := false) I u81 I (fun x1 hbx1 => ?_)
 refine Ze <| Zf ?_
 refine Z13 I (fun hc => ?_) (fun hc => ?_)
 ·have hz := hbx1 hc
  have h : (some []) = some r := by simp only [hz] at h ⊢; simpa using h
  refine Zg <| Za <| Z1 I (Zi (v := (.sl 2 [] true)) I I) I <| Ze <| Zf <| Z1a <| Z1b <| At.ghost (st' := ⟨[(2, (.vs 2))], [(2, (.vec 2 (List.map Zk ([] : List Zr))))]⟩) (fun a w h => (Z1c ⟨[(2, (.vs 2))], [(2, (.vec 2 (List.map Zk ([] : List Zr))))]⟩ (Z59 (k := 2) (m := 2) (sz := 2) I I a w (Z1c ⟨[(2, (.sl 2 [] true))], []⟩ h ⟨rfl, trivial⟩ trivial)) ⟨rfl, trivial⟩ ⟨rfl, trivial⟩)) ?_
  have h := Option.some.inj h
  subst h
  refine (hret _ ?_).1
  exact ⟨[(.vs 2)], ⟨rfl, trivial⟩, rfl, ⟨rfl, trivial⟩⟩
 ·refine Z16 <| Zf <| Zg <| Za <| Z1 I (Z1d (vs := []) (enc := Zk) (l := ([] : List Zr)) I el81 I I trivial I Z2p I I I I) I <| Z1 I (Zh (v := (.sl 2 (a0.map Zk) false)) I I) I ?_
  have ⟨hg2, h⟩ := Zv h
  refine Z1 I (Z2g (m := 5) (enc := Zk) (l := ([] : List Zr)) (l' := a0) (src := (.sl 2 (a0.map Zk) false)) (rd := []) I I el81 I u81 I I I ⟨rfl, rfl, rfl⟩ noReads Z2p hg2) I <| Z1 I (Zi (v := (.vs 5)) I I) I <| Ze <| Zf <| Z1a <| At.ghost (st' := ⟨[(2, (.vs 2))], [(2, (.vec 2 (List.map Zk a0)))]⟩) (fun a w h => (Z1c ⟨[(2, (.vs 2))], [(2, (.vec 2 (List.map Zk a0)))]⟩ (Z42 (a := 5) (b := 2) I I a w (Z1c ⟨[(2, (.vs 5))], [(5, (.vec 2 (List.map Zk a0)))]⟩ h ⟨rfl, trivial⟩ ⟨rfl, trivial⟩)) ⟨rfl, trivial⟩ ⟨rfl, trivial⟩)) ?_
  have h := Option.some.inj h
  subst h
  refine (hret _ ?_).1
  exact ⟨[(.vs 2)], ⟨rfl, trivial⟩, rfl, ⟨rfl, trivial⟩⟩
def F118 (K : Nat) (a0 : Zr) (a1 : Zr) : Option (Int) :=
 if (a0.From != a1.From) = true then
  some (IntKind.i64.wrap (a0.From - a1.From))
 else
  some (IntKind.i64.wrap (a0.To - a1.To))
theorem F118_ok (K : Nat) (a0 : Zr) (a1 : Zr) (r : Int) (h : F118 K a0 a1 = some r) : ACall P 118 ⟨[(Zk a0), (Zk a1)], [], (.int .i64 r), [], []⟩ := by
 refine Z1p Tryz.func118 Tryz.results118 rfl Tryz.ntmps118 rfl rfl rfl ?_
 intro E Q hP hN hro hret
 obtain ⟨P', nt', w0, F0, p0, S0, β0, ro0⟩ := E
 simp only at hP hN
 subst hP hN
 dsimp only [argT]
 unfold F118 at h
 refine Zg <| Za <| Z1 I (Z2l (v := (Zk a0)) (cs := (Zk a0).cells) I I I I I) I <| Z1 I (Z2l (v := (Zk a1)) (cs := (Zk a1).cells) I I I I I) I <| Z1 I (Zi (v := (.int .i64 0)) I I) I <| Ze <| Zf <| Zg ?_
 refine Zg <| Za <| Z1 I (Zp (m := 2) (o := 0) I f86_0 I I) I <| Z1 I (Zu (cs := (Zk a0).cells) (v := (.int .i64 a0.From)) I o3 I I I) I <| Z1 I (Zp (m := 3) (o := 0) I f86_0 I I) I <| Z1 I (Zu (cs := (Zk a1).cells) (v := (.int .i64 a1.From)) I o3 I I I) I <| Z1 I (Z1w (k := .i64) (a := a0.From) (b := a1.From) (c := (a0.From != a1.From)) I I I I) I <| Ze ?_
 refine Zf ?_
 have hif := Z1y h
 refine Z13 I (fun hc => ?_) (fun hc => ?_)
 ·have h := hif.1 hc
  refine Zg <| Za <| Z1 I (Zp (m := 2) (o := 0) I f86_0 I I) I <| Z1 I (Zu (cs := (Zk a0).cells) (v := (.int .i64 a0.From)) I o3 I I I) I <| Z1 I (Zp (m := 3) (o := 0) I f86_0 I I) I <| Z1 I (Zu (cs := (Zk a1).cells) (v := (.int .i64 a1.From)) I o3 I I I) I <| Z1 I (Z1n (k := .i64) (a := a0.From) (b := a1.From) (c := (IntKind.i64.wrap (a0.From - a1.From))) I I I I) I <| Z1 I (Zi (v := (.int .i64 (IntKind.i64.wrap (a0.From - a1.From)))) I I) I ?_
  refine Ze <| Zf <| Z1a <| Z1b ?_
  have h := Option.some.inj h
  subst h
  refine (hret _ ?_).1
  exact ⟨[(.int .i64 (IntKind.i64.wrap (a0.From - a1.From)))], ⟨rfl, trivial⟩, rfl, trivial⟩
 ·have h := hif.2 hc
  refine Z16 <| Zf <| Zg <| Za <| Z1 I (Zp (m := 2) (o := 0) I f86_1 I I) I <| Z1 I (Zu (cs := (Zk a0).cells) (v := (.int .i64 a0.To)) I o3 I I I) I <| Z1 I (Zp (m := 3) (o := 0) I f86_1 I I) I <| Z1 I (Zu (cs := (Zk a1).cells) (v := (.int .i64 a1.To)) I o3 I I I) I ?_
  refine Z1 I (Z1n (k := .i64) (a := a0.To) (b := a1.To) (c := (IntKind.i64.wrap (a0.To - a1.To))) I I I I) I <| Z1 I (Zi (v := (.int .i64 (IntKind.i64.wrap (a0.To - a1.To)))) I I) I <| Ze <| Zf <| Z1a ?_
  have h := Option.some.inj h
  subst h
  refine (hret _ ?_).1
  exact ⟨[(.int .i64 (IntKind.i64.wrap (a0.To - a1.To)))], ⟨rfl, trivial⟩, rfl, trivial⟩
def Zaw (K : Nat) (a0 : (List Zr)) : Option ((List Zr)) :=
 some a0
def Z4v (K : Nat) (v16 : Int) (v17 : (List Zr)) : Option ((List Zr)) :=
 if (0 : Int) ≤ v16 ∧ v16 ≤ (v17.length : Int) ∧ (v17.length : Int) ≤ (v17.length : Nat) then
  if (0 + v16.toNat) + ((v17.length : Int).toNat - v16.toNat) ≤ v17.length then
   if (0 + v16.toNat) + ((v17.length : Int).toNat - v16.toNat) ≤ v17.length then
    if (0 : Int) ≤ 0 ∧ 0 ≤ v16 ∧ v16 ≤ ((v17.take (0 + v16.toNat) ++ List.replicate ((v17.length : Int).toNat - v16.toNat) Zj ++ v17.drop ((0 + v16.toNat) + ((v17.length : Int).toNat - v16.toNat))).length : Nat) then
     if (0 + (0 : Int).toNat) + (v16.toNat - (0 : Int).toNat) ≤ (v17.take (0 + v16.toNat) ++ List.replicate ((v17.length : Int).toNat - v16.toNat) Zj ++ v17.drop ((0 + v16.toNat) + ((v17.length : Int).toNat - v16.toNat))).length then
      some (((v17.take (0 + v16.toNat) ++ List.replicate ((v17.length : Int).toNat - v16.toNat) Zj ++ v17.drop ((0 + v16.toNat) + ((v17.length : Int).toNat - v16.toNat))).drop (0 + (0 : Int).toNat)).take (v16.toNat - (0 : Int).toNat))
     else none
    else none
   else none
  else none
 else none
def Z6m (K : Nat) (b25 : Int → Int → (List Zr) → Option ((List Zr))) (v13 : Int) (v33 : Int) (v34 : (List Zr)) : Option ((List Zr)) :=
 b25 v33 (IntKind.i64.wrap (v13 + 1)) v34
def Z4f (K : Nat) (v1 : Int) (a0 : (List Zr)) (c19 : Int → (List Zr) → Option ((List Zr))) : Nat → Int → Int → (List Zr) → Option ((List Zr))
 | 0, _, _, _ => none
 | k15 + 1, v12, v13, v14 =>
  if (0 + v1.toNat) + ((a0.length : Int).toNat - v1.toNat) ≤ v14.length then
   if (decide (v13 < ((((a0.length : Int).toNat - v1.toNat) : Nat) : Int))) = true then
    if (0 + v1.toNat) + ((a0.length : Int).toNat - v1.toNat) ≤ v14.length then
     if (0 : Int) ≤ v13 ∧ v13 < (((a0.length : Int).toNat - v1.toNat) : Nat) then
      if ((0 + v1.toNat) + v13.toNat) < v14.length then
       if (0 + v1.toNat) + ((a0.length : Int).toNat - v1.toNat) ≤ v14.length then
        if (0 : Int) ≤ (IntKind.i64.wrap (v13 - 1)) ∧ (IntKind.i64.wrap (v13 - 1)) < (((a0.length : Int).toNat - v1.toNat) : Nat) then
         if ((0 + v1.toNat) + (IntKind.i64.wrap (v13 - 1)).toNat) < v14.length then
          if (!(((v14.getD ((0 + v1.toNat) + v13.toNat) Zj).From == (v14.getD ((0 + v1.toNat) + (IntKind.i64.wrap (v13 - 1)).toNat) Zj).From) && (((v14.getD ((0 + v1.toNat) + v13.toNat) Zj).To == (v14.getD ((0 + v1.toNat) + (IntKind.i64.wrap (v13 - 1)).toNat) Zj).To) && true))) = true then
           if (0 + v1.toNat) + ((a0.length : Int).toNat - v1.toNat) ≤ v14.length then
            if (0 : Int) ≤ v13 ∧ v13 < (((a0.length : Int).toNat - v1.toNat) : Nat) then
             if ((0 + v1.toNat) + v13.toNat) < v14.length then
              if (0 : Int) ≤ v12 ∧ v12 < (v14.length : Nat) then
               if v12.toNat < v14.length then
                Z6m K (Z4f K v1 a0 c19 k15) v13 (IntKind.i64.wrap (v12 + 1)) (v14.set v12.toNat (v14.getD ((0 + v1.toNat) + v13.toNat) Zj))
               else none
              else none
             else none
            else none
           else none
          else
           Z6m K (Z4f K v1 a0 c19 k15) v13 v12 v14
         else none
        else none
       else none
      else none
     else none
    else none
   else
    c19 v12 v14
  else none
def Z7c (K : Nat) (a0 : (List Zr)) (c4 : Option ((List Zr))) : Nat → Int → Option ((List Zr))
 | 0, _ => none
 | k2 + 1, v1 =>
  if (decide (v1 < (a0.length : Int))) = true then
   if (0 : Int) ≤ v1 ∧ v1 < (a0.length : Nat) then
    if v1.toNat < a0.length then
     if (0 : Int) ≤ (IntKind.i64.wrap (v1 - 1)) ∧ (IntKind.i64.wrap (v1 - 1)) < (a0.length : Nat) then
      if (IntKind.i64.wrap (v1 - 1)).toNat < a0.length then
       if (((a0.getD v1.toNat Zj).From == (a0.getD (IntKind.i64.wrap (v1 - 1)).toNat Zj).From) && (((a0.getD v1.toNat Zj).To == (a0.getD (IntKind.i64.wrap (v1 - 1)).toNat Zj).To) && true)) = true then
        if (0 : Int) ≤ v1 ∧ v1 ≤ (a0.length : Int) ∧ (a0.length : Int) ≤ (a0.length : Nat) then
         if (0 + v1.toNat) + ((a0.length : Int).toNat - v1.toNat) ≤ a0.length then
          Z4f K v1 a0 (Z4v K) K v1 1 a0
         else none
        else none
       else
        (Z7c K a0 c4 k2) (IntKind.i64.wrap (v1 + 1))
      else none
     else none
    else none
   else none
  else
   c4
def F119 (K : Nat) (a0 : (List Zr)) : Option ((List Zr)) :=
 if (decide ((a0.length : Int) < 2)) = true then
  some a0
 else
  Z7c K a0 (Zaw K a0) K 1
theorem F119_ok (K : Nat) (a0 : (List Zr)) (r : (List Zr)) (h : F119 K a0 = some r) : ACall P 119 ⟨[(.vs 0)], [(0, .vec 2 (List.map Zk a0))], .vs 0, [(0, .vec 2 (List.map Zk r))], [0]⟩ := by
 refine Z1p Tryz.func119 Tryz.results119 rfl Tryz.ntmps119 rfl rfl rfl ?_
 intro E Q hP hN hro hret
 obtain ⟨P', nt', w0, F0, p0, S0, β0, ro0⟩ := E
 simp only at hP hN
 subst hP hN
 dsimp only [argT]
 unfold F119 at h
 refine Zg <| Za <| Z1 I (Zi (v := (.sl 2 [] false)) I I) I <| Ze <| Zf <| Zg <| Zg <| Za ?_
 refine Z1 I (Zh (v := (.vs 0)) I I) I <| Z1 I (Z3u (l := a0) (enc := Zk) I u81 I I) I <| Z1 I (Z1w (k := .i64) (a := (a0.length : Int)) (b := 2) (c := (decide ((a0.length : Int) < 2))) I I I I) I <| Ze <| Zf ?_
 have hif := Z1y h
 refine Z13 I (fun hc => ?_) (fun hc => ?_)
 ·have h := hif.1 hc
  refine Zg <| Za <| Z1 I (Zh (v := (.vs 0)) I I) I <| Z1 I (Zi (v := (.vs 0)) I I) I <| Ze <| Zf <| Z1a <| Z1b ?_
  have h := Option.some.inj h
  subst h
  refine (hret _ ?_).1
  exact ⟨[(.vs 0)], ⟨rfl, trivial⟩, rfl, ⟨rfl, trivial⟩⟩
 ·have h := hif.2 hc
  refine Z16 <| Zf <| Zg <| Zg <| Za <| Z1 I (Zi (v := (.int .i64 1)) I I) I <| Ze <| Zf ?_
  refine Z1t (st' := ⟨[(0, (.vs 0)), (3, (.int .i64 1))], [(0, (.vec 2 (List.map Zk a0)))]⟩) ⟨rfl, rfl, trivial⟩ ⟨rfl, trivial⟩ ?_
  refine Z1h (V := Int) (X := Unit) (lp := fun k v => Z7c K a0 (Zaw K a0) k v = some r) (sh := fun v => ⟨[(0, (.vs 0)), (3, (.int .i64 v))], [(0, (.vec 2 (List.map Zk a0)))]⟩) (x := fun v => Zaw K a0 = some r) (shx := fun v => ⟨[(0, (.vs 0))], [(0, (.vec 2 (List.map Zk a0)))]⟩) (k := K) (v := 1) h ?_ ?_
  ·intro v h
   try dsimp only at h ⊢
   unfold Zaw at h
   refine Zf <| Zg <| Za <| Z1 I (Zh (v := (.vs 0)) I I) I <| Z1 I (Zi (v := (.vs 0)) I I) I <| Ze <| Zf <| Z1a ?_
   have h := Option.some.inj h
   subst h
   refine (hret _ ?_).1
   exact ⟨[(.vs 0)], ⟨rfl, trivial⟩, rfl, ⟨rfl, trivial⟩⟩
  ·intro N k2 v h IH2 J2
   revert h
   revert v
   intro v1 h
   try dsimp only at h IH2 J2 ⊢
   cases k2 with
   | zero => cases h
   | succ k2 =>
    rw [Z7c] at h
    refine Zg <| Zg <| Za <| Z1 I (Zh (v := (.int .i64 v1)) I I) I <| Z1 I (Zh (v := (.vs 0)) I I) I <| Z1 I (Z3u (l := a0) (enc := Zk) I u81 I I) I <| Z1 I (Z1w (k := .i64) (a := v1) (b := (a0.length : Int)) (c := (decide (v1 < (a0.length : Int)))) I I I I) I <| Ze ?_
    refine Zf ?_
    have hif := Z1y h
    refine Z13 I (fun hc => ?_) (fun hc => ?_)
    ·have h := hif.1 hc
     refine Z16 <| Zf <| Zg <| AWp.block <| Zg <| AWp.regionD mixed <| Z9 0 I (Zh (v := (.vs 0)) I I) <| Z9 1 I (Zh (v := (.int .i64 v1)) I I) ?_
     have ⟨hg6, h⟩ := Zv h
     refine Z9 2 I (Z2h (k := .i64) (v := (.vs 0)) (n := 0) (off := 0) (len := a0.length) (es := (List.map Zk a0)) (j := v1) (m := v1.toNat) I s81 I I (Z2o _ _ _) I hg6 (Nat.zero_add _)) ?_
     have ⟨hg7, h⟩ := Zv h
     refine Z9 3 I (Z3a (l := a0) (enc := Zk) (z := Zj) (vs := (Zk (a0.getD v1.toNat Zj)).cells) I a86 I I hg7 I I) <| Z9 4 I (Zh (v := (.vs 0)) I I) <| Z9 5 I (Zh (v := (.int .i64 v1)) I I) <| Z9 6 I (Z1n (k := .i64) (a := v1) (b := 1) (c := (IntKind.i64.wrap (v1 - 1))) I I I I) ?_
     have ⟨hg8, h⟩ := Zv h
     refine Z9 7 I (Z2h (k := .i64) (v := (.vs 0)) (n := 0) (off := 0) (len := a0.length) (es := (List.map Zk a0)) (j := (IntKind.i64.wrap (v1 - 1))) (m := (IntKind.i64.wrap (v1 - 1)).toNat) I s81 I I (Z2o _ _ _) I hg8 (Nat.zero_add _)) ?_
     have ⟨hg9, h⟩ := Zv h
     refine Z9 8 I (Z3a (l := a0) (enc := Zk) (z := Zj) (vs := (Zk (a0.getD (IntKind.i64.wrap (v1 - 1)).toNat Zj)).cells) I a86 I I hg9 I I) <| Z9 9 I (Zac (xs := (Zk (a0.getD v1.toNat Zj)).cells) (ys := (Zk (a0.getD (IntKind.i64.wrap (v1 - 1)).toNat Zj)).cells) (b := (((a0.getD v1.toNat Zj).From == (a0.getD (IntKind.i64.wrap (v1 - 1)).toNat Zj).From) && (((a0.getD v1.toNat Zj).To == (a0.getD (IntKind.i64.wrap (v1 - 1)).toNat Zj).To) && true))) (c := (((a0.getD v1.toNat Zj).From == (a0.getD (IntKind.i64.wrap (v1 - 1)).toNat Zj).From) && (((a0.getD v1.toNat Zj).To == (a0.getD (IntKind.i64.wrap (v1 - 1)).toNat Zj).To) && true))) I eq86 I I I I) <| AOpsD.nil (by kernel_rfl) I <| Zf ?_
     have hif := Z1y h
     refine Z13 I (fun hc => ?_) (fun hc => ?_)
     ·have h := hif.1 hc
      refine Zg <| Za <| Z1 I (Zh (v := (.vs 0)) I I) I <| Z1 I (Zh (v := (.int .i64 v1)) I I) I ?_
      have ⟨hg10, h⟩ := Zv h
      have ⟨hg11, h⟩ := Zv h
      refine Z1 I (Z4p (v := (.vs 0)) (n := 0) (off := 0) (len := a0.length) (l := a0) (enc := Zk) (kl := .i64) (lo := v1) I s81 I I (Z2o _ _ _) I hg10 I) I <| Z1 I (Zi (v := (.vsub 0 (0 + v1.toNat) ((a0.length : Int).toNat - v1.toNat) false)) I I) I <| Ze <| Zf <| Zg <| Zg <| Za <| Z1 I (Zi (v := (.int .i64 1)) I I) I ?_
      refine Ze <| Zf <| Z1t (st' := ⟨[(0, (.vs 0)), (3, (.int .i64 v1)), (4, (.vsub 0 (0 + v1.toNat) ((a0.length : Int).toNat - v1.toNat) false)), (5, (.int .i64 1))], [(0, (.vec 2 (List.map Zk a0)))]⟩) ⟨rfl, rfl, rfl, rfl, trivial⟩ ⟨rfl, trivial⟩ ?_
      refine Z1h (V := Int × Int × (List Zr)) (X := Int × (List Zr)) (lp := fun k v => Z4f K v1 a0 (Z4v K) k v.1 v.2.1 v.2.2 = some r) (sh := fun v => ⟨[(0, (.vs 0)), (3, (.int .i64 v.1)), (4, (.vsub 0 (0 + v1.toNat) ((a0.length : Int).toNat - v1.toNat) false)), (5, (.int .i64 v.2.1))], [(0, (.vec 2 (List.map Zk v.2.2)))]⟩) (x := fun v => Z4v K v.1 v.2 = some r) (shx := fun v => ⟨[(0, (.vs 0)), (3, (.int .i64 v.1))], [(0, (.vec 2 (List.map Zk v.2)))]⟩) (k := K) (v := (v1, 1, a0)) h ?_ ?_
      ·intro v h
       obtain ⟨v16, v17⟩ := v
       try dsimp only at h ⊢
       unfold Z4v at h
       refine Zf <| Zg <| Za <| Z1 I (Zh (v := (.vs 0)) I I) I <| Z1 I (Zh (v := (.int .i64 v16)) I I) I ?_
       have ⟨hg20, h⟩ := Zv h
       have ⟨hg21, h⟩ := Zv h
       refine Z1 I (Z4p (v := (.vs 0)) (n := 0) (off := 0) (len := v17.length) (l := v17) (enc := Zk) (kl := .i64) (lo := v16) I s81 I I (Z2o _ _ _) I hg20 I) I ?_
       have ⟨hg22, h⟩ := Zv h
       refine Z1 I (st_clear (v := (.vsub 0 (0 + v16.toNat) ((v17.length : Int).toNat - v16.toNat) false)) (n := 0) (off := (0 + v16.toNat)) (len := ((v17.length : Int).toNat - v16.toNat)) (l := v17) (enc := Zk) el81 ze86 I I I (Z44 hg22) Z2p) I <| Ze <| Zf <| Zg <| Za <| Z1 I (Zh (v := (.vs 0)) I I) I <| Z1 I (Zh (v := (.int .i64 v16)) I I) I ?_
       have ⟨hg23, h⟩ := Zv h
       have ⟨hg24, h⟩ := Zv h
       refine Z1 I (Z9w (v := (.vs 0)) (n := 0) (off := 0) (len := (v17.take (0 + v16.toNat) ++ List.replicate ((v17.length : Int).toNat - v16.toNat) Zj ++ v17.drop ((0 + v16.toNat) + ((v17.length : Int).toNat - v16.toNat))).length) (l := (v17.take (0 + v16.toNat) ++ List.replicate ((v17.length : Int).toNat - v16.toNat) Zj ++ v17.drop ((0 + v16.toNat) + ((v17.length : Int).toNat - v16.toNat)))) (enc := Zk) (kh := .i64) (hi := v16) I s81 I I (Z2o _ _ _) I hg23 I) I <| Z1 I (Zi (v := (.vsub 0 (0 + (0 : Int).toNat) (v16.toNat - (0 : Int).toNat) false)) I I) I <| Ze <| Zf <| Z1a <| At.overR <| Z1b ?_
       refine Z1b (At.overR ?_)
       refine Z1b <| At.ghost (st' := ⟨[(2, (.vs 0))], [(0, (.vec 2 (List.map Zk (((v17.take (0 + v16.toNat) ++ List.replicate ((v17.length : Int).toNat - v16.toNat) Zj ++ v17.drop ((0 + v16.toNat) + ((v17.length : Int).toNat - v16.toNat))).drop (0 + (0 : Int).toNat)).take (v16.toNat - (0 : Int).toNat)))))]⟩) (fun a w h => (Z1c ⟨[(2, (.vs 0))], [(0, (.vec 2 (List.map Zk (((v17.take (0 + v16.toNat) ++ List.replicate ((v17.length : Int).toNat - v16.toNat) Zj ++ v17.drop ((0 + v16.toNat) + ((v17.length : Int).toNat - v16.toNat))).drop (0 + (0 : Int).toNat)).take (v16.toNat - (0 : Int).toNat)))))]⟩ (Z7h (k := 2) (m := 0) (sz := 2) (off := (0 + (0 : Int).toNat)) (len := (v16.toNat - (0 : Int).toNat)) (enc := Zk) (l := (v17.take (0 + v16.toNat) ++ List.replicate ((v17.length : Int).toNat - v16.toNat) Zj ++ v17.drop ((0 + v16.toNat) + ((v17.length : Int).toNat - v16.toNat)))) I hg24 a w (Z1c ⟨[(2, (.vsub 0 (0 + (0 : Int).toNat) (v16.toNat - (0 : Int).toNat) false))], [(0, (.vec 2 (List.map Zk (v17.take (0 + v16.toNat) ++ List.replicate ((v17.length : Int).toNat - v16.toNat) Zj ++ v17.drop ((0 + v16.toNat) + ((v17.length : Int).toNat - v16.toNat))))))]⟩ h ⟨rfl, trivial⟩ ⟨rfl, trivial⟩)) ⟨rfl, trivial⟩ ⟨rfl, trivial⟩)) ?_
       have h := Option.some.inj h
       subst h
       refine (hret _ ?_).1
       exact ⟨[(.vs 0)], ⟨rfl, trivial⟩, rfl, ⟨rfl, trivial⟩⟩
      ·intro N k15 v h IH15 J15
       obtain ⟨v12, v13, v14⟩ := v
       try dsimp only at h IH15 J15 ⊢
       cases k15 with
       | zero => cases h
       | succ k15 =>
        rw [Z4f] at h
        refine Zg <| Zg <| Za <| Z1 I (Zh (v := (.int .i64 v13)) I I) I <| Z1 I (Zh (v := (.vsub 0 (0 + v1.toNat) ((a0.length : Int).toNat - v1.toNat) false)) I I) I ?_
        have ⟨hg26, h⟩ := Zv h
        refine Z1 I (stx_lenVS (v := (.vsub 0 (0 + v1.toNat) ((a0.length : Int).toNat - v1.toNat) false)) (n := 0) (off := (0 + v1.toNat)) (len := ((a0.length : Int).toNat - v1.toNat)) (l := v14) (enc := Zk) I u81 I I (Z44 hg26)) I <| Z1 I (Z1w (k := .i64) (a := v13) (b := ((((a0.length : Int).toNat - v1.toNat) : Nat) : Int)) (c := (decide (v13 < ((((a0.length : Int).toNat - v1.toNat) : Nat) : Int)))) I I I I) I <| Ze <| Zf ?_
        have hif := Z1y h
        refine Z13 I (fun hc => ?_) (fun hc => ?_)
        ·have h := hif.1 hc
         refine Z16 <| Zf <| Zg <| AWp.block <| Zg <| AWp.regionD mixed <| Z9 0 I (Zh (v := (.vsub 0 (0 + v1.toNat) ((a0.length : Int).toNat - v1.toNat) false)) I I) <| Z9 1 I (Zh (v := (.int .i64 v13)) I I) ?_
         have ⟨hg27, h⟩ := Zv h
         have ⟨hg28, h⟩ := Zv h
         refine Z9 2 I (Z2h (k := .i64) (v := (.vsub 0 (0 + v1.toNat) ((a0.length : Int).toNat - v1.toNat) false)) (n := 0) (off := (0 + v1.toNat)) (len := ((a0.length : Int).toNat - v1.toNat)) (es := (List.map Zk v14)) (j := v13) (m := ((0 + v1.toNat) + v13.toNat)) I s81 I I (Z44 hg27) I hg28 (I)) ?_
         have ⟨hg29, h⟩ := Zv h
         refine Z9 3 I (Z3a (l := v14) (enc := Zk) (z := Zj) (vs := (Zk (v14.getD ((0 + v1.toNat) + v13.toNat) Zj)).cells) I a86 I I hg29 I I) <| Z9 4 I (Zh (v := (.vsub 0 (0 + v1.toNat) ((a0.length : Int).toNat - v1.toNat) false)) I I) <| Z9 5 I (Zh (v := (.int .i64 v13)) I I) <| Z9 6 I (Z1n (k := .i64) (a := v13) (b := 1) (c := (IntKind.i64.wrap (v13 - 1))) I I I I) ?_
         have ⟨hg30, h⟩ := Zv h
         have ⟨hg31, h⟩ := Zv h
         refine Z9 7 I (Z2h (k := .i64) (v := (.vsub 0 (0 + v1.toNat) ((a0.length : Int).toNat - v1.toNat) false)) (n := 0) (off := (0 + v1.toNat)) (len := ((a0.length : Int).toNat - v1.toNat)) (es := (List.map Zk v14)) (j := (IntKind.i64.wrap (v13 - 1))) (m := ((0 + v1.toNat) + (IntKind.i64.wrap (v13 - 1)).toNat)) I s81 I I (Z44 hg30) I hg31 (I)) ?_
         have ⟨hg32, h⟩ := Zv h
         refine Z9 8 I (Z3a (l := v14) (enc := Zk) (z := Zj) (vs := (Zk (v14.getD ((0 + v1.toNat) + (IntKind.i64.wrap (v13 - 1)).toNat) Zj)).cells) I a86 I I hg32 I I) <| Z9 9 I (Zac (xs := (Zk (v14.getD ((0 + v1.toNat) + v13.toNat) Zj)).cells) (ys := (Zk (v14.getD ((0 + v1.toNat) + (IntKind.i64.wrap (v13 - 1)).toNat) Zj)).cells) (b := (((v14.getD ((0 + v1.toNat) + v13.toNat) Zj).From == (v14.getD ((0 + v1.toNat) + (IntKind.i64.wrap (v13 - 1)).toNat) Zj).From) && (((v14.getD ((0 + v1.toNat) + v13.toNat) Zj).To == (v14.getD ((0 + v1.toNat) + (IntKind.i64.wrap (v13 - 1)).toNat) Zj).To) && true))) (c := (!(((v14.getD ((0 + v1.toNat) + v13.toNat) Zj).From == (v14.getD ((0 + v1.toNat) + (IntKind.i64.wrap (v13 - 1)).toNat) Zj).From) && (((v14.getD ((0 + v1.toNat) + v13.toNat) Zj).To == (v14.getD ((0 + v1.toNat) + (IntKind.i64.wrap (v13 - 1)).toNat) Zj).To) && true)))) I eq86 I I I I) <| AOpsD.nil (by kernel_rfl) I <| Zf ?_
         refine AWp.join (V := Int × (List Zr)) (lp := fun v => Z6m K (Z4f K v1 a0 (Z4v K) k15) v13 v.1 v.2 = some r) (sh := fun v => ⟨[(0, (.vs 0)), (3, (.int .i64 v.1)), (4, (.vsub 0 (0 + v1.toNat) ((a0.length : Int).toNat - v1.toNat) false)), (5, (.int .i64 v13))], [(0, (.vec 2 (List.map Zk v.2)))]⟩) ?_ ?_
         ·intro v h
          obtain ⟨v33, v34⟩ := v
          try dsimp only at h ⊢
          unfold Z6m at h
          refine At.end <| Zf <| Za <| Z1 I (Zh (v := (.int .i64 v13)) I I) I <| Z1 I (Z1n (k := .i64) (a := v13) (b := 1) (c := (IntKind.i64.wrap (v13 + 1))) I I I I) I <| Z1 I (Zi (v := (.int .i64 (IntKind.i64.wrap (v13 + 1)))) I I) I <| Ze ?_
          exact Zw (st' := ⟨[(0, (.vs 0)), (3, (.int .i64 v33)), (4, (.vsub 0 (0 + v1.toNat) ((a0.length : Int).toNat - v1.toNat) false)), (5, (.int .i64 (IntKind.i64.wrap (v13 + 1))))], [(0, (.vec 2 (List.map Zk v34)))]⟩) ⟨rfl, rfl, rfl, rfl, trivial⟩ ⟨rfl, trivial⟩ (IH15 _ (v33, (IntKind.i64.wrap (v13 + 1)), v34) (Nat.lt_succ_self _) h)
         ·intro J35
          have hif := Z1y h
          refine Z13 I (fun hc => ?_) (fun hc => ?_)
          ·have h := hif.1 hc
           refine Zg <| Za <| Z1 I (Zh (v := (.vs 0)) I I) I <| Z1 I (Zh (v := (.int .i64 v12)) I I) I <| Z1 I (Zh (v := (.vsub 0 (0 + v1.toNat) ((a0.length : Int).toNat - v1.toNat) false)) I I) I <| Z1 I (Zh (v := (.int .i64 v13)) I I) I ?_
           have ⟨hg36, h⟩ := Zv h
           have ⟨hg37, h⟩ := Zv h
           refine Z1 I (Z2h (k := .i64) (v := (.vsub 0 (0 + v1.toNat) ((a0.length : Int).toNat - v1.toNat) false)) (n := 0) (off := (0 + v1.toNat)) (len := ((a0.length : Int).toNat - v1.toNat)) (es := (List.map Zk v14)) (j := v13) (m := ((0 + v1.toNat) + v13.toNat)) I s81 I I (Z44 hg36) I hg37 (I)) I ?_
           have ⟨hg38, h⟩ := Zv h
           refine Z1 I (Z3a (l := v14) (enc := Zk) (z := Zj) (vs := (Zk (v14.getD ((0 + v1.toNat) + v13.toNat) Zj)).cells) I a86 I I hg38 I I) I ?_
           have ⟨hg39, h⟩ := Zv h
           refine Z1 I (Z2h (k := .i64) (v := (.vs 0)) (n := 0) (off := 0) (len := v14.length) (es := (List.map Zk v14)) (j := v12) (m := v12.toNat) I s81 I I (Z2o _ _ _) I hg39 (Nat.zero_add _)) I ?_
           have ⟨hg40, h⟩ := Zv h
           refine Z1 I (Z5q (l := v14) (enc := Zk) (z := Zj) (a := (v14.getD ((0 + v1.toNat) + v13.toNat) Zj)) (v := (Zk (v14.getD ((0 + v1.toNat) + v13.toNat) Zj))) sz86 I I hg40 I Z2p I I I I) I <| Ze <| Zf <| Za <| Z1 I (Zh (v := (.int .i64 v12)) I I) I <| Z1 I (Z1n (k := .i64) (a := v12) (b := 1) (c := (IntKind.i64.wrap (v12 + 1))) I I I I) I <| Z1 I (Zi (v := (.int .i64 (IntKind.i64.wrap (v12 + 1)))) I I) I <| Ze ?_
           exact Zw (st' := ⟨[(0, (.vs 0)), (3, (.int .i64 (IntKind.i64.wrap (v12 + 1)))), (4, (.vsub 0 (0 + v1.toNat) ((a0.length : Int).toNat - v1.toNat) false)), (5, (.int .i64 v13))], [(0, (.vec 2 (List.map Zk (v14.set v12.toNat (v14.getD ((0 + v1.toNat) + v13.toNat) Zj)))))]⟩) ⟨rfl, rfl, rfl, rfl, trivial⟩ ⟨rfl, trivial⟩ (J35 ((IntKind.i64.wrap (v12 + 1)), (v14.set v12.toNat (v14.getD ((0 + v1.toNat) + v13.toNat) Zj))) h)
          ·have h := hif.2 hc
           refine Z16 ?_
           exact Zw (st' := ⟨[(0, (.vs 0)), (3, (.int .i64 v12)), (4, (.vsub 0 (0 + v1.toNat) ((a0.length : Int).toNat - v1.toNat) false)), (5, (.int .i64 v13))], [(0, (.vec 2 (List.map Zk v14)))]⟩) ⟨rfl, rfl, rfl, rfl, trivial⟩ ⟨rfl, trivial⟩ (J35 (v12, v14) h)
        ·have h := hif.2 hc
         refine AWp.exit <| At.thru ?_
         exact Zw (st' := ⟨[(0, (.vs 0)), (3, (.int .i64 v12))], [(0, (.vec 2 (List.map Zk v14)))]⟩) ⟨rfl, rfl, trivial⟩ ⟨rfl, trivial⟩ (J15 (v12, v14) h)
     ·have h := hif.2 hc
      refine Z16 <| At.end <| Zf <| Za <| Z1 I (Zh (v := (.int .i64 v1)) I I) I <| Z1 I (Z1n (k := .i64) (a := v1) (b := 1) (c := (IntKind.i64.wrap (v1 + 1))) I I I I) I <| Z1 I (Zi (v := (.int .i64 (IntKind.i64.wrap (v1 + 1)))) I I) I <| Ze ?_
      exact Zw (st' := ⟨[(0, (.vs 0)), (3, (.int .i64 (IntKind.i64.wrap (v1 + 1))))], [(0, (.vec 2 (List.map Zk a0)))]⟩) ⟨rfl, rfl, trivial⟩ ⟨rfl, trivial⟩ (IH2 _ (IntKind.i64.wrap (v1 + 1)) (Nat.lt_succ_self _) h)
    ·have h := hif.2 hc
     refine AWp.exit <| At.thru ?_
     exact Zw (st' := ⟨[(0, (.vs 0))], [(0, (.vec 2 (List.map Zk a0)))]⟩) ⟨rfl, trivial⟩ ⟨rfl, trivial⟩ (J2 () h)
def Zav (K : Nat) (a1 : (List Zr)) (a0 : Int) : Option (Z18 × Int) :=
 (F116 K a1).bind fun v6 =>
  (sortF (fun a b => F118 K a b) v6).bind fun v8 =>
   (F119 K v8).bind fun v10 =>
    some ((⟨a0, v10⟩ : Z18), 0)
def Z7g (K : Nat) (b11 : Int → Option (Z18 × Int)) (v1 : Int) (v13 : Bool) : Option (Z18 × Int) :=
 if v13 = true then
  some (Z41, 10)
 else
  b11 (IntKind.i64.wrap (v1 + 1))
def Z5t (K : Nat) (a1 : (List Zr)) (a0 : Int) (c4 : Option (Z18 × Int)) : Nat → Int → Option (Z18 × Int)
 | 0, _ => none
 | k2 + 1, v1 =>
  if (decide (v1 < (a1.length : Int))) = true then
   if (0 : Int) ≤ v1 ∧ v1 < a1.length then
    if (decide ((a1.getD v1.toNat Zj).From < 0)) = true then
     Z7g K (Z5t K a1 a0 c4 k2) v1 true
    else
     if (decide ((a1.getD v1.toNat Zj).From ≥ a0)) = true then
      Z7g K (Z5t K a1 a0 c4 k2) v1 true
     else
      if (decide ((a1.getD v1.toNat Zj).To < 0)) = true then
       Z7g K (Z5t K a1 a0 c4 k2) v1 true
      else
       Z7g K (Z5t K a1 a0 c4 k2) v1 (decide ((a1.getD v1.toNat Zj).To ≥ a0))
   else none
  else
   c4
def F77 (K : Nat) (a0 : Int) (a1 : (List Zr)) : Option (Z18 × Int) :=
 if (decide (a0 < 0)) = true then
  some (Z41, 2)
 else
  if (decide (a0 > 256)) = true then
   some (Z41, 2)
  else
   Z5t K a1 a0 (Zav K a1 a0) K 0
theorem F77_ok (K : Nat) (a0 : Int) (a1 : (List Zr)) (r : Z18 × Int) (h : F77 K a0 a1 = some r) : ACall P 77 ⟨[(.int .i64 a0), (.sl 2 (a1.map Zk) false)], [], (.tup [(Zx r.1), (.int .i64 r.2)]), [], []⟩ := by
 refine Z1p Tryz.func77 Tryz.results77 rfl Tryz.ntmps77 rfl rfl rfl ?_
 intro E Q hP hN hro hret
 obtain ⟨P', nt', w0, F0, p0, S0, β0, ro0⟩ := E
 simp only at hP hN
 subst hP hN
 dsimp only [argT]
 unfold F77 at h
 refine Zg <| Za <| Z1 I (Z22 (cs := [(.int .i64 0), (.sl 2 [] false)]) I z83 I I I) I <| Z1 I (Zi (v := (.int .i64 0)) I I) I <| Ze <| Zf <| Zg <| Zg ?_
 refine Za <| Z1 I (Zh (v := (.int .i64 a0)) I I) I <| Z1 I (Z1w (k := .i64) (a := a0) (b := 0) (c := (decide (a0 < 0))) I I I I) I <| Z1 I (Zh (v := (.bool (decide (a0 < 0)))) I I) I ?_
 have hif := Z1y h
 refine AOps.split (fun hc => ?_) (fun hc => ?_)
 ·have h := hif.1 hc
  refine Zt I I I I I I I <| Zt I I I I I I I <| Z1 I (Z2d (v := (.bool true)) I I I) I <| Ze <| Zf ?_
  refine Z13 (b := true) I (fun hc => ?_) (fun hc => ?_)
  rotate_left
  ·cases hc
  refine Zg <| Za <| Z1 I (Z29 (vs := []) (cs := [(.int .i64 0), (.sl 2 [] false)]) I st83 trivial I) I <| Z1 I (Z1j (cs := [(.int .i64 0), (.sl 2 [] false)]) (vs := [(.int .i64 0), (.sl 2 [] false)]) (ds := [(.int .i64 0), (.sl 2 [] false)]) (v := (.ag [(.int .i64 0), (.sl 2 [] false)])) sz83 I I I I I I I I) I <| Z1 I (Zi (v := (.int .i64 2)) I I) I <| Ze <| Zf <| Z1a ?_
  refine Z1b ?_
  have h := Option.some.inj h
  subst h
  refine (hret _ ?_).1
  exact ⟨[(.ag [(.int .i64 0), (.sl 2 [] false)]), (.int .i64 2)], ⟨⟨4, _, rfl, rfl, .inr ⟨_, a83, rfl, rfl⟩⟩, rfl, trivial⟩, rfl, trivial⟩
 ·have h := hif.2 hc
  refine Zy I I I I (Zh (v := (.int .i64 a0)) I I) I <| Zy I I I I (Z1w (k := .i64) (a := a0) (b := 256) (c := (decide (a0 > 256))) I I I I) I <| Z1 I (Z2a (v := (.bool (decide (a0 > 256)))) I I I) I <| Ze <| Zf ?_
  have hif := Z1y h
  refine Z13 I (fun hc => ?_) (fun hc => ?_)
  ·have h := hif.1 hc
   refine Zg <| Za <| Z1 I (Z29 (vs := []) (cs := [(.int .i64 0), (.sl 2 [] false)]) I st83 trivial I) I <| Z1 I (Z1j (cs := [(.int .i64 0), (.sl 2 [] false)]) (vs := [(.int .i64 0), (.sl 2 [] false)]) (ds := [(.int .i64 0), (.sl 2 [] false)]) (v := (.ag [(.int .i64 0), (.sl 2 [] false)])) sz83 I I I I I I I I) I <| Z1 I (Zi (v := (.int .i64 2)) I I) I <| Ze <| Zf <| Z1a ?_
   refine Z1b ?_
   have h := Option.some.inj h
   subst h
   refine (hret _ ?_).1
   exact ⟨[(.ag [(.int .i64 0), (.sl 2 [] false)]), (.int .i64 2)], ⟨⟨4, _, rfl, rfl, .inr ⟨_, a83, rfl, rfl⟩⟩, rfl, trivial⟩, rfl, trivial⟩
  ·have h := hif.2 hc
   refine Z16 <| Zf <| Zg <| Zg <| Za <| Z1 I (Zh (v := (.sl 2 (a1.map Zk) false)) I I) I <| Z1 I (Z24 (l := a1) (enc := Zk) I s81 I) I <| Z1 I (Zh (v := (.int .i64 0)) I I) I ?_
   refine Ze <| Zf <| Z1t (st' := ⟨[(0, (.int .i64 a0)), (1, (.sl 2 (a1.map Zk) false)), (4, (.ptr 4 0)), (16, (.sl 2 (a1.map Zk) false)), (17, (.int .i64 (a1.length : Int))), (18, (.int .i64 0))], [(4, (.box [(.int .i64 0), (.sl 2 [] false)]))]⟩) ⟨rfl, rfl, rfl, rfl, rfl, rfl, trivial⟩ ⟨rfl, trivial⟩ ?_
   refine Z1h (V := Int) (X := Unit) (lp := fun k v => Z5t K a1 a0 (Zav K a1 a0) k v = some r) (sh := fun v => ⟨[(0, (.int .i64 a0)), (1, (.sl 2 (a1.map Zk) false)), (4, (.ptr 4 0)), (16, (.sl 2 (a1.map Zk) false)), (17, (.int .i64 (a1.length : Int))), (18, (.int .i64 v))], [(4, (.box [(.int .i64 0), (.sl 2 [] false)]))]⟩) (x := fun v => Zav K a1 a0 = some r) (shx := fun v => ⟨[(0, (.int .i64 a0)), (1, (.sl 2 (a1.map Zk) false)), (4, (.ptr 4 0))], [(4, (.box [(.int .i64 0), (.sl 2 [] false)]))]⟩) (k := K) (v := 0) h ?_ ?_
   ·intro v h
    try dsimp only at h ⊢
    unfold Zav at h
    refine Zf <| Zg <| Za <| Z1 I (Zh (v := (.sl 2 (a1.map Zk) false)) I I) I ?_
    have ⟨v6, hv6, h⟩ := Z1g h
    refine Z1 I (Z9k (sz := 2) (es := (List.map Zk v6)) (ar := [(.sl 2 (a1.map Zk) false)]) (caps := []) Tryz.call116 ((F116_ok K a1 v6 hv6).sw 2 45) I I ⟨rfl, trivial⟩ I) I <| Z1 I (Zi (v := (.vs 45)) I I) I <| Ze <| Zf <| Zg <| Za <| Z1 I (Zh (v := (.vs 45)) I I) I ?_
    have ⟨v8, hv8, h⟩ := Z1g h
    refine Z1 I (Z33 (d := some 47) (c := ⟨[(.vs 45), (.clo 118 [])], [(45, (.vec 2 (List.map Zk v6)))], .tup [], [(45, .vec 2 (List.map Zk v8))], []⟩) (ar := [(.vs 45), (.clo 118 [])]) (caps := []) (news := []) (forg := []) Tryz.call117 (sort_ok (n := 45) (enc := Zk) (l := v6) (caps := []) (c := (fun a b => F118 K a b)) sortC117 Tryz.call118 Z2p (fun _ => I) (fun a b m hm => F118_ok K a b m hm) hv8) I I ⟨rfl, rfl, trivial⟩ I ⟨rfl, trivial⟩ I) I <| Ze <| Zf <| Zg <| Za <| Z1 I (Zh (v := (.int .i64 a0)) I I) I <| Z1 I (Zh (v := (.vs 45)) I I) I ?_
    have ⟨v10, hv10, h⟩ := Z1g h
    refine Z1 I (Z33 (d := some 50) (c := ⟨[(.vs 45)] ++ [], [(45, (.vec 2 (List.map Zk v8)))], .vs 45, [(45, .vec 2 (List.map Zk v10))], [45]⟩) (ar := [(.vs 45)]) (caps := []) (news := []) (forg := [45]) Tryz.call119 ((F119_ok K v8 v10 hv10).sw 0 45) I I ⟨rfl, trivial⟩ I ⟨rfl, trivial⟩ I) I <| Z1 I (Z29 (vs := [(0, (.int .i64 a0)), (1, (.vs 45))]) (cs := [(.int .i64 a0), (.vs 45)]) I st83 ⟨rfl, rfl, rfl, rfl, trivial⟩ I) I <| Z1 I (Z1j (cs := [(.int .i64 0), (.sl 2 [] false)]) (vs := [(.int .i64 a0), (.vs 45)]) (ds := [(.int .i64 a0), (.vs 45)]) (v := (.ag [(.int .i64 a0), (.vs 45)])) sz83 I I I I I I I I) I <| Z1 I (Zi (v := (.int .i64 0)) I I) I <| Ze <| Zf <| Z1a <| At.ghost (st' := ⟨[(4, (.ptr 4 0)), (5, (.int .i64 0))], [(4, (.box [(.int .i64 a0), (.sl 2 (v10.map Zk) false)]))]⟩) (fun a w h => (Z1c ⟨[(4, (.ptr 4 0)), (5, (.int .i64 0))], [(4, (.box [(.int .i64 a0), (.sl 2 (v10.map Zk) false)]))]⟩ (Z27 (m := 45) (sz := 2) (es := (List.map Zk v10)) a w (Z1c ⟨[(4, (.ptr 4 0)), (5, (.int .i64 0))], [(45, (.vec 2 (List.map Zk v10))), (4, (.box [(.int .i64 a0), (.vs 45)]))]⟩ h ⟨rfl, rfl, trivial⟩ ⟨rfl, rfl, trivial⟩)) ⟨rfl, rfl, trivial⟩ ⟨rfl, trivial⟩)) ?_
    have h := Option.some.inj h
    subst h
    refine (hret _ ?_).1
    exact ⟨[(.ag [(.int .i64 a0), (.sl 2 (v10.map Zk) false)]), (.int .i64 0)], ⟨⟨4, _, rfl, rfl, .inr ⟨_, a83, rfl, rfl⟩⟩, rfl, trivial⟩, rfl, trivial⟩
   ·intro N k2 v h IH2 J2
    revert h
    revert v
    intro v1 h
    try dsimp only at h IH2 J2 ⊢
    cases k2 with
    | zero => cases h
    | succ k2 =>
     rw [Z5t] at h
     refine Zg <| Za <| Z1 I (Z1w (k := .i64) (a := v1) (b := (a1.length : Int)) (c := (decide (v1 < (a1.length : Int)))) I I I I) I <| Ze <| Zf <| Zg ?_
     have hif := Z1y h
     refine Z13 I (fun hc => ?_) (fun hc => ?_)
     ·have h := hif.1 hc
      refine Z16 <| Zf <| Zg <| AWp.block <| Zg <| Za ?_
      have ⟨hg12, h⟩ := Zv h
      refine Z1 I (Z1s (k := .i64) (l := a1) (enc := Zk) (z := Zj) (n := v1) (cs := (Zk (a1.getD v1.toNat Zj)).cells) (full := false) I s81 I I hg12 I) I <| Z1 I (Z2k (cs := (Zk (a1.getD v1.toNat Zj)).cells) (vs := (Zk (a1.getD v1.toNat Zj)).cells) I a86 I I I) I <| Z1 I (Z22 (cs := [(.int .i64 0), (.int .i64 0)]) I z86 I I I) I <| Z1 I (Z1j (cs := [(.int .i64 0), (.int .i64 0)]) (vs := (Zk (a1.getD v1.toNat Zj)).cells) (ds := (Zk (a1.getD v1.toNat Zj)).cells) (v := (Zk (a1.getD v1.toNat Zj))) sz86 I I I I I I I I) I <| Ze <| Zf <| Zg ?_
      refine AWp.join (V := Bool) (lp := fun v => Z7g K (Z5t K a1 a0 (Zav K a1 a0) k2) v1 v = some r) (sh := fun v => ⟨[(0, (.int .i64 a0)), (1, (.sl 2 (a1.map Zk) false)), (4, (.ptr 4 0)), (16, (.sl 2 (a1.map Zk) false)), (17, (.int .i64 (a1.length : Int))), (18, (.int .i64 v1)), (41, (.bool v))], [(4, (.box [(.int .i64 0), (.sl 2 [] false)]))]⟩) ?_ ?_
      ·intro v h
       revert h
       revert v
       intro v13 h
       try dsimp only at h ⊢
       unfold Z7g at h
       refine Zf ?_
       have hif := Z1y h
       refine Z13 I (fun hc => ?_) (fun hc => ?_)
       ·have h := hif.1 hc
        refine Zg <| Za <| Z1 I (Z29 (vs := []) (cs := [(.int .i64 0), (.sl 2 [] false)]) I st83 trivial I) I <| Z1 I (Z1j (cs := [(.int .i64 0), (.sl 2 [] false)]) (vs := [(.int .i64 0), (.sl 2 [] false)]) (ds := [(.int .i64 0), (.sl 2 [] false)]) (v := (.ag [(.int .i64 0), (.sl 2 [] false)])) sz83 I I I I I I I I) I <| Z1 I (Zi (v := (.int .i64 10)) I I) I <| Ze <| Zf <| Z1a ?_
        refine At.overR <| Z1b ?_
        refine Z1b (At.overR ?_)
        refine Z1b ?_
        have h := Option.some.inj h
        subst h
        refine (hret _ ?_).1
        exact ⟨[(.ag [(.int .i64 0), (.sl 2 [] false)]), (.int .i64 10)], ⟨⟨4, _, rfl, rfl, .inr ⟨_, a83, rfl, rfl⟩⟩, rfl, trivial⟩, rfl, trivial⟩
       ·have h := hif.2 hc
        refine Z16 <| At.end <| Zf <| Za <| Z1 I (Z1n (k := .i64) (a := v1) (b := 1) (c := (IntKind.i64.wrap (v1 + 1))) I I I I) I <| Z1 I (Zh (v := (.int .i64 (IntKind.i64.wrap (v1 + 1)))) I I) I <| Ze ?_
        exact Zw (st' := ⟨[(0, (.int .i64 a0)), (1, (.sl 2 (a1.map Zk) false)), (4, (.ptr 4 0)), (16, (.sl 2 (a1.map Zk) false)), (17, (.int .i64 (a1.length : Int))), (18, (.int .i64 (IntKind.i64.wrap (v1 + 1))))], [(4, (.box [(.int .i64 0), (.sl 2 [] false)]))]⟩) ⟨rfl, rfl, rfl, rfl, rfl, rfl, trivial⟩ ⟨rfl, trivial⟩ (IH2 _ (IntKind.i64.wrap (v1 + 1)) (Nat.lt_succ_self _) h)
      ·intro J14
       refine Za <| Z1 I (Zp (m := 7) (o := 0) I f86_0 I I) I <| Z1 I (Zu (cs := (Zk (a1.getD v1.toNat Zj)).cells) (v := (.int .i64 (a1.getD v1.toNat Zj).From)) I o3 I I I) I <| Z1 I (Z1w (k := .i64) (a := (a1.getD v1.toNat Zj).From) (b := 0) (c := (decide ((a1.getD v1.toNat Zj).From < 0))) I I I I) I <| Z1 I (Zh (v := (.bool (decide ((a1.getD v1.toNat Zj).From < 0)))) I I) I ?_
       have hif := Z1y h
       refine AOps.split (fun hc => ?_) (fun hc => ?_)
       ·have h := hif.1 hc
        refine Zt I I I I I I I <| Zt I I I I I I I <| Zt I I I I I I I <| Zt I I I I I I I <| Z1 I (Z2d (v := (.bool true)) I I I) I <| Z1 I (Zh (v := (.bool true)) I I) I <| Zt I I I I I I I <| Zt I I I I I I I ?_
        refine Zt I I I I I I I <| Z1 I (Z2d (v := (.bool true)) I I I) I <| Z1 I (Zh (v := (.bool true)) I I) I <| Zt I I I I I I I <| Zt I I I I I I I <| Zt I I I I I I I <| Zt I I I I I I I <| Z1 I (Z2d (v := (.bool true)) I I I) I ?_
        refine Ze ?_
        exact Zw (st' := ⟨[(0, (.int .i64 a0)), (1, (.sl 2 (a1.map Zk) false)), (4, (.ptr 4 0)), (16, (.sl 2 (a1.map Zk) false)), (17, (.int .i64 (a1.length : Int))), (18, (.int .i64 v1)), (41, (.bool true))], [(4, (.box [(.int .i64 0), (.sl 2 [] false)]))]⟩) ⟨rfl, rfl, rfl, rfl, rfl, rfl, rfl, trivial⟩ ⟨rfl, trivial⟩ (J14 true h)
       ·have h := hif.2 hc
        refine Zy I I I I (Zp (m := 7) (o := 0) I f86_0 I I) I <| Zy I I I I (Zu (cs := (Zk (a1.getD v1.toNat Zj)).cells) (v := (.int .i64 (a1.getD v1.toNat Zj).From)) I o3 I I I) I <| Zy I I I I (Zh (v := (.int .i64 a0)) I I) I <| Zy I I I I (Z1w (k := .i64) (a := (a1.getD v1.toNat Zj).From) (b := a0) (c := (decide ((a1.getD v1.toNat Zj).From ≥ a0))) I I I I) I <| Z1 I (Z2a (v := (.bool (decide ((a1.getD v1.toNat Zj).From ≥ a0)))) I I I) I <| Z1 I (Zh (v := (.bool (decide ((a1.getD v1.toNat Zj).From ≥ a0)))) I I) I ?_
        have hif := Z1y h
        refine AOps.split (fun hc => ?_) (fun hc => ?_)
        ·have h := hif.1 hc
         refine Zt I I I I I I I <| Zt I I I I I I I <| Zt I I I I I I I <| Z1 I (Z2d (v := (.bool true)) I I I) I <| Z1 I (Zh (v := (.bool true)) I I) I <| Zt I I I I I I I <| Zt I I I I I I I <| Zt I I I I I I I ?_
         refine Zt I I I I I I I <| Z1 I (Z2d (v := (.bool true)) I I I) I <| Ze ?_
         exact Zw (st' := ⟨[(0, (.int .i64 a0)), (1, (.sl 2 (a1.map Zk) false)), (4, (.ptr 4 0)), (16, (.sl 2 (a1.map Zk) false)), (17, (.int .i64 (a1.length : Int))), (18, (.int .i64 v1)), (41, (.bool true))], [(4, (.box [(.int .i64 0), (.sl 2 [] false)]))]⟩) ⟨rfl, rfl, rfl, rfl, rfl, rfl, rfl, trivial⟩ ⟨rfl, trivial⟩ (J14 true h)
        ·have h := hif.2 hc
         refine Zy I I I I (Zp (m := 7) (o := 0) I f86_1 I I) I <| Zy I I I I (Zu (cs := (Zk (a1.getD v1.toNat Zj)).cells) (v := (.int .i64 (a1.getD v1.toNat Zj).To)) I o3 I I I) I <| Zy I I I I (Z1w (k := .i64) (a := (a1.getD v1.toNat Zj).To) (b := 0) (c := (decide ((a1.getD v1.toNat Zj).To < 0))) I I I I) I <| Z1 I (Z2a (v := (.bool (decide ((a1.getD v1.toNat Zj).To < 0)))) I I I) I <| Z1 I (Zh (v := (.bool (decide ((a1.getD v1.toNat Zj).To < 0)))) I I) I ?_
         have hif := Z1y h
         refine AOps.split (fun hc => ?_) (fun hc => ?_)
         ·have h := hif.1 hc
          refine Zt I I I I I I I <| Zt I I I I I I I <| Zt I I I I I I I <| Zt I I I I I I I <| Z1 I (Z2d (v := (.bool true)) I I I) I <| Ze ?_
          exact Zw (st' := ⟨[(0, (.int .i64 a0)), (1, (.sl 2 (a1.map Zk) false)), (4, (.ptr 4 0)), (16, (.sl 2 (a1.map Zk) false)), (17, (.int .i64 (a1.length : Int))), (18, (.int .i64 v1)), (41, (.bool true))], [(4, (.box [(.int .i64 0), (.sl 2 [] false)]))]⟩) ⟨rfl, rfl, rfl, rfl, rfl, rfl, rfl, trivial⟩ ⟨rfl, trivial⟩ (J14 true h)
         ·have h := hif.2 hc
          refine Zy I I I I (Zp (m := 7) (o := 0) I f86_1 I I) I <| Zy I I I I (Zu (cs := (Zk (a1.getD v1.toNat Zj)).cells) (v := (.int .i64 (a1.getD v1.toNat Zj).To)) I o3 I I I) I <| Zy I I I I (Zh (v := (.int .i64 a0)) I I) I <| Zy I I I I (Z1w (k := .i64) (a := (a1.getD v1.toNat Zj).To) (b := a0) (c := (decide ((a1.getD v1.toNat Zj).To ≥ a0))) I I I I) I <| Z1 I (Z2a (v := (.bool (decide ((a1.getD v1.toNat Zj).To ≥ a0)))) I I I) I <| Ze ?_
          exact Zw (st' := ⟨[(0, (.int .i64 a0)), (1, (.sl 2 (a1.map Zk) false)), (4, (.ptr 4 0)), (16, (.sl 2 (a1.map Zk) false)), (17, (.int .i64 (a1.length : Int))), (18, (.int .i64 v1)), (41, (.bool (decide ((a1.getD v1.toNat Zj).To ≥ a0))))], [(4, (.box [(.int .i64 0), (.sl 2 [] false)]))]⟩) ⟨rfl, rfl, rfl, rfl, rfl, rfl, rfl, trivial⟩ ⟨rfl, trivial⟩ (J14 (decide ((a1.getD v1.toNat Zj).To ≥ a0)) h)
     ·have h := hif.2 hc
      refine AWp.exit <| At.thru ?_
      exact Zw (st' := ⟨[(0, (.int .i64 a0)), (1, (.sl 2 (a1.map Zk) false)), (4, (.ptr 4 0))], [(4, (.box [(.int .i64 0), (.sl 2 [] false)]))]⟩) ⟨rfl, rfl, rfl, trivial⟩ ⟨rfl, trivial⟩ (J2 () h)
def Zbi (K : Nat) (a0 : Zb) (v4 : (List Zr)) : Option (Z18) :=
 (F77 K (a0.Services.length : Int) v4).bind fun v8 =>
  some v8.1
def Zar (K : Nat) (a0 : Zb) (c6 : (List Zr) → Option (Z18)) : Nat → Int → (List Zr) → Option (Z18)
 | 0, _, _ => none
 | k3 + 1, v1, v2 =>
  if (decide (v1 < (a0.Calls.length : Int))) = true then
   if (0 : Int) ≤ v1 ∧ v1 < a0.Calls.length then
    (F58 K a0 (a0.Calls.getD v1.toNat Z4).Caller).bind fun v12 =>
     (F58 K a0 (a0.Calls.getD v1.toNat Z4).Callee).bind fun v14 =>
      if v2.length + [(⟨v12.1, v14.1⟩ : Zr)].length ≤ 1073741824 then
       (Zar K a0 c6 k3) (IntKind.i64.wrap (v1 + 1)) (v2 ++ [(⟨v12.1, v14.1⟩ : Zr)])
      else none
   else none
  else
   c6 v2
def F33 (K : Nat) (a0 : Zb) : Option (Z18) :=
 Zar K a0 (Zbi K a0) K 0 []
theorem F33_ok (K : Nat) (a0 : Zb) (r : Z18) (h : F33 K a0 = some r) : ACall P 33 ⟨[(Z5 a0)], [], (Zx r), [], []⟩ := by
 refine Z1p Tryz.func33 Tryz.results33 rfl Tryz.ntmps33 rfl rfl rfl ?_
 intro E Q hP hN hro hret
 obtain ⟨P', nt', w0, F0, p0, S0, β0, ro0⟩ := E
 simp only at hP hN
 subst hP hN
 dsimp only [argT]
 unfold F33 at h
 refine Zg <| Za <| Z1 I (Z2l (v := (Z5 a0)) (cs := (Z5 a0).cells) I I I I I) I <| Z1 I (Z22 (cs := [(.int .i64 0), (.sl 2 [] false)]) I z83 I I I) I <| Ze <| Zf <| Zg <| Za ?_
 refine Z1 I (Zi (v := (.sl 2 [] true)) I I) I <| Ze <| Zf <| Zg <| Zg <| Za <| Z1 I (Zp (m := 1) (o := 0) I Z3y I I) I <| Z1 I (Zu (cs := (Z5 a0).cells) (v := (.sl 5 (a0.Calls.map Z3) false)) I o42 I I I) I ?_
 refine Z1 I (Z24 (l := a0.Calls) (enc := Z3) I s42 I) I <| Z1 I (Zh (v := (.int .i64 0)) I I) I <| Ze <| Zf <| AWp.ghost (st' := ⟨[(1, (.ptr 1 0)), (2, (.ptr 2 0)), (3, (.vs 3)), (13, (.sl 5 (a0.Calls.map Z3) false)), (14, (.int .i64 (a0.Calls.length : Int))), (15, (.int .i64 0))], [(1, (.box (Z5 a0).cells)), (2, (.box [(.int .i64 0), (.sl 2 [] false)])), (3, (.vec 2 (List.map Zk ([] : List Zr))))]⟩) (fun a w h => (Z1c ⟨[(1, (.ptr 1 0)), (2, (.ptr 2 0)), (3, (.vs 3)), (13, (.sl 5 (a0.Calls.map Z3) false)), (14, (.int .i64 (a0.Calls.length : Int))), (15, (.int .i64 0))], [(1, (.box (Z5 a0).cells)), (2, (.box [(.int .i64 0), (.sl 2 [] false)])), (3, (.vec 2 (List.map Zk ([] : List Zr))))]⟩ (Z59 (k := 3) (m := 3) (sz := 2) I I a w (Z1c ⟨[(3, (.sl 2 [] true)), (1, (.ptr 1 0)), (2, (.ptr 2 0)), (13, (.sl 5 (a0.Calls.map Z3) false)), (14, (.int .i64 (a0.Calls.length : Int))), (15, (.int .i64 0))], [(1, (.box (Z5 a0).cells)), (2, (.box [(.int .i64 0), (.sl 2 [] false)]))]⟩ h ⟨rfl, rfl, rfl, rfl, rfl, rfl, trivial⟩ ⟨rfl, rfl, trivial⟩)) ⟨rfl, rfl, rfl, rfl, rfl, rfl, trivial⟩ ⟨rfl, rfl, rfl, trivial⟩)) <| Z1t (st' := ⟨[(1, (.ptr 1 0)), (2, (.ptr 2 0)), (3, (.vs 3)), (13, (.sl 5 (a0.Calls.map Z3) false)), (14, (.int .i64 (a0.Calls.length : Int))), (15, (.int .i64 0))], [(1, (.box (Z5 a0).cells)), (2, (.box [(.int .i64 0), (.sl 2 [] false)])), (3, (.vec 2 (List.map Zk [])))]⟩) ⟨rfl, rfl, rfl, rfl, rfl, rfl, trivial⟩ ⟨rfl, rfl, rfl, trivial⟩ ?_
 refine Z1h (V := Int × (List Zr)) (X := (List Zr)) (lp := fun k v => Zar K a0 (Zbi K a0) k v.1 v.2 = some r) (sh := fun v => ⟨[(1, (.ptr 1 0)), (2, (.ptr 2 0)), (3, (.vs 3)), (13, (.sl 5 (a0.Calls.map Z3) false)), (14, (.int .i64 (a0.Calls.length : Int))), (15, (.int .i64 v.1))], [(1, (.box (Z5 a0).cells)), (2, (.box [(.int .i64 0), (.sl 2 [] false)])), (3, (.vec 2 (List.map Zk v.2)))]⟩) (x := fun v => Zbi K a0 v = some r) (shx := fun v => ⟨[(1, (.ptr 1 0)), (2, (.ptr 2 0)), (3, (.vs 3))], [(1, (.box (Z5 a0).cells)), (2, (.box [(.int .i64 0), (.sl 2 [] false)])), (3, (.vec 2 (List.map Zk v)))]⟩) (k := K) (v := (0, [])) h ?_ ?_
 ·intro v h
  revert h
  revert v
  intro v4 h
  try dsimp only at h ⊢
  unfold Zbi at h
  refine Zf <| Zg <| Za <| Z1 I (Zp (m := 1) (o := 0) I Z4a I I) I <| Z1 I (Zu (cs := (Z5 a0).cells) (v := (.sl 4 (a0.Services.map Z2) false)) I o41 I I I) I <| Z1 I (Z24 (l := a0.Services) (enc := Z2) I s41 I) I <| Z1 I (Zh (v := (.vs 3)) I I) I <| AOps.ghost (st' := ⟨[(2, (.ptr 2 0)), (43, (.int .i64 (a0.Services.length : Int))), (44, (.sl 2 (v4.map Zk) false))], [(2, (.box [(.int .i64 0), (.sl 2 [] false)]))]⟩) (fun a w h => (Z1c ⟨[(2, (.ptr 2 0)), (43, (.int .i64 (a0.Services.length : Int))), (44, (.sl 2 (v4.map Zk) false))], [(2, (.box [(.int .i64 0), (.sl 2 [] false)]))]⟩ (Z27 (m := 3) (sz := 2) (es := (List.map Zk v4)) a w (Z1c ⟨[(2, (.ptr 2 0)), (43, (.int .i64 (a0.Services.length : Int))), (44, (.vs 3))], [(3, (.vec 2 (List.map Zk v4))), (2, (.box [(.int .i64 0), (.sl 2 [] false)]))]⟩ h ⟨rfl, rfl, rfl, trivial⟩ ⟨rfl, rfl, trivial⟩)) ⟨rfl, rfl, rfl, trivial⟩ ⟨rfl, trivial⟩)) ?_
  have ⟨v8, hv8, h⟩ := Z1g h
  refine Z1 I (Z1i (ar := [(.int .i64 (a0.Services.length : Int)), (.sl 2 (v4.map Zk) false)]) (caps := []) Tryz.call77 (F77_ok K (a0.Services.length : Int) v4 v8 hv8) I I ⟨rfl, rfl, trivial⟩ I) I <| Z1 I (Zh (v := (.tup [(Zx v8.1), (.int .i64 v8.2)])) I I) I <| Z1 I (Z21 (vs := [(Zx v8.1), (.int .i64 v8.2)]) (v := (Zx v8.1)) I I I) I <| Z1 I (Z21 (vs := [(Zx v8.1), (.int .i64 v8.2)]) (v := (.int .i64 v8.2)) I I I) I <| Z1 I (Z22 (cs := [(.int .i64 0), (.sl 2 [] false)]) I z83 I I I) I <| Z1 I (Z1j (cs := [(.int .i64 0), (.sl 2 [] false)]) (vs := (Zx v8.1).cells) (ds := (Zx v8.1).cells) (v := (Zx v8.1)) sz83 I I I I I I I I) I <| Z1 I (Zi (v := (.int .i64 v8.2)) I I) I <| Ze ?_
  refine Zf <| Zg <| Za <| Z1 I (Z1q (cs := (Zx v8.1).cells) (vs := (Zx v8.1).cells) I a83 I I I I) I <| Z1 I (Z1j (cs := [(.int .i64 0), (.sl 2 [] false)]) (vs := (Zx v8.1).cells) (ds := (Zx v8.1).cells) (v := (Zx v8.1)) sz83 I I I I I I I I) I <| Ze <| Zf <| Z1a ?_
  have h := Option.some.inj h
  subst h
  refine (hret _ ?_).1
  exact ⟨[(Zx v8.1)], ⟨⟨2, _, rfl, rfl, .inr ⟨_, a83, rfl, rfl⟩⟩, trivial⟩, rfl, trivial⟩
 ·intro N k3 v h IH3 J3
  obtain ⟨v1, v2⟩ := v
  try dsimp only at h IH3 J3 ⊢
  cases k3 with
  | zero => cases h
  | succ k3 =>
   rw [Zar] at h
   refine Zg <| Za <| Z1 I (Z1w (k := .i64) (a := v1) (b := (a0.Calls.length : Int)) (c := (decide (v1 < (a0.Calls.length : Int)))) I I I I) I <| Ze <| Zf <| Zg ?_
   have hif := Z1y h
   refine Z13 I (fun hc => ?_) (fun hc => ?_)
   ·have h := hif.1 hc
    refine Z16 <| Zf <| Zg <| AWp.block <| Zg <| Za ?_
    have ⟨hg10, h⟩ := Zv h
    refine Z1 I (Z1s (k := .i64) (l := a0.Calls) (enc := Z3) (z := Z4) (n := v1) (cs := (Z3 (a0.Calls.getD v1.toNat Z4)).cells) (full := false) I s42 I I hg10 I) I <| Z1 I (Z2k (cs := (Z3 (a0.Calls.getD v1.toNat Z4)).cells) (vs := (Z3 (a0.Calls.getD v1.toNat Z4)).cells) I a88 I I I) I <| Z1 I (Z22 (cs := [(.str []), (.str []), (.int .i64 0), (.int .i64 0), (.int .i64 0)]) I z88 I I I) I <| Z1 I (Z1j (cs := [(.str []), (.str []), (.int .i64 0), (.int .i64 0), (.int .i64 0)]) (vs := (Z3 (a0.Calls.getD v1.toNat Z4)).cells) (ds := (Z3 (a0.Calls.getD v1.toNat Z4)).cells) (v := (Z3 (a0.Calls.getD v1.toNat Z4))) sz88 I I I I I I I I) I <| Ze <| Zf <| Zg <| Za ?_
    refine Z1 I (Z1q (cs := (Z5 a0).cells) (vs := (Z5 a0).cells) I a44 I I I I) I <| Z1 I (Zp (m := 5) (o := 0) I Z8p I I) I <| Z1 I (Zu (cs := (Z3 (a0.Calls.getD v1.toNat Z4)).cells) (v := (.str (a0.Calls.getD v1.toNat Z4).Caller)) I o9 I I I) I ?_
    have ⟨v12, hv12, h⟩ := Z1g h
    refine Z1 I (Z1i (ar := [(Z5 a0), (.str (a0.Calls.getD v1.toNat Z4).Caller)]) (caps := []) Tryz.call58 (F58_ok K a0 (a0.Calls.getD v1.toNat Z4).Caller v12 hv12) I I ⟨rfl, rfl, trivial⟩ I) I <| Z1 I (Zh (v := (.tup [(.int .i64 v12.1), (.bool v12.2)])) I I) I <| Z1 I (Z21 (vs := [(.int .i64 v12.1), (.bool v12.2)]) (v := (.int .i64 v12.1)) I I I) I <| Z1 I (Z21 (vs := [(.int .i64 v12.1), (.bool v12.2)]) (v := (.bool v12.2)) I I I) I <| Z1 I (Zi (v := (.int .i64 v12.1)) I I) I <| Z1 I (Zi (v := (.bool v12.2)) I I) I <| Ze <| Zf ?_
    refine Zg <| Za <| Z1 I (Z1q (cs := (Z5 a0).cells) (vs := (Z5 a0).cells) I a44 I I I I) I <| Z1 I (Zp (m := 5) (o := 0) I Z7o I I) I <| Z1 I (Zu (cs := (Z3 (a0.Calls.getD v1.toNat Z4)).cells) (v := (.str (a0.Calls.getD v1.toNat Z4).Callee)) I o9 I I I) I ?_
    have ⟨v14, hv14, h⟩ := Z1g h
    refine Z1 I (Z1i (ar := [(Z5 a0), (.str (a0.Calls.getD v1.toNat Z4).Callee)]) (caps := []) Tryz.call58 (F58_ok K a0 (a0.Calls.getD v1.toNat Z4).Callee v14 hv14) I I ⟨rfl, rfl, trivial⟩ I) I <| Z1 I (Zh (v := (.tup [(.int .i64 v14.1), (.bool v14.2)])) I I) I <| Z1 I (Z21 (vs := [(.int .i64 v14.1), (.bool v14.2)]) (v := (.int .i64 v14.1)) I I I) I <| Z1 I (Z21 (vs := [(.int .i64 v14.1), (.bool v14.2)]) (v := (.bool v14.2)) I I I) I <| Z1 I (Zi (v := (.int .i64 v14.1)) I I) I <| Z1 I (Zi (v := (.bool v14.2)) I I) I <| Ze <| Zf ?_
    refine Za <| Z1 I (Zh (v := (.vs 3)) I I) I <| Z1 I (Zh (v := (.int .i64 v12.1)) I I) I <| Z1 I (Zh (v := (.int .i64 v14.1)) I I) I <| Z1 I (Z29 (vs := [(0, (.int .i64 v12.1)), (1, (.int .i64 v14.1))]) (cs := [(.int .i64 v12.1), (.int .i64 v14.1)]) I st86 ⟨rfl, rfl, rfl, rfl, trivial⟩ I) I <| Z1 I (Z1d (vs := [(.ag [(.int .i64 v12.1), (.int .i64 v14.1)])]) (enc := Zk) (l := [(⟨v12.1, v14.1⟩ : Zr)]) I el81 I I ⟨rfl, trivial⟩ I Z2p I I I I) I ?_
    have ⟨hg15, h⟩ := Zv h
    refine Z1 I (Z2g (m := 3) (enc := Zk) (l := v2) (l' := [(⟨v12.1, v14.1⟩ : Zr)]) (src := (.vs 37)) (rd := [(37, (.vec 2 (List.map Zk [(⟨v12.1, v14.1⟩ : Zr)])))]) I I el81 I u81 I I I I (oneRead I) Z2p hg15) I <| Z1 I (Zi (v := (.vs 3)) I I) I <| Ze <| At.end <| Zf <| Za <| Z1 I (Z1n (k := .i64) (a := v1) (b := 1) (c := (IntKind.i64.wrap (v1 + 1))) I I I I) I <| Z1 I (Zh (v := (.int .i64 (IntKind.i64.wrap (v1 + 1)))) I I) I ?_
    refine Ze ?_
    exact Zw (st' := ⟨[(1, (.ptr 1 0)), (2, (.ptr 2 0)), (3, (.vs 3)), (13, (.sl 5 (a0.Calls.map Z3) false)), (14, (.int .i64 (a0.Calls.length : Int))), (15, (.int .i64 (IntKind.i64.wrap (v1 + 1))))], [(1, (.box (Z5 a0).cells)), (2, (.box [(.int .i64 0), (.sl 2 [] false)])), (3, (.vec 2 (List.map Zk (v2 ++ [(⟨v12.1, v14.1⟩ : Zr)]))))]⟩) ⟨rfl, rfl, rfl, rfl, rfl, rfl, trivial⟩ ⟨rfl, rfl, rfl, trivial⟩ (IH3 _ ((IntKind.i64.wrap (v1 + 1)), (v2 ++ [(⟨v12.1, v14.1⟩ : Zr)])) (Nat.lt_succ_self _) h)
   ·have h := hif.2 hc
    refine AWp.exit <| At.thru ?_
    exact Zw (st' := ⟨[(1, (.ptr 1 0)), (2, (.ptr 2 0)), (3, (.vs 3))], [(1, (.box (Z5 a0).cells)), (2, (.box [(.int .i64 0), (.sl 2 [] false)])), (3, (.vec 2 (List.map Zk v2)))]⟩) ⟨rfl, rfl, rfl, trivial⟩ ⟨rfl, rfl, rfl, trivial⟩ (J3 v2 h)
def Z8r (K : Nat) (v5 : (List (List Int))) : Option ((List (List Int))) :=
 some v5
def Z7e (K : Nat) (a0 : Z18) (c7 : (List (List Int)) → Option ((List (List Int)))) : Nat → Int → (List (List Int)) → Option ((List (List Int)))
 | 0, _, _ => none
 | k4 + 1, v2, v3 =>
  if (decide (v2 < (a0.Edges.length : Int))) = true then
   if (0 : Int) ≤ v2 ∧ v2 < a0.Edges.length then
    if (0 : Int) ≤ (a0.Edges.getD v2.toNat Zj).From ∧ (a0.Edges.getD v2.toNat Zj).From < v3.length then
     if (a0.Edges.getD v2.toNat Zj).From.toNat < v3.length then
      if (a0.Edges.getD v2.toNat Zj).From.toNat < v3.length then
       if (v3.getD (a0.Edges.getD v2.toNat Zj).From.toNat []).length + [(a0.Edges.getD v2.toNat Zj).To].length ≤ 1073741824 then
        if (0 : Int) ≤ (a0.Edges.getD v2.toNat Zj).From ∧ (a0.Edges.getD v2.toNat Zj).From < (v3.set (a0.Edges.getD v2.toNat Zj).From.toNat ((v3.getD (a0.Edges.getD v2.toNat Zj).From.toNat []) ++ [(a0.Edges.getD v2.toNat Zj).To])).length then
         if (a0.Edges.getD v2.toNat Zj).From.toNat < (v3.set (a0.Edges.getD v2.toNat Zj).From.toNat ((v3.getD (a0.Edges.getD v2.toNat Zj).From.toNat []) ++ [(a0.Edges.getD v2.toNat Zj).To])).length then
          (Z7e K a0 c7 k4) (IntKind.i64.wrap (v2 + 1)) (v3.set (a0.Edges.getD v2.toNat Zj).From.toNat ((v3.getD (a0.Edges.getD v2.toNat Zj).From.toNat []) ++ [(a0.Edges.getD v2.toNat Zj).To]))
         else none
        else none
       else none
      else none
     else none
    else none
   else none
  else
   c7 v3
def F113 (K : Nat) (a0 : Z18) : Option ((List (List Int))) :=
 if (0 : Int) ≤ a0.Count ∧ a0.Count ≤ a0.Count ∧ a0.Count ≤ 1073741824 then
  Z7e K a0 (Z8r K) K 0 (List.replicate a0.Count.toNat ([] : List Int))
 else none
theorem F113_ok (K : Nat) (a0 : Z18) (r : (List (List Int))) (h : F113 K a0 = some r) : ACall P 113 ⟨[(Zx a0)], [], (.sl 1 (r.map Z1x) false), [], []⟩ := by
 refine Z1p Tryz.func113 Tryz.results113 rfl Tryz.ntmps113 rfl rfl rfl ?_
 intro E Q hP hN hro hret
 obtain ⟨P', nt', w0, F0, p0, S0, β0, ro0⟩ := E
 simp only at hP hN
 subst hP hN
 dsimp only [argT]
 unfold F113 at h
 refine Zg <| Za <| Z1 I (Z2l (v := (Zx a0)) (cs := (Zx a0).cells) I I I I I) I <| Z1 I (Zi (v := (.sl 1 [] false)) I I) I <| Ze <| Zf <| Zg <| Za ?_
 refine Z1 I (Zp (m := 1) (o := 0) I f83_0 I I) I <| Z1 I (Zu (cs := (Zx a0).cells) (v := (.int .i64 a0.Count)) I o3 I I I) I ?_
 have ⟨hg1, h⟩ := Zv h
 refine Z1 I (Z66 (enc := (fun _ : Unit => AV.sl 1 [] true)) (z := ()) (kx := .i64) (ky := .i64) (a := a0.Count) (c := a0.Count) (n := a0.Count.toNat) I el168 I zeT65 (fun _ => I) I I I hg1 I) I <| AOps.ghost (st' := ⟨[(1, (.ptr 1 0)), (7, (.int .i64 a0.Count)), (8, (.vs 8))], [(1, (.box (Zx a0).cells)), (8, (.tab (List.map (List.map Z15) (List.replicate a0.Count.toNat ([] : List Int))) none))]⟩) (fun a w h => (Z1c ⟨[(1, (.ptr 1 0)), (7, (.int .i64 a0.Count)), (8, (.vs 8))], [(1, (.box (Zx a0).cells)), (8, (.tab (List.map (List.map Z15) (List.replicate a0.Count.toNat ([] : List Int))) none))]⟩ (ghost_tab (m := 8) (k := a0.Count.toNat) (sz := 1) (enc := Z15) I I a w (Z1c ⟨[(1, (.ptr 1 0)), (7, (.int .i64 a0.Count)), (8, (.vs 8))], [(8, (.vec 1 (List.map (fun _ : Unit => AV.sl 1 [] true) (List.replicate a0.Count.toNat ())))), (1, (.box (Zx a0).cells))]⟩ h ⟨rfl, rfl, rfl, trivial⟩ ⟨rfl, rfl, trivial⟩)) ⟨rfl, rfl, rfl, trivial⟩ ⟨rfl, rfl, trivial⟩)) <| Z1 I (Zi (v := (.vs 8)) I I) I <| Ze <| Zf <| Zg <| Zg <| Za ?_
 refine Z1 I (Zp (m := 1) (o := 0) I f83_1 I I) I <| Z1 I (Zu (cs := (Zx a0).cells) (v := (.sl 2 (a0.Edges.map Zk) false)) I o81 I I I) I <| Z1 I (Z24 (l := a0.Edges) (enc := Zk) I s81 I) I <| Z1 I (Zh (v := (.int .i64 0)) I I) I <| Ze <| Zf <| AWp.ghost (st' := ⟨[(3, (.vs 3)), (10, (.sl 2 (a0.Edges.map Zk) false)), (11, (.int .i64 (a0.Edges.length : Int))), (12, (.int .i64 0))], [(3, (.tab (List.map (List.map Z15) (List.replicate a0.Count.toNat ([] : List Int))) none))]⟩) (fun a w h => (Z1c ⟨[(3, (.vs 3)), (10, (.sl 2 (a0.Edges.map Zk) false)), (11, (.int .i64 (a0.Edges.length : Int))), (12, (.int .i64 0))], [(3, (.tab (List.map (List.map Z15) (List.replicate a0.Count.toNat ([] : List Int))) none))]⟩ (Z42 (a := 8) (b := 3) I I a w (Z1c ⟨[(3, (.vs 8)), (10, (.sl 2 (a0.Edges.map Zk) false)), (11, (.int .i64 (a0.Edges.length : Int))), (12, (.int .i64 0))], [(8, (.tab (List.map (List.map Z15) (List.replicate a0.Count.toNat ([] : List Int))) none))]⟩ h ⟨rfl, rfl, rfl, rfl, trivial⟩ ⟨rfl, trivial⟩)) ⟨rfl, rfl, rfl, rfl, trivial⟩ ⟨rfl, trivial⟩)) <| Z1t (st' := ⟨[(3, (.vs 3)), (10, (.sl 2 (a0.Edges.map Zk) false)), (11, (.int .i64 (a0.Edges.length : Int))), (12, (.int .i64 0))], [(3, (.tab (List.map (List.map Z15) (List.replicate a0.Count.toNat ([] : List Int))) none))]⟩) ⟨rfl, rfl, rfl, rfl, trivial⟩ ⟨rfl, trivial⟩ ?_
 refine Z1h (V := Int × (List (List Int))) (X := (List (List Int))) (lp := fun k v => Z7e K a0 (Z8r K) k v.1 v.2 = some r) (sh := fun v => ⟨[(3, (.vs 3)), (10, (.sl 2 (a0.Edges.map Zk) false)), (11, (.int .i64 (a0.Edges.length : Int))), (12, (.int .i64 v.1))], [(3, (.tab (List.map (List.map Z15) v.2) none))]⟩) (x := fun v => Z8r K v = some r) (shx := fun v => ⟨[(3, (.vs 3))], [(3, (.tab (List.map (List.map Z15) v) none))]⟩) (k := K) (v := (0, (List.replicate a0.Count.toNat ([] : List Int)))) h ?_ ?_
 ·intro v h
  revert h
  revert v
  intro v5 h
  try dsimp only at h ⊢
  unfold Z8r at h
  refine Zf <| Zg <| Za <| Z1 I (Zh (v := (.vs 3)) I I) I <| Z1 I (Zi (v := (.vs 3)) I I) I <| Ze <| Zf <| Z1a ?_
  refine At.ghost (st' := ⟨[(2, (.sl 1 (v5.map Z1x) false))], []⟩) (fun a w h => (Z1c ⟨[(2, (.sl 1 (v5.map Z1x) false))], []⟩ (ghost_freezeT (m := 3) (enc := Z15) (l := v5) a w (Z1c ⟨[(2, (.vs 3))], [(3, (.tab (List.map (List.map Z15) v5) none))]⟩ h ⟨rfl, trivial⟩ ⟨rfl, trivial⟩)) ⟨rfl, trivial⟩ trivial)) ?_
  have h := Option.some.inj h
  subst h
  refine (hret _ ?_).1
  exact ⟨[(.sl 1 (v5.map Z1x) false)], ⟨rfl, trivial⟩, rfl, trivial⟩
 ·intro N k4 v h IH4 J4
  obtain ⟨v2, v3⟩ := v
  try dsimp only at h IH4 J4 ⊢
  cases k4 with
  | zero => cases h
  | succ k4 =>
   rw [Z7e] at h
   refine Zg <| Za <| Z1 I (Z1w (k := .i64) (a := v2) (b := (a0.Edges.length : Int)) (c := (decide (v2 < (a0.Edges.length : Int)))) I I I I) I <| Ze <| Zf <| Zg ?_
   have hif := Z1y h
   refine Z13 I (fun hc => ?_) (fun hc => ?_)
   ·have h := hif.1 hc
    refine Z16 <| Zf <| Zg <| AWp.block <| Zg <| Za ?_
    have ⟨hg9, h⟩ := Zv h
    refine Z1 I (Z1s (k := .i64) (l := a0.Edges) (enc := Zk) (z := Zj) (n := v2) (cs := (Zk (a0.Edges.getD v2.toNat Zj)).cells) (full := false) I s81 I I hg9 I) I <| Z1 I (Z2k (cs := (Zk (a0.Edges.getD v2.toNat Zj)).cells) (vs := (Zk (a0.Edges.getD v2.toNat Zj)).cells) I a86 I I I) I <| Z1 I (Z22 (cs := [(.int .i64 0), (.int .i64 0)]) I z86 I I I) I <| Z1 I (Z1j (cs := [(.int .i64 0), (.int .i64 0)]) (vs := (Zk (a0.Edges.getD v2.toNat Zj)).cells) (ds := (Zk (a0.Edges.getD v2.toNat Zj)).cells) (v := (Zk (a0.Edges.getD v2.toNat Zj))) sz86 I I I I I I I I) I <| Ze <| Zf <| AWp.regionD mixed <| Z9 0 I (Zh (v := (.vs 3)) I I) ?_
    refine Z9 1 I (Zp (m := 5) (o := 0) I f86_0 I I) <| Z9 2 I (Zu (cs := (Zk (a0.Edges.getD v2.toNat Zj)).cells) (v := (.int .i64 (a0.Edges.getD v2.toNat Zj).From)) I o3 I I I) <| Z9 3 I (Zh (v := (.vs 3)) I I) <| Z9 4 I (Zp (m := 5) (o := 0) I f86_0 I I) <| Z9 5 I (Zu (cs := (Zk (a0.Edges.getD v2.toNat Zj)).cells) (v := (.int .i64 (a0.Edges.getD v2.toNat Zj).From)) I o3 I I I) ?_
    have ⟨hg10, h⟩ := Zv h
    refine Z9 6 I (st_indexT (enc := Z15) (l := v3) (k := .i64) (j := (a0.Edges.getD v2.toNat Zj).From) (m := (a0.Edges.getD v2.toNat Zj).From.toNat) I s168 I I I hg10 I) ?_
    have ⟨hg11, h⟩ := Zv h
    refine Z9 7 I (st_loadT (enc := Z15) (l := v3) I o65 I I hg11) <| Z9 8 I (Zp (m := 5) (o := 0) I f86_1 I I) <| Z9 9 I (Zu (cs := (Zk (a0.Edges.getD v2.toNat Zj)).cells) (v := (.int .i64 (a0.Edges.getD v2.toNat Zj).To)) I o3 I I I) <| Z9 10 I (Z1d (vs := [(.int .i64 (a0.Edges.getD v2.toNat Zj).To)]) (enc := Z15) (l := [(a0.Edges.getD v2.toNat Zj).To]) I el65 I I ⟨rfl, trivial⟩ I Z2y I I I I) ?_
    have ⟨hg12, h⟩ := Zv h
    have ⟨hg13, h⟩ := Zv h
    refine Z9 11 I (st_appendTR (enc := Z15) (l := v3) (l' := [(a0.Edges.getD v2.toNat Zj).To]) (src := (.vs 26)) (rd := [(26, (.vec 1 (List.map Z15 [(a0.Edges.getD v2.toNat Zj).To])))]) I I el65 I u65 I I hg12 I I (oneRead I) Z2y hg13) ?_
    have ⟨hg14, h⟩ := Zv h
    refine Z9 12 I (st_indexT (enc := Z15) (l := (v3.set (a0.Edges.getD v2.toNat Zj).From.toNat ((v3.getD (a0.Edges.getD v2.toNat Zj).From.toNat []) ++ [(a0.Edges.getD v2.toNat Zj).To]))) (k := .i64) (j := (a0.Edges.getD v2.toNat Zj).From) (m := (a0.Edges.getD v2.toNat Zj).From.toNat) I s168 I I I hg14 I) ?_
    have ⟨hg15, h⟩ := Zv h
    refine Z9 13 I (st_storeTR (enc := Z15) (l := (v3.set (a0.Edges.getD v2.toNat Zj).From.toNat ((v3.getD (a0.Edges.getD v2.toNat Zj).From.toNat []) ++ [(a0.Edges.getD v2.toNat Zj).To]))) sz65 I I I hg15) <| AOpsD.nil (by kernel_rfl) I <| At.end <| Zf <| Za <| Z1 I (Z1n (k := .i64) (a := v2) (b := 1) (c := (IntKind.i64.wrap (v2 + 1))) I I I I) I <| Z1 I (Zh (v := (.int .i64 (IntKind.i64.wrap (v2 + 1)))) I I) I <| Ze ?_
    exact Zw (st' := ⟨[(3, (.vs 3)), (10, (.sl 2 (a0.Edges.map Zk) false)), (11, (.int .i64 (a0.Edges.length : Int))), (12, (.int .i64 (IntKind.i64.wrap (v2 + 1))))], [(3, (.tab (List.map (List.map Z15) (v3.set (a0.Edges.getD v2.toNat Zj).From.toNat ((v3.getD (a0.Edges.getD v2.toNat Zj).From.toNat []) ++ [(a0.Edges.getD v2.toNat Zj).To]))) none))]⟩) ⟨rfl, rfl, rfl, rfl, trivial⟩ ⟨rfl, trivial⟩ (IH4 _ ((IntKind.i64.wrap (v2 + 1)), (v3.set (a0.Edges.getD v2.toNat Zj).From.toNat ((v3.getD (a0.Edges.getD v2.toNat Zj).From.toNat []) ++ [(a0.Edges.getD v2.toNat Zj).To]))) (Nat.lt_succ_self _) h)
   ·have h := hif.2 hc
    refine AWp.exit <| At.thru ?_
    exact Zw (st' := ⟨[(3, (.vs 3))], [(3, (.tab (List.map (List.map Z15) v3) none))]⟩) ⟨rfl, trivial⟩ ⟨rfl, trivial⟩ (J4 v3 h)
def Zba (K : Nat) (v4 : (List Str)) : Option ((List Str)) :=
 some v4
def Zah (K : Nat) (a1 : (List Int)) (a0 : Zb) (c6 : (List Str) → Option ((List Str))) : Nat → Int → (List Str) → Option ((List Str))
 | 0, _, _ => none
 | k3 + 1, v1, v2 =>
  if (decide (v1 < (a1.length : Int))) = true then
   if (0 : Int) ≤ v1 ∧ v1 < a1.length then
    if (0 : Int) ≤ (a1.getD v1.toNat 0) ∧ (a1.getD v1.toNat 0) < a0.Services.length then
     if v2.length + [(a0.Services.getD (a1.getD v1.toNat 0).toNat Z7).Name].length ≤ 1073741824 then
      (Zah K a1 a0 c6 k3) (IntKind.i64.wrap (v1 + 1)) (v2 ++ [(a0.Services.getD (a1.getD v1.toNat 0).toNat Z7).Name])
     else none
    else none
   else none
  else
   c6 v2
def F75 (K : Nat) (a0 : Zb) (a1 : (List Int)) : Option ((List Str)) :=
 Zah K a1 a0 (Zba K) K 0 []
theorem F75_ok (K : Nat) (a0 : Zb) (a1 : (List Int)) (r : (List Str)) (h : F75 K a0 a1 = some r) : ACall P 75 ⟨[(Z5 a0), (.sl 1 (a1.map Z15) false)], [], (.sl 1 (r.map Z1f) false), [], []⟩ := by
 refine Z1p Tryz.func75 Tryz.results75 rfl Tryz.ntmps75 rfl rfl rfl ?_
 intro E Q hP hN hro hret
 obtain ⟨P', nt', w0, F0, p0, S0, β0, ro0⟩ := E
 simp only at hP hN
 subst hP hN
 dsimp only [argT]
 unfold F75 at h
 refine Zg <| Za <| Z1 I (Z2l (v := (Z5 a0)) (cs := (Z5 a0).cells) I I I I I) I <| Z1 I (Zi (v := (.sl 1 [] false)) I I) I <| Ze <| Zf <| Zg <| Za ?_
 refine Z1 I (Zi (v := (.sl 1 [] true)) I I) I <| Ze <| Zf <| Zg <| Zg <| Za <| Z1 I (Zh (v := (.sl 1 (a1.map Z15) false)) I I) I <| Z1 I (Z24 (l := a1) (enc := Z15) I s65 I) I ?_
 refine Z1 I (Zh (v := (.int .i64 0)) I I) I <| Ze <| Zf <| AWp.ghost (st' := ⟨[(2, (.ptr 2 0)), (5, (.vs 5)), (8, (.sl 1 (a1.map Z15) false)), (9, (.int .i64 (a1.length : Int))), (10, (.int .i64 0))], [(2, (.box (Z5 a0).cells)), (5, (.vec 1 (List.map Z1f ([] : List Str))))]⟩) (fun a w h => (Z1c ⟨[(2, (.ptr 2 0)), (5, (.vs 5)), (8, (.sl 1 (a1.map Z15) false)), (9, (.int .i64 (a1.length : Int))), (10, (.int .i64 0))], [(2, (.box (Z5 a0).cells)), (5, (.vec 1 (List.map Z1f ([] : List Str))))]⟩ (Z59 (k := 5) (m := 5) (sz := 1) I I a w (Z1c ⟨[(5, (.sl 1 [] true)), (2, (.ptr 2 0)), (8, (.sl 1 (a1.map Z15) false)), (9, (.int .i64 (a1.length : Int))), (10, (.int .i64 0))], [(2, (.box (Z5 a0).cells))]⟩ h ⟨rfl, rfl, rfl, rfl, rfl, trivial⟩ ⟨rfl, trivial⟩)) ⟨rfl, rfl, rfl, rfl, rfl, trivial⟩ ⟨rfl, rfl, trivial⟩)) <| Z1t (st' := ⟨[(2, (.ptr 2 0)), (5, (.vs 5)), (8, (.sl 1 (a1.map Z15) false)), (9, (.int .i64 (a1.length : Int))), (10, (.int .i64 0))], [(2, (.box (Z5 a0).cells)), (5, (.vec 1 (List.map Z1f [])))]⟩) ⟨rfl, rfl, rfl, rfl, rfl, trivial⟩ ⟨rfl, rfl, trivial⟩ ?_
 refine Z1h (V := Int × (List Str)) (X := (List Str)) (lp := fun k v => Zah K a1 a0 (Zba K) k v.1 v.2 = some r) (sh := fun v => ⟨[(2, (.ptr 2 0)), (5, (.vs 5)), (8, (.sl 1 (a1.map Z15) false)), (9, (.int .i64 (a1.length : Int))), (10, (.int .i64 v.1))], [(2, (.box (Z5 a0).cells)), (5, (.vec 1 (List.map Z1f v.2)))]⟩) (x := fun v => Zba K v = some r) (shx := fun v => ⟨[(5, (.vs 5))], [(5, (.vec 1 (List.map Z1f v)))]⟩) (k := K) (v := (0, [])) h ?_ ?_
 ·intro v h
  revert h
  revert v
  intro v4 h
  try dsimp only at h ⊢
  unfold Zba at h
  refine Zf <| Zg <| Za <| Z1 I (Zh (v := (.vs 5)) I I) I <| Z1 I (Zi (v := (.vs 5)) I I) I <| Ze <| Zf <| Z1a ?_
  refine At.ghost (st' := ⟨[(4, (.sl 1 (v4.map Z1f) false))], []⟩) (fun a w h => (Z1c ⟨[(4, (.sl 1 (v4.map Z1f) false))], []⟩ (Z27 (m := 5) (sz := 1) (es := (List.map Z1f v4)) a w (Z1c ⟨[(4, (.vs 5))], [(5, (.vec 1 (List.map Z1f v4)))]⟩ h ⟨rfl, trivial⟩ ⟨rfl, trivial⟩)) ⟨rfl, trivial⟩ trivial)) ?_
  have h := Option.some.inj h
  subst h
  refine (hret _ ?_).1
  exact ⟨[(.sl 1 (v4.map Z1f) false)], ⟨rfl, trivial⟩, rfl, trivial⟩
 ·intro N k3 v h IH3 J3
  obtain ⟨v1, v2⟩ := v
  try dsimp only at h IH3 J3 ⊢
  cases k3 with
  | zero => cases h
  | succ k3 =>
   rw [Zah] at h
   refine Zg <| Za <| Z1 I (Z1w (k := .i64) (a := v1) (b := (a1.length : Int)) (c := (decide (v1 < (a1.length : Int)))) I I I I) I <| Ze <| Zf <| Zg ?_
   have hif := Z1y h
   refine Z13 I (fun hc => ?_) (fun hc => ?_)
   ·have h := hif.1 hc
    refine Z16 <| Zf <| Zg <| AWp.block <| Zg <| Za ?_
    have ⟨hg8, h⟩ := Zv h
    refine Z1 I (Z1s (k := .i64) (l := a1) (enc := Z15) (z := 0) (n := v1) (cs := [(.int .i64 (a1.getD v1.toNat 0))]) (full := false) I s65 I I hg8 I) I <| Z1 I (Z26 (cs := [(.int .i64 (a1.getD v1.toNat 0))]) (v := (.int .i64 (a1.getD v1.toNat 0))) I o3 I I) I <| Z1 I (Zi (v := (.int .i64 (a1.getD v1.toNat 0))) I I) I <| Ze <| Zf <| Za <| Z1 I (Zh (v := (.vs 5)) I I) I <| Z1 I (Zp (m := 2) (o := 0) I Z4a I I) I ?_
    refine Z1 I (Zu (cs := (Z5 a0).cells) (v := (.sl 4 (a0.Services.map Z2) false)) I o41 I I I) I <| Z1 I (Zh (v := (.int .i64 (a1.getD v1.toNat 0))) I I) I ?_
    have ⟨hg9, h⟩ := Zv h
    refine Z1 I (Z1s (k := .i64) (l := a0.Services) (enc := Z2) (z := Z7) (n := (a1.getD v1.toNat 0)) (cs := (Z2 (a0.Services.getD (a1.getD v1.toNat 0).toNat Z7)).cells) (full := false) I s41 I I hg9 I) I <| Z1 I (Z2r (cs := (Z2 (a0.Services.getD (a1.getD v1.toNat 0).toNat Z7)).cells) (ds := (Z2 (a0.Services.getD (a1.getD v1.toNat 0).toNat Z7)).cells) I Z7y I I I) I <| Z1 I (Z26 (cs := (Z2 (a0.Services.getD (a1.getD v1.toNat 0).toNat Z7)).cells) (v := (.str (a0.Services.getD (a1.getD v1.toNat 0).toNat Z7).Name)) I o9 I I) I <| Z1 I (Z1d (vs := [(.str (a0.Services.getD (a1.getD v1.toNat 0).toNat Z7).Name)]) (enc := Z1f) (l := [(a0.Services.getD (a1.getD v1.toNat 0).toNat Z7).Name]) I el73 I I ⟨rfl, trivial⟩ I Z7i I I I I) I ?_
    have ⟨hg10, h⟩ := Zv h
    refine Z1 I (Z2g (m := 5) (enc := Z1f) (l := v2) (l' := [(a0.Services.getD (a1.getD v1.toNat 0).toNat Z7).Name]) (src := (.vs 21)) (rd := [(21, (.vec 1 (List.map Z1f [(a0.Services.getD (a1.getD v1.toNat 0).toNat Z7).Name])))]) I I el73 I u73 I I I I (oneRead I) Z7i hg10) I <| Z1 I (Zi (v := (.vs 5)) I I) I <| Ze <| At.end <| Zf <| Za <| Z1 I (Z1n (k := .i64) (a := v1) (b := 1) (c := (IntKind.i64.wrap (v1 + 1))) I I I I) I <| Z1 I (Zh (v := (.int .i64 (IntKind.i64.wrap (v1 + 1)))) I I) I ?_
    refine Ze ?_
    exact Zw (st' := ⟨[(2, (.ptr 2 0)), (5, (.vs 5)), (8, (.sl 1 (a1.map Z15) false)), (9, (.int .i64 (a1.length : Int))), (10, (.int .i64 (IntKind.i64.wrap (v1 + 1))))], [(2, (.box (Z5 a0).cells)), (5, (.vec 1 (List.map Z1f (v2 ++ [(a0.Services.getD (a1.getD v1.toNat 0).toNat Z7).Name]))))]⟩) ⟨rfl, rfl, rfl, rfl, rfl, trivial⟩ ⟨rfl, rfl, trivial⟩ (IH3 _ ((IntKind.i64.wrap (v1 + 1)), (v2 ++ [(a0.Services.getD (a1.getD v1.toNat 0).toNat Z7).Name])) (Nat.lt_succ_self _) h)
   ·have h := hif.2 hc
    refine AWp.exit <| At.thru ?_
    exact Zw (st' := ⟨[(5, (.vs 5))], [(5, (.vec 1 (List.map Z1f v2)))]⟩) ⟨rfl, trivial⟩ ⟨rfl, trivial⟩ (J3 v2 h)
def Zck (K : Nat) : Option (Bool) :=
 some false
def Zat (K : Nat) (a0 : (List Str)) (a1 : Str) (c4 : Option (Bool)) : Nat → Int → Option (Bool)
 | 0, _ => none
 | k2 + 1, v1 =>
  if (decide (v1 < (a0.length : Int))) = true then
   if (0 : Int) ≤ v1 ∧ v1 < a0.length then
    if ((a0.getD v1.toNat []) == a1) = true then
     some true
    else
     (Zat K a0 a1 c4 k2) (IntKind.i64.wrap (v1 + 1))
   else none
  else
   c4
def F38 (K : Nat) (a0 : (List Str)) (a1 : Str) : Option (Bool) :=
 Zat K a0 a1 (Zck K) K 0
theorem F38_ok (K : Nat) (a0 : (List Str)) (a1 : Str) (r : Bool) (h : F38 K a0 a1 = some r) : ACall P 38 ⟨[(.sl 1 (a0.map Z1f) false), (.str a1)], [], (.bool r), [], []⟩ := by
 refine Z1p Tryz.func38 Tryz.results38 rfl Tryz.ntmps38 rfl rfl rfl ?_
 intro E Q hP hN hro hret
 obtain ⟨P', nt', w0, F0, p0, S0, β0, ro0⟩ := E
 simp only at hP hN
 subst hP hN
 dsimp only [argT]
 unfold F38 at h
 refine Zg <| Za <| Z1 I (Zi (v := (.bool false)) I I) I <| Ze <| Zf <| Zg <| Zg <| Za ?_
 refine Z1 I (Zi (v := (.int .i64 0)) I I) I <| Ze <| Zf <| Z1t (st' := ⟨[(0, (.sl 1 (a0.map Z1f) false)), (1, (.str a1)), (5, (.int .i64 0))], []⟩) ⟨rfl, rfl, rfl, trivial⟩ trivial ?_
 refine Z1h (V := Int) (X := Unit) (lp := fun k v => Zat K a0 a1 (Zck K) k v = some r) (sh := fun v => ⟨[(0, (.sl 1 (a0.map Z1f) false)), (1, (.str a1)), (5, (.int .i64 v))], []⟩) (x := fun v => Zck K = some r) (shx := fun v => ⟨[], []⟩) (k := K) (v := 0) h ?_ ?_
 ·intro v h
  try dsimp only at h ⊢
  unfold Zck at h
  refine Zf <| Zg <| Za <| Z1 I (Zi (v := (.bool false)) I I) I <| Ze <| Zf <| Z1a ?_
  have h := Option.some.inj h
  subst h
  refine (hret _ ?_).1
  exact ⟨[(.bool false)], ⟨rfl, trivial⟩, rfl, trivial⟩
 ·intro N k2 v h IH2 J2
  revert h
  revert v
  intro v1 h
  try dsimp only at h IH2 J2 ⊢
  cases k2 with
  | zero => cases h
  | succ k2 =>
   rw [Zat] at h
   refine Zg <| Zg <| Za <| Z1 I (Zh (v := (.int .i64 v1)) I I) I <| Z1 I (Zh (v := (.sl 1 (a0.map Z1f) false)) I I) I <| Z1 I (Z24 (l := a0) (enc := Z1f) I s73 I) I <| Z1 I (Z1w (k := .i64) (a := v1) (b := (a0.length : Int)) (c := (decide (v1 < (a0.length : Int)))) I I I I) I <| Ze ?_
   refine Zf ?_
   have hif := Z1y h
   refine Z13 I (fun hc => ?_) (fun hc => ?_)
   ·have h := hif.1 hc
    refine Z16 <| Zf <| Zg <| AWp.block <| Zg <| Za <| Z1 I (Zh (v := (.sl 1 (a0.map Z1f) false)) I I) I <| Z1 I (Zh (v := (.int .i64 v1)) I I) I ?_
    have ⟨hg6, h⟩ := Zv h
    refine Z1 I (Z1s (k := .i64) (l := a0) (enc := Z1f) (z := []) (n := v1) (cs := [(.str (a0.getD v1.toNat []))]) (full := false) I s73 I I hg6 I) I <| Z1 I (Z26 (cs := [(.str (a0.getD v1.toNat []))]) (v := (.str (a0.getD v1.toNat []))) I o9 I I) I <| Z1 I (Zh (v := (.str a1)) I I) I <| Z1 I (Z2z (a := (a0.getD v1.toNat [])) (b := a1) (c := ((a0.getD v1.toNat []) == a1)) I I I I) I <| Ze <| Zf ?_
    have hif := Z1y h
    refine Z13 I (fun hc => ?_) (fun hc => ?_)
    ·have h := hif.1 hc
     refine Zg <| Za <| Z1 I (Zi (v := (.bool true)) I I) I <| Ze <| Zf <| Z1a <| At.overR <| Z1b ?_
     refine Z1b (At.overR ?_)
     refine Z1b ?_
     have h := Option.some.inj h
     subst h
     refine (hret _ ?_).1
     exact ⟨[(.bool true)], ⟨rfl, trivial⟩, rfl, trivial⟩
    ·have h := hif.2 hc
     refine Z16 <| At.end <| Zf <| Za <| Z1 I (Zh (v := (.int .i64 v1)) I I) I <| Z1 I (Z1n (k := .i64) (a := v1) (b := 1) (c := (IntKind.i64.wrap (v1 + 1))) I I I I) I <| Z1 I (Zi (v := (.int .i64 (IntKind.i64.wrap (v1 + 1)))) I I) I <| Ze ?_
     exact Zw (st' := ⟨[(0, (.sl 1 (a0.map Z1f) false)), (1, (.str a1)), (5, (.int .i64 (IntKind.i64.wrap (v1 + 1))))], []⟩) ⟨rfl, rfl, rfl, trivial⟩ trivial (IH2 _ (IntKind.i64.wrap (v1 + 1)) (Nat.lt_succ_self _) h)
   ·have h := hif.2 hc
    refine AWp.exit <| At.thru ?_
    exact Zw (st' := ⟨[], []⟩) trivial trivial (J2 () h)
def Zcg (K : Nat) : Option (Bool) :=
 some true
def Za7 (K : Nat) (a0 : (List Str)) (a1 : (List Str)) (c4 : Option (Bool)) : Nat → Int → Option (Bool)
 | 0, _ => none
 | k2 + 1, v1 =>
  if (decide (v1 < (a0.length : Int))) = true then
   if (0 : Int) ≤ v1 ∧ v1 < a0.length then
    if (0 : Int) ≤ v1 ∧ v1 < a1.length then
     if (!((a0.getD v1.toNat []) == (a1.getD v1.toNat []))) = true then
      some false
     else
      (Za7 K a0 a1 c4 k2) (IntKind.i64.wrap (v1 + 1))
    else none
   else none
  else
   c4
def F32 (K : Nat) (a0 : (List Str)) (a1 : (List Str)) : Option (Bool) :=
 if ((a0.length : Int) != (a1.length : Int)) = true then
  some false
 else
  Za7 K a0 a1 (Zcg K) K 0
theorem F32_ok (K : Nat) (a0 : (List Str)) (a1 : (List Str)) (r : Bool) (h : F32 K a0 a1 = some r) : ACall P 32 ⟨[(.sl 1 (a0.map Z1f) false), (.sl 1 (a1.map Z1f) false)], [], (.bool r), [], []⟩ := by
 refine Z1p Tryz.func32 Tryz.results32 rfl Tryz.ntmps32 rfl rfl rfl ?_
 intro E Q hP hN hro hret
 obtain ⟨P', nt', w0, F0, p0, S0, β0, ro0⟩ := E
 simp only at hP hN
 subst hP hN
 dsimp only [argT]
 unfold F32 at h
 refine Zg <| Za <| Z1 I (Zi (v := (.bool false)) I I) I <| Ze <| Zf <| Zg <| Zg <| Za ?_
 refine Z1 I (Zh (v := (.sl 1 (a0.map Z1f) false)) I I) I <| Z1 I (Z24 (l := a0) (enc := Z1f) I s73 I) I <| Z1 I (Zh (v := (.sl 1 (a1.map Z1f) false)) I I) I <| Z1 I (Z24 (l := a1) (enc := Z1f) I s73 I) I <| Z1 I (Z1w (k := .i64) (a := (a0.length : Int)) (b := (a1.length : Int)) (c := ((a0.length : Int) != (a1.length : Int))) I I I I) I <| Ze <| Zf ?_
 have hif := Z1y h
 refine Z13 I (fun hc => ?_) (fun hc => ?_)
 ·have h := hif.1 hc
  refine Zg <| Za <| Z1 I (Zi (v := (.bool false)) I I) I <| Ze <| Zf <| Z1a <| Z1b ?_
  have h := Option.some.inj h
  subst h
  refine (hret _ ?_).1
  exact ⟨[(.bool false)], ⟨rfl, trivial⟩, rfl, trivial⟩
 ·have h := hif.2 hc
  refine Z16 <| Zf <| Zg <| Zg <| Za <| Z1 I (Zi (v := (.int .i64 0)) I I) I <| Ze <| Zf ?_
  refine Z1t (st' := ⟨[(0, (.sl 1 (a0.map Z1f) false)), (1, (.sl 1 (a1.map Z1f) false)), (5, (.int .i64 0))], []⟩) ⟨rfl, rfl, rfl, trivial⟩ trivial ?_
  refine Z1h (V := Int) (X := Unit) (lp := fun k v => Za7 K a0 a1 (Zcg K) k v = some r) (sh := fun v => ⟨[(0, (.sl 1 (a0.map Z1f) false)), (1, (.sl 1 (a1.map Z1f) false)), (5, (.int .i64 v))], []⟩) (x := fun v => Zcg K = some r) (shx := fun v => ⟨[], []⟩) (k := K) (v := 0) h ?_ ?_
  ·intro v h
   try dsimp only at h ⊢
   unfold Zcg at h
   refine Zf <| Zg <| Za <| Z1 I (Zi (v := (.bool true)) I I) I <| Ze <| Zf <| Z1a ?_
   have h := Option.some.inj h
   subst h
   refine (hret _ ?_).1
   exact ⟨[(.bool true)], ⟨rfl, trivial⟩, rfl, trivial⟩
  ·intro N k2 v h IH2 J2
   revert h
   revert v
   intro v1 h
   try dsimp only at h IH2 J2 ⊢
   cases k2 with
   | zero => cases h
   | succ k2 =>
    rw [Za7] at h
    refine Zg <| Zg <| Za <| Z1 I (Zh (v := (.int .i64 v1)) I I) I <| Z1 I (Zh (v := (.sl 1 (a0.map Z1f) false)) I I) I <| Z1 I (Z24 (l := a0) (enc := Z1f) I s73 I) I <| Z1 I (Z1w (k := .i64) (a := v1) (b := (a0.length : Int)) (c := (decide (v1 < (a0.length : Int)))) I I I I) I <| Ze ?_
    refine Zf ?_
    have hif := Z1y h
    refine Z13 I (fun hc => ?_) (fun hc => ?_)
    ·have h := hif.1 hc
     refine Z16 <| Zf <| Zg <| AWp.block <| Zg <| AWp.regionD mixed <| Z9 0 I (Zh (v := (.sl 1 (a0.map Z1f) false)) I I) <| Z9 1 I (Zh (v := (.int .i64 v1)) I I) ?_
     have ⟨hg6, h⟩ := Zv h
     refine Z9 2 I (Z1s (k := .i64) (l := a0) (enc := Z1f) (z := []) (n := v1) (cs := [(.str (a0.getD v1.toNat []))]) (full := false) I s73 I I hg6 I) <| Z9 3 I (Z26 (cs := [(.str (a0.getD v1.toNat []))]) (v := (.str (a0.getD v1.toNat []))) I o9 I I) <| Z9 4 I (Zh (v := (.sl 1 (a1.map Z1f) false)) I I) <| Z9 5 I (Zh (v := (.int .i64 v1)) I I) ?_
     have ⟨hg7, h⟩ := Zv h
     refine Z9 6 I (Z1s (k := .i64) (l := a1) (enc := Z1f) (z := []) (n := v1) (cs := [(.str (a1.getD v1.toNat []))]) (full := false) I s73 I I hg7 I) <| Z9 7 I (Z26 (cs := [(.str (a1.getD v1.toNat []))]) (v := (.str (a1.getD v1.toNat []))) I o9 I I) <| Z9 8 I (Z2z (a := (a0.getD v1.toNat [])) (b := (a1.getD v1.toNat [])) (c := (!((a0.getD v1.toNat []) == (a1.getD v1.toNat [])))) I I I I) <| AOpsD.nil (by kernel_rfl) I <| Zf ?_
     have hif := Z1y h
     refine Z13 I (fun hc => ?_) (fun hc => ?_)
     ·have h := hif.1 hc
      refine Zg <| Za <| Z1 I (Zi (v := (.bool false)) I I) I <| Ze <| Zf <| Z1a <| At.overR <| Z1b ?_
      refine Z1b (At.overR ?_)
      refine Z1b ?_
      have h := Option.some.inj h
      subst h
      refine (hret _ ?_).1
      exact ⟨[(.bool false)], ⟨rfl, trivial⟩, rfl, trivial⟩
     ·have h := hif.2 hc
      refine Z16 <| At.end <| Zf <| Za <| Z1 I (Zh (v := (.int .i64 v1)) I I) I <| Z1 I (Z1n (k := .i64) (a := v1) (b := 1) (c := (IntKind.i64.wrap (v1 + 1))) I I I I) I <| Z1 I (Zi (v := (.int .i64 (IntKind.i64.wrap (v1 + 1)))) I I) I <| Ze ?_
      exact Zw (st' := ⟨[(0, (.sl 1 (a0.map Z1f) false)), (1, (.sl 1 (a1.map Z1f) false)), (5, (.int .i64 (IntKind.i64.wrap (v1 + 1))))], []⟩) ⟨rfl, rfl, rfl, trivial⟩ trivial (IH2 _ (IntKind.i64.wrap (v1 + 1)) (Nat.lt_succ_self _) h)
    ·have h := hif.2 hc
     refine AWp.exit <| At.thru ?_
     exact Zw (st' := ⟨[], []⟩) trivial trivial (J2 () h)
end Go.AM.TopZ
