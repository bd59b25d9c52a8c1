/- What these functions compute, each with its walk: F16, F89, F45, F14, F15, F17_i1, F18, F20. -/
import Derived.Test.YtkhbjnkckblkjaaGreatTopZT
import Derived.Test.YtkhbjnkckblkjaaGreatTopZG0
import Derived.Test.YtkhbjnkckblkjaaGreatTopZG1
namespace Go.AM.TopZ
open Go Go.AM Go.Proofs
set_option maxRecDepth 100000
set_option maxHeartbeats 2000000
def F16 (K : Nat) (a0 : Int) : Option (Int) :=
 if (0 : Int) ≤ 20 then
  some (a0.fdiv (2 ^ (min (20 : Int).toNat IntKind.i64.bits)))
 else none
theorem F16_ok (K : Nat) (a0 : Int) (r : Int) (h : F16 K a0 = some r) : ACall P 16 ⟨[(.int .i64 a0)], [], (.int .i64 r), [], []⟩ := by
 refine Z1v Tryz.func16 Tryz.results16 rfl Tryz.ntmps16 rfl rfl rfl ?_
 intro E Q hP hN hro hret
 obtain ⟨P', nt', w0, F0, p0, S0, β0, ro0⟩ := E
 simp only at hP hN
 subst hP hN
 dsimp only [argT]
 unfold F16 at h
 refine Zl <| Zd <| Z2 I (Zq (v := (.int .i64 0)) I I) I <| Zi <| Zj <| Zl <| Zd <| Z2 I (Zn (v := (.int .i64 a0)) I I) I ?_
 have ⟨hg1, h⟩ := Z14 h
 refine Z2 I (st_shift (k := .i64) (j := .u64) (a := a0) (b := 20) (c := (a0.fdiv (2 ^ (min (20 : Int).toNat IntKind.i64.bits)))) I I I I hg1) I <| Z2 I (Zq (v := (.int .i64 (a0.fdiv (2 ^ (min (20 : Int).toNat IntKind.i64.bits))))) I I) I <| Zi <| Zj <| Z1g ?_
 have h := Option.some.inj h
 subst h
 refine (hret _ ?_).1
 exact ⟨[(.int .i64 (a0.fdiv (2 ^ (min (20 : Int).toNat IntKind.i64.bits))))], ⟨rfl, trivial⟩, rfl, trivial⟩
def F89 (K : Nat) (a0 : (List Zh)) : Option ((List Zh)) :=
 if ([] : List Zh).length + a0.length ≤ 1073741824 then
  some a0
 else none
theorem F89_ok (K : Nat) (a0 : (List Zh)) (r : (List Zh)) (h : F89 K a0 = some r) : ACall P 89 ⟨[(.sl 14 (a0.map Z5) false)], [], .vs 2, [(2, .vec 14 (List.map Z5 r))], [2]⟩ := by
 refine Z1v Tryz.func89 Tryz.results89 rfl Tryz.ntmps89 rfl rfl rfl ?_
 intro E Q hP hN hro hret
 obtain ⟨P', nt', w0, F0, p0, S0, β0, ro0⟩ := E
 simp only at hP hN
 subst hP hN
 dsimp only [argT]
 unfold F89 at h
 refine Zl <| Zd <| Z2 I (Zq (v := (.sl 14 [] true)) I I) I <| Zi <| Zj <| Zl <| Zl <| Zd ?_
 refine Z2 I (Zn (v := (.sl 14 (a0.map Z5) false)) I I) I ?_
 refine AOps.consNil (enc := Z5) (es := a0) (full := false) I u37 I (fun x1 hbx1 => ?_)
 refine Zi <| Zj ?_
 refine Z18 I (fun hc => ?_) (fun hc => ?_)
 ·have hz := hbx1 hc
  have h : (some []) = some r := by simp only [hz] at h ⊢; simpa using h
  refine Zl <| Zd <| Z2 I (Zq (v := (.sl 14 [] true)) I I) I <| Zi <| Zj <| Z1g <| Z1o <| At.ghost (st' := ⟨[(2, (.vs 2))], [(2, (.vec 14 (List.map Z5 ([] : List Zh))))]⟩) (fun a w h => (Z1d ⟨[(2, (.vs 2))], [(2, (.vec 14 (List.map Z5 ([] : List Zh))))]⟩ (Z4d (k := 2) (m := 2) (sz := 14) I I a w (Z1d ⟨[(2, (.sl 14 [] true))], []⟩ h ⟨rfl, trivial⟩ trivial)) ⟨rfl, trivial⟩ ⟨rfl, trivial⟩)) ?_
  have h := Option.some.inj h
  subst h
  refine (hret _ ?_).1
  exact ⟨[(.vs 2)], ⟨rfl, trivial⟩, rfl, ⟨rfl, trivial⟩⟩
 ·refine Z1b <| Zj <| Zl <| Zd <| Z2 I (Z1j (vs := []) (enc := Z5) (l := ([] : List Zh)) I el37 I I trivial I Z2q I I I I) I <| Z2 I (Zn (v := (.sl 14 (a0.map Z5) false)) I I) I ?_
  have ⟨hg2, h⟩ := Z14 h
  refine Z2 I (Z2l (m := 5) (enc := Z5) (l := ([] : List Zh)) (l' := a0) (src := (.sl 14 (a0.map Z5) false)) (rd := []) I I el37 I u37 I I I ⟨rfl, rfl, rfl⟩ noReads Z2q hg2) I <| Z2 I (Zq (v := (.vs 5)) I I) I <| Zi <| Zj <| Z1g <| At.ghost (st' := ⟨[(2, (.vs 2))], [(2, (.vec 14 (List.map Z5 a0)))]⟩) (fun a w h => (Z1d ⟨[(2, (.vs 2))], [(2, (.vec 14 (List.map Z5 a0)))]⟩ (Z48 (a := 5) (b := 2) I I a w (Z1d ⟨[(2, (.vs 5))], [(5, (.vec 14 (List.map Z5 a0)))]⟩ h ⟨rfl, trivial⟩ ⟨rfl, trivial⟩)) ⟨rfl, trivial⟩ ⟨rfl, trivial⟩)) ?_
  have h := Option.some.inj h
  subst h
  refine (hret _ ?_).1
  exact ⟨[(.vs 2)], ⟨rfl, trivial⟩, rfl, ⟨rfl, trivial⟩⟩
def Zbj (K : Nat) (v6 : (List Zh)) : Option ((List Zh)) :=
 some v6
def Zc3 (K : Nat) (v2 : (List Zh)) (c8 : (List Zh) → Option ((List Zh))) : Nat → Int → (List Zh) → Option ((List Zh))
 | 0, _, _ => none
 | k5 + 1, v3, v4 =>
  if (decide (v3 < (v2.length : Int))) = true then
   if (0 : Int) ≤ v3 ∧ v3 < (v4.length : Nat) then
    if v3.toNat < v4.length then
     (F90 K (v4.getD v3.toNat Z1).Attrs).bind fun v13 =>
      (F91 K (v4.getD v3.toNat Z1).Links).bind fun v15 =>
       if (0 : Int) ≤ v3 ∧ v3 < (v4.length : Nat) then
        if v3.toNat < v4.length then
         if (0 : Int) ≤ v3 ∧ v3 < ((v4.set v3.toNat (⟨(v4.getD v3.toNat Z1).Trace, (v4.getD v3.toNat Z1).Id, (v4.getD v3.toNat Z1).Parent, (v4.getD v3.toNat Z1).Revision, (v4.getD v3.toNat Z1).Clock, (v4.getD v3.toNat Z1).Kind, (v4.getD v3.toNat Z1).Service, (v4.getD v3.toNat Z1).Version, (v4.getD v3.toNat Z1).Operation, (v4.getD v3.toNat Z1).Start, (v4.getD v3.toNat Z1).End, (v4.getD v3.toNat Z1).Error, v13, (v4.getD v3.toNat Z1).Links⟩ : Zh)).length : Nat) then
          if v3.toNat < (v4.set v3.toNat (⟨(v4.getD v3.toNat Z1).Trace, (v4.getD v3.toNat Z1).Id, (v4.getD v3.toNat Z1).Parent, (v4.getD v3.toNat Z1).Revision, (v4.getD v3.toNat Z1).Clock, (v4.getD v3.toNat Z1).Kind, (v4.getD v3.toNat Z1).Service, (v4.getD v3.toNat Z1).Version, (v4.getD v3.toNat Z1).Operation, (v4.getD v3.toNat Z1).Start, (v4.getD v3.toNat Z1).End, (v4.getD v3.toNat Z1).Error, v13, (v4.getD v3.toNat Z1).Links⟩ : Zh)).length then
           (Zc3 K v2 c8 k5) (IntKind.i64.wrap (v3 + 1)) ((v4.set v3.toNat (⟨(v4.getD v3.toNat Z1).Trace, (v4.getD v3.toNat Z1).Id, (v4.getD v3.toNat Z1).Parent, (v4.getD v3.toNat Z1).Revision, (v4.getD v3.toNat Z1).Clock, (v4.getD v3.toNat Z1).Kind, (v4.getD v3.toNat Z1).Service, (v4.getD v3.toNat Z1).Version, (v4.getD v3.toNat Z1).Operation, (v4.getD v3.toNat Z1).Start, (v4.getD v3.toNat Z1).End, (v4.getD v3.toNat Z1).Error, v13, (v4.getD v3.toNat Z1).Links⟩ : Zh)).set v3.toNat (⟨((v4.set v3.toNat (⟨(v4.getD v3.toNat Z1).Trace, (v4.getD v3.toNat Z1).Id, (v4.getD v3.toNat Z1).Parent, (v4.getD v3.toNat Z1).Revision, (v4.getD v3.toNat Z1).Clock, (v4.getD v3.toNat Z1).Kind, (v4.getD v3.toNat Z1).Service, (v4.getD v3.toNat Z1).Version, (v4.getD v3.toNat Z1).Operation, (v4.getD v3.toNat Z1).Start, (v4.getD v3.toNat Z1).End, (v4.getD v3.toNat Z1).Error, v13, (v4.getD v3.toNat Z1).Links⟩ : Zh)).getD v3.toNat Z1).Trace, ((v4.set v3.toNat (⟨(v4.getD v3.toNat Z1).Trace, (v4.getD v3.toNat Z1).Id, (v4.getD v3.toNat Z1).Parent, (v4.getD v3.toNat Z1).Revision, (v4.getD v3.toNat Z1).Clock, (v4.getD v3.toNat Z1).Kind, (v4.getD v3.toNat Z1).Service, (v4.getD v3.toNat Z1).Version, (v4.getD v3.toNat Z1).Operation, (v4.getD v3.toNat Z1).Start, (v4.getD v3.toNat Z1).End, (v4.getD v3.toNat Z1).Error, v13, (v4.getD v3.toNat Z1).Links⟩ : Zh)).getD v3.toNat Z1).Id, ((v4.set v3.toNat (⟨(v4.getD v3.toNat Z1).Trace, (v4.getD v3.toNat Z1).Id, (v4.getD v3.toNat Z1).Parent, (v4.getD v3.toNat Z1).Revision, (v4.getD v3.toNat Z1).Clock, (v4.getD v3.toNat Z1).Kind, (v4.getD v3.toNat Z1).Service, (v4.getD v3.toNat Z1).Version, (v4.getD v3.toNat Z1).Operation, (v4.getD v3.toNat Z1).Start, (v4.getD v3.toNat Z1).End, (v4.getD v3.toNat Z1).Error, v13, (v4.getD v3.toNat Z1).Links⟩ : Zh)).getD v3.toNat Z1).Parent, ((v4.set v3.toNat (⟨(v4.getD v3.toNat Z1).Trace, (v4.getD v3.toNat Z1).Id, (v4.getD v3.toNat Z1).Parent, (v4.getD v3.toNat Z1).Revision, (v4.getD v3.toNat Z1).Clock, (v4.getD v3.toNat Z1).Kind, (v4.getD v3.toNat Z1).Service, (v4.getD v3.toNat Z1).Version, (v4.getD v3.toNat Z1).Operation, (v4.getD v3.toNat Z1).Start, (v4.getD v3.toNat Z1).End, (v4.getD v3.toNat Z1).Error, v13, (v4.getD v3.toNat Z1).Links⟩ : Zh)).getD v3.toNat Z1).Revision, ((v4.set v3.toNat (⟨(v4.getD v3.toNat Z1).Trace, (v4.getD v3.toNat Z1).Id, (v4.getD v3.toNat Z1).Parent, (v4.getD v3.toNat Z1).Revision, (v4.getD v3.toNat Z1).Clock, (v4.getD v3.toNat Z1).Kind, (v4.getD v3.toNat Z1).Service, (v4.getD v3.toNat Z1).Version, (v4.getD v3.toNat Z1).Operation, (v4.getD v3.toNat Z1).Start, (v4.getD v3.toNat Z1).End, (v4.getD v3.toNat Z1).Error, v13, (v4.getD v3.toNat Z1).Links⟩ : Zh)).getD v3.toNat Z1).Clock, ((v4.set v3.toNat (⟨(v4.getD v3.toNat Z1).Trace, (v4.getD v3.toNat Z1).Id, (v4.getD v3.toNat Z1).Parent, (v4.getD v3.toNat Z1).Revision, (v4.getD v3.toNat Z1).Clock, (v4.getD v3.toNat Z1).Kind, (v4.getD v3.toNat Z1).Service, (v4.getD v3.toNat Z1).Version, (v4.getD v3.toNat Z1).Operation, (v4.getD v3.toNat Z1).Start, (v4.getD v3.toNat Z1).End, (v4.getD v3.toNat Z1).Error, v13, (v4.getD v3.toNat Z1).Links⟩ : Zh)).getD v3.toNat Z1).Kind, ((v4.set v3.toNat (⟨(v4.getD v3.toNat Z1).Trace, (v4.getD v3.toNat Z1).Id, (v4.getD v3.toNat Z1).Parent, (v4.getD v3.toNat Z1).Revision, (v4.getD v3.toNat Z1).Clock, (v4.getD v3.toNat Z1).Kind, (v4.getD v3.toNat Z1).Service, (v4.getD v3.toNat Z1).Version, (v4.getD v3.toNat Z1).Operation, (v4.getD v3.toNat Z1).Start, (v4.getD v3.toNat Z1).End, (v4.getD v3.toNat Z1).Error, v13, (v4.getD v3.toNat Z1).Links⟩ : Zh)).getD v3.toNat Z1).Service, ((v4.set v3.toNat (⟨(v4.getD v3.toNat Z1).Trace, (v4.getD v3.toNat Z1).Id, (v4.getD v3.toNat Z1).Parent, (v4.getD v3.toNat Z1).Revision, (v4.getD v3.toNat Z1).Clock, (v4.getD v3.toNat Z1).Kind, (v4.getD v3.toNat Z1).Service, (v4.getD v3.toNat Z1).Version, (v4.getD v3.toNat Z1).Operation, (v4.getD v3.toNat Z1).Start, (v4.getD v3.toNat Z1).End, (v4.getD v3.toNat Z1).Error, v13, (v4.getD v3.toNat Z1).Links⟩ : Zh)).getD v3.toNat Z1).Version, ((v4.set v3.toNat (⟨(v4.getD v3.toNat Z1).Trace, (v4.getD v3.toNat Z1).Id, (v4.getD v3.toNat Z1).Parent, (v4.getD v3.toNat Z1).Revision, (v4.getD v3.toNat Z1).Clock, (v4.getD v3.toNat Z1).Kind, (v4.getD v3.toNat Z1).Service, (v4.getD v3.toNat Z1).Version, (v4.getD v3.toNat Z1).Operation, (v4.getD v3.toNat Z1).Start, (v4.getD v3.toNat Z1).End, (v4.getD v3.toNat Z1).Error, v13, (v4.getD v3.toNat Z1).Links⟩ : Zh)).getD v3.toNat Z1).Operation, ((v4.set v3.toNat (⟨(v4.getD v3.toNat Z1).Trace, (v4.getD v3.toNat Z1).Id, (v4.getD v3.toNat Z1).Parent, (v4.getD v3.toNat Z1).Revision, (v4.getD v3.toNat Z1).Clock, (v4.getD v3.toNat Z1).Kind, (v4.getD v3.toNat Z1).Service, (v4.getD v3.toNat Z1).Version, (v4.getD v3.toNat Z1).Operation, (v4.getD v3.toNat Z1).Start, (v4.getD v3.toNat Z1).End, (v4.getD v3.toNat Z1).Error, v13, (v4.getD v3.toNat Z1).Links⟩ : Zh)).getD v3.toNat Z1).Start, ((v4.set v3.toNat (⟨(v4.getD v3.toNat Z1).Trace, (v4.getD v3.toNat Z1).Id, (v4.getD v3.toNat Z1).Parent, (v4.getD v3.toNat Z1).Revision, (v4.getD v3.toNat Z1).Clock, (v4.getD v3.toNat Z1).Kind, (v4.getD v3.toNat Z1).Service, (v4.getD v3.toNat Z1).Version, (v4.getD v3.toNat Z1).Operation, (v4.getD v3.toNat Z1).Start, (v4.getD v3.toNat Z1).End, (v4.getD v3.toNat Z1).Error, v13, (v4.getD v3.toNat Z1).Links⟩ : Zh)).getD v3.toNat Z1).End, ((v4.set v3.toNat (⟨(v4.getD v3.toNat Z1).Trace, (v4.getD v3.toNat Z1).Id, (v4.getD v3.toNat Z1).Parent, (v4.getD v3.toNat Z1).Revision, (v4.getD v3.toNat Z1).Clock, (v4.getD v3.toNat Z1).Kind, (v4.getD v3.toNat Z1).Service, (v4.getD v3.toNat Z1).Version, (v4.getD v3.toNat Z1).Operation, (v4.getD v3.toNat Z1).Start, (v4.getD v3.toNat Z1).End, (v4.getD v3.toNat Z1).Error, v13, (v4.getD v3.toNat Z1).Links⟩ : Zh)).getD v3.toNat Z1).Error, ((v4.set v3.toNat (⟨(v4.getD v3.toNat Z1).Trace, (v4.getD v3.toNat Z1).Id, (v4.getD v3.toNat Z1).Parent, (v4.getD v3.toNat Z1).Revision, (v4.getD v3.toNat Z1).Clock, (v4.getD v3.toNat Z1).Kind, (v4.getD v3.toNat Z1).Service, (v4.getD v3.toNat Z1).Version, (v4.getD v3.toNat Z1).Operation, (v4.getD v3.toNat Z1).Start, (v4.getD v3.toNat Z1).End, (v4.getD v3.toNat Z1).Error, v13, (v4.getD v3.toNat Z1).Links⟩ : Zh)).getD v3.toNat Z1).Attrs, v15⟩ : Zh))
          else none
         else none
        else none
       else none
    else none
   else none
  else
   c8 v4
def F45 (K : Nat) (a0 : (List Zh)) : Option ((List Zh)) :=
 (F89 K a0).bind fun v2 =>
  Zc3 K v2 (Zbj K) K 0 v2
theorem F45_ok (K : Nat) (a0 : (List Zh)) (r : (List Zh)) (h : F45 K a0 = some r) : ACall P 45 ⟨[(.sl 14 (a0.map Z5) false)], [], (.sl 14 (r.map Z5) false), [], []⟩ := by
 refine Z1v Tryz.func45 Tryz.results45 rfl Tryz.ntmps45 rfl rfl rfl ?_
 intro E Q hP hN hro hret
 obtain ⟨P', nt', w0, F0, p0, S0, β0, ro0⟩ := E
 simp only at hP hN
 subst hP hN
 dsimp only [argT]
 unfold F45 at h
 refine Zl <| Zd <| Z2 I (Zq (v := (.sl 14 [] false)) I I) I <| Zi <| Zj <| Zl <| Zd <| Z2 I (Zn (v := (.sl 14 (a0.map Z5) false)) I I) I ?_
 have ⟨v2, hv2, h⟩ := Z1c h
 refine Z2 I (Z7k (sz := 14) (es := (List.map Z5 v2)) (ar := [(.sl 14 (a0.map Z5) false)]) (caps := []) Tryz.call89 ((F89_ok K a0 v2 hv2).sw 2 7) I I ⟨rfl, trivial⟩ I) I <| Z2 I (Zq (v := (.vs 7)) I I) I <| Zi <| Zj <| Zl <| Zl <| Zd <| Z2 I (Zn (v := (.vs 7)) I I) I ?_
 refine Z2 I (Z61 (l := v2) (enc := Z5) I u37 I I) I <| Z2 I (Zn (v := (.int .i64 0)) I I) I <| Zi <| Zj <| AWp.ghost (st' := ⟨[(3, (.vs 3)), (8, (.vs 3)), (9, (.int .i64 (v2.length : Int))), (10, (.int .i64 0))], [(3, (.vec 14 (List.map Z5 v2)))]⟩) (fun a w h => (Z1d ⟨[(3, (.vs 3)), (8, (.vs 3)), (9, (.int .i64 (v2.length : Int))), (10, (.int .i64 0))], [(3, (.vec 14 (List.map Z5 v2)))]⟩ (Z48 (a := 7) (b := 3) I I a w (Z1d ⟨[(3, (.vs 7)), (8, (.vs 7)), (9, (.int .i64 (v2.length : Int))), (10, (.int .i64 0))], [(7, (.vec 14 (List.map Z5 v2)))]⟩ h ⟨rfl, rfl, rfl, rfl, trivial⟩ ⟨rfl, trivial⟩)) ⟨rfl, rfl, rfl, rfl, trivial⟩ ⟨rfl, trivial⟩)) <| AWp.weaken (st' := ⟨[(3, (.vs 3)), (8, (.vs 3)), (9, (.int .i64 (v2.length : Int))), (10, (.int .i64 0))], [(3, (.vec 14 (List.map Z5 v2)))]⟩) ⟨rfl, rfl, rfl, rfl, trivial⟩ ⟨rfl, trivial⟩ ?_
 refine Z1l (V := Int × (List Zh)) (X := (List Zh)) (lp := fun k v => Zc3 K v2 (Zbj K) k v.1 v.2 = some r) (sh := fun v => ⟨[(3, (.vs 3)), (8, (.vs 3)), (9, (.int .i64 (v2.length : Int))), (10, (.int .i64 v.1))], [(3, (.vec 14 (List.map Z5 v.2)))]⟩) (x := fun v => Zbj K v = some r) (shx := fun v => ⟨[(3, (.vs 3))], [(3, (.vec 14 (List.map Z5 v)))]⟩) (k := K) (v := (0, v2)) h ?_ ?_
 ·intro v h
  revert h
  revert v
  intro v6 h
  try dsimp only at h ⊢
  unfold Zbj at h
  refine Zj <| Zl <| Zd <| Z2 I (Zn (v := (.vs 3)) I I) I <| Z2 I (Zq (v := (.vs 3)) I I) I <| Zi <| Zj <| Z1g ?_
  refine At.ghost (st' := ⟨[(2, (.sl 14 (v6.map Z5) false))], []⟩) (fun a w h => (Z1d ⟨[(2, (.sl 14 (v6.map Z5) false))], []⟩ (Z2c (m := 3) (sz := 14) (es := (List.map Z5 v6)) a w (Z1d ⟨[(2, (.vs 3))], [(3, (.vec 14 (List.map Z5 v6)))]⟩ h ⟨rfl, trivial⟩ ⟨rfl, trivial⟩)) ⟨rfl, trivial⟩ trivial)) ?_
  have h := Option.some.inj h
  subst h
  refine (hret _ ?_).1
  exact ⟨[(.sl 14 (v6.map Z5) false)], ⟨rfl, trivial⟩, rfl, trivial⟩
 ·intro N k5 v h IH5 J5
  obtain ⟨v3, v4⟩ := v
  try dsimp only at h IH5 J5 ⊢
  cases k5 with
  | zero => cases h
  | succ k5 =>
   rw [Zc3] at h
   refine Zl <| Zd <| Z2 I (Z1y (k := .i64) (a := v3) (b := (v2.length : Int)) (c := (decide (v3 < (v2.length : Int)))) I I I I) I <| Zi <| Zj <| Zl ?_
   have hif := Z21 h
   refine Z18 I (fun hc => ?_) (fun hc => ?_)
   ·have h := hif.1 hc
    refine Z1b <| Zj <| Zl <| AWp.block <| Zl <| Zd <| Z2 I (Zn (v := (.int .i64 v3)) I I) I ?_
    have ⟨hg10, h⟩ := Z14 h
    refine Z2 I (Z2v (k := .i64) (v := (.vs 3)) (n := 3) (off := 0) (len := v4.length) (es := (List.map Z5 v4)) (j := v3) (m := v3.toNat) I s37 I I (Z2x _ _ _) I hg10 (Nat.zero_add _)) I ?_
    have ⟨hg11, h⟩ := Z14 h
    refine Z2 I (Z3y (l := v4) (enc := Z5) (z := Z1) (vs := (Z5 (v4.getD v3.toNat Z1)).cells) I a56 I I hg11 I I) I <| Z2 I (Z1x (cs := [(.int .i64 0), (.int .i64 0), (.int .i64 0), (.int .i64 0), (.int .i64 0), (.int .i64 0), (.str []), (.str []), (.str []), (.int .i64 0), (.int .i64 0), (.bool false), (.sl 4 [] false), (.sl 2 [] false)]) I z56 I I I) I <| Z2 I (Zq (v := (.int .i64 v3)) I I) I <| Z2 I (Z1a (cs := [(.int .i64 0), (.int .i64 0), (.int .i64 0), (.int .i64 0), (.int .i64 0), (.int .i64 0), (.str []), (.str []), (.str []), (.int .i64 0), (.int .i64 0), (.bool false), (.sl 4 [] false), (.sl 2 [] false)]) (vs := (Z5 (v4.getD v3.toNat Z1)).cells) (ds := (Z5 (v4.getD v3.toNat Z1)).cells) (v := (Z5 (v4.getD v3.toNat Z1))) sz56 I I I I I I I I) I <| Zi <| Zj <| Z1u mixed <| Z8 0 I (Zn (v := (.vs 3)) I I) ?_
    refine Z8 1 I (Zn (v := (.int .i64 v3)) I I) <| Z8 2 I (Zn (v := (.vs 3)) I I) <| Z8 3 I (Zn (v := (.int .i64 v3)) I I) <| Z8 4 I (Zu (m := 5) (o := 0) I Z9z I I) <| Z8 5 I (Zz (cs := (Z5 (v4.getD v3.toNat Z1)).cells) (v := (.sl 4 ((v4.getD v3.toNat Z1).Attrs.map Zv) false)) I o53 I I I) ?_
    have ⟨v13, hv13, h⟩ := Z1c h
    refine Z8 6 I (Z1e (ar := [(.sl 4 ((v4.getD v3.toNat Z1).Attrs.map Zv) false)]) (caps := []) Tryz.call90 (F90_ok K (v4.getD v3.toNat Z1).Attrs v13 hv13) I I ⟨rfl, trivial⟩ I) <| Z8 7 I (Zu (m := 5) (o := 0) I Zbn I I) <| Z8 8 I (Zz (cs := (Z5 (v4.getD v3.toNat Z1)).cells) (v := (.sl 2 ((v4.getD v3.toNat Z1).Links.map Z10) false)) I o54 I I I) ?_
    have ⟨v15, hv15, h⟩ := Z1c h
    refine Z8 9 I (Z1e (ar := [(.sl 2 ((v4.getD v3.toNat Z1).Links.map Z10) false)]) (caps := []) Tryz.call91 (F91_ok K (v4.getD v3.toNat Z1).Links v15 hv15) I I ⟨rfl, trivial⟩ I) ?_
    have ⟨hg16, h⟩ := Z14 h
    refine Z8 10 I (Z2v (k := .i64) (v := (.vs 3)) (n := 3) (off := 0) (len := v4.length) (es := (List.map Z5 v4)) (j := v3) (m := v3.toNat) I s37 I I (Z2x _ _ _) I hg16 (Nat.zero_add _)) <| Z8 11 I (Z8y I Z9z I I) ?_
    have ⟨hg17, h⟩ := Z14 h
    refine Z8 12 I (Z6x (l := v4) (enc := Z5) (z := Z1) (a := (⟨(v4.getD v3.toNat Z1).Trace, (v4.getD v3.toNat Z1).Id, (v4.getD v3.toNat Z1).Parent, (v4.getD v3.toNat Z1).Revision, (v4.getD v3.toNat Z1).Clock, (v4.getD v3.toNat Z1).Kind, (v4.getD v3.toNat Z1).Service, (v4.getD v3.toNat Z1).Version, (v4.getD v3.toNat Z1).Operation, (v4.getD v3.toNat Z1).Start, (v4.getD v3.toNat Z1).End, (v4.getD v3.toNat Z1).Error, v13, (v4.getD v3.toNat Z1).Links⟩ : Zh)) (v := (.sl 4 (v13.map Zv) false)) sz53 I I hg17 I Z2q I I I I) ?_
    have ⟨hg18, h⟩ := Z14 h
    refine Z8 13 I (Z2v (k := .i64) (v := (.vs 3)) (n := 3) (off := 0) (len := (v4.set v3.toNat (⟨(v4.getD v3.toNat Z1).Trace, (v4.getD v3.toNat Z1).Id, (v4.getD v3.toNat Z1).Parent, (v4.getD v3.toNat Z1).Revision, (v4.getD v3.toNat Z1).Clock, (v4.getD v3.toNat Z1).Kind, (v4.getD v3.toNat Z1).Service, (v4.getD v3.toNat Z1).Version, (v4.getD v3.toNat Z1).Operation, (v4.getD v3.toNat Z1).Start, (v4.getD v3.toNat Z1).End, (v4.getD v3.toNat Z1).Error, v13, (v4.getD v3.toNat Z1).Links⟩ : Zh)).length) (es := (List.map Z5 (v4.set v3.toNat (⟨(v4.getD v3.toNat Z1).Trace, (v4.getD v3.toNat Z1).Id, (v4.getD v3.toNat Z1).Parent, (v4.getD v3.toNat Z1).Revision, (v4.getD v3.toNat Z1).Clock, (v4.getD v3.toNat Z1).Kind, (v4.getD v3.toNat Z1).Service, (v4.getD v3.toNat Z1).Version, (v4.getD v3.toNat Z1).Operation, (v4.getD v3.toNat Z1).Start, (v4.getD v3.toNat Z1).End, (v4.getD v3.toNat Z1).Error, v13, (v4.getD v3.toNat Z1).Links⟩ : Zh)))) (j := v3) (m := v3.toNat) I s37 I I (Z2x _ _ _) I hg18 (Nat.zero_add _)) <| Z8 14 I (Z8y I Zbn I I) ?_
    have ⟨hg19, h⟩ := Z14 h
    refine Z8 15 I (Z6x (l := (v4.set v3.toNat (⟨(v4.getD v3.toNat Z1).Trace, (v4.getD v3.toNat Z1).Id, (v4.getD v3.toNat Z1).Parent, (v4.getD v3.toNat Z1).Revision, (v4.getD v3.toNat Z1).Clock, (v4.getD v3.toNat Z1).Kind, (v4.getD v3.toNat Z1).Service, (v4.getD v3.toNat Z1).Version, (v4.getD v3.toNat Z1).Operation, (v4.getD v3.toNat Z1).Start, (v4.getD v3.toNat Z1).End, (v4.getD v3.toNat Z1).Error, v13, (v4.getD v3.toNat Z1).Links⟩ : Zh))) (enc := Z5) (z := Z1) (a := (⟨((v4.set v3.toNat (⟨(v4.getD v3.toNat Z1).Trace, (v4.getD v3.toNat Z1).Id, (v4.getD v3.toNat Z1).Parent, (v4.getD v3.toNat Z1).Revision, (v4.getD v3.toNat Z1).Clock, (v4.getD v3.toNat Z1).Kind, (v4.getD v3.toNat Z1).Service, (v4.getD v3.toNat Z1).Version, (v4.getD v3.toNat Z1).Operation, (v4.getD v3.toNat Z1).Start, (v4.getD v3.toNat Z1).End, (v4.getD v3.toNat Z1).Error, v13, (v4.getD v3.toNat Z1).Links⟩ : Zh)).getD v3.toNat Z1).Trace, ((v4.set v3.toNat (⟨(v4.getD v3.toNat Z1).Trace, (v4.getD v3.toNat Z1).Id, (v4.getD v3.toNat Z1).Parent, (v4.getD v3.toNat Z1).Revision, (v4.getD v3.toNat Z1).Clock, (v4.getD v3.toNat Z1).Kind, (v4.getD v3.toNat Z1).Service, (v4.getD v3.toNat Z1).Version, (v4.getD v3.toNat Z1).Operation, (v4.getD v3.toNat Z1).Start, (v4.getD v3.toNat Z1).End, (v4.getD v3.toNat Z1).Error, v13, (v4.getD v3.toNat Z1).Links⟩ : Zh)).getD v3.toNat Z1).Id, ((v4.set v3.toNat (⟨(v4.getD v3.toNat Z1).Trace, (v4.getD v3.toNat Z1).Id, (v4.getD v3.toNat Z1).Parent, (v4.getD v3.toNat Z1).Revision, (v4.getD v3.toNat Z1).Clock, (v4.getD v3.toNat Z1).Kind, (v4.getD v3.toNat Z1).Service, (v4.getD v3.toNat Z1).Version, (v4.getD v3.toNat Z1).Operation, (v4.getD v3.toNat Z1).Start, (v4.getD v3.toNat Z1).End, (v4.getD v3.toNat Z1).Error, v13, (v4.getD v3.toNat Z1).Links⟩ : Zh)).getD v3.toNat Z1).Parent, ((v4.set v3.toNat (⟨(v4.getD v3.toNat Z1).Trace, (v4.getD v3.toNat Z1).Id, (v4.getD v3.toNat Z1).Parent, (v4.getD v3.toNat Z1).Revision, (v4.getD v3.toNat Z1).Clock, (v4.getD v3.toNat Z1).Kind, (v4.getD v3.toNat Z1).Service, (v4.getD v3.toNat Z1).Version, (v4.getD v3.toNat Z1).Operation, (v4.getD v3.toNat Z1).Start, (v4.getD v3.toNat Z1).End, (v4.getD v3.toNat Z1).Error, v13, (v4.getD v3.toNat Z1).Links⟩ : Zh)).getD v3.toNat Z1).Revision, ((v4.set v3.toNat (⟨(v4.getD v3.toNat Z1).Trace, (v4.getD v3.toNat Z1).Id, (v4.getD v3.toNat Z1).Parent, (v4.getD v3.toNat Z1).Revision, (v4.getD v3.toNat Z1).Clock, (v4.getD v3.toNat Z1).Kind, (v4.getD v3.toNat Z1).Service, (v4.getD v3.toNat Z1).Version, (v4.getD v3.toNat Z1).Operation, (v4.getD v3.toNat Z1).Start, (v4.getD v3.toNat Z1).End, (v4.getD v3.toNat Z1).Error, v13, (v4.getD v3.toNat Z1).Links⟩ : Zh)).getD v3.toNat Z1).Clock, ((v4.set v3.toNat (⟨(v4.getD v3.toNat Z1).Trace, (v4.getD v3.toNat Z1).Id, (v4.getD v3.toNat Z1).Parent, (v4.getD v3.toNat Z1).Revision, (v4.getD v3.toNat Z1).Clock, (v4.getD v3.toNat Z1).Kind, (v4.getD v3.toNat Z1).Service, (v4.getD v3.toNat Z1).Version, (v4.getD v3.toNat Z1).Operation, (v4.getD v3.toNat Z1).Start, (v4.getD v3.toNat Z1).End, (v4.getD v3.toNat Z1).Error, v13, (v4.getD v3.toNat Z1).Links⟩ : Zh)).getD v3.toNat Z1).Kind, ((v4.set v3.toNat (⟨(v4.getD v3.toNat Z1).Trace, (v4.getD v3.toNat Z1).Id, (v4.getD v3.toNat Z1).Parent, (v4.getD v3.toNat Z1).Revision, (v4.getD v3.toNat Z1).Clock, (v4.getD v3.toNat Z1).Kind, (v4.getD v3.toNat Z1).Service, (v4.getD v3.toNat Z1).Version, (v4.getD v3.toNat Z1).Operation, (v4.getD v3.toNat Z1).Start, (v4.getD v3.toNat Z1).End, (v4.getD v3.toNat Z1).Error, v13, (v4.getD v3.toNat Z1).Links⟩ : Zh)).getD v3.toNat Z1).Service, ((v4.set v3.toNat (⟨(v4.getD v3.toNat Z1).Trace, (v4.getD v3.toNat Z1).Id, (v4.getD v3.toNat Z1).Parent, (v4.getD v3.toNat Z1).Revision, (v4.getD v3.toNat Z1).Clock, (v4.getD v3.toNat Z1).Kind, (v4.getD v3.toNat Z1).Service, (v4.getD v3.toNat Z1).Version, (v4.getD v3.toNat Z1).Operation, (v4.getD v3.toNat Z1).Start, (v4.getD v3.toNat Z1).End, (v4.getD v3.toNat Z1).Error, v13, (v4.getD v3.toNat Z1).Links⟩ : Zh)).getD v3.toNat Z1).Version, ((v4.set v3.toNat (⟨(v4.getD v3.toNat Z1).Trace, (v4.getD v3.toNat Z1).Id, (v4.getD v3.toNat Z1).Parent, (v4.getD v3.toNat Z1).Revision, (v4.getD v3.toNat Z1).Clock, (v4.getD v3.toNat Z1).Kind, (v4.getD v3.toNat Z1).Service, (v4.getD v3.toNat Z1).Version, (v4.getD v3.toNat Z1).Operation, (v4.getD v3.toNat Z1).Start, (v4.getD v3.toNat Z1).End, (v4.getD v3.toNat Z1).Error, v13, (v4.getD v3.toNat Z1).Links⟩ : Zh)).getD v3.toNat Z1).Operation, ((v4.set v3.toNat (⟨(v4.getD v3.toNat Z1).Trace, (v4.getD v3.toNat Z1).Id, (v4.getD v3.toNat Z1).Parent, (v4.getD v3.toNat Z1).Revision, (v4.getD v3.toNat Z1).Clock, (v4.getD v3.toNat Z1).Kind, (v4.getD v3.toNat Z1).Service, (v4.getD v3.toNat Z1).Version, (v4.getD v3.toNat Z1).Operation, (v4.getD v3.toNat Z1).Start, (v4.getD v3.toNat Z1).End, (v4.getD v3.toNat Z1).Error, v13, (v4.getD v3.toNat Z1).Links⟩ : Zh)).getD v3.toNat Z1).Start, ((v4.set v3.toNat (⟨(v4.getD v3.toNat Z1).Trace, (v4.getD v3.toNat Z1).Id, (v4.getD v3.toNat Z1).Parent, (v4.getD v3.toNat Z1).Revision, (v4.getD v3.toNat Z1).Clock, (v4.getD v3.toNat Z1).Kind, (v4.getD v3.toNat Z1).Service, (v4.getD v3.toNat Z1).Version, (v4.getD v3.toNat Z1).Operation, (v4.getD v3.toNat Z1).Start, (v4.getD v3.toNat Z1).End, (v4.getD v3.toNat Z1).Error, v13, (v4.getD v3.toNat Z1).Links⟩ : Zh)).getD v3.toNat Z1).End, ((v4.set v3.toNat (⟨(v4.getD v3.toNat Z1).Trace, (v4.getD v3.toNat Z1).Id, (v4.getD v3.toNat Z1).Parent, (v4.getD v3.toNat Z1).Revision, (v4.getD v3.toNat Z1).Clock, (v4.getD v3.toNat Z1).Kind, (v4.getD v3.toNat Z1).Service, (v4.getD v3.toNat Z1).Version, (v4.getD v3.toNat Z1).Operation, (v4.getD v3.toNat Z1).Start, (v4.getD v3.toNat Z1).End, (v4.getD v3.toNat Z1).Error, v13, (v4.getD v3.toNat Z1).Links⟩ : Zh)).getD v3.toNat Z1).Error, ((v4.set v3.toNat (⟨(v4.getD v3.toNat Z1).Trace, (v4.getD v3.toNat Z1).Id, (v4.getD v3.toNat Z1).Parent, (v4.getD v3.toNat Z1).Revision, (v4.getD v3.toNat Z1).Clock, (v4.getD v3.toNat Z1).Kind, (v4.getD v3.toNat Z1).Service, (v4.getD v3.toNat Z1).Version, (v4.getD v3.toNat Z1).Operation, (v4.getD v3.toNat Z1).Start, (v4.getD v3.toNat Z1).End, (v4.getD v3.toNat Z1).Error, v13, (v4.getD v3.toNat Z1).Links⟩ : Zh)).getD v3.toNat Z1).Attrs, v15⟩ : Zh)) (v := (.sl 2 (v15.map Z10) false)) sz54 I I hg19 I Z2q I I I I) <| Z1q (by kernel_rfl) I <| At.end <| Zj <| Zd <| Z2 I (Z1m (k := .i64) (a := v3) (b := 1) (c := (IntKind.i64.wrap (v3 + 1))) I I I I) I <| Z2 I (Zn (v := (.int .i64 (IntKind.i64.wrap (v3 + 1)))) I I) I <| Zi ?_
    exact Z11 (st' := ⟨[(3, (.vs 3)), (8, (.vs 3)), (9, (.int .i64 (v2.length : Int))), (10, (.int .i64 (IntKind.i64.wrap (v3 + 1))))], [(3, (.vec 14 (List.map Z5 ((v4.set v3.toNat (⟨(v4.getD v3.toNat Z1).Trace, (v4.getD v3.toNat Z1).Id, (v4.getD v3.toNat Z1).Parent, (v4.getD v3.toNat Z1).Revision, (v4.getD v3.toNat Z1).Clock, (v4.getD v3.toNat Z1).Kind, (v4.getD v3.toNat Z1).Service, (v4.getD v3.toNat Z1).Version, (v4.getD v3.toNat Z1).Operation, (v4.getD v3.toNat Z1).Start, (v4.getD v3.toNat Z1).End, (v4.getD v3.toNat Z1).Error, v13, (v4.getD v3.toNat Z1).Links⟩ : Zh)).set v3.toNat (⟨((v4.set v3.toNat (⟨(v4.getD v3.toNat Z1).Trace, (v4.getD v3.toNat Z1).Id, (v4.getD v3.toNat Z1).Parent, (v4.getD v3.toNat Z1).Revision, (v4.getD v3.toNat Z1).Clock, (v4.getD v3.toNat Z1).Kind, (v4.getD v3.toNat Z1).Service, (v4.getD v3.toNat Z1).Version, (v4.getD v3.toNat Z1).Operation, (v4.getD v3.toNat Z1).Start, (v4.getD v3.toNat Z1).End, (v4.getD v3.toNat Z1).Error, v13, (v4.getD v3.toNat Z1).Links⟩ : Zh)).getD v3.toNat Z1).Trace, ((v4.set v3.toNat (⟨(v4.getD v3.toNat Z1).Trace, (v4.getD v3.toNat Z1).Id, (v4.getD v3.toNat Z1).Parent, (v4.getD v3.toNat Z1).Revision, (v4.getD v3.toNat Z1).Clock, (v4.getD v3.toNat Z1).Kind, (v4.getD v3.toNat Z1).Service, (v4.getD v3.toNat Z1).Version, (v4.getD v3.toNat Z1).Operation, (v4.getD v3.toNat Z1).Start, (v4.getD v3.toNat Z1).End, (v4.getD v3.toNat Z1).Error, v13, (v4.getD v3.toNat Z1).Links⟩ : Zh)).getD v3.toNat Z1).Id, ((v4.set v3.toNat (⟨(v4.getD v3.toNat Z1).Trace, (v4.getD v3.toNat Z1).Id, (v4.getD v3.toNat Z1).Parent, (v4.getD v3.toNat Z1).Revision, (v4.getD v3.toNat Z1).Clock, (v4.getD v3.toNat Z1).Kind, (v4.getD v3.toNat Z1).Service, (v4.getD v3.toNat Z1).Version, (v4.getD v3.toNat Z1).Operation, (v4.getD v3.toNat Z1).Start, (v4.getD v3.toNat Z1).End, (v4.getD v3.toNat Z1).Error, v13, (v4.getD v3.toNat Z1).Links⟩ : Zh)).getD v3.toNat Z1).Parent, ((v4.set v3.toNat (⟨(v4.getD v3.toNat Z1).Trace, (v4.getD v3.toNat Z1).Id, (v4.getD v3.toNat Z1).Parent, (v4.getD v3.toNat Z1).Revision, (v4.getD v3.toNat Z1).Clock, (v4.getD v3.toNat Z1).Kind, (v4.getD v3.toNat Z1).Service, (v4.getD v3.toNat Z1).Version, (v4.getD v3.toNat Z1).Operation, (v4.getD v3.toNat Z1).Start, (v4.getD v3.toNat Z1).End, (v4.getD v3.toNat Z1).Error, v13, (v4.getD v3.toNat Z1).Links⟩ : Zh)).getD v3.toNat Z1).Revision, ((v4.set v3.toNat (⟨(v4.getD v3.toNat Z1).Trace, (v4.getD v3.toNat Z1).Id, (v4.getD v3.toNat Z1).Parent, (v4.getD v3.toNat Z1).Revision, (v4.getD v3.toNat Z1).Clock, (v4.getD v3.toNat Z1).Kind, (v4.getD v3.toNat Z1).Service, (v4.getD v3.toNat Z1).Version, (v4.getD v3.toNat Z1).Operation, (v4.getD v3.toNat Z1).Start, (v4.getD v3.toNat Z1).End, (v4.getD v3.toNat Z1).Error, v13, (v4.getD v3.toNat Z1).Links⟩ : Zh)).getD v3.toNat Z1).Clock, ((v4.set v3.toNat (⟨(v4.getD v3.toNat Z1).Trace, (v4.getD v3.toNat Z1).Id, (v4.getD v3.toNat Z1).Parent, (v4.getD v3.toNat Z1).Revision, (v4.getD v3.toNat Z1).Clock, (v4.getD v3.toNat Z1).Kind, (v4.getD v3.toNat Z1).Service, (v4.getD v3.toNat Z1).Version, (v4.getD v3.toNat Z1).Operation, (v4.getD v3.toNat Z1).Start, (v4.getD v3.toNat Z1).End, (v4.getD v3.toNat Z1).Error, v13, (v4.getD v3.toNat Z1).Links⟩ : Zh)).getD v3.toNat Z1).Kind, ((v4.set v3.toNat (⟨(v4.getD v3.toNat Z1).Trace, (v4.getD v3.toNat Z1).Id, (v4.getD v3.toNat Z1).Parent, (v4.getD v3.toNat Z1).Revision, (v4.getD v3.toNat Z1).Clock, (v4.getD v3.toNat Z1).Kind, (v4.getD v3.toNat Z1).Service, (v4.getD v3.toNat Z1).Version, (v4.getD v3.toNat Z1).Operation, (v4.getD v3.toNat Z1).Start, (v4.getD v3.toNat Z1).End, (v4.getD v3.toNat Z1).Error, v13, (v4.getD v3.toNat Z1).Links⟩ : Zh)).getD v3.toNat Z1).Service, ((v4.set v3.toNat (⟨(v4.getD v3.toNat Z1).Trace, (v4.getD v3.toNat Z1).Id, (v4.getD v3.toNat Z1).Parent, (v4.getD v3.toNat Z1).Revision, (v4.getD v3.toNat Z1).Clock, (v4.getD v3.toNat Z1).Kind, (v4.getD v3.toNat Z1).Service, (v4.getD v3.toNat Z1).Version, (v4.getD v3.toNat Z1).Operation, (v4.getD v3.toNat Z1).Start, (v4.getD v3.toNat Z1).End, (v4.getD v3.toNat Z1).Error, v13, (v4.getD v3.toNat Z1).Links⟩ : Zh)).getD v3.toNat Z1).Version, ((v4.set v3.toNat (⟨(v4.getD v3.toNat Z1).Trace, (v4.getD v3.toNat Z1).Id, (v4.getD v3.toNat Z1).Parent, (v4.getD v3.toNat Z1).Revision, (v4.getD v3.toNat Z1).Clock, (v4.getD v3.toNat Z1).Kind, (v4.getD v3.toNat Z1).Service, (v4.getD v3.toNat Z1).Version, (v4.getD v3.toNat Z1).Operation, (v4.getD v3.toNat Z1).Start, (v4.getD v3.toNat Z1).End, (v4.getD v3.toNat Z1).Error, v13, (v4.getD v3.toNat Z1).Links⟩ : Zh)).getD v3.toNat Z1).Operation, ((v4.set v3.toNat (⟨(v4.getD v3.toNat Z1).Trace, (v4.getD v3.toNat Z1).Id, (v4.getD v3.toNat Z1).Parent, (v4.getD v3.toNat Z1).Revision, (v4.getD v3.toNat Z1).Clock, (v4.getD v3.toNat Z1).Kind, (v4.getD v3.toNat Z1).Service, (v4.getD v3.toNat Z1).Version, (v4.getD v3.toNat Z1).Operation, (v4.getD v3.toNat Z1).Start, (v4.getD v3.toNat Z1).End, (v4.getD v3.toNat Z1).Error, v13, (v4.getD v3.toNat Z1).Links⟩ : Zh)).getD v3.toNat Z1).Start, ((v4.set v3.toNat (⟨(v4.getD v3.toNat Z1).Trace, (v4.getD v3.toNat Z1).Id, (v4.getD v3.toNat Z1).Parent, (v4.getD v3.toNat Z1).Revision, (v4.getD v3.toNat Z1).Clock, (v4.getD v3.toNat Z1).Kind, (v4.getD v3.toNat Z1).Service, (v4.getD v3.toNat Z1).Version, (v4.getD v3.toNat Z1).Operation, (v4.getD v3.toNat Z1).Start, (v4.getD v3.toNat Z1).End, (v4.getD v3.toNat Z1).Error, v13, (v4.getD v3.toNat Z1).Links⟩ : Zh)).getD v3.toNat Z1).End, ((v4.set v3.toNat (⟨(v4.getD v3.toNat Z1).Trace, (v4.getD v3.toNat Z1).Id, (v4.getD v3.toNat Z1).Parent, (v4.getD v3.toNat Z1).Revision, (v4.getD v3.toNat Z1).Clock, (v4.getD v3.toNat Z1).Kind, (v4.getD v3.toNat Z1).Service, (v4.getD v3.toNat Z1).Version, (v4.getD v3.toNat Z1).Operation, (v4.getD v3.toNat Z1).Start, (v4.getD v3.toNat Z1).End, (v4.getD v3.toNat Z1).Error, v13, (v4.getD v3.toNat Z1).Links⟩ : Zh)).getD v3.toNat Z1).Error, ((v4.set v3.toNat (⟨(v4.getD v3.toNat Z1).Trace, (v4.getD v3.toNat Z1).Id, (v4.getD v3.toNat Z1).Parent, (v4.getD v3.toNat Z1).Revision, (v4.getD v3.toNat Z1).Clock, (v4.getD v3.toNat Z1).Kind, (v4.getD v3.toNat Z1).Service, (v4.getD v3.toNat Z1).Version, (v4.getD v3.toNat Z1).Operation, (v4.getD v3.toNat Z1).Start, (v4.getD v3.toNat Z1).End, (v4.getD v3.toNat Z1).Error, v13, (v4.getD v3.toNat Z1).Links⟩ : Zh)).getD v3.toNat Z1).Attrs, v15⟩ : Zh)))))]⟩) ⟨rfl, rfl, rfl, rfl, trivial⟩ ⟨rfl, trivial⟩ (IH5 _ ((IntKind.i64.wrap (v3 + 1)), ((v4.set v3.toNat (⟨(v4.getD v3.toNat Z1).Trace, (v4.getD v3.toNat Z1).Id, (v4.getD v3.toNat Z1).Parent, (v4.getD v3.toNat Z1).Revision, (v4.getD v3.toNat Z1).Clock, (v4.getD v3.toNat Z1).Kind, (v4.getD v3.toNat Z1).Service, (v4.getD v3.toNat Z1).Version, (v4.getD v3.toNat Z1).Operation, (v4.getD v3.toNat Z1).Start, (v4.getD v3.toNat Z1).End, (v4.getD v3.toNat Z1).Error, v13, (v4.getD v3.toNat Z1).Links⟩ : Zh)).set v3.toNat (⟨((v4.set v3.toNat (⟨(v4.getD v3.toNat Z1).Trace, (v4.getD v3.toNat Z1).Id, (v4.getD v3.toNat Z1).Parent, (v4.getD v3.toNat Z1).Revision, (v4.getD v3.toNat Z1).Clock, (v4.getD v3.toNat Z1).Kind, (v4.getD v3.toNat Z1).Service, (v4.getD v3.toNat Z1).Version, (v4.getD v3.toNat Z1).Operation, (v4.getD v3.toNat Z1).Start, (v4.getD v3.toNat Z1).End, (v4.getD v3.toNat Z1).Error, v13, (v4.getD v3.toNat Z1).Links⟩ : Zh)).getD v3.toNat Z1).Trace, ((v4.set v3.toNat (⟨(v4.getD v3.toNat Z1).Trace, (v4.getD v3.toNat Z1).Id, (v4.getD v3.toNat Z1).Parent, (v4.getD v3.toNat Z1).Revision, (v4.getD v3.toNat Z1).Clock, (v4.getD v3.toNat Z1).Kind, (v4.getD v3.toNat Z1).Service, (v4.getD v3.toNat Z1).Version, (v4.getD v3.toNat Z1).Operation, (v4.getD v3.toNat Z1).Start, (v4.getD v3.toNat Z1).End, (v4.getD v3.toNat Z1).Error, v13, (v4.getD v3.toNat Z1).Links⟩ : Zh)).getD v3.toNat Z1).Id, ((v4.set v3.toNat (⟨(v4.getD v3.toNat Z1).Trace, (v4.getD v3.toNat Z1).Id, (v4.getD v3.toNat Z1).Parent, (v4.getD v3.toNat Z1).Revision, (v4.getD v3.toNat Z1).Clock, (v4.getD v3.toNat Z1).Kind, (v4.getD v3.toNat Z1).Service, (v4.getD v3.toNat Z1).Version, (v4.getD v3.toNat Z1).Operation, (v4.getD v3.toNat Z1).Start, (v4.getD v3.toNat Z1).End, (v4.getD v3.toNat Z1).Error, v13, (v4.getD v3.toNat Z1).Links⟩ : Zh)).getD v3.toNat Z1).Parent, ((v4.set v3.toNat (⟨(v4.getD v3.toNat Z1).Trace, (v4.getD v3.toNat Z1).Id, (v4.getD v3.toNat Z1).Parent, (v4.getD v3.toNat Z1).Revision, (v4.getD v3.toNat Z1).Clock, (v4.getD v3.toNat Z1).Kind, (v4.getD v3.toNat Z1).Service, (v4.getD v3.toNat Z1).Version, (v4.getD v3.toNat Z1).Operation, (v4.getD v3.toNat Z1).Start, (v4.getD v3.toNat Z1).End, (v4.getD v3.toNat Z1).Error, v13, (v4.getD v3.toNat Z1).Links⟩ : Zh)).getD v3.toNat Z1).Revision, ((v4.set v3.toNat (⟨(v4.getD v3.toNat Z1).Trace, (v4.getD v3.toNat Z1).Id, (v4.getD v3.toNat Z1).Parent, (v4.getD v3.toNat Z1).Revision, (v4.getD v3.toNat Z1).Clock, (v4.getD v3.toNat Z1).Kind, (v4.getD v3.toNat Z1).Service, (v4.getD v3.toNat Z1).Version, (v4.getD v3.toNat Z1).Operation, (v4.getD v3.toNat Z1).Start, (v4.getD v3.toNat Z1).End, (v4.getD v3.toNat Z1).Error, v13, (v4.getD v3.toNat Z1).Links⟩ : Zh)).getD v3.toNat Z1).Clock, ((v4.set v3.toNat (⟨(v4.getD v3.toNat Z1).Trace, (v4.getD v3.toNat Z1).Id, (v4.getD v3.toNat Z1).Parent, (v4.getD v3.toNat Z1).Revision, (v4.getD v3.toNat Z1).Clock, (v4.getD v3.toNat Z1).Kind, (v4.getD v3.toNat Z1).Service, (v4.getD v3.toNat Z1).Version, (v4.getD v3.toNat Z1).Operation, (v4.getD v3.toNat Z1).Start, (v4.getD v3.toNat Z1).End, (v4.getD v3.toNat Z1).Error, v13, (v4.getD v3.toNat Z1).Links⟩ : Zh)).getD v3.toNat Z1).Kind, ((v4.set v3.toNat (⟨(v4.getD v3.toNat Z1).Trace, (v4.getD v3.toNat Z1).Id, (v4.getD v3.toNat Z1).Parent, (v4.getD v3.toNat Z1).Revision, (v4.getD v3.toNat Z1).Clock, (v4.getD v3.toNat Z1).Kind, (v4.getD v3.toNat Z1).Service, (v4.getD v3.toNat Z1).Version, (v4.getD v3.toNat Z1).Operation, (v4.getD v3.toNat Z1).Start, (v4.getD v3.toNat Z1).End, (v4.getD v3.toNat Z1).Error, v13, (v4.getD v3.toNat Z1).Links⟩ : Zh)).getD v3.toNat Z1).Service, ((v4.set v3.toNat (⟨(v4.getD v3.toNat Z1).Trace, (v4.getD v3.toNat Z1).Id, (v4.getD v3.toNat Z1).Parent, (v4.getD v3.toNat Z1).Revision, (v4.getD v3.toNat Z1).Clock, (v4.getD v3.toNat Z1).Kind, (v4.getD v3.toNat Z1).Service, (v4.getD v3.toNat Z1).Version, (v4.getD v3.toNat Z1).Operation, (v4.getD v3.toNat Z1).Start, (v4.getD v3.toNat Z1).End, (v4.getD v3.toNat Z1).Error, v13, (v4.getD v3.toNat Z1).Links⟩ : Zh)).getD v3.toNat Z1).Version, ((v4.set v3.toNat (⟨(v4.getD v3.toNat Z1).Trace, (v4.getD v3.toNat Z1).Id, (v4.getD v3.toNat Z1).Parent, (v4.getD v3.toNat Z1).Revision, (v4.getD v3.toNat Z1).Clock, (v4.getD v3.toNat Z1).Kind, (v4.getD v3.toNat Z1).Service, (v4.getD v3.toNat Z1).Version, (v4.getD v3.toNat Z1).Operation, (v4.getD v3.toNat Z1).Start, (v4.getD v3.toNat Z1).End, (v4.getD v3.toNat Z1).Error, v13, (v4.getD v3.toNat Z1).Links⟩ : Zh)).getD v3.toNat Z1).Operation, ((v4.set v3.toNat (⟨(v4.getD v3.toNat Z1).Trace, (v4.getD v3.toNat Z1).Id, (v4.getD v3.toNat Z1).Parent, (v4.getD v3.toNat Z1).Revision, (v4.getD v3.toNat Z1).Clock, (v4.getD v3.toNat Z1).Kind, (v4.getD v3.toNat Z1).Service, (v4.getD v3.toNat Z1).Version, (v4.getD v3.toNat Z1).Operation, (v4.getD v3.toNat Z1).Start, (v4.getD v3.toNat Z1).End, (v4.getD v3.toNat Z1).Error, v13, (v4.getD v3.toNat Z1).Links⟩ : Zh)).getD v3.toNat Z1).Start, ((v4.set v3.toNat (⟨(v4.getD v3.toNat Z1).Trace, (v4.getD v3.toNat Z1).Id, (v4.getD v3.toNat Z1).Parent, (v4.getD v3.toNat Z1).Revision, (v4.getD v3.toNat Z1).Clock, (v4.getD v3.toNat Z1).Kind, (v4.getD v3.toNat Z1).Service, (v4.getD v3.toNat Z1).Version, (v4.getD v3.toNat Z1).Operation, (v4.getD v3.toNat Z1).Start, (v4.getD v3.toNat Z1).End, (v4.getD v3.toNat Z1).Error, v13, (v4.getD v3.toNat Z1).Links⟩ : Zh)).getD v3.toNat Z1).End, ((v4.set v3.toNat (⟨(v4.getD v3.toNat Z1).Trace, (v4.getD v3.toNat Z1).Id, (v4.getD v3.toNat Z1).Parent, (v4.getD v3.toNat Z1).Revision, (v4.getD v3.toNat Z1).Clock, (v4.getD v3.toNat Z1).Kind, (v4.getD v3.toNat Z1).Service, (v4.getD v3.toNat Z1).Version, (v4.getD v3.toNat Z1).Operation, (v4.getD v3.toNat Z1).Start, (v4.getD v3.toNat Z1).End, (v4.getD v3.toNat Z1).Error, v13, (v4.getD v3.toNat Z1).Links⟩ : Zh)).getD v3.toNat Z1).Error, ((v4.set v3.toNat (⟨(v4.getD v3.toNat Z1).Trace, (v4.getD v3.toNat Z1).Id, (v4.getD v3.toNat Z1).Parent, (v4.getD v3.toNat Z1).Revision, (v4.getD v3.toNat Z1).Clock, (v4.getD v3.toNat Z1).Kind, (v4.getD v3.toNat Z1).Service, (v4.getD v3.toNat Z1).Version, (v4.getD v3.toNat Z1).Operation, (v4.getD v3.toNat Z1).Start, (v4.getD v3.toNat Z1).End, (v4.getD v3.toNat Z1).Error, v13, (v4.getD v3.toNat Z1).Links⟩ : Zh)).getD v3.toNat Z1).Attrs, v15⟩ : Zh))) (Nat.lt_succ_self _) h)
   ·have h := hif.2 hc
    refine AWp.exit <| At.thru ?_
    exact Z11 (st' := ⟨[(3, (.vs 3))], [(3, (.vec 14 (List.map Z5 v4)))]⟩) ⟨rfl, trivial⟩ ⟨rfl, trivial⟩ (J5 v4 h)
def Za5 (K : Nat) (v4 : (List Zt)) : Option ((List Zt)) :=
 some v4
def F14_j9 (K : Nat) (b7 : Int → (List Zt) → Option ((List Zt))) (v1 : Int) (v8 : (List Zt)) : Option ((List Zt)) :=
 b7 (IntKind.i64.wrap (v1 + 1)) v8
def Zbd (K : Nat) (b7 : Int → (List Zt) → Option ((List Zt))) (v1 : Int) (v13 : (List Zt)) : Option ((List Zt)) :=
 F14_j9 K b7 v1 v13
def Z6j (K : Nat) (a0 : (List Zt)) (a1 : Z35) (c6 : (List Zt) → Option ((List Zt))) : Nat → Int → (List Zt) → Option ((List Zt))
 | 0, _, _ => none
 | k3 + 1, v1, v2 =>
  if (decide (v1 < (a0.length : Int))) = true then
   if (0 : Int) ≤ v1 ∧ v1 < a0.length then
    (F16 K (a0.getD v1.toNat Z9).Id).bind fun v12 =>
     if (decide (a1.From ≤ v12)) = true then
      if (decide (v12 < a1.To)) = true then
       (F45 K (a0.getD v1.toNat Z9).Spans).bind fun v16 =>
        if v2.length + [(⟨(a0.getD v1.toNat Z9).Id, (a0.getD v1.toNat Z9).Weight, v16⟩ : Zt)].length ≤ 1073741824 then
         Zbd K (Z6j K a0 a1 c6 k3) v1 (v2 ++ [(⟨(a0.getD v1.toNat Z9).Id, (a0.getD v1.toNat Z9).Weight, v16⟩ : Zt)])
        else none
      else
       Zbd K (Z6j K a0 a1 c6 k3) v1 v2
     else
      F14_j9 K (Z6j K a0 a1 c6 k3) v1 v2
   else none
  else
   c6 v2
def F14 (K : Nat) (a0 : (List Zt)) (a1 : Z35) : Option ((List Zt)) :=
 Z6j K a0 a1 (Za5 K) K 0 []
theorem F14_ok (K : Nat) (a0 : (List Zt)) (a1 : Z35) (r : (List Zt)) (h : F14 K a0 a1 = some r) : ACall P 14 ⟨[(.sl 3 (a0.map Zb) false), (Z28 a1)], [], (.sl 3 (r.map Zb) false), [], []⟩ := by
 refine Z1v Tryz.func14 Tryz.results14 rfl Tryz.ntmps14 rfl rfl rfl ?_
 intro E Q hP hN hro hret
 obtain ⟨P', nt', w0, F0, p0, S0, β0, ro0⟩ := E
 simp only at hP hN
 subst hP hN
 dsimp only [argT]
 unfold F14 at h
 refine Zl <| Zd <| Z2 I (Z2s (v := (Z28 a1)) (cs := (Z28 a1).cells) I I I I I) I <| Z2 I (Zq (v := (.sl 3 [] false)) I I) I <| Zi <| Zj <| Zl <| Zd ?_
 refine Z2 I (Zq (v := (.sl 3 [] true)) I I) I <| Zi <| Zj <| Zl <| Zl <| Zd <| Z2 I (Zn (v := (.sl 3 (a0.map Zb) false)) I I) I <| Z2 I (Z23 (l := a0) (enc := Zb) I s31 I) I ?_
 refine Z2 I (Zn (v := (.int .i64 0)) I I) I <| Zi <| Zj <| AWp.ghost (st' := ⟨[(3, (.ptr 3 0)), (5, (.vs 5)), (9, (.sl 3 (a0.map Zb) false)), (10, (.int .i64 (a0.length : Int))), (11, (.int .i64 0))], [(3, (.box (Z28 a1).cells)), (5, (.vec 3 (List.map Zb ([] : List Zt))))]⟩) (fun a w h => (Z1d ⟨[(3, (.ptr 3 0)), (5, (.vs 5)), (9, (.sl 3 (a0.map Zb) false)), (10, (.int .i64 (a0.length : Int))), (11, (.int .i64 0))], [(3, (.box (Z28 a1).cells)), (5, (.vec 3 (List.map Zb ([] : List Zt))))]⟩ (Z4d (k := 5) (m := 5) (sz := 3) I I a w (Z1d ⟨[(5, (.sl 3 [] true)), (3, (.ptr 3 0)), (9, (.sl 3 (a0.map Zb) false)), (10, (.int .i64 (a0.length : Int))), (11, (.int .i64 0))], [(3, (.box (Z28 a1).cells))]⟩ h ⟨rfl, rfl, rfl, rfl, rfl, trivial⟩ ⟨rfl, trivial⟩)) ⟨rfl, rfl, rfl, rfl, rfl, trivial⟩ ⟨rfl, rfl, trivial⟩)) <| AWp.weaken (st' := ⟨[(3, (.ptr 3 0)), (5, (.vs 5)), (9, (.sl 3 (a0.map Zb) false)), (10, (.int .i64 (a0.length : Int))), (11, (.int .i64 0))], [(3, (.box (Z28 a1).cells)), (5, (.vec 3 (List.map Zb [])))]⟩) ⟨rfl, rfl, rfl, rfl, rfl, trivial⟩ ⟨rfl, rfl, trivial⟩ ?_
 refine Z1l (V := Int × (List Zt)) (X := (List Zt)) (lp := fun k v => Z6j K a0 a1 (Za5 K) k v.1 v.2 = some r) (sh := fun v => ⟨[(3, (.ptr 3 0)), (5, (.vs 5)), (9, (.sl 3 (a0.map Zb) false)), (10, (.int .i64 (a0.length : Int))), (11, (.int .i64 v.1))], [(3, (.box (Z28 a1).cells)), (5, (.vec 3 (List.map Zb v.2)))]⟩) (x := fun v => Za5 K v = some r) (shx := fun v => ⟨[(5, (.vs 5))], [(5, (.vec 3 (List.map Zb v)))]⟩) (k := K) (v := (0, [])) h ?_ ?_
 ·intro v h
  revert h
  revert v
  intro v4 h
  try dsimp only at h ⊢
  unfold Za5 at h
  refine Zj <| Zl <| Zd <| Z2 I (Zn (v := (.vs 5)) I I) I <| Z2 I (Zq (v := (.vs 5)) I I) I <| Zi <| Zj <| Z1g ?_
  refine At.ghost (st' := ⟨[(4, (.sl 3 (v4.map Zb) false))], []⟩) (fun a w h => (Z1d ⟨[(4, (.sl 3 (v4.map Zb) false))], []⟩ (Z2c (m := 5) (sz := 3) (es := (List.map Zb v4)) a w (Z1d ⟨[(4, (.vs 5))], [(5, (.vec 3 (List.map Zb v4)))]⟩ h ⟨rfl, trivial⟩ ⟨rfl, trivial⟩)) ⟨rfl, trivial⟩ trivial)) ?_
  have h := Option.some.inj h
  subst h
  refine (hret _ ?_).1
  exact ⟨[(.sl 3 (v4.map Zb) false)], ⟨rfl, trivial⟩, rfl, trivial⟩
 ·intro N k3 v h IH3 J3
  obtain ⟨v1, v2⟩ := v
  try dsimp only at h IH3 J3 ⊢
  cases k3 with
  | zero => cases h
  | succ k3 =>
   rw [Z6j] at h
   refine Zl <| Zd <| Z2 I (Z1y (k := .i64) (a := v1) (b := (a0.length : Int)) (c := (decide (v1 < (a0.length : Int)))) I I I I) I <| Zi <| Zj <| Zl ?_
   have hif := Z21 h
   refine Z18 I (fun hc => ?_) (fun hc => ?_)
   ·have h := hif.1 hc
    refine Z1b <| Zj <| Zl ?_
    refine AWp.blockJoin (V := (List Zt)) (lp := fun v => F14_j9 K (Z6j K a0 a1 (Za5 K) k3) v1 v = some r) (sh := fun v => ⟨[(3, (.ptr 3 0)), (5, (.vs 5)), (9, (.sl 3 (a0.map Zb) false)), (10, (.int .i64 (a0.length : Int))), (11, (.int .i64 v1))], [(3, (.box (Z28 a1).cells)), (5, (.vec 3 (List.map Zb v)))]⟩) ?_ ?_
    ·intro v h
     revert h
     revert v
     intro v8 h
     try dsimp only at h ⊢
     unfold F14_j9 at h
     refine Zj <| Zd <| Z2 I (Z1m (k := .i64) (a := v1) (b := 1) (c := (IntKind.i64.wrap (v1 + 1))) I I I I) I <| Z2 I (Zn (v := (.int .i64 (IntKind.i64.wrap (v1 + 1)))) I I) I <| Zi ?_
     exact Z11 (st' := ⟨[(3, (.ptr 3 0)), (5, (.vs 5)), (9, (.sl 3 (a0.map Zb) false)), (10, (.int .i64 (a0.length : Int))), (11, (.int .i64 (IntKind.i64.wrap (v1 + 1))))], [(3, (.box (Z28 a1).cells)), (5, (.vec 3 (List.map Zb v8)))]⟩) ⟨rfl, rfl, rfl, rfl, rfl, trivial⟩ ⟨rfl, rfl, trivial⟩ (IH3 _ ((IntKind.i64.wrap (v1 + 1)), v8) (Nat.lt_succ_self _) h)
    ·intro J9
     refine Zl <| Zd ?_
     have ⟨hg10, h⟩ := Z14 h
     refine Z2 I (Z1s (k := .i64) (l := a0) (enc := Zb) (z := Z9) (n := v1) (cs := (Zb (a0.getD v1.toNat Z9)).cells) (full := false) I s31 I I hg10 I) I <| Z2 I (Z2i (cs := (Zb (a0.getD v1.toNat Z9)).cells) (vs := (Zb (a0.getD v1.toNat Z9)).cells) I a39 I I I) I <| Z2 I (Z1x (cs := [(.int .i64 0), (.int .i64 0), (.sl 14 [] false)]) I z39 I I I) I <| Z2 I (Z1a (cs := [(.int .i64 0), (.int .i64 0), (.sl 14 [] false)]) (vs := (Zb (a0.getD v1.toNat Z9)).cells) (ds := (Zb (a0.getD v1.toNat Z9)).cells) (v := (Zb (a0.getD v1.toNat Z9))) sz39 I I I I I I I I) I <| Zi <| Zj <| Zl <| Zd ?_
     refine Z2 I (Zu (m := 7) (o := 0) I f39_0 I I) I <| Z2 I (Zz (cs := (Zb (a0.getD v1.toNat Z9)).cells) (v := (.int .i64 (a0.getD v1.toNat Z9).Id)) I o3 I I I) I ?_
     have ⟨v12, hv12, h⟩ := Z1c h
     refine Z2 I (Z1e (ar := [(.int .i64 (a0.getD v1.toNat Z9).Id)]) (caps := []) Tryz.call16 (F16_ok K (a0.getD v1.toNat Z9).Id v12 hv12) I I ⟨rfl, trivial⟩ I) I <| Z2 I (Zq (v := (.int .i64 v12)) I I) I <| Zi <| Zj <| Zl <| Zd <| Z2 I (Zu (m := 3) (o := 0) I f35_0 I I) I <| Z2 I (Zz (cs := (Z28 a1).cells) (v := (.int .i64 a1.From)) I o3 I I I) I ?_
     refine Z2 I (Zn (v := (.int .i64 v12)) I I) I <| Z2 I (Z1y (k := .i64) (a := a1.From) (b := v12) (c := (decide (a1.From ≤ v12))) I I I I) I <| Z2 I (Zn (v := (.bool (decide (a1.From ≤ v12)))) I I) I ?_
     have hif := Z21 h
     refine AOps.split (fun hc => ?_) (fun hc => ?_)
     ·have h := hif.1 hc
      refine Z17 I I I I (Zn (v := (.int .i64 v12)) I I) I <| Z17 I I I I (Zu (m := 3) (o := 0) I f35_1 I I) I <| Z17 I I I I (Zz (cs := (Z28 a1).cells) (v := (.int .i64 a1.To)) I o3 I I I) I <| Z17 I I I I (Z1y (k := .i64) (a := v12) (b := a1.To) (c := (decide (v12 < a1.To))) I I I I) I <| Z2 I (Z2f (v := (.bool (decide (v12 < a1.To)))) I I I) I <| Zi <| Zj ?_
      refine AWp.join (V := (List Zt)) (lp := fun v => Zbd K (Z6j K a0 a1 (Za5 K) k3) v1 v = some r) (sh := fun v => ⟨[(3, (.ptr 3 0)), (5, (.vs 5)), (9, (.sl 3 (a0.map Zb) false)), (10, (.int .i64 (a0.length : Int))), (11, (.int .i64 v1))], [(3, (.box (Z28 a1).cells)), (5, (.vec 3 (List.map Zb v)))]⟩) ?_ ?_
      ·intro v h
       revert h
       revert v
       intro v13 h
       try dsimp only at h ⊢
       unfold Zbd at h
       refine At.end ?_
       exact Z11 (st' := ⟨[(3, (.ptr 3 0)), (5, (.vs 5)), (9, (.sl 3 (a0.map Zb) false)), (10, (.int .i64 (a0.length : Int))), (11, (.int .i64 v1))], [(3, (.box (Z28 a1).cells)), (5, (.vec 3 (List.map Zb v13)))]⟩) ⟨rfl, rfl, rfl, rfl, rfl, trivial⟩ ⟨rfl, rfl, trivial⟩ (J9 v13 h)
      ·intro J14
       have hif := Z21 h
       refine Z18 I (fun hc => ?_) (fun hc => ?_)
       ·have h := hif.1 hc
        refine Zl <| Zd <| Z2 I (Zu (m := 7) (o := 0) I f39_2 I I) I <| Z2 I (Zz (cs := (Zb (a0.getD v1.toNat Z9)).cells) (v := (.sl 14 ((a0.getD v1.toNat Z9).Spans.map Z5) false)) I o37 I I I) I ?_
        have ⟨v16, hv16, h⟩ := Z1c h
        refine Z2 I (Z1e (ar := [(.sl 14 ((a0.getD v1.toNat Z9).Spans.map Z5) false)]) (caps := []) Tryz.call45 (F45_ok K (a0.getD v1.toNat Z9).Spans v16 hv16) I I ⟨rfl, trivial⟩ I) I <| Z2 I (Zu (m := 7) (o := 0) I f39_2 I I) I <| Z2 I (Z1a (cs := (Zb (a0.getD v1.toNat Z9)).cells) (vs := [(.sl 14 (v16.map Z5) false)]) (ds := [(.int .i64 (a0.getD v1.toNat Z9).Id), (.int .i64 (a0.getD v1.toNat Z9).Weight), (.sl 14 (v16.map Z5) false)]) (v := (.sl 14 (v16.map Z5) false)) sz37 I I I I I I I I) I <| Zi <| Zj <| Zd <| Z2 I (Zn (v := (.vs 5)) I I) I <| Z2 I (Z1k (cs := [(.int .i64 (a0.getD v1.toNat Z9).Id), (.int .i64 (a0.getD v1.toNat Z9).Weight), (.sl 14 (v16.map Z5) false)]) (vs := [(.int .i64 (a0.getD v1.toNat Z9).Id), (.int .i64 (a0.getD v1.toNat Z9).Weight), (.sl 14 (v16.map Z5) false)]) I a39 I I I I) I ?_
        refine Z2 I (Z1j (vs := [(.ag [(.int .i64 (a0.getD v1.toNat Z9).Id), (.int .i64 (a0.getD v1.toNat Z9).Weight), (.sl 14 (v16.map Z5) false)])]) (enc := Zb) (l := [(⟨(a0.getD v1.toNat Z9).Id, (a0.getD v1.toNat Z9).Weight, v16⟩ : Zt)]) I el31 I I ⟨rfl, trivial⟩ I Z2j I I I I) I ?_
        have ⟨hg17, h⟩ := Z14 h
        refine Z2 I (Z2l (m := 5) (enc := Zb) (l := v2) (l' := [(⟨(a0.getD v1.toNat Z9).Id, (a0.getD v1.toNat Z9).Weight, v16⟩ : Zt)]) (src := (.vs 34)) (rd := [(34, (.vec 3 (List.map Zb [(⟨(a0.getD v1.toNat Z9).Id, (a0.getD v1.toNat Z9).Weight, v16⟩ : Zt)])))]) I I el31 I u31 I I I I (oneRead I) Z2j hg17) I <| Z2 I (Zq (v := (.vs 5)) I I) I <| Zi ?_
        exact Z11 (st' := ⟨[(3, (.ptr 3 0)), (5, (.vs 5)), (9, (.sl 3 (a0.map Zb) false)), (10, (.int .i64 (a0.length : Int))), (11, (.int .i64 v1))], [(3, (.box (Z28 a1).cells)), (5, (.vec 3 (List.map Zb (v2 ++ [(⟨(a0.getD v1.toNat Z9).Id, (a0.getD v1.toNat Z9).Weight, v16⟩ : Zt)]))))]⟩) ⟨rfl, rfl, rfl, rfl, rfl, trivial⟩ ⟨rfl, rfl, trivial⟩ (J14 (v2 ++ [(⟨(a0.getD v1.toNat Z9).Id, (a0.getD v1.toNat Z9).Weight, v16⟩ : Zt)]) h)
       ·have h := hif.2 hc
        refine Z1b ?_
        exact Z11 (st' := ⟨[(3, (.ptr 3 0)), (5, (.vs 5)), (9, (.sl 3 (a0.map Zb) false)), (10, (.int .i64 (a0.length : Int))), (11, (.int .i64 v1))], [(3, (.box (Z28 a1).cells)), (5, (.vec 3 (List.map Zb v2)))]⟩) ⟨rfl, rfl, rfl, rfl, rfl, trivial⟩ ⟨rfl, rfl, trivial⟩ (J14 v2 h)
     ·have h := hif.2 hc
      refine Z13 I I I I I I I <| Z13 I I I I I I I <| Z13 I I I I I I I <| Z13 I I I I I I I <| Z2 I (Z20 (v := (.bool false)) I I I) I <| Zi <| Zj ?_
      refine Z18 (b := false) I (fun hc => ?_) (fun hc => ?_)
      ·cases hc
      refine Z1b <| At.end ?_
      exact Z11 (st' := ⟨[(3, (.ptr 3 0)), (5, (.vs 5)), (9, (.sl 3 (a0.map Zb) false)), (10, (.int .i64 (a0.length : Int))), (11, (.int .i64 v1))], [(3, (.box (Z28 a1).cells)), (5, (.vec 3 (List.map Zb v2)))]⟩) ⟨rfl, rfl, rfl, rfl, rfl, trivial⟩ ⟨rfl, rfl, trivial⟩ (J9 v2 h)
   ·have h := hif.2 hc
    refine AWp.exit <| At.thru ?_
    exact Z11 (st' := ⟨[(5, (.vs 5))], [(5, (.vec 3 (List.map Zb v2)))]⟩) ⟨rfl, trivial⟩ ⟨rfl, trivial⟩ (J3 v2 h)
def Z9v (K : Nat) (v4 : (List Zt)) : Option ((List Zt)) :=
 some v4
def F15_j9 (K : Nat) (b7 : Int → (List Zt) → Option ((List Zt))) (v1 : Int) (v8 : (List Zt)) : Option ((List Zt)) :=
 b7 (IntKind.i64.wrap (v1 + 1)) v8
def Zcb (K : Nat) (b7 : Int → (List Zt) → Option ((List Zt))) (v1 : Int) (v13 : (List Zt)) : Option ((List Zt)) :=
 F15_j9 K b7 v1 v13
def Z6o (K : Nat) (a0 : (List Zt)) (a1 : Int) (a2 : Int) (c6 : (List Zt) → Option ((List Zt))) : Nat → Int → (List Zt) → Option ((List Zt))
 | 0, _, _ => none
 | k3 + 1, v1, v2 =>
  if (decide (v1 < (a0.length : Int))) = true then
   if (0 : Int) ≤ v1 ∧ v1 < a0.length then
    (F16 K (a0.getD v1.toNat Z9).Id).bind fun v12 =>
     if (decide (v12 ≥ a1)) = true then
      if (decide (v12 < a2)) = true then
       if (0 : Int) ≤ v1 ∧ v1 < a0.length then
        if v2.length + [(a0.getD v1.toNat Z9)].length ≤ 1073741824 then
         Zcb K (Z6o K a0 a1 a2 c6 k3) v1 (v2 ++ [(a0.getD v1.toNat Z9)])
        else none
       else none
      else
       Zcb K (Z6o K a0 a1 a2 c6 k3) v1 v2
     else
      F15_j9 K (Z6o K a0 a1 a2 c6 k3) v1 v2
   else none
  else
   c6 v2
def F15 (K : Nat) (a0 : (List Zt)) (a1 : Int) (a2 : Int) : Option ((List Zt)) :=
 Z6o K a0 a1 a2 (Z9v K) K 0 []
theorem F15_ok (K : Nat) (a0 : (List Zt)) (a1 : Int) (a2 : Int) (r : (List Zt)) (h : F15 K a0 a1 a2 = some r) : ACall P 15 ⟨[(.sl 3 (a0.map Zb) false), (.int .i64 a1), (.int .i64 a2)], [], (.sl 3 (r.map Zb) false), [], []⟩ := by
 refine Z1v Tryz.func15 Tryz.results15 rfl Tryz.ntmps15 rfl rfl rfl ?_
 intro E Q hP hN hro hret
 obtain ⟨P', nt', w0, F0, p0, S0, β0, ro0⟩ := E
 simp only at hP hN
 subst hP hN
 dsimp only [argT]
 unfold F15 at h
 refine Zl <| Zd <| Z2 I (Zq (v := (.sl 3 [] false)) I I) I <| Zi <| Zj <| Zl <| Zd <| Z2 I (Zq (v := (.sl 3 [] true)) I I) I ?_
 refine Zi <| Zj <| Zl <| Zl <| Zd <| Z2 I (Zq (v := (.int .i64 0)) I I) I <| Zi <| Zj ?_
 refine AWp.ghost (st' := ⟨[(0, (.sl 3 (a0.map Zb) false)), (1, (.int .i64 a1)), (2, (.int .i64 a2)), (7, (.vs 7)), (8, (.int .i64 0))], [(7, (.vec 3 (List.map Zb ([] : List Zt))))]⟩) (fun a w h => (Z1d ⟨[(0, (.sl 3 (a0.map Zb) false)), (1, (.int .i64 a1)), (2, (.int .i64 a2)), (7, (.vs 7)), (8, (.int .i64 0))], [(7, (.vec 3 (List.map Zb ([] : List Zt))))]⟩ (Z4d (k := 7) (m := 7) (sz := 3) I I a w (Z1d ⟨[(7, (.sl 3 [] true)), (0, (.sl 3 (a0.map Zb) false)), (1, (.int .i64 a1)), (2, (.int .i64 a2)), (8, (.int .i64 0))], []⟩ h ⟨rfl, rfl, rfl, rfl, rfl, trivial⟩ trivial)) ⟨rfl, rfl, rfl, rfl, rfl, trivial⟩ ⟨rfl, trivial⟩)) <| AWp.weaken (st' := ⟨[(0, (.sl 3 (a0.map Zb) false)), (1, (.int .i64 a1)), (2, (.int .i64 a2)), (7, (.vs 7)), (8, (.int .i64 0))], [(7, (.vec 3 (List.map Zb [])))]⟩) ⟨rfl, rfl, rfl, rfl, rfl, trivial⟩ ⟨rfl, trivial⟩ ?_
 refine Z1l (V := Int × (List Zt)) (X := (List Zt)) (lp := fun k v => Z6o K a0 a1 a2 (Z9v K) k v.1 v.2 = some r) (sh := fun v => ⟨[(0, (.sl 3 (a0.map Zb) false)), (1, (.int .i64 a1)), (2, (.int .i64 a2)), (7, (.vs 7)), (8, (.int .i64 v.1))], [(7, (.vec 3 (List.map Zb v.2)))]⟩) (x := fun v => Z9v K v = some r) (shx := fun v => ⟨[(7, (.vs 7))], [(7, (.vec 3 (List.map Zb v)))]⟩) (k := K) (v := (0, [])) h ?_ ?_
 ·intro v h
  revert h
  revert v
  intro v4 h
  try dsimp only at h ⊢
  unfold Z9v at h
  refine Zj <| Zl <| Zd <| Z2 I (Zn (v := (.vs 7)) I I) I <| Z2 I (Zq (v := (.vs 7)) I I) I <| Zi <| Zj <| Z1g ?_
  refine At.ghost (st' := ⟨[(6, (.sl 3 (v4.map Zb) false))], []⟩) (fun a w h => (Z1d ⟨[(6, (.sl 3 (v4.map Zb) false))], []⟩ (Z2c (m := 7) (sz := 3) (es := (List.map Zb v4)) a w (Z1d ⟨[(6, (.vs 7))], [(7, (.vec 3 (List.map Zb v4)))]⟩ h ⟨rfl, trivial⟩ ⟨rfl, trivial⟩)) ⟨rfl, trivial⟩ trivial)) ?_
  have h := Option.some.inj h
  subst h
  refine (hret _ ?_).1
  exact ⟨[(.sl 3 (v4.map Zb) false)], ⟨rfl, trivial⟩, rfl, trivial⟩
 ·intro N k3 v h IH3 J3
  obtain ⟨v1, v2⟩ := v
  try dsimp only at h IH3 J3 ⊢
  cases k3 with
  | zero => cases h
  | succ k3 =>
   rw [Z6o] at h
   refine Zl <| Zl <| Zd <| Z2 I (Zn (v := (.int .i64 v1)) I I) I <| Z2 I (Zn (v := (.sl 3 (a0.map Zb) false)) I I) I <| Z2 I (Z23 (l := a0) (enc := Zb) I s31 I) I <| Z2 I (Z1y (k := .i64) (a := v1) (b := (a0.length : Int)) (c := (decide (v1 < (a0.length : Int)))) I I I I) I <| Zi ?_
   refine Zj ?_
   have hif := Z21 h
   refine Z18 I (fun hc => ?_) (fun hc => ?_)
   ·have h := hif.1 hc
    refine Z1b <| Zj <| Zl ?_
    refine AWp.blockJoin (V := (List Zt)) (lp := fun v => F15_j9 K (Z6o K a0 a1 a2 (Z9v K) k3) v1 v = some r) (sh := fun v => ⟨[(0, (.sl 3 (a0.map Zb) false)), (1, (.int .i64 a1)), (2, (.int .i64 a2)), (7, (.vs 7)), (8, (.int .i64 v1))], [(7, (.vec 3 (List.map Zb v)))]⟩) ?_ ?_
    ·intro v h
     revert h
     revert v
     intro v8 h
     try dsimp only at h ⊢
     unfold F15_j9 at h
     refine Zj <| Zd <| Z2 I (Zn (v := (.int .i64 v1)) I I) I <| Z2 I (Z1m (k := .i64) (a := v1) (b := 1) (c := (IntKind.i64.wrap (v1 + 1))) I I I I) I <| Z2 I (Zq (v := (.int .i64 (IntKind.i64.wrap (v1 + 1)))) I I) I <| Zi ?_
     exact Z11 (st' := ⟨[(0, (.sl 3 (a0.map Zb) false)), (1, (.int .i64 a1)), (2, (.int .i64 a2)), (7, (.vs 7)), (8, (.int .i64 (IntKind.i64.wrap (v1 + 1))))], [(7, (.vec 3 (List.map Zb v8)))]⟩) ⟨rfl, rfl, rfl, rfl, rfl, trivial⟩ ⟨rfl, trivial⟩ (IH3 _ ((IntKind.i64.wrap (v1 + 1)), v8) (Nat.lt_succ_self _) h)
    ·intro J9
     refine Zl <| Zd <| Z2 I (Zn (v := (.sl 3 (a0.map Zb) false)) I I) I <| Z2 I (Zn (v := (.int .i64 v1)) I I) I ?_
     have ⟨hg10, h⟩ := Z14 h
     refine Z2 I (Z1s (k := .i64) (l := a0) (enc := Zb) (z := Z9) (n := v1) (cs := (Zb (a0.getD v1.toNat Z9)).cells) (full := false) I s31 I I hg10 I) I <| Z2 I (Z2d (cs := (Zb (a0.getD v1.toNat Z9)).cells) (ds := (Zb (a0.getD v1.toNat Z9)).cells) I f39_0 I I I) I <| Z2 I (Z24 (cs := (Zb (a0.getD v1.toNat Z9)).cells) (v := (.int .i64 (a0.getD v1.toNat Z9).Id)) I o3 I I) I ?_
     have ⟨v12, hv12, h⟩ := Z1c h
     refine Z2 I (Z1e (ar := [(.int .i64 (a0.getD v1.toNat Z9).Id)]) (caps := []) Tryz.call16 (F16_ok K (a0.getD v1.toNat Z9).Id v12 hv12) I I ⟨rfl, trivial⟩ I) I <| Z2 I (Zq (v := (.int .i64 v12)) I I) I <| Zi <| Zj <| Zl <| Zd <| Z2 I (Zn (v := (.int .i64 v12)) I I) I <| Z2 I (Zn (v := (.int .i64 a1)) I I) I ?_
     refine Z2 I (Z1y (k := .i64) (a := v12) (b := a1) (c := (decide (v12 ≥ a1))) I I I I) I <| Z2 I (Zn (v := (.bool (decide (v12 ≥ a1)))) I I) I ?_
     have hif := Z21 h
     refine AOps.split (fun hc => ?_) (fun hc => ?_)
     ·have h := hif.1 hc
      refine Z17 I I I I (Zn (v := (.int .i64 v12)) I I) I <| Z17 I I I I (Zn (v := (.int .i64 a2)) I I) I <| Z17 I I I I (Z1y (k := .i64) (a := v12) (b := a2) (c := (decide (v12 < a2))) I I I I) I <| Z2 I (Z2f (v := (.bool (decide (v12 < a2)))) I I I) I <| Zi <| Zj ?_
      refine AWp.join (V := (List Zt)) (lp := fun v => Zcb K (Z6o K a0 a1 a2 (Z9v K) k3) v1 v = some r) (sh := fun v => ⟨[(0, (.sl 3 (a0.map Zb) false)), (1, (.int .i64 a1)), (2, (.int .i64 a2)), (7, (.vs 7)), (8, (.int .i64 v1))], [(7, (.vec 3 (List.map Zb v)))]⟩) ?_ ?_
      ·intro v h
       revert h
       revert v
       intro v13 h
       try dsimp only at h ⊢
       unfold Zcb at h
       refine At.end ?_
       exact Z11 (st' := ⟨[(0, (.sl 3 (a0.map Zb) false)), (1, (.int .i64 a1)), (2, (.int .i64 a2)), (7, (.vs 7)), (8, (.int .i64 v1))], [(7, (.vec 3 (List.map Zb v13)))]⟩) ⟨rfl, rfl, rfl, rfl, rfl, trivial⟩ ⟨rfl, trivial⟩ (J9 v13 h)
      ·intro J14
       have hif := Z21 h
       refine Z18 I (fun hc => ?_) (fun hc => ?_)
       ·have h := hif.1 hc
        refine Zd <| Z2 I (Zn (v := (.vs 7)) I I) I <| Z2 I (Zn (v := (.sl 3 (a0.map Zb) false)) I I) I <| Z2 I (Zn (v := (.int .i64 v1)) I I) I ?_
        have ⟨hg15, h⟩ := Z14 h
        refine Z2 I (Z1s (k := .i64) (l := a0) (enc := Zb) (z := Z9) (n := v1) (cs := (Zb (a0.getD v1.toNat Z9)).cells) (full := false) I s31 I I hg15 I) I <| Z2 I (Z2i (cs := (Zb (a0.getD v1.toNat Z9)).cells) (vs := (Zb (a0.getD v1.toNat Z9)).cells) I a39 I I I) I <| Z2 I (Z1j (vs := [(Zb (a0.getD v1.toNat Z9))]) (enc := Zb) (l := [(a0.getD v1.toNat Z9)]) I el31 I I ⟨rfl, trivial⟩ I Z2j I I I I) I ?_
        have ⟨hg16, h⟩ := Z14 h
        refine Z2 I (Z2l (m := 7) (enc := Zb) (l := v2) (l' := [(a0.getD v1.toNat Z9)]) (src := (.vs 35)) (rd := [(35, (.vec 3 (List.map Zb [(a0.getD v1.toNat Z9)])))]) I I el31 I u31 I I I I (oneRead I) Z2j hg16) I <| Z2 I (Zq (v := (.vs 7)) I I) I <| Zi ?_
        exact Z11 (st' := ⟨[(0, (.sl 3 (a0.map Zb) false)), (1, (.int .i64 a1)), (2, (.int .i64 a2)), (7, (.vs 7)), (8, (.int .i64 v1))], [(7, (.vec 3 (List.map Zb (v2 ++ [(a0.getD v1.toNat Z9)]))))]⟩) ⟨rfl, rfl, rfl, rfl, rfl, trivial⟩ ⟨rfl, trivial⟩ (J14 (v2 ++ [(a0.getD v1.toNat Z9)]) h)
       ·have h := hif.2 hc
        refine Z1b ?_
        exact Z11 (st' := ⟨[(0, (.sl 3 (a0.map Zb) false)), (1, (.int .i64 a1)), (2, (.int .i64 a2)), (7, (.vs 7)), (8, (.int .i64 v1))], [(7, (.vec 3 (List.map Zb v2)))]⟩) ⟨rfl, rfl, rfl, rfl, rfl, trivial⟩ ⟨rfl, trivial⟩ (J14 v2 h)
     ·have h := hif.2 hc
      refine Z13 I I I I I I I <| Z13 I I I I I I I <| Z13 I I I I I I I <| Z2 I (Z20 (v := (.bool false)) I I I) I <| Zi <| Zj ?_
      refine Z18 (b := false) I (fun hc => ?_) (fun hc => ?_)
      ·cases hc
      refine Z1b <| At.end ?_
      exact Z11 (st' := ⟨[(0, (.sl 3 (a0.map Zb) false)), (1, (.int .i64 a1)), (2, (.int .i64 a2)), (7, (.vs 7)), (8, (.int .i64 v1))], [(7, (.vec 3 (List.map Zb v2)))]⟩) ⟨rfl, rfl, rfl, rfl, rfl, trivial⟩ ⟨rfl, trivial⟩ (J9 v2 h)
   ·have h := hif.2 hc
    refine AWp.exit <| At.thru ?_
    exact Z11 (st' := ⟨[(7, (.vs 7))], [(7, (.vec 3 (List.map Zb v2)))]⟩) ⟨rfl, trivial⟩ ⟨rfl, trivial⟩ (J3 v2 h)
noncomputable def Z34 (K : Nat) (v8 : Bool) (v9 : (List (Str × Zc))) (v10 : (List (Zs × Zk))) : Option (Ze × Int) :=
 (F52 K v8 v9 v10).bind fun v14 =>
  some (v14.2, v14.1)
def Z3u (K : Nat) (b15 : Int → Bool → (List (Str × Zc)) → (List (Zs × Zk)) → Option (Ze × Int)) (v3 : Int) (v30 : Bool) (v31 : (List (Str × Zc))) (v32 : (List (Zs × Zk))) : Option (Ze × Int) :=
 b15 (IntKind.i64.wrap (v3 + 1)) v30 v31 v32
def Z5e (K : Nat) (b35 : Int → Bool → (List (Str × Zc)) → (List (Zs × Zk)) → Option (Ze × Int)) (v25 : Int) (v36 : Bool) (v37 : (List (Str × Zc))) (v38 : (List (Zs × Zk))) : Option (Ze × Int) :=
 b35 (IntKind.i64.wrap (v25 + 1)) v36 v37 v38
def Z5d (K : Nat) (b35 : Int → Bool → (List (Str × Zc)) → (List (Zs × Zk)) → Option (Ze × Int)) (v25 : Int) (v46 : Bool × (List (Str × Zc))) (v47 : Bool) (v48 : (List (Zs × Zk))) : Option (Ze × Int) :=
 Z5e K b35 v25 v47 v46.2 v48
def Z2w (K : Nat) (v18 : (List Zh)) (a0 : (List Zt)) (v3 : Int) (v22 : (List (Int × Zh))) (c34 : Bool → (List (Str × Zc)) → (List (Zs × Zk)) → Option (Ze × Int)) : Nat → Int → Bool → (List (Str × Zc)) → (List (Zs × Zk)) → Option (Ze × Int)
 | 0, _, _, _, _ => none
 | k29 + 1, v25, v26, v27, v28 =>
  if (decide (v25 < (v18.length : Int))) = true then
   if (0 : Int) ≤ v25 ∧ v25 < v18.length then
    (F49 K (v18.getD v25.toNat Z1).Error (a0.getD v3.toNat Z9).Weight).bind fun v42 =>
     (F49 K ((v18.getD v25.toNat Z1).Parent == 0) (a0.getD v3.toNat Z9).Weight).bind fun v44 =>
      (F48 K (⟨(v18.getD v25.toNat Z1).Service, (a0.getD v3.toNat Z9).Weight, v42, v44⟩ : Zc) v26 v27 v28).bind fun v46 =>
       if (mget Z2p (v18.getD v25.toNat Z1).Parent v22).isSome = true then
        if (!(((mget Z2p (v18.getD v25.toNat Z1).Parent v22).getD Z1).Service == (v18.getD v25.toNat Z1).Service)) = true then
         (F49 K (v18.getD v25.toNat Z1).Error (a0.getD v3.toNat Z9).Weight).bind fun v51 =>
          (F51 K (v18.getD v25.toNat Z1)).bind fun v53 =>
           (F50 K (⟨((mget Z2p (v18.getD v25.toNat Z1).Parent v22).getD Z1).Service, (v18.getD v25.toNat Z1).Service, (a0.getD v3.toNat Z9).Weight, v51, (IntKind.i64.wrap (v53 * (a0.getD v3.toNat Z9).Weight))⟩ : Zk) v46.1 v46.2 v28).bind fun v55 =>
            Z5d K (Z2w K v18 a0 v3 v22 c34 k29) v25 v46 v55.1 v55.2
        else
         Z5d K (Z2w K v18 a0 v3 v22 c34 k29) v25 v46 v46.1 v28
       else
        Z5e K (Z2w K v18 a0 v3 v22 c34 k29) v25 v46.1 v46.2 v28
   else none
  else
   c34 v26 v27 v28
def Z4o (K : Nat) (v18 : (List Zh)) (a0 : (List Zt)) (v3 : Int) (b15 : Int → Bool → (List (Str × Zc)) → (List (Zs × Zk)) → Option (Ze × Int)) (v4 : Bool) (v5 : (List (Str × Zc))) (v6 : (List (Zs × Zk))) (v22 : (List (Int × Zh))) : Option (Ze × Int) :=
 Z2w K v18 a0 v3 v22 (Z3u K b15 v3) K 0 v4 v5 v6
def Z42 (K : Nat) (v18 : (List Zh)) (c24 : (List (Int × Zh)) → Option (Ze × Int)) : Nat → Int → (List (Int × Zh)) → Option (Ze × Int)
 | 0, _, _ => none
 | k21 + 1, v19, v20 =>
  if (decide (v19 < (v18.length : Int))) = true then
   if (0 : Int) ≤ v19 ∧ v19 < v18.length then
    (Z42 K v18 c24 k21) (IntKind.i64.wrap (v19 + 1)) (mput Z2p (v18.getD v19.toNat Z1).Id (v18.getD v19.toNat Z1) v20)
   else none
  else
   c24 v20
def Z33 (K : Nat) (a0 : (List Zt)) (c12 : Bool → (List (Str × Zc)) → (List (Zs × Zk)) → Option (Ze × Int)) : Nat → Int → Bool → (List (Str × Zc)) → (List (Zs × Zk)) → Option (Ze × Int)
 | 0, _, _, _, _ => none
 | k7 + 1, v3, v4, v5, v6 =>
  if (decide (v3 < (a0.length : Int))) = true then
   if (0 : Int) ≤ v3 ∧ v3 < a0.length then
    (F47 K (a0.getD v3.toNat Z9).Spans).bind fun v18 =>
     Z42 K v18 (Z4o K v18 a0 v3 (Z33 K a0 c12 k7) v4 v5 v6) K 0 ([] : List (Int × Zh))
   else none
  else
   c12 v4 v5 v6
noncomputable def Zau (K : Nat) (a0 : (List Zt)) : Option (Ze × Int) :=
 (F46 K).bind fun v2 =>
  Z33 K a0 (Z34 K) K 0 false ([] : List (Str × Zc)) ([] : List (Zs × Zk))
theorem F17_i1_ok (K : Nat) (a0 : (List Zt)) (r : Ze × Int) (h : Zau K a0 = some r) : ACall P 17 ⟨[(.sl 3 (a0.map Zb) false)], [], (.tup [(Za r.1), (.int .i64 r.2)]), [], []⟩ := by
 refine Z1v Tryz.func17 Tryz.results17 rfl Tryz.ntmps17 rfl rfl rfl ?_
 intro E Q hP hN hro hret
 obtain ⟨P', nt', w0, F0, p0, S0, β0, ro0⟩ := E
 simp only at hP hN
 subst hP hN
 dsimp only [argT]
 unfold Zau at h
 refine Zl <| Zd <| Z2 I (Z1x (cs := [(.sl 4 [] false), (.sl 5 [] false)]) I z44 I I I) I <| Z2 I (Zq (v := (.int .i64 0)) I I) I <| Zi <| Zj <| Zl <| Zd ?_
 have ⟨v2, hv2, h⟩ := Z1c h
 refine Z2 I (Z31 (d := some 16) (c := ⟨[] ++ [], [], (.ptr 96 0), [(16, (.map (Z16 Z1r Z3 ([] : List (Str × Zc))))), (97, (.map (Z16 Zm Z6 ([] : List (Zs × Zk))))), (96, (.box [(.map 16), (.map 97), (.bool false)]))], [16, 97, 96]⟩) (ar := []) (caps := []) (news := [16, 97, 96]) (forg := []) Tryz.call46 ((((F46_ok K v2 hv2).sw 1 16).sw 2 97).sw 4 96) I I trivial I trivial I) I <| Z2 I (Zq (v := (.ptr 96 0)) I I) I <| Zi <| Zj <| Zl <| Zl <| Zd <| Z2 I (Zn (v := (.sl 3 (a0.map Zb) false)) I I) I ?_
 refine Z2 I (Z23 (l := a0) (enc := Zb) I s31 I) I <| Z2 I (Zn (v := (.int .i64 0)) I I) I <| Zi <| Zj <| AWp.weaken (st' := ⟨[(2, (.ptr 2 0)), (4, (.ptr 96 0)), (17, (.sl 3 (a0.map Zb) false)), (18, (.int .i64 (a0.length : Int))), (19, (.int .i64 0))], [(2, (.box [(.sl 4 [] false), (.sl 5 [] false)])), (16, (.map (Z16 Z1r Z3 ([] : List (Str × Zc))))), (96, (.box [(.map 16), (.map 97), (.bool false)])), (97, (.map (Z16 Zm Z6 ([] : List (Zs × Zk)))))]⟩) ⟨rfl, rfl, rfl, rfl, rfl, trivial⟩ ⟨rfl, rfl, rfl, rfl, trivial⟩ ?_
 refine Z1l (V := Int × Bool × (List (Str × Zc)) × (List (Zs × Zk))) (X := Bool × (List (Str × Zc)) × (List (Zs × Zk))) (lp := fun k v => Z33 K a0 (Z34 K) k v.1 v.2.1 v.2.2.1 v.2.2.2 = some r) (sh := fun v => ⟨[(2, (.ptr 2 0)), (4, (.ptr 96 0)), (17, (.sl 3 (a0.map Zb) false)), (18, (.int .i64 (a0.length : Int))), (19, (.int .i64 v.1))], [(2, (.box [(.sl 4 [] false), (.sl 5 [] false)])), (16, (.map (Z16 Z1r Z3 v.2.2.1))), (96, (.box [(.map 16), (.map 97), (.bool v.2.1)])), (97, (.map (Z16 Zm Z6 v.2.2.2)))]⟩) (x := fun v => Z34 K v.1 v.2.1 v.2.2 = some r) (shx := fun v => ⟨[(2, (.ptr 2 0)), (4, (.ptr 96 0))], [(2, (.box [(.sl 4 [] false), (.sl 5 [] false)])), (16, (.map (Z16 Z1r Z3 v.2.1))), (96, (.box [(.map 16), (.map 97), (.bool v.1)])), (97, (.map (Z16 Zm Z6 v.2.2)))]⟩) (k := K) (v := (0, false, ([] : List (Str × Zc)), ([] : List (Zs × Zk)))) h ?_ ?_
 ·intro v h
  obtain ⟨v8, v9, v10⟩ := v
  try dsimp only at h ⊢
  unfold Z34 at h
  refine Zj <| Zl <| Zd <| Z2 I (Zn (v := (.ptr 96 0)) I I) I ?_
  have ⟨v14, hv14, h⟩ := Z1c h
  refine Z2 I (Z31 (d := some 95) (c := ⟨[(.ptr 96 0)] ++ [], [(96, (.box [(.map 16), (.map 97), (.bool v8)])), (16, (.map (Z16 Z1r Z3 v9))), (97, (.map (Z16 Zm Z6 v10)))], (.tup [(Za v14.2), (.int .i64 v14.1)]), [(96, (.box [(.map 16), (.map 97), (.bool v8)])), (16, (.fmap (Z16 Z1r Z3 v9))), (97, (.fmap (Z16 Zm Z6 v10)))], [16, 97]⟩) (ar := [(.ptr 96 0)]) (caps := []) (news := []) (forg := [16, 97]) Tryz.call52 ((((F52_ok K v8 v9 v10 v14 hv14).sw 2000 96).sw 59 16).sw 57 97) I I ⟨rfl, trivial⟩ I ⟨rfl, rfl, rfl, trivial⟩ I) I <| Z2 I (Z2b (vs := [(Za v14.2), (.int .i64 v14.1)]) (v := (Za v14.2)) I I I) I <| Z2 I (Z2b (vs := [(Za v14.2), (.int .i64 v14.1)]) (v := (.int .i64 v14.1)) I I I) I <| Z2 I (Z1a (cs := [(.sl 4 [] false), (.sl 5 [] false)]) (vs := (Za v14.2).cells) (ds := (Za v14.2).cells) (v := (Za v14.2)) sz44 I I I I I I I I) I <| Z2 I (Zq (v := (.int .i64 v14.1)) I I) I <| Zi <| Zj <| Z1g ?_
  have h := Option.some.inj h
  subst h
  refine (hret _ ?_).1
  exact ⟨[(Za v14.2), (.int .i64 v14.1)], ⟨⟨2, _, rfl, rfl, .inr ⟨_, a44, rfl, rfl⟩⟩, rfl, trivial⟩, rfl, trivial⟩
 ·intro N k7 v h IH7 J7
  obtain ⟨v3, v4, v5, v6⟩ := v
  try dsimp only at h IH7 J7 ⊢
  cases k7 with
  | zero => cases h
  | succ k7 =>
   rw [Z33] at h
   refine Zl <| Zd <| Z2 I (Z1y (k := .i64) (a := v3) (b := (a0.length : Int)) (c := (decide (v3 < (a0.length : Int)))) I I I I) I <| Zi <| Zj <| Zl ?_
   have hif := Z21 h
   refine Z18 I (fun hc => ?_) (fun hc => ?_)
   ·have h := hif.1 hc
    refine Z1b <| Zj <| Zl <| AWp.block <| Zl <| Zd ?_
    have ⟨hg16, h⟩ := Z14 h
    refine Z2 I (Z1s (k := .i64) (l := a0) (enc := Zb) (z := Z9) (n := v3) (cs := (Zb (a0.getD v3.toNat Z9)).cells) (full := false) I s31 I I hg16 I) I <| Z2 I (Z2i (cs := (Zb (a0.getD v3.toNat Z9)).cells) (vs := (Zb (a0.getD v3.toNat Z9)).cells) I a39 I I I) I <| Z2 I (Z1x (cs := [(.int .i64 0), (.int .i64 0), (.sl 14 [] false)]) I z39 I I I) I <| Z2 I (Z1a (cs := [(.int .i64 0), (.int .i64 0), (.sl 14 [] false)]) (vs := (Zb (a0.getD v3.toNat Z9)).cells) (ds := (Zb (a0.getD v3.toNat Z9)).cells) (v := (Zb (a0.getD v3.toNat Z9))) sz39 I I I I I I I I) I <| Zi <| Zj <| Zl <| Zd ?_
    refine Z2 I (Zu (m := 6) (o := 0) I f39_2 I I) I <| Z2 I (Zz (cs := (Zb (a0.getD v3.toNat Z9)).cells) (v := (.sl 14 ((a0.getD v3.toNat Z9).Spans.map Z5) false)) I o37 I I I) I ?_
    have ⟨v18, hv18, h⟩ := Z1c h
    refine Z2 I (Z1e (ar := [(.sl 14 ((a0.getD v3.toNat Z9).Spans.map Z5) false)]) (caps := []) Tryz.call47 (F47_ok K (a0.getD v3.toNat Z9).Spans v18 hv18) I I ⟨rfl, trivial⟩ I) I <| Z2 I (Zq (v := (.sl 14 (v18.map Z5) false)) I I) I <| Zi <| Zj <| Zl <| Zd <| Z2 I (Z78 I) I <| Z2 I (Zq (v := (.map 26)) I I) I ?_
    refine Zi <| Zj <| Zl <| Zl <| Zd <| Z2 I (Zn (v := (.sl 14 (v18.map Z5) false)) I I) I <| Z2 I (Z23 (l := v18) (enc := Z5) I s37 I) I <| Z2 I (Zn (v := (.int .i64 0)) I I) I ?_
    refine Zi <| Zj <| AWp.weaken (st' := ⟨[(2, (.ptr 2 0)), (4, (.ptr 96 0)), (6, (.ptr 6 0)), (7, (.sl 14 (v18.map Z5) false)), (8, (.map 26)), (17, (.sl 3 (a0.map Zb) false)), (18, (.int .i64 (a0.length : Int))), (19, (.int .i64 v3)), (27, (.sl 14 (v18.map Z5) false)), (28, (.int .i64 (v18.length : Int))), (29, (.int .i64 0))], [(2, (.box [(.sl 4 [] false), (.sl 5 [] false)])), (6, (.box (Zb (a0.getD v3.toNat Z9)).cells)), (16, (.map (Z16 Z1r Z3 v5))), (26, (.map (Z16 Z1f Z5 ([] : List (Int × Zh))))), (96, (.box [(.map 16), (.map 97), (.bool v4)])), (97, (.map (Z16 Zm Z6 v6)))]⟩) ⟨rfl, rfl, rfl, rfl, rfl, rfl, rfl, rfl, rfl, rfl, rfl, trivial⟩ ⟨rfl, rfl, rfl, rfl, rfl, rfl, trivial⟩ ?_
    refine Z1l (V := Int × (List (Int × Zh))) (X := (List (Int × Zh))) (lp := fun k v => Z42 K v18 (Z4o K v18 a0 v3 (Z33 K a0 (Z34 K) k7) v4 v5 v6) k v.1 v.2 = some r) (sh := fun v => ⟨[(2, (.ptr 2 0)), (4, (.ptr 96 0)), (6, (.ptr 6 0)), (7, (.sl 14 (v18.map Z5) false)), (8, (.map 26)), (17, (.sl 3 (a0.map Zb) false)), (18, (.int .i64 (a0.length : Int))), (19, (.int .i64 v3)), (27, (.sl 14 (v18.map Z5) false)), (28, (.int .i64 (v18.length : Int))), (29, (.int .i64 v.1))], [(2, (.box [(.sl 4 [] false), (.sl 5 [] false)])), (6, (.box (Zb (a0.getD v3.toNat Z9)).cells)), (16, (.map (Z16 Z1r Z3 v5))), (26, (.map (Z16 Z1f Z5 v.2))), (96, (.box [(.map 16), (.map 97), (.bool v4)])), (97, (.map (Z16 Zm Z6 v6)))]⟩) (x := fun v => Z4o K v18 a0 v3 (Z33 K a0 (Z34 K) k7) v4 v5 v6 v = some r) (shx := fun v => ⟨[(2, (.ptr 2 0)), (4, (.ptr 96 0)), (6, (.ptr 6 0)), (7, (.sl 14 (v18.map Z5) false)), (8, (.map 26)), (17, (.sl 3 (a0.map Zb) false)), (18, (.int .i64 (a0.length : Int))), (19, (.int .i64 v3))], [(2, (.box [(.sl 4 [] false), (.sl 5 [] false)])), (6, (.box (Zb (a0.getD v3.toNat Z9)).cells)), (16, (.map (Z16 Z1r Z3 v5))), (26, (.map (Z16 Z1f Z5 v))), (96, (.box [(.map 16), (.map 97), (.bool v4)])), (97, (.map (Z16 Zm Z6 v6)))]⟩) (k := K) (v := (0, ([] : List (Int × Zh)))) h ?_ ?_
    ·intro v h
     revert h
     revert v
     intro v22 h
     try dsimp only at h ⊢
     unfold Z4o at h
     refine Zj <| Zl <| Zd <| Z2 I (Zu (m := 6) (o := 0) I f39_1 I I) I <| Z2 I (Zz (cs := (Zb (a0.getD v3.toNat Z9)).cells) (v := (.int .i64 (a0.getD v3.toNat Z9).Weight)) I o3 I I I) I <| Z2 I (Zq (v := (.int .i64 (a0.getD v3.toNat Z9).Weight)) I I) I <| Zi <| Zj ?_
     refine Zl <| Zd <| Z2 I (Zn (v := (.sl 14 (v18.map Z5) false)) I I) I <| Z2 I (Z23 (l := v18) (enc := Z5) I s37 I) I <| Z2 I (Zn (v := (.int .i64 0)) I I) I <| Zi <| Zj <| AWp.weaken (st' := ⟨[(2, (.ptr 2 0)), (4, (.ptr 96 0)), (8, (.map 26)), (11, (.int .i64 (a0.getD v3.toNat Z9).Weight)), (17, (.sl 3 (a0.map Zb) false)), (18, (.int .i64 (a0.length : Int))), (19, (.int .i64 v3)), (40, (.sl 14 (v18.map Z5) false)), (41, (.int .i64 (v18.length : Int))), (42, (.int .i64 0))], [(2, (.box [(.sl 4 [] false), (.sl 5 [] false)])), (16, (.map (Z16 Z1r Z3 v5))), (26, (.map (Z16 Z1f Z5 v22))), (96, (.box [(.map 16), (.map 97), (.bool v4)])), (97, (.map (Z16 Zm Z6 v6)))]⟩) ⟨rfl, rfl, rfl, rfl, rfl, rfl, rfl, rfl, rfl, rfl, trivial⟩ ⟨rfl, rfl, rfl, rfl, rfl, trivial⟩ ?_
     refine Z1l (V := Int × Bool × (List (Str × Zc)) × (List (Zs × Zk))) (X := Bool × (List (Str × Zc)) × (List (Zs × Zk))) (lp := fun k v => Z2w K v18 a0 v3 v22 (Z3u K (Z33 K a0 (Z34 K) k7) v3) k v.1 v.2.1 v.2.2.1 v.2.2.2 = some r) (sh := fun v => ⟨[(2, (.ptr 2 0)), (4, (.ptr 96 0)), (8, (.map 26)), (11, (.int .i64 (a0.getD v3.toNat Z9).Weight)), (17, (.sl 3 (a0.map Zb) false)), (18, (.int .i64 (a0.length : Int))), (19, (.int .i64 v3)), (40, (.sl 14 (v18.map Z5) false)), (41, (.int .i64 (v18.length : Int))), (42, (.int .i64 v.1))], [(2, (.box [(.sl 4 [] false), (.sl 5 [] false)])), (16, (.map (Z16 Z1r Z3 v.2.2.1))), (26, (.map (Z16 Z1f Z5 v22))), (96, (.box [(.map 16), (.map 97), (.bool v.2.1)])), (97, (.map (Z16 Zm Z6 v.2.2.2)))]⟩) (x := fun v => Z3u K (Z33 K a0 (Z34 K) k7) v3 v.1 v.2.1 v.2.2 = some r) (shx := fun v => ⟨[(2, (.ptr 2 0)), (4, (.ptr 96 0)), (17, (.sl 3 (a0.map Zb) false)), (18, (.int .i64 (a0.length : Int))), (19, (.int .i64 v3))], [(2, (.box [(.sl 4 [] false), (.sl 5 [] false)])), (16, (.map (Z16 Z1r Z3 v.2.1))), (96, (.box [(.map 16), (.map 97), (.bool v.1)])), (97, (.map (Z16 Zm Z6 v.2.2)))]⟩) (k := K) (v := (0, v4, v5, v6)) h ?_ ?_
     ·intro v h
      obtain ⟨v30, v31, v32⟩ := v
      try dsimp only at h ⊢
      unfold Z3u at h
      refine At.end <| Zj <| Zd <| Z2 I (Z1m (k := .i64) (a := v3) (b := 1) (c := (IntKind.i64.wrap (v3 + 1))) I I I I) I <| Z2 I (Zn (v := (.int .i64 (IntKind.i64.wrap (v3 + 1)))) I I) I <| Zi ?_
      exact Z11 (st' := ⟨[(2, (.ptr 2 0)), (4, (.ptr 96 0)), (17, (.sl 3 (a0.map Zb) false)), (18, (.int .i64 (a0.length : Int))), (19, (.int .i64 (IntKind.i64.wrap (v3 + 1))))], [(2, (.box [(.sl 4 [] false), (.sl 5 [] false)])), (16, (.map (Z16 Z1r Z3 v31))), (96, (.box [(.map 16), (.map 97), (.bool v30)])), (97, (.map (Z16 Zm Z6 v32)))]⟩) ⟨rfl, rfl, rfl, rfl, rfl, trivial⟩ ⟨rfl, rfl, rfl, rfl, trivial⟩ (IH7 _ ((IntKind.i64.wrap (v3 + 1)), v30, v31, v32) (Nat.lt_succ_self _) h)
     ·intro N k29 v h IH29 J29
      obtain ⟨v25, v26, v27, v28⟩ := v
      try dsimp only at h IH29 J29 ⊢
      cases k29 with
      | zero => cases h
      | succ k29 =>
       rw [Z2w] at h
       refine Zl <| Zd <| Z2 I (Z1y (k := .i64) (a := v25) (b := (v18.length : Int)) (c := (decide (v25 < (v18.length : Int)))) I I I I) I <| Zi <| Zj <| Zl ?_
       have hif := Z21 h
       refine Z18 I (fun hc => ?_) (fun hc => ?_)
       ·have h := hif.1 hc
        refine Z1b <| Zj <| Zl ?_
        refine AWp.blockJoin (V := Bool × (List (Str × Zc)) × (List (Zs × Zk))) (lp := fun v => Z5e K (Z2w K v18 a0 v3 v22 (Z3u K (Z33 K a0 (Z34 K) k7) v3) k29) v25 v.1 v.2.1 v.2.2 = some r) (sh := fun v => ⟨[(2, (.ptr 2 0)), (4, (.ptr 96 0)), (8, (.map 26)), (11, (.int .i64 (a0.getD v3.toNat Z9).Weight)), (17, (.sl 3 (a0.map Zb) false)), (18, (.int .i64 (a0.length : Int))), (19, (.int .i64 v3)), (40, (.sl 14 (v18.map Z5) false)), (41, (.int .i64 (v18.length : Int))), (42, (.int .i64 v25))], [(2, (.box [(.sl 4 [] false), (.sl 5 [] false)])), (16, (.map (Z16 Z1r Z3 v.2.1))), (26, (.map (Z16 Z1f Z5 v22))), (96, (.box [(.map 16), (.map 97), (.bool v.1)])), (97, (.map (Z16 Zm Z6 v.2.2)))]⟩) ?_ ?_
        ·intro v h
         obtain ⟨v36, v37, v38⟩ := v
         try dsimp only at h ⊢
         unfold Z5e at h
         refine Zj <| Zd <| Z2 I (Z1m (k := .i64) (a := v25) (b := 1) (c := (IntKind.i64.wrap (v25 + 1))) I I I I) I <| Z2 I (Zn (v := (.int .i64 (IntKind.i64.wrap (v25 + 1)))) I I) I <| Zi ?_
         exact Z11 (st' := ⟨[(2, (.ptr 2 0)), (4, (.ptr 96 0)), (8, (.map 26)), (11, (.int .i64 (a0.getD v3.toNat Z9).Weight)), (17, (.sl 3 (a0.map Zb) false)), (18, (.int .i64 (a0.length : Int))), (19, (.int .i64 v3)), (40, (.sl 14 (v18.map Z5) false)), (41, (.int .i64 (v18.length : Int))), (42, (.int .i64 (IntKind.i64.wrap (v25 + 1))))], [(2, (.box [(.sl 4 [] false), (.sl 5 [] false)])), (16, (.map (Z16 Z1r Z3 v37))), (26, (.map (Z16 Z1f Z5 v22))), (96, (.box [(.map 16), (.map 97), (.bool v36)])), (97, (.map (Z16 Zm Z6 v38)))]⟩) ⟨rfl, rfl, rfl, rfl, rfl, rfl, rfl, rfl, rfl, rfl, trivial⟩ ⟨rfl, rfl, rfl, rfl, rfl, trivial⟩ (IH29 _ ((IntKind.i64.wrap (v25 + 1)), v36, v37, v38) (Nat.lt_succ_self _) h)
        ·intro J39
         refine Zl <| Zd ?_
         have ⟨hg40, h⟩ := Z14 h
         refine Z2 I (Z1s (k := .i64) (l := v18) (enc := Z5) (z := Z1) (n := v25) (cs := (Z5 (v18.getD v25.toNat Z1)).cells) (full := false) I s37 I I hg40 I) I <| Z2 I (Z2i (cs := (Z5 (v18.getD v25.toNat Z1)).cells) (vs := (Z5 (v18.getD v25.toNat Z1)).cells) I a56 I I I) I <| Z2 I (Z1x (cs := [(.int .i64 0), (.int .i64 0), (.int .i64 0), (.int .i64 0), (.int .i64 0), (.int .i64 0), (.str []), (.str []), (.str []), (.int .i64 0), (.int .i64 0), (.bool false), (.sl 4 [] false), (.sl 2 [] false)]) I z56 I I I) I <| Z2 I (Z1a (cs := [(.int .i64 0), (.int .i64 0), (.int .i64 0), (.int .i64 0), (.int .i64 0), (.int .i64 0), (.str []), (.str []), (.str []), (.int .i64 0), (.int .i64 0), (.bool false), (.sl 4 [] false), (.sl 2 [] false)]) (vs := (Z5 (v18.getD v25.toNat Z1)).cells) (ds := (Z5 (v18.getD v25.toNat Z1)).cells) (v := (Z5 (v18.getD v25.toNat Z1))) sz56 I I I I I I I I) I <| Zi <| Zj <| Zl <| Z1u mixed ?_
         refine Z8 0 I (Zn (v := (.ptr 96 0)) I I) <| Z8 1 I (Zu (m := 13) (o := 0) I Z67 I I) <| Z8 2 I (Zz (cs := (Z5 (v18.getD v25.toNat Z1)).cells) (v := (.str (v18.getD v25.toNat Z1).Service)) I o9 I I I) <| Z8 3 I (Zn (v := (.int .i64 (a0.getD v3.toNat Z9).Weight)) I I) <| Z8 4 I (Zu (m := 13) (o := 0) I Z9x I I) <| Z8 5 I (Zz (cs := (Z5 (v18.getD v25.toNat Z1)).cells) (v := (.bool (v18.getD v25.toNat Z1).Error)) I o4 I I I) <| Z8 6 I (Zn (v := (.int .i64 (a0.getD v3.toNat Z9).Weight)) I I) ?_
         have ⟨v42, hv42, h⟩ := Z1c h
         refine Z8 7 I (Z1e (ar := [(.bool (v18.getD v25.toNat Z1).Error), (.int .i64 (a0.getD v3.toNat Z9).Weight)]) (caps := []) Tryz.call49 (Zdo K (v18.getD v25.toNat Z1).Error (a0.getD v3.toNat Z9).Weight v42 hv42) I I ⟨rfl, rfl, trivial⟩ I) <| Z8 8 I (Zu (m := 13) (o := 0) I Zci I I) <| Z8 9 I (Zz (cs := (Z5 (v18.getD v25.toNat Z1)).cells) (v := (.int .i64 (v18.getD v25.toNat Z1).Parent)) I o3 I I I) <| Z8 10 I (Z1y (k := .i64) (a := (v18.getD v25.toNat Z1).Parent) (b := 0) (c := ((v18.getD v25.toNat Z1).Parent == 0)) I I I I) <| Z8 11 I (Zn (v := (.int .i64 (a0.getD v3.toNat Z9).Weight)) I I) ?_
         have ⟨v44, hv44, h⟩ := Z1c h
         refine Z8 12 I (Z1e (ar := [(.bool ((v18.getD v25.toNat Z1).Parent == 0)), (.int .i64 (a0.getD v3.toNat Z9).Weight)]) (caps := []) Tryz.call49 (Zdo K ((v18.getD v25.toNat Z1).Parent == 0) (a0.getD v3.toNat Z9).Weight v44 hv44) I I ⟨rfl, rfl, trivial⟩ I) <| Z8 13 I (Z29 (vs := [(0, (.str (v18.getD v25.toNat Z1).Service)), (1, (.int .i64 (a0.getD v3.toNat Z9).Weight)), (2, (.int .i64 v42)), (3, (.int .i64 v44))]) (cs := [(.str (v18.getD v25.toNat Z1).Service), (.int .i64 (a0.getD v3.toNat Z9).Weight), (.int .i64 v42), (.int .i64 v44)]) I st68 ⟨rfl, rfl, rfl, rfl, rfl, rfl, rfl, rfl, trivial⟩ I) ?_
         have ⟨v46, hv46, h⟩ := Z1c h
         refine Z8 14 I (Z31 (d := some 60) (c := ⟨[(.ptr 96 0), (.ag [(.str (v18.getD v25.toNat Z1).Service), (.int .i64 (a0.getD v3.toNat Z9).Weight), (.int .i64 v42), (.int .i64 v44)])] ++ [], [(96, (.box [(.map 16), (.map 97), (.bool v26)])), (16, (.map (Z16 Z1r Z3 v27))), (97, (.map (Z16 Zm Z6 v28)))], (.tup []), [(96, (.box [(.map 16), (.map 97), (.bool v46.1)])), (16, (.map (Z16 Z1r Z3 v46.2))), (97, (.map (Z16 Zm Z6 v28)))], []⟩) (ar := [(.ptr 96 0), (.ag [(.str (v18.getD v25.toNat Z1).Service), (.int .i64 (a0.getD v3.toNat Z9).Weight), (.int .i64 v42), (.int .i64 v44)])]) (caps := []) (news := []) (forg := []) Tryz.call48 ((((F48_ok K (⟨(v18.getD v25.toNat Z1).Service, (a0.getD v3.toNat Z9).Weight, v42, v44⟩ : Zc) v26 v27 v28 v46 hv46).sw 2000 96).sw 2001 16).sw 2002 97) I I ⟨rfl, rfl, trivial⟩ I ⟨rfl, rfl, rfl, trivial⟩ I) <| Z1q (by kernel_rfl) I <| Zj <| Zl <| Zd <| Z2 I (Zn (v := (.map 26)) I I) I <| Z2 I (Zu (m := 13) (o := 0) I Zci I I) I <| Z2 I (Zz (cs := (Z5 (v18.getD v25.toNat Z1)).cells) (v := (.int .i64 (v18.getD v25.toNat Z1).Parent)) I o3 I I I) I ?_
         refine Z2 I (Za3 (l := v22) (a := (v18.getD v25.toNat Z1).Parent) (kv := (.int .i64 (v18.getD v25.toNat Z1).Parent)) I mt110 I I (.inl I) I I) I <| Z2 I (Zn (v := (.tup [(Z5 ((mget Z2p (v18.getD v25.toNat Z1).Parent v22).getD Z1)), (.bool (mget Z2p (v18.getD v25.toNat Z1).Parent v22).isSome)])) I I) I <| Z2 I (Z2b (vs := [(Z5 ((mget Z2p (v18.getD v25.toNat Z1).Parent v22).getD Z1)), (.bool (mget Z2p (v18.getD v25.toNat Z1).Parent v22).isSome)]) (v := (Z5 ((mget Z2p (v18.getD v25.toNat Z1).Parent v22).getD Z1))) I I I) I <| Z2 I (Z2b (vs := [(Z5 ((mget Z2p (v18.getD v25.toNat Z1).Parent v22).getD Z1)), (.bool (mget Z2p (v18.getD v25.toNat Z1).Parent v22).isSome)]) (v := (.bool (mget Z2p (v18.getD v25.toNat Z1).Parent v22).isSome)) I I I) I <| Z2 I (Z1x (cs := [(.int .i64 0), (.int .i64 0), (.int .i64 0), (.int .i64 0), (.int .i64 0), (.int .i64 0), (.str []), (.str []), (.str []), (.int .i64 0), (.int .i64 0), (.bool false), (.sl 4 [] false), (.sl 2 [] false)]) I z56 I I I) I <| Z2 I (Z1a (cs := [(.int .i64 0), (.int .i64 0), (.int .i64 0), (.int .i64 0), (.int .i64 0), (.int .i64 0), (.str []), (.str []), (.str []), (.int .i64 0), (.int .i64 0), (.bool false), (.sl 4 [] false), (.sl 2 [] false)]) (vs := (Z5 ((mget Z2p (v18.getD v25.toNat Z1).Parent v22).getD Z1)).cells) (ds := (Z5 ((mget Z2p (v18.getD v25.toNat Z1).Parent v22).getD Z1)).cells) (v := (Z5 ((mget Z2p (v18.getD v25.toNat Z1).Parent v22).getD Z1))) sz56 I I I I I I I I) I <| Z2 I (Zq (v := (.bool (mget Z2p (v18.getD v25.toNat Z1).Parent v22).isSome)) I I) I <| Zi ?_
         refine Zj <| Zl <| Zd <| Z2 I (Zn (v := (.bool (mget Z2p (v18.getD v25.toNat Z1).Parent v22).isSome)) I I) I <| Z2 I (Zn (v := (.bool (mget Z2p (v18.getD v25.toNat Z1).Parent v22).isSome)) I I) I ?_
         have hif := Z21 h
         refine AOps.split (fun hc => ?_) (fun hc => ?_)
         ·have h := hif.1 hc
          refine Z17 I I I I (Zu (m := 14) (o := 0) I Z67 I I) I <| Z17 I I I I (Zz (cs := (Z5 ((mget Z2p (v18.getD v25.toNat Z1).Parent v22).getD Z1)).cells) (v := (.str ((mget Z2p (v18.getD v25.toNat Z1).Parent v22).getD Z1).Service)) I o9 I I I) I <| Z17 I I I I (Zu (m := 13) (o := 0) I Z67 I I) I <| Z17 I I I I (Zz (cs := (Z5 (v18.getD v25.toNat Z1)).cells) (v := (.str (v18.getD v25.toNat Z1).Service)) I o9 I I I) I <| Z17 I I I I (Z3n (a := ((mget Z2p (v18.getD v25.toNat Z1).Parent v22).getD Z1).Service) (b := (v18.getD v25.toNat Z1).Service) (c := (!(((mget Z2p (v18.getD v25.toNat Z1).Parent v22).getD Z1).Service == (v18.getD v25.toNat Z1).Service))) I I I I) I <| Z2 I (Z2f (v := (.bool (!(((mget Z2p (v18.getD v25.toNat Z1).Parent v22).getD Z1).Service == (v18.getD v25.toNat Z1).Service)))) I I I) I <| Zi <| Zj ?_
          refine AWp.join (V := Bool × (List (Zs × Zk))) (lp := fun v => Z5d K (Z2w K v18 a0 v3 v22 (Z3u K (Z33 K a0 (Z34 K) k7) v3) k29) v25 v46 v.1 v.2 = some r) (sh := fun v => ⟨[(2, (.ptr 2 0)), (4, (.ptr 96 0)), (8, (.map 26)), (11, (.int .i64 (a0.getD v3.toNat Z9).Weight)), (17, (.sl 3 (a0.map Zb) false)), (18, (.int .i64 (a0.length : Int))), (19, (.int .i64 v3)), (40, (.sl 14 (v18.map Z5) false)), (41, (.int .i64 (v18.length : Int))), (42, (.int .i64 v25))], [(2, (.box [(.sl 4 [] false), (.sl 5 [] false)])), (16, (.map (Z16 Z1r Z3 v46.2))), (26, (.map (Z16 Z1f Z5 v22))), (96, (.box [(.map 16), (.map 97), (.bool v.1)])), (97, (.map (Z16 Zm Z6 v.2)))]⟩) ?_ ?_
          ·intro v h
           obtain ⟨v47, v48⟩ := v
           try dsimp only at h ⊢
           unfold Z5d at h
           refine At.end ?_
           exact Z11 (st' := ⟨[(2, (.ptr 2 0)), (4, (.ptr 96 0)), (8, (.map 26)), (11, (.int .i64 (a0.getD v3.toNat Z9).Weight)), (17, (.sl 3 (a0.map Zb) false)), (18, (.int .i64 (a0.length : Int))), (19, (.int .i64 v3)), (40, (.sl 14 (v18.map Z5) false)), (41, (.int .i64 (v18.length : Int))), (42, (.int .i64 v25))], [(2, (.box [(.sl 4 [] false), (.sl 5 [] false)])), (16, (.map (Z16 Z1r Z3 v46.2))), (26, (.map (Z16 Z1f Z5 v22))), (96, (.box [(.map 16), (.map 97), (.bool v47)])), (97, (.map (Z16 Zm Z6 v48)))]⟩) ⟨rfl, rfl, rfl, rfl, rfl, rfl, rfl, rfl, rfl, rfl, trivial⟩ ⟨rfl, rfl, rfl, rfl, rfl, trivial⟩ (J39 (v47, v46.2, v48) h)
          ·intro J49
           have hif := Z21 h
           refine Z18 I (fun hc => ?_) (fun hc => ?_)
           ·have h := hif.1 hc
            refine Z1u mixed <| Z8 0 I (Zn (v := (.ptr 96 0)) I I) <| Z8 1 I (Zu (m := 14) (o := 0) I Z67 I I) <| Z8 2 I (Zz (cs := (Z5 ((mget Z2p (v18.getD v25.toNat Z1).Parent v22).getD Z1)).cells) (v := (.str ((mget Z2p (v18.getD v25.toNat Z1).Parent v22).getD Z1).Service)) I o9 I I I) <| Z8 3 I (Zu (m := 13) (o := 0) I Z67 I I) <| Z8 4 I (Zz (cs := (Z5 (v18.getD v25.toNat Z1)).cells) (v := (.str (v18.getD v25.toNat Z1).Service)) I o9 I I I) <| Z8 5 I (Zn (v := (.int .i64 (a0.getD v3.toNat Z9).Weight)) I I) <| Z8 6 I (Zu (m := 13) (o := 0) I Z9x I I) ?_
            refine Z8 7 I (Zz (cs := (Z5 (v18.getD v25.toNat Z1)).cells) (v := (.bool (v18.getD v25.toNat Z1).Error)) I o4 I I I) <| Z8 8 I (Zn (v := (.int .i64 (a0.getD v3.toNat Z9).Weight)) I I) ?_
            have ⟨v51, hv51, h⟩ := Z1c h
            refine Z8 9 I (Z1e (ar := [(.bool (v18.getD v25.toNat Z1).Error), (.int .i64 (a0.getD v3.toNat Z9).Weight)]) (caps := []) Tryz.call49 (Zdo K (v18.getD v25.toNat Z1).Error (a0.getD v3.toNat Z9).Weight v51 hv51) I I ⟨rfl, rfl, trivial⟩ I) <| Z8 10 I (Z1k (cs := (Z5 (v18.getD v25.toNat Z1)).cells) (vs := (Z5 (v18.getD v25.toNat Z1)).cells) I a56 I I I I) ?_
            have ⟨v53, hv53, h⟩ := Z1c h
            refine Z8 11 I (Z1e (ar := [(Z5 (v18.getD v25.toNat Z1))]) (caps := []) Tryz.call51 (F51_ok K (v18.getD v25.toNat Z1) v53 hv53) I I ⟨rfl, trivial⟩ I) <| Z8 12 I (Zn (v := (.int .i64 (a0.getD v3.toNat Z9).Weight)) I I) <| Z8 13 I (Z1m (k := .i64) (a := v53) (b := (a0.getD v3.toNat Z9).Weight) (c := (IntKind.i64.wrap (v53 * (a0.getD v3.toNat Z9).Weight))) I I I I) <| Z8 14 I (Z29 (vs := [(0, (.str ((mget Z2p (v18.getD v25.toNat Z1).Parent v22).getD Z1).Service)), (1, (.str (v18.getD v25.toNat Z1).Service)), (2, (.int .i64 (a0.getD v3.toNat Z9).Weight)), (3, (.int .i64 v51)), (4, (.int .i64 (IntKind.i64.wrap (v53 * (a0.getD v3.toNat Z9).Weight))))]) (cs := [(.str ((mget Z2p (v18.getD v25.toNat Z1).Parent v22).getD Z1).Service), (.str (v18.getD v25.toNat Z1).Service), (.int .i64 (a0.getD v3.toNat Z9).Weight), (.int .i64 v51), (.int .i64 (IntKind.i64.wrap (v53 * (a0.getD v3.toNat Z9).Weight)))]) I st88 ⟨rfl, rfl, rfl, rfl, rfl, rfl, rfl, rfl, rfl, rfl, trivial⟩ I) ?_
            have ⟨v55, hv55, h⟩ := Z1c h
            refine Z8 15 I (Z31 (d := some 91) (c := ⟨[(.ptr 96 0), (.ag [(.str ((mget Z2p (v18.getD v25.toNat Z1).Parent v22).getD Z1).Service), (.str (v18.getD v25.toNat Z1).Service), (.int .i64 (a0.getD v3.toNat Z9).Weight), (.int .i64 v51), (.int .i64 (IntKind.i64.wrap (v53 * (a0.getD v3.toNat Z9).Weight)))])] ++ [], [(96, (.box [(.map 16), (.map 97), (.bool v46.1)])), (16, (.map (Z16 Z1r Z3 v46.2))), (97, (.map (Z16 Zm Z6 v28)))], (.tup []), [(96, (.box [(.map 16), (.map 97), (.bool v55.1)])), (16, (.map (Z16 Z1r Z3 v46.2))), (97, (.map (Z16 Zm Z6 v55.2)))], []⟩) (ar := [(.ptr 96 0), (.ag [(.str ((mget Z2p (v18.getD v25.toNat Z1).Parent v22).getD Z1).Service), (.str (v18.getD v25.toNat Z1).Service), (.int .i64 (a0.getD v3.toNat Z9).Weight), (.int .i64 v51), (.int .i64 (IntKind.i64.wrap (v53 * (a0.getD v3.toNat Z9).Weight)))])]) (caps := []) (news := []) (forg := []) Tryz.call50 ((((F50_ok K (⟨((mget Z2p (v18.getD v25.toNat Z1).Parent v22).getD Z1).Service, (v18.getD v25.toNat Z1).Service, (a0.getD v3.toNat Z9).Weight, v51, (IntKind.i64.wrap (v53 * (a0.getD v3.toNat Z9).Weight))⟩ : Zk) v46.1 v46.2 v28 v55 hv55).sw 2000 96).sw 2001 16).sw 2002 97) I I ⟨rfl, rfl, trivial⟩ I ⟨rfl, rfl, rfl, trivial⟩ I) <| Z1q (by kernel_rfl) I ?_
            exact Z11 (st' := ⟨[(2, (.ptr 2 0)), (4, (.ptr 96 0)), (8, (.map 26)), (11, (.int .i64 (a0.getD v3.toNat Z9).Weight)), (17, (.sl 3 (a0.map Zb) false)), (18, (.int .i64 (a0.length : Int))), (19, (.int .i64 v3)), (40, (.sl 14 (v18.map Z5) false)), (41, (.int .i64 (v18.length : Int))), (42, (.int .i64 v25))], [(2, (.box [(.sl 4 [] false), (.sl 5 [] false)])), (16, (.map (Z16 Z1r Z3 v46.2))), (26, (.map (Z16 Z1f Z5 v22))), (96, (.box [(.map 16), (.map 97), (.bool v55.1)])), (97, (.map (Z16 Zm Z6 v55.2)))]⟩) ⟨rfl, rfl, rfl, rfl, rfl, rfl, rfl, rfl, rfl, rfl, trivial⟩ ⟨rfl, rfl, rfl, rfl, rfl, trivial⟩ (J49 (v55.1, v55.2) h)
           ·have h := hif.2 hc
            refine Z1b ?_
            exact Z11 (st' := ⟨[(2, (.ptr 2 0)), (4, (.ptr 96 0)), (8, (.map 26)), (11, (.int .i64 (a0.getD v3.toNat Z9).Weight)), (17, (.sl 3 (a0.map Zb) false)), (18, (.int .i64 (a0.length : Int))), (19, (.int .i64 v3)), (40, (.sl 14 (v18.map Z5) false)), (41, (.int .i64 (v18.length : Int))), (42, (.int .i64 v25))], [(2, (.box [(.sl 4 [] false), (.sl 5 [] false)])), (16, (.map (Z16 Z1r Z3 v46.2))), (26, (.map (Z16 Z1f Z5 v22))), (96, (.box [(.map 16), (.map 97), (.bool v46.1)])), (97, (.map (Z16 Zm Z6 v28)))]⟩) ⟨rfl, rfl, rfl, rfl, rfl, rfl, rfl, rfl, rfl, rfl, trivial⟩ ⟨rfl, rfl, rfl, rfl, rfl, trivial⟩ (J49 (v46.1, v28) h)
         ·have h := hif.2 hc
          refine Z13 I I I I I I I <| Z13 I I I I I I I <| Z13 I I I I I I I <| Z13 I I I I I I I <| Z13 I I I I I I I <| Z2 I (Z20 (v := (.bool false)) I I I) I <| Zi <| Zj ?_
          refine Z18 (b := false) I (fun hc => ?_) (fun hc => ?_)
          ·cases hc
          refine Z1b <| At.end ?_
          exact Z11 (st' := ⟨[(2, (.ptr 2 0)), (4, (.ptr 96 0)), (8, (.map 26)), (11, (.int .i64 (a0.getD v3.toNat Z9).Weight)), (17, (.sl 3 (a0.map Zb) false)), (18, (.int .i64 (a0.length : Int))), (19, (.int .i64 v3)), (40, (.sl 14 (v18.map Z5) false)), (41, (.int .i64 (v18.length : Int))), (42, (.int .i64 v25))], [(2, (.box [(.sl 4 [] false), (.sl 5 [] false)])), (16, (.map (Z16 Z1r Z3 v46.2))), (26, (.map (Z16 Z1f Z5 v22))), (96, (.box [(.map 16), (.map 97), (.bool v46.1)])), (97, (.map (Z16 Zm Z6 v28)))]⟩) ⟨rfl, rfl, rfl, rfl, rfl, rfl, rfl, rfl, rfl, rfl, trivial⟩ ⟨rfl, rfl, rfl, rfl, rfl, trivial⟩ (J39 (v46.1, v46.2, v28) h)
       ·have h := hif.2 hc
        refine AWp.exit <| At.thru ?_
        exact Z11 (st' := ⟨[(2, (.ptr 2 0)), (4, (.ptr 96 0)), (17, (.sl 3 (a0.map Zb) false)), (18, (.int .i64 (a0.length : Int))), (19, (.int .i64 v3))], [(2, (.box [(.sl 4 [] false), (.sl 5 [] false)])), (16, (.map (Z16 Z1r Z3 v27))), (96, (.box [(.map 16), (.map 97), (.bool v26)])), (97, (.map (Z16 Zm Z6 v28)))]⟩) ⟨rfl, rfl, rfl, rfl, rfl, trivial⟩ ⟨rfl, rfl, rfl, rfl, trivial⟩ (J29 (v26, v27, v28) h)
    ·intro N k21 v h IH21 J21
     obtain ⟨v19, v20⟩ := v
     try dsimp only at h IH21 J21 ⊢
     cases k21 with
     | zero => cases h
     | succ k21 =>
      rw [Z42] at h
      refine Zl <| Zd <| Z2 I (Z1y (k := .i64) (a := v19) (b := (v18.length : Int)) (c := (decide (v19 < (v18.length : Int)))) I I I I) I <| Zi <| Zj <| Zl ?_
      have hif := Z21 h
      refine Z18 I (fun hc => ?_) (fun hc => ?_)
      ·have h := hif.1 hc
       refine Z1b <| Zj <| Zl <| AWp.block <| Zl <| Zd ?_
       have ⟨hg57, h⟩ := Z14 h
       refine Z2 I (Z1s (k := .i64) (l := v18) (enc := Z5) (z := Z1) (n := v19) (cs := (Z5 (v18.getD v19.toNat Z1)).cells) (full := false) I s37 I I hg57 I) I <| Z2 I (Z2i (cs := (Z5 (v18.getD v19.toNat Z1)).cells) (vs := (Z5 (v18.getD v19.toNat Z1)).cells) I a56 I I I) I <| Z2 I (Z1x (cs := [(.int .i64 0), (.int .i64 0), (.int .i64 0), (.int .i64 0), (.int .i64 0), (.int .i64 0), (.str []), (.str []), (.str []), (.int .i64 0), (.int .i64 0), (.bool false), (.sl 4 [] false), (.sl 2 [] false)]) I z56 I I I) I <| Z2 I (Z1a (cs := [(.int .i64 0), (.int .i64 0), (.int .i64 0), (.int .i64 0), (.int .i64 0), (.int .i64 0), (.str []), (.str []), (.str []), (.int .i64 0), (.int .i64 0), (.bool false), (.sl 4 [] false), (.sl 2 [] false)]) (vs := (Z5 (v18.getD v19.toNat Z1)).cells) (ds := (Z5 (v18.getD v19.toNat Z1)).cells) (v := (Z5 (v18.getD v19.toNat Z1))) sz56 I I I I I I I I) I <| Zi <| Zj <| Zd <| Z2 I (Zn (v := (.map 26)) I I) I ?_
       refine Z2 I (Zu (m := 10) (o := 0) I f56_1 I I) I <| Z2 I (Zz (cs := (Z5 (v18.getD v19.toNat Z1)).cells) (v := (.int .i64 (v18.getD v19.toNat Z1).Id)) I o3 I I I) I <| Z2 I (Z1k (cs := (Z5 (v18.getD v19.toNat Z1)).cells) (vs := (Z5 (v18.getD v19.toNat Z1)).cells) I a56 I I I I) I <| Z2 I (Z54 (l := v20) (a := (v18.getD v19.toNat Z1).Id) (b := (v18.getD v19.toNat Z1)) (kv := (.int .i64 (v18.getD v19.toNat Z1).Id)) (vv := (Z5 (v18.getD v19.toNat Z1))) mt110 I I I I I I) I <| Zi <| At.end <| Zj <| Zd ?_
       refine Z2 I (Z1m (k := .i64) (a := v19) (b := 1) (c := (IntKind.i64.wrap (v19 + 1))) I I I I) I <| Z2 I (Zn (v := (.int .i64 (IntKind.i64.wrap (v19 + 1)))) I I) I <| Zi ?_
       exact Z11 (st' := ⟨[(2, (.ptr 2 0)), (4, (.ptr 96 0)), (6, (.ptr 6 0)), (7, (.sl 14 (v18.map Z5) false)), (8, (.map 26)), (17, (.sl 3 (a0.map Zb) false)), (18, (.int .i64 (a0.length : Int))), (19, (.int .i64 v3)), (27, (.sl 14 (v18.map Z5) false)), (28, (.int .i64 (v18.length : Int))), (29, (.int .i64 (IntKind.i64.wrap (v19 + 1))))], [(2, (.box [(.sl 4 [] false), (.sl 5 [] false)])), (6, (.box (Zb (a0.getD v3.toNat Z9)).cells)), (16, (.map (Z16 Z1r Z3 v5))), (26, (.map (Z16 Z1f Z5 (mput Z2p (v18.getD v19.toNat Z1).Id (v18.getD v19.toNat Z1) v20)))), (96, (.box [(.map 16), (.map 97), (.bool v4)])), (97, (.map (Z16 Zm Z6 v6)))]⟩) ⟨rfl, rfl, rfl, rfl, rfl, rfl, rfl, rfl, rfl, rfl, rfl, trivial⟩ ⟨rfl, rfl, rfl, rfl, rfl, rfl, trivial⟩ (IH21 _ ((IntKind.i64.wrap (v19 + 1)), (mput Z2p (v18.getD v19.toNat Z1).Id (v18.getD v19.toNat Z1) v20)) (Nat.lt_succ_self _) h)
      ·have h := hif.2 hc
       refine AWp.exit <| At.thru ?_
       exact Z11 (st' := ⟨[(2, (.ptr 2 0)), (4, (.ptr 96 0)), (6, (.ptr 6 0)), (7, (.sl 14 (v18.map Z5) false)), (8, (.map 26)), (17, (.sl 3 (a0.map Zb) false)), (18, (.int .i64 (a0.length : Int))), (19, (.int .i64 v3))], [(2, (.box [(.sl 4 [] false), (.sl 5 [] false)])), (6, (.box (Zb (a0.getD v3.toNat Z9)).cells)), (16, (.map (Z16 Z1r Z3 v5))), (26, (.map (Z16 Z1f Z5 v20))), (96, (.box [(.map 16), (.map 97), (.bool v4)])), (97, (.map (Z16 Zm Z6 v6)))]⟩) ⟨rfl, rfl, rfl, rfl, rfl, rfl, rfl, rfl, trivial⟩ ⟨rfl, rfl, rfl, rfl, rfl, rfl, trivial⟩ (J21 v20 h)
   ·have h := hif.2 hc
    refine AWp.exit <| At.thru ?_
    exact Z11 (st' := ⟨[(2, (.ptr 2 0)), (4, (.ptr 96 0))], [(2, (.box [(.sl 4 [] false), (.sl 5 [] false)])), (16, (.map (Z16 Z1r Z3 v5))), (96, (.box [(.map 16), (.map 97), (.bool v4)])), (97, (.map (Z16 Zm Z6 v6)))]⟩) ⟨rfl, rfl, trivial⟩ ⟨rfl, rfl, rfl, rfl, trivial⟩ (J7 (v4, v5, v6) h)
noncomputable def Z3s (K : Nat) (v8 : Bool) (v9 : (List (Str × Zc))) (v10 : (List (Zs × Zk))) : Option (Ze × Int) :=
 (F52 K v8 v9 v10).bind fun v14 =>
  some (v14.2, v14.1)
def Z6f (K : Nat) (b15 : Int → Bool → (List (Str × Zc)) → (List (Zs × Zk)) → Option (Ze × Int)) (v3 : Int) (v23 : (List (Str × Zc))) (v30 : Bool) (v31 : (List (Zs × Zk))) : Option (Ze × Int) :=
 b15 (IntKind.i64.wrap (v3 + 1)) v30 v23 v31
def Z8a (K : Nat) (a0 : Ze) (a1 : Ze) (v3 : Int) (v23 : (List (Str × Zc))) (c33 : Bool → (List (Zs × Zk)) → Option (Ze × Int)) : Nat → Int → Bool → (List (Zs × Zk)) → Option (Ze × Int)
 | 0, _, _, _ => none
 | k29 + 1, v26, v27, v28 =>
  if (decide (v26 < (([a0, a1].getD v3.toNat Z12).Calls.length : Int))) = true then
   if (0 : Int) ≤ v26 ∧ v26 < ([a0, a1].getD v3.toNat Z12).Calls.length then
    (F50 K (([a0, a1].getD v3.toNat Z12).Calls.getD v26.toNat Zf) v27 v23 v28).bind fun v37 =>
     (Z8a K a0 a1 v3 v23 c33 k29) (IntKind.i64.wrap (v26 + 1)) v37.1 v37.2
   else none
  else
   c33 v27 v28
def Z6k (K : Nat) (a0 : Ze) (a1 : Ze) (v3 : Int) (b15 : Int → Bool → (List (Str × Zc)) → (List (Zs × Zk)) → Option (Ze × Int)) (v6 : (List (Zs × Zk))) (v22 : Bool) (v23 : (List (Str × Zc))) : Option (Ze × Int) :=
 Z8a K a0 a1 v3 v23 (Z6f K b15 v3 v23) K 0 v22 v6
def Z80 (K : Nat) (a0 : Ze) (a1 : Ze) (v3 : Int) (v6 : (List (Zs × Zk))) (c25 : Bool → (List (Str × Zc)) → Option (Ze × Int)) : Nat → Int → Bool → (List (Str × Zc)) → Option (Ze × Int)
 | 0, _, _, _ => none
 | k21 + 1, v18, v19, v20 =>
  if (decide (v18 < (([a0, a1].getD v3.toNat Z12).Services.length : Int))) = true then
   if (0 : Int) ≤ v18 ∧ v18 < ([a0, a1].getD v3.toNat Z12).Services.length then
    (F48 K (([a0, a1].getD v3.toNat Z12).Services.getD v18.toNat Zg) v19 v20 v6).bind fun v41 =>
     (Z80 K a0 a1 v3 v6 c25 k21) (IntKind.i64.wrap (v18 + 1)) v41.1 v41.2
   else none
  else
   c25 v19 v20
def Z4q (K : Nat) (a0 : Ze) (a1 : Ze) (c12 : Bool → (List (Str × Zc)) → (List (Zs × Zk)) → Option (Ze × Int)) : Nat → Int → Bool → (List (Str × Zc)) → (List (Zs × Zk)) → Option (Ze × Int)
 | 0, _, _, _, _ => none
 | k7 + 1, v3, v4, v5, v6 =>
  if (decide (v3 < ([a0, a1].length : Int))) = true then
   if (0 : Int) ≤ v3 ∧ v3 < ([a0, a1].length : Nat) then
    if v3.toNat < [a0, a1].length then
     Z80 K a0 a1 v3 v6 (Z6k K a0 a1 v3 (Z4q K a0 a1 c12 k7) v6) K 0 v4 v5
    else none
   else none
  else
   c12 v4 v5 v6
noncomputable def F18 (K : Nat) (a0 : Ze) (a1 : Ze) : Option (Ze × Int) :=
 (F46 K).bind fun v2 =>
  Z4q K a0 a1 (Z3s K) K 0 false ([] : List (Str × Zc)) ([] : List (Zs × Zk))
theorem F18_ok (K : Nat) (a0 : Ze) (a1 : Ze) (r : Ze × Int) (h : F18 K a0 a1 = some r) : ACall P 18 ⟨[(Za a0), (Za a1)], [], (.tup [(Za r.1), (.int .i64 r.2)]), [], []⟩ := by
 refine Z1v Tryz.func18 Tryz.results18 rfl Tryz.ntmps18 rfl rfl rfl ?_
 intro E Q hP hN hro hret
 obtain ⟨P', nt', w0, F0, p0, S0, β0, ro0⟩ := E
 simp only at hP hN
 subst hP hN
 dsimp only [argT]
 unfold F18 at h
 refine Zl <| Zd <| Z2 I (Z2s (v := (Za a0)) (cs := (Za a0).cells) I I I I I) I <| Z2 I (Z2s (v := (Za a1)) (cs := (Za a1).cells) I I I I I) I <| Z2 I (Z1x (cs := [(.sl 4 [] false), (.sl 5 [] false)]) I z44 I I I) I <| Z2 I (Zq (v := (.int .i64 0)) I I) I <| Zi <| Zj ?_
 refine Zl <| Zd ?_
 have ⟨v2, hv2, h⟩ := Z1c h
 refine Z2 I (Z31 (d := some 13) (c := ⟨[] ++ [], [], (.ptr 47 0), [(13, (.map (Z16 Z1r Z3 ([] : List (Str × Zc))))), (48, (.map (Z16 Zm Z6 ([] : List (Zs × Zk))))), (47, (.box [(.map 13), (.map 48), (.bool false)]))], [13, 48, 47]⟩) (ar := []) (caps := []) (news := [13, 48, 47]) (forg := []) Tryz.call46 ((((F46_ok K v2 hv2).sw 1 13).sw 2 48).sw 4 47) I I trivial I trivial I) I <| Z2 I (Zq (v := (.ptr 47 0)) I I) I <| Zi <| Zj <| Zl <| Zl <| Zd <| Z2 I (Z1k (cs := (Za a0).cells) (vs := (Za a0).cells) I a44 I I I I) I ?_
 refine Z2 I (Z1k (cs := (Za a1).cells) (vs := (Za a1).cells) I a44 I I I I) I <| Z2 I (Z1j (vs := [(Za a0), (Za a1)]) (enc := Za) (l := [a0, a1]) I el117 I I ⟨rfl, rfl, trivial⟩ I Z9g I I I I) I <| Z2 I (Z61 (l := [a0, a1]) (enc := Za) I u117 I I) I <| Z2 I (Zn (v := (.int .i64 0)) I I) I <| Zi <| Zj <| AWp.ghost (st' := ⟨[(4, (.ptr 4 0)), (6, (.ptr 47 0)), (16, (.vs 45)), (17, (.int .i64 ([a0, a1].length : Int))), (18, (.int .i64 0))], [(4, (.box [(.sl 4 [] false), (.sl 5 [] false)])), (13, (.map (Z16 Z1r Z3 ([] : List (Str × Zc))))), (45, (.vec 2 (List.map Za [a0, a1]))), (47, (.box [(.map 13), (.map 48), (.bool false)])), (48, (.map (Z16 Zm Z6 ([] : List (Zs × Zk)))))]⟩) (fun a w h => (Z1d ⟨[(4, (.ptr 4 0)), (6, (.ptr 47 0)), (16, (.vs 45)), (17, (.int .i64 ([a0, a1].length : Int))), (18, (.int .i64 0))], [(4, (.box [(.sl 4 [] false), (.sl 5 [] false)])), (13, (.map (Z16 Z1r Z3 ([] : List (Str × Zc))))), (45, (.vec 2 (List.map Za [a0, a1]))), (47, (.box [(.map 13), (.map 48), (.bool false)])), (48, (.map (Z16 Zm Z6 ([] : List (Zs × Zk)))))]⟩ (Z48 (a := 16) (b := 45) I I a w (Z1d ⟨[(4, (.ptr 4 0)), (6, (.ptr 47 0)), (16, (.vs 16)), (17, (.int .i64 ([a0, a1].length : Int))), (18, (.int .i64 0))], [(4, (.box [(.sl 4 [] false), (.sl 5 [] false)])), (13, (.map (Z16 Z1r Z3 ([] : List (Str × Zc))))), (16, (.vec 2 (List.map Za [a0, a1]))), (47, (.box [(.map 13), (.map 48), (.bool false)])), (48, (.map (Z16 Zm Z6 ([] : List (Zs × Zk)))))]⟩ h ⟨rfl, rfl, rfl, rfl, rfl, trivial⟩ ⟨rfl, rfl, rfl, rfl, rfl, trivial⟩)) ⟨rfl, rfl, rfl, rfl, rfl, trivial⟩ ⟨rfl, rfl, rfl, rfl, rfl, trivial⟩)) <| AWp.weaken (st' := ⟨[(4, (.ptr 4 0)), (6, (.ptr 47 0)), (16, (.vs 45)), (17, (.int .i64 ([a0, a1].length : Int))), (18, (.int .i64 0))], [(4, (.box [(.sl 4 [] false), (.sl 5 [] false)])), (13, (.map (Z16 Z1r Z3 ([] : List (Str × Zc))))), (45, (.vec 2 (List.map Za [a0, a1]))), (47, (.box [(.map 13), (.map 48), (.bool false)])), (48, (.map (Z16 Zm Z6 ([] : List (Zs × Zk)))))]⟩) ⟨rfl, rfl, rfl, rfl, rfl, trivial⟩ ⟨rfl, rfl, rfl, rfl, rfl, trivial⟩ ?_
 refine Z1l (V := Int × Bool × (List (Str × Zc)) × (List (Zs × Zk))) (X := Bool × (List (Str × Zc)) × (List (Zs × Zk))) (lp := fun k v => Z4q K a0 a1 (Z3s K) k v.1 v.2.1 v.2.2.1 v.2.2.2 = some r) (sh := fun v => ⟨[(4, (.ptr 4 0)), (6, (.ptr 47 0)), (16, (.vs 45)), (17, (.int .i64 ([a0, a1].length : Int))), (18, (.int .i64 v.1))], [(4, (.box [(.sl 4 [] false), (.sl 5 [] false)])), (13, (.map (Z16 Z1r Z3 v.2.2.1))), (45, (.vec 2 (List.map Za [a0, a1]))), (47, (.box [(.map 13), (.map 48), (.bool v.2.1)])), (48, (.map (Z16 Zm Z6 v.2.2.2)))]⟩) (x := fun v => Z3s K v.1 v.2.1 v.2.2 = some r) (shx := fun v => ⟨[(4, (.ptr 4 0)), (6, (.ptr 47 0))], [(4, (.box [(.sl 4 [] false), (.sl 5 [] false)])), (13, (.map (Z16 Z1r Z3 v.2.1))), (47, (.box [(.map 13), (.map 48), (.bool v.1)])), (48, (.map (Z16 Zm Z6 v.2.2)))]⟩) (k := K) (v := (0, false, ([] : List (Str × Zc)), ([] : List (Zs × Zk)))) h ?_ ?_
 ·intro v h
  obtain ⟨v8, v9, v10⟩ := v
  try dsimp only at h ⊢
  unfold Z3s at h
  refine Zj <| Zl <| Zd <| Z2 I (Zn (v := (.ptr 47 0)) I I) I ?_
  have ⟨v14, hv14, h⟩ := Z1c h
  refine Z2 I (Z31 (d := some 46) (c := ⟨[(.ptr 47 0)] ++ [], [(47, (.box [(.map 13), (.map 48), (.bool v8)])), (13, (.map (Z16 Z1r Z3 v9))), (48, (.map (Z16 Zm Z6 v10)))], (.tup [(Za v14.2), (.int .i64 v14.1)]), [(47, (.box [(.map 13), (.map 48), (.bool v8)])), (13, (.fmap (Z16 Z1r Z3 v9))), (48, (.fmap (Z16 Zm Z6 v10)))], [13, 48]⟩) (ar := [(.ptr 47 0)]) (caps := []) (news := []) (forg := [13, 48]) Tryz.call52 ((((F52_ok K v8 v9 v10 v14 hv14).sw 2000 47).sw 59 13).sw 57 48) I I ⟨rfl, trivial⟩ I ⟨rfl, rfl, rfl, trivial⟩ I) I <| Z2 I (Z2b (vs := [(Za v14.2), (.int .i64 v14.1)]) (v := (Za v14.2)) I I I) I <| Z2 I (Z2b (vs := [(Za v14.2), (.int .i64 v14.1)]) (v := (.int .i64 v14.1)) I I I) I <| Z2 I (Z1a (cs := [(.sl 4 [] false), (.sl 5 [] false)]) (vs := (Za v14.2).cells) (ds := (Za v14.2).cells) (v := (Za v14.2)) sz44 I I I I I I I I) I <| Z2 I (Zq (v := (.int .i64 v14.1)) I I) I <| Zi <| Zj <| Z1g ?_
  have h := Option.some.inj h
  subst h
  refine (hret _ ?_).1
  exact ⟨[(Za v14.2), (.int .i64 v14.1)], ⟨⟨4, _, rfl, rfl, .inr ⟨_, a44, rfl, rfl⟩⟩, rfl, trivial⟩, rfl, trivial⟩
 ·intro N k7 v h IH7 J7
  obtain ⟨v3, v4, v5, v6⟩ := v
  try dsimp only at h IH7 J7 ⊢
  cases k7 with
  | zero => cases h
  | succ k7 =>
   rw [Z4q] at h
   refine Zl <| Zd <| Z2 I (Z1y (k := .i64) (a := v3) (b := ([a0, a1].length : Int)) (c := (decide (v3 < ([a0, a1].length : Int)))) I I I I) I <| Zi <| Zj <| Zl ?_
   have hif := Z21 h
   refine Z18 I (fun hc => ?_) (fun hc => ?_)
   ·have h := hif.1 hc
    refine Z1b <| Zj <| Zl <| AWp.block <| Zl <| Zd ?_
    have ⟨hg16, h⟩ := Z14 h
    refine Z2 I (Z2v (k := .i64) (v := (.vs 45)) (n := 45) (off := 0) (len := ([a0, a1].length)) (es := (List.map Za [a0, a1])) (j := v3) (m := v3.toNat) I s117 I I (Z2x _ _ _) I hg16 (Nat.zero_add _)) I ?_
    have ⟨hg17, h⟩ := Z14 h
    refine Z2 I (Z3y (l := [a0, a1]) (enc := Za) (z := Z12) (vs := (Za ([a0, a1].getD v3.toNat Z12)).cells) I a44 I I hg17 I I) I <| Z2 I (Z1x (cs := [(.sl 4 [] false), (.sl 5 [] false)]) I z44 I I I) I <| Z2 I (Z1a (cs := [(.sl 4 [] false), (.sl 5 [] false)]) (vs := (Za ([a0, a1].getD v3.toNat Z12)).cells) (ds := (Za ([a0, a1].getD v3.toNat Z12)).cells) (v := (Za ([a0, a1].getD v3.toNat Z12))) sz44 I I I I I I I I) I <| Zi <| Zj <| Zl <| Zl <| Zd ?_
    refine Z2 I (Zu (m := 8) (o := 0) I Z5v I I) I <| Z2 I (Zz (cs := (Za ([a0, a1].getD v3.toNat Z12)).cells) (v := (.sl 4 (([a0, a1].getD v3.toNat Z12).Services.map Z3) false)) I o41 I I I) I <| Z2 I (Z23 (l := ([a0, a1].getD v3.toNat Z12).Services) (enc := Z3) I s41 I) I <| Z2 I (Zn (v := (.int .i64 0)) I I) I <| Zi <| Zj <| AWp.weaken (st' := ⟨[(4, (.ptr 4 0)), (6, (.ptr 47 0)), (8, (.ptr 8 0)), (16, (.vs 45)), (17, (.int .i64 ([a0, a1].length : Int))), (18, (.int .i64 v3)), (23, (.sl 4 (([a0, a1].getD v3.toNat Z12).Services.map Z3) false)), (24, (.int .i64 (([a0, a1].getD v3.toNat Z12).Services.length : Int))), (25, (.int .i64 0))], [(4, (.box [(.sl 4 [] false), (.sl 5 [] false)])), (8, (.box (Za ([a0, a1].getD v3.toNat Z12)).cells)), (13, (.map (Z16 Z1r Z3 v5))), (45, (.vec 2 (List.map Za [a0, a1]))), (47, (.box [(.map 13), (.map 48), (.bool v4)])), (48, (.map (Z16 Zm Z6 v6)))]⟩) ⟨rfl, rfl, rfl, rfl, rfl, rfl, rfl, rfl, rfl, trivial⟩ ⟨rfl, rfl, rfl, rfl, rfl, rfl, trivial⟩ ?_
    refine Z1l (V := Int × Bool × (List (Str × Zc))) (X := Bool × (List (Str × Zc))) (lp := fun k v => Z80 K a0 a1 v3 v6 (Z6k K a0 a1 v3 (Z4q K a0 a1 (Z3s K) k7) v6) k v.1 v.2.1 v.2.2 = some r) (sh := fun v => ⟨[(4, (.ptr 4 0)), (6, (.ptr 47 0)), (8, (.ptr 8 0)), (16, (.vs 45)), (17, (.int .i64 ([a0, a1].length : Int))), (18, (.int .i64 v3)), (23, (.sl 4 (([a0, a1].getD v3.toNat Z12).Services.map Z3) false)), (24, (.int .i64 (([a0, a1].getD v3.toNat Z12).Services.length : Int))), (25, (.int .i64 v.1))], [(4, (.box [(.sl 4 [] false), (.sl 5 [] false)])), (8, (.box (Za ([a0, a1].getD v3.toNat Z12)).cells)), (13, (.map (Z16 Z1r Z3 v.2.2))), (45, (.vec 2 (List.map Za [a0, a1]))), (47, (.box [(.map 13), (.map 48), (.bool v.2.1)])), (48, (.map (Z16 Zm Z6 v6)))]⟩) (x := fun v => Z6k K a0 a1 v3 (Z4q K a0 a1 (Z3s K) k7) v6 v.1 v.2 = some r) (shx := fun v => ⟨[(4, (.ptr 4 0)), (6, (.ptr 47 0)), (8, (.ptr 8 0)), (16, (.vs 45)), (17, (.int .i64 ([a0, a1].length : Int))), (18, (.int .i64 v3))], [(4, (.box [(.sl 4 [] false), (.sl 5 [] false)])), (8, (.box (Za ([a0, a1].getD v3.toNat Z12)).cells)), (13, (.map (Z16 Z1r Z3 v.2))), (45, (.vec 2 (List.map Za [a0, a1]))), (47, (.box [(.map 13), (.map 48), (.bool v.1)])), (48, (.map (Z16 Zm Z6 v6)))]⟩) (k := K) (v := (0, v4, v5)) h ?_ ?_
    ·intro v h
     obtain ⟨v22, v23⟩ := v
     try dsimp only at h ⊢
     unfold Z6k at h
     refine Zj <| Zl <| Zd <| Z2 I (Zu (m := 8) (o := 0) I Z5r I I) I <| Z2 I (Zz (cs := (Za ([a0, a1].getD v3.toNat Z12)).cells) (v := (.sl 5 (([a0, a1].getD v3.toNat Z12).Calls.map Z6) false)) I o42 I I I) I <| Z2 I (Z23 (l := ([a0, a1].getD v3.toNat Z12).Calls) (enc := Z6) I s42 I) I <| Z2 I (Zn (v := (.int .i64 0)) I I) I <| Zi ?_
     refine Zj <| AWp.weaken (st' := ⟨[(4, (.ptr 4 0)), (6, (.ptr 47 0)), (16, (.vs 45)), (17, (.int .i64 ([a0, a1].length : Int))), (18, (.int .i64 v3)), (34, (.sl 5 (([a0, a1].getD v3.toNat Z12).Calls.map Z6) false)), (35, (.int .i64 (([a0, a1].getD v3.toNat Z12).Calls.length : Int))), (36, (.int .i64 0))], [(4, (.box [(.sl 4 [] false), (.sl 5 [] false)])), (13, (.map (Z16 Z1r Z3 v23))), (45, (.vec 2 (List.map Za [a0, a1]))), (47, (.box [(.map 13), (.map 48), (.bool v22)])), (48, (.map (Z16 Zm Z6 v6)))]⟩) ⟨rfl, rfl, rfl, rfl, rfl, rfl, rfl, rfl, trivial⟩ ⟨rfl, rfl, rfl, rfl, rfl, trivial⟩ ?_
     refine Z1l (V := Int × Bool × (List (Zs × Zk))) (X := Bool × (List (Zs × Zk))) (lp := fun k v => Z8a K a0 a1 v3 v23 (Z6f K (Z4q K a0 a1 (Z3s K) k7) v3 v23) k v.1 v.2.1 v.2.2 = some r) (sh := fun v => ⟨[(4, (.ptr 4 0)), (6, (.ptr 47 0)), (16, (.vs 45)), (17, (.int .i64 ([a0, a1].length : Int))), (18, (.int .i64 v3)), (34, (.sl 5 (([a0, a1].getD v3.toNat Z12).Calls.map Z6) false)), (35, (.int .i64 (([a0, a1].getD v3.toNat Z12).Calls.length : Int))), (36, (.int .i64 v.1))], [(4, (.box [(.sl 4 [] false), (.sl 5 [] false)])), (13, (.map (Z16 Z1r Z3 v23))), (45, (.vec 2 (List.map Za [a0, a1]))), (47, (.box [(.map 13), (.map 48), (.bool v.2.1)])), (48, (.map (Z16 Zm Z6 v.2.2)))]⟩) (x := fun v => Z6f K (Z4q K a0 a1 (Z3s K) k7) v3 v23 v.1 v.2 = some r) (shx := fun v => ⟨[(4, (.ptr 4 0)), (6, (.ptr 47 0)), (16, (.vs 45)), (17, (.int .i64 ([a0, a1].length : Int))), (18, (.int .i64 v3))], [(4, (.box [(.sl 4 [] false), (.sl 5 [] false)])), (13, (.map (Z16 Z1r Z3 v23))), (45, (.vec 2 (List.map Za [a0, a1]))), (47, (.box [(.map 13), (.map 48), (.bool v.1)])), (48, (.map (Z16 Zm Z6 v.2)))]⟩) (k := K) (v := (0, v22, v6)) h ?_ ?_
     ·intro v h
      obtain ⟨v30, v31⟩ := v
      try dsimp only at h ⊢
      unfold Z6f at h
      refine At.end <| Zj <| Zd <| Z2 I (Z1m (k := .i64) (a := v3) (b := 1) (c := (IntKind.i64.wrap (v3 + 1))) I I I I) I <| Z2 I (Zn (v := (.int .i64 (IntKind.i64.wrap (v3 + 1)))) I I) I <| Zi ?_
      exact Z11 (st' := ⟨[(4, (.ptr 4 0)), (6, (.ptr 47 0)), (16, (.vs 45)), (17, (.int .i64 ([a0, a1].length : Int))), (18, (.int .i64 (IntKind.i64.wrap (v3 + 1))))], [(4, (.box [(.sl 4 [] false), (.sl 5 [] false)])), (13, (.map (Z16 Z1r Z3 v23))), (45, (.vec 2 (List.map Za [a0, a1]))), (47, (.box [(.map 13), (.map 48), (.bool v30)])), (48, (.map (Z16 Zm Z6 v31)))]⟩) ⟨rfl, rfl, rfl, rfl, rfl, trivial⟩ ⟨rfl, rfl, rfl, rfl, rfl, trivial⟩ (IH7 _ ((IntKind.i64.wrap (v3 + 1)), v30, v23, v31) (Nat.lt_succ_self _) h)
     ·intro N k29 v h IH29 J29
      obtain ⟨v26, v27, v28⟩ := v
      try dsimp only at h IH29 J29 ⊢
      cases k29 with
      | zero => cases h
      | succ k29 =>
       rw [Z8a] at h
       refine Zl <| Zd <| Z2 I (Z1y (k := .i64) (a := v26) (b := (([a0, a1].getD v3.toNat Z12).Calls.length : Int)) (c := (decide (v26 < (([a0, a1].getD v3.toNat Z12).Calls.length : Int)))) I I I I) I <| Zi <| Zj <| Zl ?_
       have hif := Z21 h
       refine Z18 I (fun hc => ?_) (fun hc => ?_)
       ·have h := hif.1 hc
        refine Z1b <| Zj <| Zl <| AWp.block <| Zl <| Zd ?_
        have ⟨hg35, h⟩ := Z14 h
        refine Z2 I (Z1s (k := .i64) (l := ([a0, a1].getD v3.toNat Z12).Calls) (enc := Z6) (z := Zf) (n := v26) (cs := (Z6 (([a0, a1].getD v3.toNat Z12).Calls.getD v26.toNat Zf)).cells) (full := false) I s42 I I hg35 I) I <| Z2 I (Z2i (cs := (Z6 (([a0, a1].getD v3.toNat Z12).Calls.getD v26.toNat Zf)).cells) (vs := (Z6 (([a0, a1].getD v3.toNat Z12).Calls.getD v26.toNat Zf)).cells) I a88 I I I) I <| Z2 I (Z1x (cs := [(.str []), (.str []), (.int .i64 0), (.int .i64 0), (.int .i64 0)]) I z88 I I I) I <| Z2 I (Z1a (cs := [(.str []), (.str []), (.int .i64 0), (.int .i64 0), (.int .i64 0)]) (vs := (Z6 (([a0, a1].getD v3.toNat Z12).Calls.getD v26.toNat Zf)).cells) (ds := (Z6 (([a0, a1].getD v3.toNat Z12).Calls.getD v26.toNat Zf)).cells) (v := (Z6 (([a0, a1].getD v3.toNat Z12).Calls.getD v26.toNat Zf))) sz88 I I I I I I I I) I <| Zi <| Zj <| Zd <| Z2 I (Zn (v := (.ptr 47 0)) I I) I ?_
        refine Z2 I (Z1k (cs := (Z6 (([a0, a1].getD v3.toNat Z12).Calls.getD v26.toNat Zf)).cells) (vs := (Z6 (([a0, a1].getD v3.toNat Z12).Calls.getD v26.toNat Zf)).cells) I a88 I I I I) I ?_
        have ⟨v37, hv37, h⟩ := Z1c h
        refine Z2 I (Z31 (d := some 42) (c := ⟨[(.ptr 47 0), (Z6 (([a0, a1].getD v3.toNat Z12).Calls.getD v26.toNat Zf))] ++ [], [(47, (.box [(.map 13), (.map 48), (.bool v27)])), (13, (.map (Z16 Z1r Z3 v23))), (48, (.map (Z16 Zm Z6 v28)))], (.tup []), [(47, (.box [(.map 13), (.map 48), (.bool v37.1)])), (13, (.map (Z16 Z1r Z3 v23))), (48, (.map (Z16 Zm Z6 v37.2)))], []⟩) (ar := [(.ptr 47 0), (Z6 (([a0, a1].getD v3.toNat Z12).Calls.getD v26.toNat Zf))]) (caps := []) (news := []) (forg := []) Tryz.call50 ((((F50_ok K (([a0, a1].getD v3.toNat Z12).Calls.getD v26.toNat Zf) v27 v23 v28 v37 hv37).sw 2000 47).sw 2001 13).sw 2002 48) I I ⟨rfl, rfl, trivial⟩ I ⟨rfl, rfl, rfl, trivial⟩ I) I <| Zi <| At.end <| Zj <| Zd <| Z2 I (Z1m (k := .i64) (a := v26) (b := 1) (c := (IntKind.i64.wrap (v26 + 1))) I I I I) I <| Z2 I (Zn (v := (.int .i64 (IntKind.i64.wrap (v26 + 1)))) I I) I <| Zi ?_
        exact Z11 (st' := ⟨[(4, (.ptr 4 0)), (6, (.ptr 47 0)), (16, (.vs 45)), (17, (.int .i64 ([a0, a1].length : Int))), (18, (.int .i64 v3)), (34, (.sl 5 (([a0, a1].getD v3.toNat Z12).Calls.map Z6) false)), (35, (.int .i64 (([a0, a1].getD v3.toNat Z12).Calls.length : Int))), (36, (.int .i64 (IntKind.i64.wrap (v26 + 1))))], [(4, (.box [(.sl 4 [] false), (.sl 5 [] false)])), (13, (.map (Z16 Z1r Z3 v23))), (45, (.vec 2 (List.map Za [a0, a1]))), (47, (.box [(.map 13), (.map 48), (.bool v37.1)])), (48, (.map (Z16 Zm Z6 v37.2)))]⟩) ⟨rfl, rfl, rfl, rfl, rfl, rfl, rfl, rfl, trivial⟩ ⟨rfl, rfl, rfl, rfl, rfl, trivial⟩ (IH29 _ ((IntKind.i64.wrap (v26 + 1)), v37.1, v37.2) (Nat.lt_succ_self _) h)
       ·have h := hif.2 hc
        refine AWp.exit <| At.thru ?_
        exact Z11 (st' := ⟨[(4, (.ptr 4 0)), (6, (.ptr 47 0)), (16, (.vs 45)), (17, (.int .i64 ([a0, a1].length : Int))), (18, (.int .i64 v3))], [(4, (.box [(.sl 4 [] false), (.sl 5 [] false)])), (13, (.map (Z16 Z1r Z3 v23))), (45, (.vec 2 (List.map Za [a0, a1]))), (47, (.box [(.map 13), (.map 48), (.bool v27)])), (48, (.map (Z16 Zm Z6 v28)))]⟩) ⟨rfl, rfl, rfl, rfl, rfl, trivial⟩ ⟨rfl, rfl, rfl, rfl, rfl, trivial⟩ (J29 (v27, v28) h)
    ·intro N k21 v h IH21 J21
     obtain ⟨v18, v19, v20⟩ := v
     try dsimp only at h IH21 J21 ⊢
     cases k21 with
     | zero => cases h
     | succ k21 =>
      rw [Z80] at h
      refine Zl <| Zd <| Z2 I (Z1y (k := .i64) (a := v18) (b := (([a0, a1].getD v3.toNat Z12).Services.length : Int)) (c := (decide (v18 < (([a0, a1].getD v3.toNat Z12).Services.length : Int)))) I I I I) I <| Zi <| Zj <| Zl ?_
      have hif := Z21 h
      refine Z18 I (fun hc => ?_) (fun hc => ?_)
      ·have h := hif.1 hc
       refine Z1b <| Zj <| Zl <| AWp.block <| Zl <| Zd ?_
       have ⟨hg39, h⟩ := Z14 h
       refine Z2 I (Z1s (k := .i64) (l := ([a0, a1].getD v3.toNat Z12).Services) (enc := Z3) (z := Zg) (n := v18) (cs := (Z3 (([a0, a1].getD v3.toNat Z12).Services.getD v18.toNat Zg)).cells) (full := false) I s41 I I hg39 I) I <| Z2 I (Z2i (cs := (Z3 (([a0, a1].getD v3.toNat Z12).Services.getD v18.toNat Zg)).cells) (vs := (Z3 (([a0, a1].getD v3.toNat Z12).Services.getD v18.toNat Zg)).cells) I a68 I I I) I <| Z2 I (Z1x (cs := [(.str []), (.int .i64 0), (.int .i64 0), (.int .i64 0)]) I z68 I I I) I <| Z2 I (Z1a (cs := [(.str []), (.int .i64 0), (.int .i64 0), (.int .i64 0)]) (vs := (Z3 (([a0, a1].getD v3.toNat Z12).Services.getD v18.toNat Zg)).cells) (ds := (Z3 (([a0, a1].getD v3.toNat Z12).Services.getD v18.toNat Zg)).cells) (v := (Z3 (([a0, a1].getD v3.toNat Z12).Services.getD v18.toNat Zg))) sz68 I I I I I I I I) I <| Zi <| Zj <| Zd <| Z2 I (Zn (v := (.ptr 47 0)) I I) I ?_
       refine Z2 I (Z1k (cs := (Z3 (([a0, a1].getD v3.toNat Z12).Services.getD v18.toNat Zg)).cells) (vs := (Z3 (([a0, a1].getD v3.toNat Z12).Services.getD v18.toNat Zg)).cells) I a68 I I I I) I ?_
       have ⟨v41, hv41, h⟩ := Z1c h
       refine Z2 I (Z31 (d := some 31) (c := ⟨[(.ptr 47 0), (Z3 (([a0, a1].getD v3.toNat Z12).Services.getD v18.toNat Zg))] ++ [], [(47, (.box [(.map 13), (.map 48), (.bool v19)])), (13, (.map (Z16 Z1r Z3 v20))), (48, (.map (Z16 Zm Z6 v6)))], (.tup []), [(47, (.box [(.map 13), (.map 48), (.bool v41.1)])), (13, (.map (Z16 Z1r Z3 v41.2))), (48, (.map (Z16 Zm Z6 v6)))], []⟩) (ar := [(.ptr 47 0), (Z3 (([a0, a1].getD v3.toNat Z12).Services.getD v18.toNat Zg))]) (caps := []) (news := []) (forg := []) Tryz.call48 ((((F48_ok K (([a0, a1].getD v3.toNat Z12).Services.getD v18.toNat Zg) v19 v20 v6 v41 hv41).sw 2000 47).sw 2001 13).sw 2002 48) I I ⟨rfl, rfl, trivial⟩ I ⟨rfl, rfl, rfl, trivial⟩ I) I <| Zi <| At.end <| Zj <| Zd <| Z2 I (Z1m (k := .i64) (a := v18) (b := 1) (c := (IntKind.i64.wrap (v18 + 1))) I I I I) I <| Z2 I (Zn (v := (.int .i64 (IntKind.i64.wrap (v18 + 1)))) I I) I <| Zi ?_
       exact Z11 (st' := ⟨[(4, (.ptr 4 0)), (6, (.ptr 47 0)), (8, (.ptr 8 0)), (16, (.vs 45)), (17, (.int .i64 ([a0, a1].length : Int))), (18, (.int .i64 v3)), (23, (.sl 4 (([a0, a1].getD v3.toNat Z12).Services.map Z3) false)), (24, (.int .i64 (([a0, a1].getD v3.toNat Z12).Services.length : Int))), (25, (.int .i64 (IntKind.i64.wrap (v18 + 1))))], [(4, (.box [(.sl 4 [] false), (.sl 5 [] false)])), (8, (.box (Za ([a0, a1].getD v3.toNat Z12)).cells)), (13, (.map (Z16 Z1r Z3 v41.2))), (45, (.vec 2 (List.map Za [a0, a1]))), (47, (.box [(.map 13), (.map 48), (.bool v41.1)])), (48, (.map (Z16 Zm Z6 v6)))]⟩) ⟨rfl, rfl, rfl, rfl, rfl, rfl, rfl, rfl, rfl, trivial⟩ ⟨rfl, rfl, rfl, rfl, rfl, rfl, trivial⟩ (IH21 _ ((IntKind.i64.wrap (v18 + 1)), v41.1, v41.2) (Nat.lt_succ_self _) h)
      ·have h := hif.2 hc
       refine AWp.exit <| At.thru ?_
       exact Z11 (st' := ⟨[(4, (.ptr 4 0)), (6, (.ptr 47 0)), (8, (.ptr 8 0)), (16, (.vs 45)), (17, (.int .i64 ([a0, a1].length : Int))), (18, (.int .i64 v3))], [(4, (.box [(.sl 4 [] false), (.sl 5 [] false)])), (8, (.box (Za ([a0, a1].getD v3.toNat Z12)).cells)), (13, (.map (Z16 Z1r Z3 v20))), (45, (.vec 2 (List.map Za [a0, a1]))), (47, (.box [(.map 13), (.map 48), (.bool v19)])), (48, (.map (Z16 Zm Z6 v6)))]⟩) ⟨rfl, rfl, rfl, rfl, rfl, rfl, trivial⟩ ⟨rfl, rfl, rfl, rfl, rfl, rfl, trivial⟩ (J21 (v19, v20) h)
   ·have h := hif.2 hc
    refine AWp.exit <| At.thru ?_
    exact Z11 (st' := ⟨[(4, (.ptr 4 0)), (6, (.ptr 47 0))], [(4, (.box [(.sl 4 [] false), (.sl 5 [] false)])), (13, (.map (Z16 Z1r Z3 v5))), (47, (.box [(.map 13), (.map 48), (.bool v4)])), (48, (.map (Z16 Zm Z6 v6)))]⟩) ⟨rfl, rfl, trivial⟩ ⟨rfl, rfl, rfl, rfl, trivial⟩ (J7 (v4, v5, v6) h)
def Z51 (K : Nat) (v4 : Ze) : Option (Ze) :=
 some v4
def Z4f (K : Nat) (b7 : Int → Ze → Option (Ze)) (v1 : Int) (v15 : Ze) : Option (Ze) :=
 b7 (IntKind.i64.wrap (v1 + 1)) v15
def Z6i (K : Nat) (b18 : Int → Ze → Option (Ze)) (v12 : Int) (v33 : Ze) : Option (Ze) :=
 b18 (IntKind.i64.wrap (v12 + 1)) v33
def Z6u (K : Nat) (b36 : Int → Ze → Option (Ze)) (v30 : Int) (v37 : Ze) : Option (Ze) :=
 b36 (IntKind.i64.wrap (v30 + 1)) v37
def Z9p (K : Nat) (v31 : Ze) (b36 : Int → Ze → Option (Ze)) (v30 : Int) (v51 : Zk) : Option (Ze) :=
 (F55 K v31 v51).bind fun v54 =>
  Z6u K b36 v30 v54
def Z3a (K : Nat) (v10 : (List Zh)) (v12 : Int) (a0 : (List Zt)) (v1 : Int) (c35 : Ze → Option (Ze)) : Nat → Int → Ze → Option (Ze)
 | 0, _, _ => none
 | k32 + 1, v30, v31 =>
  if (decide (v30 < (v10.length : Int))) = true then
   if (0 : Int) ≤ v30 ∧ v30 < v10.length then
    if (0 : Int) ≤ v12 ∧ v12 < v10.length then
     if ((v10.getD v30.toNat Z1).Id != (v10.getD v12.toNat Z1).Parent) = true then
      Z6u K (Z3a K v10 v12 a0 v1 c35 k32) v30 v31
     else
      if (0 : Int) ≤ v30 ∧ v30 < v10.length then
       if (0 : Int) ≤ v12 ∧ v12 < v10.length then
        if ((v10.getD v30.toNat Z1).Service == (v10.getD v12.toNat Z1).Service) = true then
         Z6u K (Z3a K v10 v12 a0 v1 c35 k32) v30 v31
        else
         if (0 : Int) ≤ v30 ∧ v30 < v10.length then
          if (0 : Int) ≤ v12 ∧ v12 < v10.length then
           (F54 K v31 (v10.getD v30.toNat Z1).Service (v10.getD v12.toNat Z1).Service).bind fun v46 =>
            if (0 : Int) ≤ v12 ∧ v12 < v10.length then
             (F51 K (v10.getD v12.toNat Z1)).bind fun v49 =>
              if (0 : Int) ≤ v12 ∧ v12 < v10.length then
               if (v10.getD v12.toNat Z1).Error = true then
                Z9p K v31 (Z3a K v10 v12 a0 v1 c35 k32) v30 (⟨v46.Caller, v46.Callee, (IntKind.i64.wrap (v46.Count + (a0.getD v1.toNat Z9).Weight)), (IntKind.i64.wrap (v46.Errors + (a0.getD v1.toNat Z9).Weight)), (IntKind.i64.wrap (v46.Time + (IntKind.i64.wrap ((a0.getD v1.toNat Z9).Weight * v49))))⟩ : Zk)
               else
                Z9p K v31 (Z3a K v10 v12 a0 v1 c35 k32) v30 (⟨v46.Caller, v46.Callee, (IntKind.i64.wrap (v46.Count + (a0.getD v1.toNat Z9).Weight)), v46.Errors, (IntKind.i64.wrap (v46.Time + (IntKind.i64.wrap ((a0.getD v1.toNat Z9).Weight * v49))))⟩ : Zk)
              else none
            else none
          else none
         else none
       else none
      else none
    else none
   else none
  else
   c35 v31
def Z9s (K : Nat) (v13 : Ze) (v10 : (List Zh)) (v12 : Int) (a0 : (List Zt)) (v1 : Int) (b18 : Int → Ze → Option (Ze)) (v26 : Zc) : Option (Ze) :=
 (F53 K v13 v26).bind fun v29 =>
  Z3a K v10 v12 a0 v1 (Z6i K b18 v12) K 0 v29
def Zc4 (K : Nat) (v12 : Int) (v10 : (List Zh)) (v13 : Ze) (a0 : (List Zt)) (v1 : Int) (b18 : Int → Ze → Option (Ze)) (v23 : Zc) : Option (Ze) :=
 if (0 : Int) ≤ v12 ∧ v12 < v10.length then
  if ((v10.getD v12.toNat Z1).Parent == 0) = true then
   Z9s K v13 v10 v12 a0 v1 b18 (⟨v23.Name, v23.Spans, v23.Errors, (IntKind.i64.wrap (v23.Roots + (a0.getD v1.toNat Z9).Weight))⟩ : Zc)
  else
   Z9s K v13 v10 v12 a0 v1 b18 v23
 else none
def Z3o (K : Nat) (v10 : (List Zh)) (a0 : (List Zt)) (v1 : Int) (c17 : Ze → Option (Ze)) : Nat → Int → Ze → Option (Ze)
 | 0, _, _ => none
 | k14 + 1, v12, v13 =>
  if (decide (v12 < (v10.length : Int))) = true then
   if (0 : Int) ≤ v12 ∧ v12 < v10.length then
    (F31 K v13 (v10.getD v12.toNat Z1).Service).bind fun v21 =>
     if (0 : Int) ≤ v12 ∧ v12 < v10.length then
      if (v10.getD v12.toNat Z1).Error = true then
       Zc4 K v12 v10 v13 a0 v1 (Z3o K v10 a0 v1 c17 k14) (⟨v21.Name, (IntKind.i64.wrap (v21.Spans + (a0.getD v1.toNat Z9).Weight)), (IntKind.i64.wrap (v21.Errors + (a0.getD v1.toNat Z9).Weight)), v21.Roots⟩ : Zc)
      else
       Zc4 K v12 v10 v13 a0 v1 (Z3o K v10 a0 v1 c17 k14) (⟨v21.Name, (IntKind.i64.wrap (v21.Spans + (a0.getD v1.toNat Z9).Weight)), v21.Errors, v21.Roots⟩ : Zc)
     else none
   else none
  else
   c17 v13
def Z4i (K : Nat) (a0 : (List Zt)) (c6 : Ze → Option (Ze)) : Nat → Int → Ze → Option (Ze)
 | 0, _, _ => none
 | k3 + 1, v1, v2 =>
  if (decide (v1 < (a0.length : Int))) = true then
   if (0 : Int) ≤ v1 ∧ v1 < a0.length then
    (F47 K (a0.getD v1.toNat Z9).Spans).bind fun v10 =>
     if (0 : Int) ≤ v1 ∧ v1 < a0.length then
      Z3o K v10 a0 v1 (Z4f K (Z4i K a0 c6 k3) v1) K 0 v2
     else none
   else none
  else
   c6 v2
def F20 (K : Nat) (a0 : (List Zt)) : Option (Ze) :=
 Z4i K a0 (Z51 K) K 0 Z12
theorem F20_ok (K : Nat) (a0 : (List Zt)) (r : Ze) (h : F20 K a0 = some r) : ACall P 20 ⟨[(.sl 3 (a0.map Zb) false)], [], (Za r), [], []⟩ := by
 refine Z1v Tryz.func20 Tryz.results20 rfl Tryz.ntmps20 rfl rfl rfl ?_
 intro E Q hP hN hro hret
 obtain ⟨P', nt', w0, F0, p0, S0, β0, ro0⟩ := E
 simp only at hP hN
 subst hP hN
 dsimp only [argT]
 unfold F20 at h
 refine Zl <| Zd <| Z2 I (Z1x (cs := [(.sl 4 [] false), (.sl 5 [] false)]) I z44 I I I) I <| Zi <| Zj <| Zl <| Zd <| Z2 I (Z1x (cs := [(.sl 4 [] false), (.sl 5 [] false)]) I z44 I I I) I ?_
 refine Zi <| Zj <| Zl <| Zl <| Zd <| Z2 I (Zq (v := (.int .i64 0)) I I) I <| Zi <| Zj ?_
 refine AWp.weaken (st' := ⟨[(0, (.sl 3 (a0.map Zb) false)), (2, (.ptr 2 0)), (3, (.ptr 3 0)), (4, (.int .i64 0))], [(2, (.box [(.sl 4 [] false), (.sl 5 [] false)])), (3, (.box (Za Z12).cells))]⟩) ⟨rfl, rfl, rfl, rfl, trivial⟩ ⟨rfl, rfl, trivial⟩ ?_
 refine Z1l (V := Int × Ze) (X := Ze) (lp := fun k v => Z4i K a0 (Z51 K) k v.1 v.2 = some r) (sh := fun v => ⟨[(0, (.sl 3 (a0.map Zb) false)), (2, (.ptr 2 0)), (3, (.ptr 3 0)), (4, (.int .i64 v.1))], [(2, (.box [(.sl 4 [] false), (.sl 5 [] false)])), (3, (.box (Za v.2).cells))]⟩) (x := fun v => Z51 K v = some r) (shx := fun v => ⟨[(2, (.ptr 2 0)), (3, (.ptr 3 0))], [(2, (.box [(.sl 4 [] false), (.sl 5 [] false)])), (3, (.box (Za v).cells))]⟩) (k := K) (v := (0, Z12)) h ?_ ?_
 ·intro v h
  revert h
  revert v
  intro v4 h
  try dsimp only at h ⊢
  unfold Z51 at h
  refine Zj <| Zl <| Zd <| Z2 I (Z1k (cs := (Za v4).cells) (vs := (Za v4).cells) I a44 I I I I) I <| Z2 I (Z1a (cs := [(.sl 4 [] false), (.sl 5 [] false)]) (vs := (Za v4).cells) (ds := (Za v4).cells) (v := (Za v4)) sz44 I I I I I I I I) I <| Zi <| Zj <| Z1g ?_
  have h := Option.some.inj h
  subst h
  refine (hret _ ?_).1
  exact ⟨[(Za v4)], ⟨⟨2, _, rfl, rfl, .inr ⟨_, a44, rfl, rfl⟩⟩, trivial⟩, rfl, trivial⟩
 ·intro N k3 v h IH3 J3
  obtain ⟨v1, v2⟩ := v
  try dsimp only at h IH3 J3 ⊢
  cases k3 with
  | zero => cases h
  | succ k3 =>
   rw [Z4i] at h
   refine Zl <| Zl <| Zd <| Z2 I (Zn (v := (.int .i64 v1)) I I) I <| Z2 I (Zn (v := (.sl 3 (a0.map Zb) false)) I I) I <| Z2 I (Z23 (l := a0) (enc := Zb) I s31 I) I <| Z2 I (Z1y (k := .i64) (a := v1) (b := (a0.length : Int)) (c := (decide (v1 < (a0.length : Int)))) I I I I) I <| Zi ?_
   refine Zj ?_
   have hif := Z21 h
   refine Z18 I (fun hc => ?_) (fun hc => ?_)
   ·have h := hif.1 hc
    refine Z1b <| Zj <| Zl <| AWp.block <| Zl <| Zd <| Z2 I (Zn (v := (.sl 3 (a0.map Zb) false)) I I) I <| Z2 I (Zn (v := (.int .i64 v1)) I I) I ?_
    have ⟨hg8, h⟩ := Z14 h
    refine Z2 I (Z1s (k := .i64) (l := a0) (enc := Zb) (z := Z9) (n := v1) (cs := (Zb (a0.getD v1.toNat Z9)).cells) (full := false) I s31 I I hg8 I) I <| Z2 I (Z2d (cs := (Zb (a0.getD v1.toNat Z9)).cells) (ds := [(.sl 14 ((a0.getD v1.toNat Z9).Spans.map Z5) false)]) I f39_2 I I I) I <| Z2 I (Z24 (cs := [(.sl 14 ((a0.getD v1.toNat Z9).Spans.map Z5) false)]) (v := (.sl 14 ((a0.getD v1.toNat Z9).Spans.map Z5) false)) I o37 I I) I ?_
    have ⟨v10, hv10, h⟩ := Z1c h
    refine Z2 I (Z1e (ar := [(.sl 14 ((a0.getD v1.toNat Z9).Spans.map Z5) false)]) (caps := []) Tryz.call47 (F47_ok K (a0.getD v1.toNat Z9).Spans v10 hv10) I I ⟨rfl, trivial⟩ I) I <| Z2 I (Zq (v := (.sl 14 (v10.map Z5) false)) I I) I <| Zi <| Zj <| Zl <| Zd <| Z2 I (Zn (v := (.sl 3 (a0.map Zb) false)) I I) I <| Z2 I (Zn (v := (.int .i64 v1)) I I) I ?_
    have ⟨hg11, h⟩ := Z14 h
    refine Z2 I (Z1s (k := .i64) (l := a0) (enc := Zb) (z := Z9) (n := v1) (cs := (Zb (a0.getD v1.toNat Z9)).cells) (full := false) I s31 I I hg11 I) I <| Z2 I (Z2d (cs := (Zb (a0.getD v1.toNat Z9)).cells) (ds := [(.int .i64 (a0.getD v1.toNat Z9).Weight), (.sl 14 ((a0.getD v1.toNat Z9).Spans.map Z5) false)]) I f39_1 I I I) I <| Z2 I (Z24 (cs := [(.int .i64 (a0.getD v1.toNat Z9).Weight), (.sl 14 ((a0.getD v1.toNat Z9).Spans.map Z5) false)]) (v := (.int .i64 (a0.getD v1.toNat Z9).Weight)) I o3 I I) I <| Z2 I (Zq (v := (.int .i64 (a0.getD v1.toNat Z9).Weight)) I I) I <| Zi <| Zj <| Zl <| Zd ?_
    refine Z2 I (Zq (v := (.int .i64 0)) I I) I <| Zi <| Zj <| AWp.weaken (st' := ⟨[(0, (.sl 3 (a0.map Zb) false)), (2, (.ptr 2 0)), (3, (.ptr 3 0)), (4, (.int .i64 v1)), (5, (.sl 14 (v10.map Z5) false)), (6, (.int .i64 (a0.getD v1.toNat Z9).Weight)), (7, (.int .i64 0))], [(2, (.box [(.sl 4 [] false), (.sl 5 [] false)])), (3, (.box (Za v2).cells))]⟩) ⟨rfl, rfl, rfl, rfl, rfl, rfl, rfl, trivial⟩ ⟨rfl, rfl, trivial⟩ ?_
    refine Z1l (V := Int × Ze) (X := Ze) (lp := fun k v => Z3o K v10 a0 v1 (Z4f K (Z4i K a0 (Z51 K) k3) v1) k v.1 v.2 = some r) (sh := fun v => ⟨[(0, (.sl 3 (a0.map Zb) false)), (2, (.ptr 2 0)), (3, (.ptr 3 0)), (4, (.int .i64 v1)), (5, (.sl 14 (v10.map Z5) false)), (6, (.int .i64 (a0.getD v1.toNat Z9).Weight)), (7, (.int .i64 v.1))], [(2, (.box [(.sl 4 [] false), (.sl 5 [] false)])), (3, (.box (Za v.2).cells))]⟩) (x := fun v => Z4f K (Z4i K a0 (Z51 K) k3) v1 v = some r) (shx := fun v => ⟨[(0, (.sl 3 (a0.map Zb) false)), (2, (.ptr 2 0)), (3, (.ptr 3 0)), (4, (.int .i64 v1))], [(2, (.box [(.sl 4 [] false), (.sl 5 [] false)])), (3, (.box (Za v).cells))]⟩) (k := K) (v := (0, v2)) h ?_ ?_
    ·intro v h
     revert h
     revert v
     intro v15 h
     try dsimp only at h ⊢
     unfold Z4f at h
     refine At.end <| Zj <| Zd <| Z2 I (Zn (v := (.int .i64 v1)) I I) I <| Z2 I (Z1m (k := .i64) (a := v1) (b := 1) (c := (IntKind.i64.wrap (v1 + 1))) I I I I) I <| Z2 I (Zq (v := (.int .i64 (IntKind.i64.wrap (v1 + 1)))) I I) I <| Zi ?_
     exact Z11 (st' := ⟨[(0, (.sl 3 (a0.map Zb) false)), (2, (.ptr 2 0)), (3, (.ptr 3 0)), (4, (.int .i64 (IntKind.i64.wrap (v1 + 1))))], [(2, (.box [(.sl 4 [] false), (.sl 5 [] false)])), (3, (.box (Za v15).cells))]⟩) ⟨rfl, rfl, rfl, rfl, trivial⟩ ⟨rfl, rfl, trivial⟩ (IH3 _ ((IntKind.i64.wrap (v1 + 1)), v15) (Nat.lt_succ_self _) h)
    ·intro N k14 v h IH14 J14
     obtain ⟨v12, v13⟩ := v
     try dsimp only at h IH14 J14 ⊢
     cases k14 with
     | zero => cases h
     | succ k14 =>
      rw [Z3o] at h
      refine Zl <| Zl <| Zd <| Z2 I (Zn (v := (.int .i64 v12)) I I) I <| Z2 I (Zn (v := (.sl 14 (v10.map Z5) false)) I I) I <| Z2 I (Z23 (l := v10) (enc := Z5) I s37 I) I <| Z2 I (Z1y (k := .i64) (a := v12) (b := (v10.length : Int)) (c := (decide (v12 < (v10.length : Int)))) I I I I) I <| Zi ?_
      refine Zj ?_
      have hif := Z21 h
      refine Z18 I (fun hc => ?_) (fun hc => ?_)
      ·have h := hif.1 hc
       refine Z1b <| Zj <| Zl <| AWp.block <| Zl <| Z1u mixed <| Z8 0 I (Z1k (cs := (Za v13).cells) (vs := (Za v13).cells) I a44 I I I I) <| Z8 1 I (Zn (v := (.sl 14 (v10.map Z5) false)) I I) ?_
       refine Z8 2 I (Zn (v := (.int .i64 v12)) I I) ?_
       have ⟨hg19, h⟩ := Z14 h
       refine Z8 3 I (Z1s (k := .i64) (l := v10) (enc := Z5) (z := Z1) (n := v12) (cs := (Z5 (v10.getD v12.toNat Z1)).cells) (full := false) I s37 I I hg19 I) <| Z8 4 I (Z2d (cs := (Z5 (v10.getD v12.toNat Z1)).cells) (ds := [(.str (v10.getD v12.toNat Z1).Service), (.str (v10.getD v12.toNat Z1).Version), (.str (v10.getD v12.toNat Z1).Operation), (.int .i64 (v10.getD v12.toNat Z1).Start), (.int .i64 (v10.getD v12.toNat Z1).End), (.bool (v10.getD v12.toNat Z1).Error), (.sl 4 ((v10.getD v12.toNat Z1).Attrs.map Zv) false), (.sl 2 ((v10.getD v12.toNat Z1).Links.map Z10) false)]) I Z67 I I I) <| Z8 5 I (Z24 (cs := [(.str (v10.getD v12.toNat Z1).Service), (.str (v10.getD v12.toNat Z1).Version), (.str (v10.getD v12.toNat Z1).Operation), (.int .i64 (v10.getD v12.toNat Z1).Start), (.int .i64 (v10.getD v12.toNat Z1).End), (.bool (v10.getD v12.toNat Z1).Error), (.sl 4 ((v10.getD v12.toNat Z1).Attrs.map Zv) false), (.sl 2 ((v10.getD v12.toNat Z1).Links.map Z10) false)]) (v := (.str (v10.getD v12.toNat Z1).Service)) I o9 I I) ?_
       have ⟨v21, hv21, h⟩ := Z1c h
       refine Z8 6 I (Z1e (ar := [(Za v13), (.str (v10.getD v12.toNat Z1).Service)]) (caps := []) Tryz.call31 (F31_ok K v13 (v10.getD v12.toNat Z1).Service v21 hv21) I I ⟨rfl, rfl, trivial⟩ I) <| Z8 7 I (Z1x (cs := [(.str []), (.int .i64 0), (.int .i64 0), (.int .i64 0)]) I z68 I I I) <| Z8 8 I (Z1a (cs := [(.str []), (.int .i64 0), (.int .i64 0), (.int .i64 0)]) (vs := (Z3 v21).cells) (ds := (Z3 v21).cells) (v := (Z3 v21)) sz68 I I I I I I I I) <| Z1q (by kernel_rfl) I <| Zj <| Zl <| Zd <| Z2 I (Zu (m := 8) (o := 0) I f68_1 I I) I ?_
       refine Z2 I (Zz (cs := (Z3 v21).cells) (v := (.int .i64 v21.Spans)) I o3 I I I) I <| Z2 I (Zn (v := (.int .i64 (a0.getD v1.toNat Z9).Weight)) I I) I <| Z2 I (Z1m (k := .i64) (a := v21.Spans) (b := (a0.getD v1.toNat Z9).Weight) (c := (IntKind.i64.wrap (v21.Spans + (a0.getD v1.toNat Z9).Weight))) I I I I) I <| Z2 I (Zu (m := 8) (o := 0) I f68_1 I I) I <| Z2 I (Z1a (cs := (Z3 v21).cells) (vs := [(.int .i64 (IntKind.i64.wrap (v21.Spans + (a0.getD v1.toNat Z9).Weight)))]) (ds := [(.str v21.Name), (.int .i64 (IntKind.i64.wrap (v21.Spans + (a0.getD v1.toNat Z9).Weight))), (.int .i64 v21.Errors), (.int .i64 v21.Roots)]) (v := (.int .i64 (IntKind.i64.wrap (v21.Spans + (a0.getD v1.toNat Z9).Weight)))) sz3 I I I I I I I I) I <| Zi <| Zj <| Zl ?_
       refine Zl <| Zd <| Z2 I (Zn (v := (.sl 14 (v10.map Z5) false)) I I) I <| Z2 I (Zn (v := (.int .i64 v12)) I I) I ?_
       have ⟨hg22, h⟩ := Z14 h
       refine Z2 I (Z1s (k := .i64) (l := v10) (enc := Z5) (z := Z1) (n := v12) (cs := (Z5 (v10.getD v12.toNat Z1)).cells) (full := false) I s37 I I hg22 I) I <| Z2 I (Z2d (cs := (Z5 (v10.getD v12.toNat Z1)).cells) (ds := [(.bool (v10.getD v12.toNat Z1).Error), (.sl 4 ((v10.getD v12.toNat Z1).Attrs.map Zv) false), (.sl 2 ((v10.getD v12.toNat Z1).Links.map Z10) false)]) I Z9x I I I) I <| Z2 I (Z24 (cs := [(.bool (v10.getD v12.toNat Z1).Error), (.sl 4 ((v10.getD v12.toNat Z1).Attrs.map Zv) false), (.sl 2 ((v10.getD v12.toNat Z1).Links.map Z10) false)]) (v := (.bool (v10.getD v12.toNat Z1).Error)) I o4 I I) I <| Zi <| Zj ?_
       refine AWp.join (V := Zc) (lp := fun v => Zc4 K v12 v10 v13 a0 v1 (Z3o K v10 a0 v1 (Z4f K (Z4i K a0 (Z51 K) k3) v1) k14) v = some r) (sh := fun v => ⟨[(0, (.sl 3 (a0.map Zb) false)), (2, (.ptr 2 0)), (3, (.ptr 3 0)), (4, (.int .i64 v1)), (5, (.sl 14 (v10.map Z5) false)), (6, (.int .i64 (a0.getD v1.toNat Z9).Weight)), (7, (.int .i64 v12)), (8, (.ptr 8 0))], [(2, (.box [(.sl 4 [] false), (.sl 5 [] false)])), (3, (.box (Za v13).cells)), (8, (.box (Z3 v).cells))]⟩) ?_ ?_
       ·intro v h
        revert h
        revert v
        intro v23 h
        try dsimp only at h ⊢
        unfold Zc4 at h
        refine Zj <| Zl <| Zl <| Zd <| Z2 I (Zn (v := (.sl 14 (v10.map Z5) false)) I I) I <| Z2 I (Zn (v := (.int .i64 v12)) I I) I ?_
        have ⟨hg25, h⟩ := Z14 h
        refine Z2 I (Z1s (k := .i64) (l := v10) (enc := Z5) (z := Z1) (n := v12) (cs := (Z5 (v10.getD v12.toNat Z1)).cells) (full := false) I s37 I I hg25 I) I <| Z2 I (Z2d (cs := (Z5 (v10.getD v12.toNat Z1)).cells) (ds := [(.int .i64 (v10.getD v12.toNat Z1).Parent), (.int .i64 (v10.getD v12.toNat Z1).Revision), (.int .i64 (v10.getD v12.toNat Z1).Clock), (.int .i64 (v10.getD v12.toNat Z1).Kind), (.str (v10.getD v12.toNat Z1).Service), (.str (v10.getD v12.toNat Z1).Version), (.str (v10.getD v12.toNat Z1).Operation), (.int .i64 (v10.getD v12.toNat Z1).Start), (.int .i64 (v10.getD v12.toNat Z1).End), (.bool (v10.getD v12.toNat Z1).Error), (.sl 4 ((v10.getD v12.toNat Z1).Attrs.map Zv) false), (.sl 2 ((v10.getD v12.toNat Z1).Links.map Z10) false)]) I Zci I I I) I <| Z2 I (Z24 (cs := [(.int .i64 (v10.getD v12.toNat Z1).Parent), (.int .i64 (v10.getD v12.toNat Z1).Revision), (.int .i64 (v10.getD v12.toNat Z1).Clock), (.int .i64 (v10.getD v12.toNat Z1).Kind), (.str (v10.getD v12.toNat Z1).Service), (.str (v10.getD v12.toNat Z1).Version), (.str (v10.getD v12.toNat Z1).Operation), (.int .i64 (v10.getD v12.toNat Z1).Start), (.int .i64 (v10.getD v12.toNat Z1).End), (.bool (v10.getD v12.toNat Z1).Error), (.sl 4 ((v10.getD v12.toNat Z1).Attrs.map Zv) false), (.sl 2 ((v10.getD v12.toNat Z1).Links.map Z10) false)]) (v := (.int .i64 (v10.getD v12.toNat Z1).Parent)) I o3 I I) I <| Z2 I (Z1y (k := .i64) (a := (v10.getD v12.toNat Z1).Parent) (b := 0) (c := ((v10.getD v12.toNat Z1).Parent == 0)) I I I I) I <| Zi <| Zj ?_
        refine AWp.join (V := Zc) (lp := fun v => Z9s K v13 v10 v12 a0 v1 (Z3o K v10 a0 v1 (Z4f K (Z4i K a0 (Z51 K) k3) v1) k14) v = some r) (sh := fun v => ⟨[(0, (.sl 3 (a0.map Zb) false)), (2, (.ptr 2 0)), (3, (.ptr 3 0)), (4, (.int .i64 v1)), (5, (.sl 14 (v10.map Z5) false)), (6, (.int .i64 (a0.getD v1.toNat Z9).Weight)), (7, (.int .i64 v12)), (8, (.ptr 8 0))], [(2, (.box [(.sl 4 [] false), (.sl 5 [] false)])), (3, (.box (Za v13).cells)), (8, (.box (Z3 v).cells))]⟩) ?_ ?_
        ·intro v h
         revert h
         revert v
         intro v26 h
         try dsimp only at h ⊢
         unfold Z9s at h
         refine Zj <| Zl <| Zd <| Z2 I (Z1k (cs := (Za v13).cells) (vs := (Za v13).cells) I a44 I I I I) I <| Z2 I (Z1k (cs := (Z3 v26).cells) (vs := (Z3 v26).cells) I a68 I I I I) I ?_
         have ⟨v29, hv29, h⟩ := Z1c h
         refine Z2 I (Z1e (ar := [(Za v13), (Z3 v26)]) (caps := []) Tryz.call53 (F53_ok K v13 v26 v29 hv29) I I ⟨rfl, rfl, trivial⟩ I) I <| Z2 I (Z1a (cs := (Za v13).cells) (vs := (Za v29).cells) (ds := (Za v29).cells) (v := (Za v29)) sz44 I I I I I I I I) I <| Zi <| Zj <| Zl <| Zd <| Z2 I (Zq (v := (.int .i64 0)) I I) I <| Zi ?_
         refine Zj <| AWp.weaken (st' := ⟨[(0, (.sl 3 (a0.map Zb) false)), (2, (.ptr 2 0)), (3, (.ptr 3 0)), (4, (.int .i64 v1)), (5, (.sl 14 (v10.map Z5) false)), (6, (.int .i64 (a0.getD v1.toNat Z9).Weight)), (7, (.int .i64 v12)), (9, (.int .i64 0))], [(2, (.box [(.sl 4 [] false), (.sl 5 [] false)])), (3, (.box (Za v29).cells))]⟩) ⟨rfl, rfl, rfl, rfl, rfl, rfl, rfl, rfl, trivial⟩ ⟨rfl, rfl, trivial⟩ ?_
         refine Z1l (V := Int × Ze) (X := Ze) (lp := fun k v => Z3a K v10 v12 a0 v1 (Z6i K (Z3o K v10 a0 v1 (Z4f K (Z4i K a0 (Z51 K) k3) v1) k14) v12) k v.1 v.2 = some r) (sh := fun v => ⟨[(0, (.sl 3 (a0.map Zb) false)), (2, (.ptr 2 0)), (3, (.ptr 3 0)), (4, (.int .i64 v1)), (5, (.sl 14 (v10.map Z5) false)), (6, (.int .i64 (a0.getD v1.toNat Z9).Weight)), (7, (.int .i64 v12)), (9, (.int .i64 v.1))], [(2, (.box [(.sl 4 [] false), (.sl 5 [] false)])), (3, (.box (Za v.2).cells))]⟩) (x := fun v => Z6i K (Z3o K v10 a0 v1 (Z4f K (Z4i K a0 (Z51 K) k3) v1) k14) v12 v = some r) (shx := fun v => ⟨[(0, (.sl 3 (a0.map Zb) false)), (2, (.ptr 2 0)), (3, (.ptr 3 0)), (4, (.int .i64 v1)), (5, (.sl 14 (v10.map Z5) false)), (6, (.int .i64 (a0.getD v1.toNat Z9).Weight)), (7, (.int .i64 v12))], [(2, (.box [(.sl 4 [] false), (.sl 5 [] false)])), (3, (.box (Za v).cells))]⟩) (k := K) (v := (0, v29)) h ?_ ?_
         ·intro v h
          revert h
          revert v
          intro v33 h
          try dsimp only at h ⊢
          unfold Z6i at h
          refine At.end <| Zj <| Zd <| Z2 I (Zn (v := (.int .i64 v12)) I I) I <| Z2 I (Z1m (k := .i64) (a := v12) (b := 1) (c := (IntKind.i64.wrap (v12 + 1))) I I I I) I <| Z2 I (Zq (v := (.int .i64 (IntKind.i64.wrap (v12 + 1)))) I I) I <| Zi ?_
          exact Z11 (st' := ⟨[(0, (.sl 3 (a0.map Zb) false)), (2, (.ptr 2 0)), (3, (.ptr 3 0)), (4, (.int .i64 v1)), (5, (.sl 14 (v10.map Z5) false)), (6, (.int .i64 (a0.getD v1.toNat Z9).Weight)), (7, (.int .i64 (IntKind.i64.wrap (v12 + 1))))], [(2, (.box [(.sl 4 [] false), (.sl 5 [] false)])), (3, (.box (Za v33).cells))]⟩) ⟨rfl, rfl, rfl, rfl, rfl, rfl, rfl, trivial⟩ ⟨rfl, rfl, trivial⟩ (IH14 _ ((IntKind.i64.wrap (v12 + 1)), v33) (Nat.lt_succ_self _) h)
         ·intro N k32 v h IH32 J32
          obtain ⟨v30, v31⟩ := v
          try dsimp only at h IH32 J32 ⊢
          cases k32 with
          | zero => cases h
          | succ k32 =>
           rw [Z3a] at h
           refine Zl <| Zl <| Zd <| Z2 I (Zn (v := (.int .i64 v30)) I I) I <| Z2 I (Zn (v := (.sl 14 (v10.map Z5) false)) I I) I <| Z2 I (Z23 (l := v10) (enc := Z5) I s37 I) I <| Z2 I (Z1y (k := .i64) (a := v30) (b := (v10.length : Int)) (c := (decide (v30 < (v10.length : Int)))) I I I I) I <| Zi ?_
           refine Zj ?_
           have hif := Z21 h
           refine Z18 I (fun hc => ?_) (fun hc => ?_)
           ·have h := hif.1 hc
            refine Z1b <| Zj <| Zl ?_
            refine AWp.blockJoin (V := Ze) (lp := fun v => Z6u K (Z3a K v10 v12 a0 v1 (Z6i K (Z3o K v10 a0 v1 (Z4f K (Z4i K a0 (Z51 K) k3) v1) k14) v12) k32) v30 v = some r) (sh := fun v => ⟨[(0, (.sl 3 (a0.map Zb) false)), (2, (.ptr 2 0)), (3, (.ptr 3 0)), (4, (.int .i64 v1)), (5, (.sl 14 (v10.map Z5) false)), (6, (.int .i64 (a0.getD v1.toNat Z9).Weight)), (7, (.int .i64 v12)), (9, (.int .i64 v30))], [(2, (.box [(.sl 4 [] false), (.sl 5 [] false)])), (3, (.box (Za v).cells))]⟩) ?_ ?_
            ·intro v h
             revert h
             revert v
             intro v37 h
             try dsimp only at h ⊢
             unfold Z6u at h
             refine Zj <| Zd <| Z2 I (Zn (v := (.int .i64 v30)) I I) I <| Z2 I (Z1m (k := .i64) (a := v30) (b := 1) (c := (IntKind.i64.wrap (v30 + 1))) I I I I) I <| Z2 I (Zq (v := (.int .i64 (IntKind.i64.wrap (v30 + 1)))) I I) I <| Zi ?_
             exact Z11 (st' := ⟨[(0, (.sl 3 (a0.map Zb) false)), (2, (.ptr 2 0)), (3, (.ptr 3 0)), (4, (.int .i64 v1)), (5, (.sl 14 (v10.map Z5) false)), (6, (.int .i64 (a0.getD v1.toNat Z9).Weight)), (7, (.int .i64 v12)), (9, (.int .i64 (IntKind.i64.wrap (v30 + 1))))], [(2, (.box [(.sl 4 [] false), (.sl 5 [] false)])), (3, (.box (Za v37).cells))]⟩) ⟨rfl, rfl, rfl, rfl, rfl, rfl, rfl, rfl, trivial⟩ ⟨rfl, rfl, trivial⟩ (IH32 _ ((IntKind.i64.wrap (v30 + 1)), v37) (Nat.lt_succ_self _) h)
            ·intro J38
             refine Zl <| Zl <| Z1u mixed <| Z8 0 I (Zn (v := (.sl 14 (v10.map Z5) false)) I I) <| Z8 1 I (Zn (v := (.int .i64 v30)) I I) ?_
             have ⟨hg39, h⟩ := Z14 h
             refine Z8 2 I (Z1s (k := .i64) (l := v10) (enc := Z5) (z := Z1) (n := v30) (cs := (Z5 (v10.getD v30.toNat Z1)).cells) (full := false) I s37 I I hg39 I) <| Z8 3 I (Z2d (cs := (Z5 (v10.getD v30.toNat Z1)).cells) (ds := [(.int .i64 (v10.getD v30.toNat Z1).Id), (.int .i64 (v10.getD v30.toNat Z1).Parent), (.int .i64 (v10.getD v30.toNat Z1).Revision), (.int .i64 (v10.getD v30.toNat Z1).Clock), (.int .i64 (v10.getD v30.toNat Z1).Kind), (.str (v10.getD v30.toNat Z1).Service), (.str (v10.getD v30.toNat Z1).Version), (.str (v10.getD v30.toNat Z1).Operation), (.int .i64 (v10.getD v30.toNat Z1).Start), (.int .i64 (v10.getD v30.toNat Z1).End), (.bool (v10.getD v30.toNat Z1).Error), (.sl 4 ((v10.getD v30.toNat Z1).Attrs.map Zv) false), (.sl 2 ((v10.getD v30.toNat Z1).Links.map Z10) false)]) I f56_1 I I I) <| Z8 4 I (Z24 (cs := [(.int .i64 (v10.getD v30.toNat Z1).Id), (.int .i64 (v10.getD v30.toNat Z1).Parent), (.int .i64 (v10.getD v30.toNat Z1).Revision), (.int .i64 (v10.getD v30.toNat Z1).Clock), (.int .i64 (v10.getD v30.toNat Z1).Kind), (.str (v10.getD v30.toNat Z1).Service), (.str (v10.getD v30.toNat Z1).Version), (.str (v10.getD v30.toNat Z1).Operation), (.int .i64 (v10.getD v30.toNat Z1).Start), (.int .i64 (v10.getD v30.toNat Z1).End), (.bool (v10.getD v30.toNat Z1).Error), (.sl 4 ((v10.getD v30.toNat Z1).Attrs.map Zv) false), (.sl 2 ((v10.getD v30.toNat Z1).Links.map Z10) false)]) (v := (.int .i64 (v10.getD v30.toNat Z1).Id)) I o3 I I) <| Z8 5 I (Zn (v := (.sl 14 (v10.map Z5) false)) I I) <| Z8 6 I (Zn (v := (.int .i64 v12)) I I) ?_
             have ⟨hg40, h⟩ := Z14 h
             refine Z8 7 I (Z1s (k := .i64) (l := v10) (enc := Z5) (z := Z1) (n := v12) (cs := (Z5 (v10.getD v12.toNat Z1)).cells) (full := false) I s37 I I hg40 I) <| Z8 8 I (Z2d (cs := (Z5 (v10.getD v12.toNat Z1)).cells) (ds := [(.int .i64 (v10.getD v12.toNat Z1).Parent), (.int .i64 (v10.getD v12.toNat Z1).Revision), (.int .i64 (v10.getD v12.toNat Z1).Clock), (.int .i64 (v10.getD v12.toNat Z1).Kind), (.str (v10.getD v12.toNat Z1).Service), (.str (v10.getD v12.toNat Z1).Version), (.str (v10.getD v12.toNat Z1).Operation), (.int .i64 (v10.getD v12.toNat Z1).Start), (.int .i64 (v10.getD v12.toNat Z1).End), (.bool (v10.getD v12.toNat Z1).Error), (.sl 4 ((v10.getD v12.toNat Z1).Attrs.map Zv) false), (.sl 2 ((v10.getD v12.toNat Z1).Links.map Z10) false)]) I Zci I I I) <| Z8 9 I (Z24 (cs := [(.int .i64 (v10.getD v12.toNat Z1).Parent), (.int .i64 (v10.getD v12.toNat Z1).Revision), (.int .i64 (v10.getD v12.toNat Z1).Clock), (.int .i64 (v10.getD v12.toNat Z1).Kind), (.str (v10.getD v12.toNat Z1).Service), (.str (v10.getD v12.toNat Z1).Version), (.str (v10.getD v12.toNat Z1).Operation), (.int .i64 (v10.getD v12.toNat Z1).Start), (.int .i64 (v10.getD v12.toNat Z1).End), (.bool (v10.getD v12.toNat Z1).Error), (.sl 4 ((v10.getD v12.toNat Z1).Attrs.map Zv) false), (.sl 2 ((v10.getD v12.toNat Z1).Links.map Z10) false)]) (v := (.int .i64 (v10.getD v12.toNat Z1).Parent)) I o3 I I) <| Z8 10 I (Z1y (k := .i64) (a := (v10.getD v30.toNat Z1).Id) (b := (v10.getD v12.toNat Z1).Parent) (c := ((v10.getD v30.toNat Z1).Id != (v10.getD v12.toNat Z1).Parent)) I I I I) <| Z8 11 I (Zn (v := (.bool ((v10.getD v30.toNat Z1).Id != (v10.getD v12.toNat Z1).Parent))) I I) ?_
             have hif := Z21 h
             refine AOpsD.split (fun hc => ?_) (fun hc => ?_)
             ·have h := hif.1 hc
              refine Zr 12 I I I I I I I <| Zr 13 I I I I I I I <| Zr 14 I I I I I I I <| Zr 15 I I I I I I I <| Zr 16 I I I I I I I <| Zr 17 I I I I I I I <| Zr 18 I I I I I I I <| Zr 19 I I I I I I I ?_
              refine Zr 20 I I I I I I I <| Zr 21 I I I I I I I <| Zr 22 I I I I I I I <| Z8 23 I (Z2f (v := (.bool true)) I I I) <| Z1q (by kernel_rfl) I <| Zj ?_
              refine Z18 (b := true) I (fun hc => ?_) (fun hc => ?_)
              rotate_left
              ·cases hc
              refine AWp.exit <| At.thru <| At.out ?_
              exact Z11 (st' := ⟨[(0, (.sl 3 (a0.map Zb) false)), (2, (.ptr 2 0)), (3, (.ptr 3 0)), (4, (.int .i64 v1)), (5, (.sl 14 (v10.map Z5) false)), (6, (.int .i64 (a0.getD v1.toNat Z9).Weight)), (7, (.int .i64 v12)), (9, (.int .i64 v30))], [(2, (.box [(.sl 4 [] false), (.sl 5 [] false)])), (3, (.box (Za v31).cells))]⟩) ⟨rfl, rfl, rfl, rfl, rfl, rfl, rfl, rfl, trivial⟩ ⟨rfl, rfl, trivial⟩ (J38 v31 h)
             ·have h := hif.2 hc
              refine Zx 12 I I I I (Zn (v := (.sl 14 (v10.map Z5) false)) I I) <| Zx 13 I I I I (Zn (v := (.int .i64 v30)) I I) ?_
              have ⟨hg41, h⟩ := Z14 h
              refine Zx 14 I I I I (Z1s (k := .i64) (l := v10) (enc := Z5) (z := Z1) (n := v30) (cs := (Z5 (v10.getD v30.toNat Z1)).cells) (full := false) I s37 I I hg41 I) <| Zx 15 I I I I (Z2d (cs := (Z5 (v10.getD v30.toNat Z1)).cells) (ds := [(.str (v10.getD v30.toNat Z1).Service), (.str (v10.getD v30.toNat Z1).Version), (.str (v10.getD v30.toNat Z1).Operation), (.int .i64 (v10.getD v30.toNat Z1).Start), (.int .i64 (v10.getD v30.toNat Z1).End), (.bool (v10.getD v30.toNat Z1).Error), (.sl 4 ((v10.getD v30.toNat Z1).Attrs.map Zv) false), (.sl 2 ((v10.getD v30.toNat Z1).Links.map Z10) false)]) I Z67 I I I) <| Zx 16 I I I I (Z24 (cs := [(.str (v10.getD v30.toNat Z1).Service), (.str (v10.getD v30.toNat Z1).Version), (.str (v10.getD v30.toNat Z1).Operation), (.int .i64 (v10.getD v30.toNat Z1).Start), (.int .i64 (v10.getD v30.toNat Z1).End), (.bool (v10.getD v30.toNat Z1).Error), (.sl 4 ((v10.getD v30.toNat Z1).Attrs.map Zv) false), (.sl 2 ((v10.getD v30.toNat Z1).Links.map Z10) false)]) (v := (.str (v10.getD v30.toNat Z1).Service)) I o9 I I) <| Zx 17 I I I I (Zn (v := (.sl 14 (v10.map Z5) false)) I I) <| Zx 18 I I I I (Zn (v := (.int .i64 v12)) I I) ?_
              have ⟨hg42, h⟩ := Z14 h
              refine Zx 19 I I I I (Z1s (k := .i64) (l := v10) (enc := Z5) (z := Z1) (n := v12) (cs := (Z5 (v10.getD v12.toNat Z1)).cells) (full := false) I s37 I I hg42 I) <| Zx 20 I I I I (Z2d (cs := (Z5 (v10.getD v12.toNat Z1)).cells) (ds := [(.str (v10.getD v12.toNat Z1).Service), (.str (v10.getD v12.toNat Z1).Version), (.str (v10.getD v12.toNat Z1).Operation), (.int .i64 (v10.getD v12.toNat Z1).Start), (.int .i64 (v10.getD v12.toNat Z1).End), (.bool (v10.getD v12.toNat Z1).Error), (.sl 4 ((v10.getD v12.toNat Z1).Attrs.map Zv) false), (.sl 2 ((v10.getD v12.toNat Z1).Links.map Z10) false)]) I Z67 I I I) <| Zx 21 I I I I (Z24 (cs := [(.str (v10.getD v12.toNat Z1).Service), (.str (v10.getD v12.toNat Z1).Version), (.str (v10.getD v12.toNat Z1).Operation), (.int .i64 (v10.getD v12.toNat Z1).Start), (.int .i64 (v10.getD v12.toNat Z1).End), (.bool (v10.getD v12.toNat Z1).Error), (.sl 4 ((v10.getD v12.toNat Z1).Attrs.map Zv) false), (.sl 2 ((v10.getD v12.toNat Z1).Links.map Z10) false)]) (v := (.str (v10.getD v12.toNat Z1).Service)) I o9 I I) <| Zx 22 I I I I (Z3n (a := (v10.getD v30.toNat Z1).Service) (b := (v10.getD v12.toNat Z1).Service) (c := ((v10.getD v30.toNat Z1).Service == (v10.getD v12.toNat Z1).Service)) I I I I) <| Z8 23 I (Z20 (v := (.bool ((v10.getD v30.toNat Z1).Service == (v10.getD v12.toNat Z1).Service))) I I I) <| Z1q (by kernel_rfl) I <| Zj ?_
              have hif := Z21 h
              refine Z18 I (fun hc => ?_) (fun hc => ?_)
              ·have h := hif.1 hc
               refine AWp.exit <| At.thru <| At.out ?_
               exact Z11 (st' := ⟨[(0, (.sl 3 (a0.map Zb) false)), (2, (.ptr 2 0)), (3, (.ptr 3 0)), (4, (.int .i64 v1)), (5, (.sl 14 (v10.map Z5) false)), (6, (.int .i64 (a0.getD v1.toNat Z9).Weight)), (7, (.int .i64 v12)), (9, (.int .i64 v30))], [(2, (.box [(.sl 4 [] false), (.sl 5 [] false)])), (3, (.box (Za v31).cells))]⟩) ⟨rfl, rfl, rfl, rfl, rfl, rfl, rfl, rfl, trivial⟩ ⟨rfl, rfl, trivial⟩ (J38 v31 h)
              ·have h := hif.2 hc
               refine Z1b <| Zj <| Zl <| Z1u mixed <| Z8 0 I (Z1k (cs := (Za v31).cells) (vs := (Za v31).cells) I a44 I I I I) <| Z8 1 I (Zn (v := (.sl 14 (v10.map Z5) false)) I I) <| Z8 2 I (Zn (v := (.int .i64 v30)) I I) ?_
               have ⟨hg43, h⟩ := Z14 h
               refine Z8 3 I (Z1s (k := .i64) (l := v10) (enc := Z5) (z := Z1) (n := v30) (cs := (Z5 (v10.getD v30.toNat Z1)).cells) (full := false) I s37 I I hg43 I) <| Z8 4 I (Z2d (cs := (Z5 (v10.getD v30.toNat Z1)).cells) (ds := [(.str (v10.getD v30.toNat Z1).Service), (.str (v10.getD v30.toNat Z1).Version), (.str (v10.getD v30.toNat Z1).Operation), (.int .i64 (v10.getD v30.toNat Z1).Start), (.int .i64 (v10.getD v30.toNat Z1).End), (.bool (v10.getD v30.toNat Z1).Error), (.sl 4 ((v10.getD v30.toNat Z1).Attrs.map Zv) false), (.sl 2 ((v10.getD v30.toNat Z1).Links.map Z10) false)]) I Z67 I I I) <| Z8 5 I (Z24 (cs := [(.str (v10.getD v30.toNat Z1).Service), (.str (v10.getD v30.toNat Z1).Version), (.str (v10.getD v30.toNat Z1).Operation), (.int .i64 (v10.getD v30.toNat Z1).Start), (.int .i64 (v10.getD v30.toNat Z1).End), (.bool (v10.getD v30.toNat Z1).Error), (.sl 4 ((v10.getD v30.toNat Z1).Attrs.map Zv) false), (.sl 2 ((v10.getD v30.toNat Z1).Links.map Z10) false)]) (v := (.str (v10.getD v30.toNat Z1).Service)) I o9 I I) <| Z8 6 I (Zn (v := (.sl 14 (v10.map Z5) false)) I I) <| Z8 7 I (Zn (v := (.int .i64 v12)) I I) ?_
               have ⟨hg44, h⟩ := Z14 h
               refine Z8 8 I (Z1s (k := .i64) (l := v10) (enc := Z5) (z := Z1) (n := v12) (cs := (Z5 (v10.getD v12.toNat Z1)).cells) (full := false) I s37 I I hg44 I) <| Z8 9 I (Z2d (cs := (Z5 (v10.getD v12.toNat Z1)).cells) (ds := [(.str (v10.getD v12.toNat Z1).Service), (.str (v10.getD v12.toNat Z1).Version), (.str (v10.getD v12.toNat Z1).Operation), (.int .i64 (v10.getD v12.toNat Z1).Start), (.int .i64 (v10.getD v12.toNat Z1).End), (.bool (v10.getD v12.toNat Z1).Error), (.sl 4 ((v10.getD v12.toNat Z1).Attrs.map Zv) false), (.sl 2 ((v10.getD v12.toNat Z1).Links.map Z10) false)]) I Z67 I I I) <| Z8 10 I (Z24 (cs := [(.str (v10.getD v12.toNat Z1).Service), (.str (v10.getD v12.toNat Z1).Version), (.str (v10.getD v12.toNat Z1).Operation), (.int .i64 (v10.getD v12.toNat Z1).Start), (.int .i64 (v10.getD v12.toNat Z1).End), (.bool (v10.getD v12.toNat Z1).Error), (.sl 4 ((v10.getD v12.toNat Z1).Attrs.map Zv) false), (.sl 2 ((v10.getD v12.toNat Z1).Links.map Z10) false)]) (v := (.str (v10.getD v12.toNat Z1).Service)) I o9 I I) ?_
               have ⟨v46, hv46, h⟩ := Z1c h
               refine Z8 11 I (Z1e (ar := [(Za v31), (.str (v10.getD v30.toNat Z1).Service), (.str (v10.getD v12.toNat Z1).Service)]) (caps := []) Tryz.call54 (F54_ok K v31 (v10.getD v30.toNat Z1).Service (v10.getD v12.toNat Z1).Service v46 hv46) I I ⟨rfl, rfl, rfl, trivial⟩ I) <| Z8 12 I (Z1x (cs := [(.str []), (.str []), (.int .i64 0), (.int .i64 0), (.int .i64 0)]) I z88 I I I) <| Z8 13 I (Z1a (cs := [(.str []), (.str []), (.int .i64 0), (.int .i64 0), (.int .i64 0)]) (vs := (Z6 v46).cells) (ds := (Z6 v46).cells) (v := (Z6 v46)) sz88 I I I I I I I I) <| Z1q (by kernel_rfl) I <| Zj <| Zl <| Z1u mixed <| Z8 0 I (Zu (m := 10) (o := 0) I f88_2 I I) ?_
               refine Z8 1 I (Zz (cs := (Z6 v46).cells) (v := (.int .i64 v46.Count)) I o3 I I I) <| Z8 2 I (Zn (v := (.int .i64 (a0.getD v1.toNat Z9).Weight)) I I) <| Z8 3 I (Z1m (k := .i64) (a := v46.Count) (b := (a0.getD v1.toNat Z9).Weight) (c := (IntKind.i64.wrap (v46.Count + (a0.getD v1.toNat Z9).Weight))) I I I I) <| Z8 4 I (Zu (m := 10) (o := 0) I f88_4 I I) <| Z8 5 I (Zz (cs := (Z6 v46).cells) (v := (.int .i64 v46.Time)) I o3 I I I) <| Z8 6 I (Zn (v := (.int .i64 (a0.getD v1.toNat Z9).Weight)) I I) <| Z8 7 I (Zn (v := (.sl 14 (v10.map Z5) false)) I I) <| Z8 8 I (Zn (v := (.int .i64 v12)) I I) ?_
               have ⟨hg47, h⟩ := Z14 h
               refine Z8 9 I (Z1s (k := .i64) (l := v10) (enc := Z5) (z := Z1) (n := v12) (cs := (Z5 (v10.getD v12.toNat Z1)).cells) (full := false) I s37 I I hg47 I) <| Z8 10 I (Z2i (cs := (Z5 (v10.getD v12.toNat Z1)).cells) (vs := (Z5 (v10.getD v12.toNat Z1)).cells) I a56 I I I) ?_
               have ⟨v49, hv49, h⟩ := Z1c h
               refine Z8 11 I (Z1e (ar := [(Z5 (v10.getD v12.toNat Z1))]) (caps := []) Tryz.call51 (F51_ok K (v10.getD v12.toNat Z1) v49 hv49) I I ⟨rfl, trivial⟩ I) <| Z8 12 I (Z1m (k := .i64) (a := (a0.getD v1.toNat Z9).Weight) (b := v49) (c := (IntKind.i64.wrap ((a0.getD v1.toNat Z9).Weight * v49))) I I I I) <| Z8 13 I (Z1m (k := .i64) (a := v46.Time) (b := (IntKind.i64.wrap ((a0.getD v1.toNat Z9).Weight * v49))) (c := (IntKind.i64.wrap (v46.Time + (IntKind.i64.wrap ((a0.getD v1.toNat Z9).Weight * v49))))) I I I I) <| Z8 14 I (Zu (m := 10) (o := 0) I f88_2 I I) <| Z8 15 I (Z1a (cs := (Z6 v46).cells) (vs := [(.int .i64 (IntKind.i64.wrap (v46.Count + (a0.getD v1.toNat Z9).Weight)))]) (ds := [(.str v46.Caller), (.str v46.Callee), (.int .i64 (IntKind.i64.wrap (v46.Count + (a0.getD v1.toNat Z9).Weight))), (.int .i64 v46.Errors), (.int .i64 v46.Time)]) (v := (.int .i64 (IntKind.i64.wrap (v46.Count + (a0.getD v1.toNat Z9).Weight)))) sz3 I I I I I I I I) <| Z8 16 I (Zu (m := 10) (o := 0) I f88_4 I I) <| Z8 17 I (Z1a (cs := [(.str v46.Caller), (.str v46.Callee), (.int .i64 (IntKind.i64.wrap (v46.Count + (a0.getD v1.toNat Z9).Weight))), (.int .i64 v46.Errors), (.int .i64 v46.Time)]) (vs := [(.int .i64 (IntKind.i64.wrap (v46.Time + (IntKind.i64.wrap ((a0.getD v1.toNat Z9).Weight * v49)))))]) (ds := [(.str v46.Caller), (.str v46.Callee), (.int .i64 (IntKind.i64.wrap (v46.Count + (a0.getD v1.toNat Z9).Weight))), (.int .i64 v46.Errors), (.int .i64 (IntKind.i64.wrap (v46.Time + (IntKind.i64.wrap ((a0.getD v1.toNat Z9).Weight * v49)))))]) (v := (.int .i64 (IntKind.i64.wrap (v46.Time + (IntKind.i64.wrap ((a0.getD v1.toNat Z9).Weight * v49)))))) sz3 I I I I I I I I) <| Z1q (by kernel_rfl) I ?_
               refine Zj <| Zl <| Zl <| Zd <| Z2 I (Zn (v := (.sl 14 (v10.map Z5) false)) I I) I <| Z2 I (Zn (v := (.int .i64 v12)) I I) I ?_
               have ⟨hg50, h⟩ := Z14 h
               refine Z2 I (Z1s (k := .i64) (l := v10) (enc := Z5) (z := Z1) (n := v12) (cs := (Z5 (v10.getD v12.toNat Z1)).cells) (full := false) I s37 I I hg50 I) I <| Z2 I (Z2d (cs := (Z5 (v10.getD v12.toNat Z1)).cells) (ds := [(.bool (v10.getD v12.toNat Z1).Error), (.sl 4 ((v10.getD v12.toNat Z1).Attrs.map Zv) false), (.sl 2 ((v10.getD v12.toNat Z1).Links.map Z10) false)]) I Z9x I I I) I <| Z2 I (Z24 (cs := [(.bool (v10.getD v12.toNat Z1).Error), (.sl 4 ((v10.getD v12.toNat Z1).Attrs.map Zv) false), (.sl 2 ((v10.getD v12.toNat Z1).Links.map Z10) false)]) (v := (.bool (v10.getD v12.toNat Z1).Error)) I o4 I I) I <| Zi <| Zj ?_
               refine AWp.join (V := Zk) (lp := fun v => Z9p K v31 (Z3a K v10 v12 a0 v1 (Z6i K (Z3o K v10 a0 v1 (Z4f K (Z4i K a0 (Z51 K) k3) v1) k14) v12) k32) v30 v = some r) (sh := fun v => ⟨[(0, (.sl 3 (a0.map Zb) false)), (2, (.ptr 2 0)), (3, (.ptr 3 0)), (4, (.int .i64 v1)), (5, (.sl 14 (v10.map Z5) false)), (6, (.int .i64 (a0.getD v1.toNat Z9).Weight)), (7, (.int .i64 v12)), (9, (.int .i64 v30)), (10, (.ptr 10 0))], [(2, (.box [(.sl 4 [] false), (.sl 5 [] false)])), (3, (.box (Za v31).cells)), (10, (.box (Z6 v).cells))]⟩) ?_ ?_
               ·intro v h
                revert h
                revert v
                intro v51 h
                try dsimp only at h ⊢
                unfold Z9p at h
                refine Zj <| Zd <| Z2 I (Z1k (cs := (Za v31).cells) (vs := (Za v31).cells) I a44 I I I I) I <| Z2 I (Z1k (cs := (Z6 v51).cells) (vs := (Z6 v51).cells) I a88 I I I I) I ?_
                have ⟨v54, hv54, h⟩ := Z1c h
                refine Z2 I (Z1e (ar := [(Za v31), (Z6 v51)]) (caps := []) Tryz.call55 (F55_ok K v31 v51 v54 hv54) I I ⟨rfl, rfl, trivial⟩ I) I <| Z2 I (Z1a (cs := (Za v31).cells) (vs := (Za v54).cells) (ds := (Za v54).cells) (v := (Za v54)) sz44 I I I I I I I I) I <| Zi <| At.end ?_
                exact Z11 (st' := ⟨[(0, (.sl 3 (a0.map Zb) false)), (2, (.ptr 2 0)), (3, (.ptr 3 0)), (4, (.int .i64 v1)), (5, (.sl 14 (v10.map Z5) false)), (6, (.int .i64 (a0.getD v1.toNat Z9).Weight)), (7, (.int .i64 v12)), (9, (.int .i64 v30))], [(2, (.box [(.sl 4 [] false), (.sl 5 [] false)])), (3, (.box (Za v54).cells))]⟩) ⟨rfl, rfl, rfl, rfl, rfl, rfl, rfl, rfl, trivial⟩ ⟨rfl, rfl, trivial⟩ (J38 v54 h)
               ·intro J52
                have hif := Z21 h
                refine Z18 I (fun hc => ?_) (fun hc => ?_)
                ·have h := hif.1 hc
                 refine Zd <| Z2 I (Zu (m := 10) (o := 0) I f88_3 I I) I <| Z2 I (Zz (cs := [(.str v46.Caller), (.str v46.Callee), (.int .i64 (IntKind.i64.wrap (v46.Count + (a0.getD v1.toNat Z9).Weight))), (.int .i64 v46.Errors), (.int .i64 (IntKind.i64.wrap (v46.Time + (IntKind.i64.wrap ((a0.getD v1.toNat Z9).Weight * v49)))))]) (v := (.int .i64 v46.Errors)) I o3 I I I) I <| Z2 I (Zn (v := (.int .i64 (a0.getD v1.toNat Z9).Weight)) I I) I <| Z2 I (Z1m (k := .i64) (a := v46.Errors) (b := (a0.getD v1.toNat Z9).Weight) (c := (IntKind.i64.wrap (v46.Errors + (a0.getD v1.toNat Z9).Weight))) I I I I) I <| Z2 I (Zu (m := 10) (o := 0) I f88_3 I I) I <| Z2 I (Z1a (cs := [(.str v46.Caller), (.str v46.Callee), (.int .i64 (IntKind.i64.wrap (v46.Count + (a0.getD v1.toNat Z9).Weight))), (.int .i64 v46.Errors), (.int .i64 (IntKind.i64.wrap (v46.Time + (IntKind.i64.wrap ((a0.getD v1.toNat Z9).Weight * v49)))))]) (vs := [(.int .i64 (IntKind.i64.wrap (v46.Errors + (a0.getD v1.toNat Z9).Weight)))]) (ds := [(.str v46.Caller), (.str v46.Callee), (.int .i64 (IntKind.i64.wrap (v46.Count + (a0.getD v1.toNat Z9).Weight))), (.int .i64 (IntKind.i64.wrap (v46.Errors + (a0.getD v1.toNat Z9).Weight))), (.int .i64 (IntKind.i64.wrap (v46.Time + (IntKind.i64.wrap ((a0.getD v1.toNat Z9).Weight * v49)))))]) (v := (.int .i64 (IntKind.i64.wrap (v46.Errors + (a0.getD v1.toNat Z9).Weight)))) sz3 I I I I I I I I) I <| Zi ?_
                 exact Z11 (st' := ⟨[(0, (.sl 3 (a0.map Zb) false)), (2, (.ptr 2 0)), (3, (.ptr 3 0)), (4, (.int .i64 v1)), (5, (.sl 14 (v10.map Z5) false)), (6, (.int .i64 (a0.getD v1.toNat Z9).Weight)), (7, (.int .i64 v12)), (9, (.int .i64 v30)), (10, (.ptr 10 0))], [(2, (.box [(.sl 4 [] false), (.sl 5 [] false)])), (3, (.box (Za v31).cells)), (10, (.box (Z6 (⟨v46.Caller, v46.Callee, (IntKind.i64.wrap (v46.Count + (a0.getD v1.toNat Z9).Weight)), (IntKind.i64.wrap (v46.Errors + (a0.getD v1.toNat Z9).Weight)), (IntKind.i64.wrap (v46.Time + (IntKind.i64.wrap ((a0.getD v1.toNat Z9).Weight * v49))))⟩ : Zk)).cells))]⟩) ⟨rfl, rfl, rfl, rfl, rfl, rfl, rfl, rfl, rfl, trivial⟩ ⟨rfl, rfl, rfl, trivial⟩ (J52 (⟨v46.Caller, v46.Callee, (IntKind.i64.wrap (v46.Count + (a0.getD v1.toNat Z9).Weight)), (IntKind.i64.wrap (v46.Errors + (a0.getD v1.toNat Z9).Weight)), (IntKind.i64.wrap (v46.Time + (IntKind.i64.wrap ((a0.getD v1.toNat Z9).Weight * v49))))⟩ : Zk) h)
                ·have h := hif.2 hc
                 refine Z1b ?_
                 exact Z11 (st' := ⟨[(0, (.sl 3 (a0.map Zb) false)), (2, (.ptr 2 0)), (3, (.ptr 3 0)), (4, (.int .i64 v1)), (5, (.sl 14 (v10.map Z5) false)), (6, (.int .i64 (a0.getD v1.toNat Z9).Weight)), (7, (.int .i64 v12)), (9, (.int .i64 v30)), (10, (.ptr 10 0))], [(2, (.box [(.sl 4 [] false), (.sl 5 [] false)])), (3, (.box (Za v31).cells)), (10, (.box (Z6 (⟨v46.Caller, v46.Callee, (IntKind.i64.wrap (v46.Count + (a0.getD v1.toNat Z9).Weight)), v46.Errors, (IntKind.i64.wrap (v46.Time + (IntKind.i64.wrap ((a0.getD v1.toNat Z9).Weight * v49))))⟩ : Zk)).cells))]⟩) ⟨rfl, rfl, rfl, rfl, rfl, rfl, rfl, rfl, rfl, trivial⟩ ⟨rfl, rfl, rfl, trivial⟩ (J52 (⟨v46.Caller, v46.Callee, (IntKind.i64.wrap (v46.Count + (a0.getD v1.toNat Z9).Weight)), v46.Errors, (IntKind.i64.wrap (v46.Time + (IntKind.i64.wrap ((a0.getD v1.toNat Z9).Weight * v49))))⟩ : Zk) h)
           ·have h := hif.2 hc
            refine AWp.exit <| At.thru ?_
            exact Z11 (st' := ⟨[(0, (.sl 3 (a0.map Zb) false)), (2, (.ptr 2 0)), (3, (.ptr 3 0)), (4, (.int .i64 v1)), (5, (.sl 14 (v10.map Z5) false)), (6, (.int .i64 (a0.getD v1.toNat Z9).Weight)), (7, (.int .i64 v12))], [(2, (.box [(.sl 4 [] false), (.sl 5 [] false)])), (3, (.box (Za v31).cells))]⟩) ⟨rfl, rfl, rfl, rfl, rfl, rfl, rfl, trivial⟩ ⟨rfl, rfl, trivial⟩ (J32 v31 h)
        ·intro J27
         have hif := Z21 h
         refine Z18 I (fun hc => ?_) (fun hc => ?_)
         ·have h := hif.1 hc
          refine Zd <| Z2 I (Zu (m := 8) (o := 0) I f68_3 I I) I <| Z2 I (Zz (cs := (Z3 v23).cells) (v := (.int .i64 v23.Roots)) I o3 I I I) I <| Z2 I (Zn (v := (.int .i64 (a0.getD v1.toNat Z9).Weight)) I I) I <| Z2 I (Z1m (k := .i64) (a := v23.Roots) (b := (a0.getD v1.toNat Z9).Weight) (c := (IntKind.i64.wrap (v23.Roots + (a0.getD v1.toNat Z9).Weight))) I I I I) I <| Z2 I (Zu (m := 8) (o := 0) I f68_3 I I) I <| Z2 I (Z1a (cs := (Z3 v23).cells) (vs := [(.int .i64 (IntKind.i64.wrap (v23.Roots + (a0.getD v1.toNat Z9).Weight)))]) (ds := [(.str v23.Name), (.int .i64 v23.Spans), (.int .i64 v23.Errors), (.int .i64 (IntKind.i64.wrap (v23.Roots + (a0.getD v1.toNat Z9).Weight)))]) (v := (.int .i64 (IntKind.i64.wrap (v23.Roots + (a0.getD v1.toNat Z9).Weight)))) sz3 I I I I I I I I) I <| Zi ?_
          exact Z11 (st' := ⟨[(0, (.sl 3 (a0.map Zb) false)), (2, (.ptr 2 0)), (3, (.ptr 3 0)), (4, (.int .i64 v1)), (5, (.sl 14 (v10.map Z5) false)), (6, (.int .i64 (a0.getD v1.toNat Z9).Weight)), (7, (.int .i64 v12)), (8, (.ptr 8 0))], [(2, (.box [(.sl 4 [] false), (.sl 5 [] false)])), (3, (.box (Za v13).cells)), (8, (.box (Z3 (⟨v23.Name, v23.Spans, v23.Errors, (IntKind.i64.wrap (v23.Roots + (a0.getD v1.toNat Z9).Weight))⟩ : Zc)).cells))]⟩) ⟨rfl, rfl, rfl, rfl, rfl, rfl, rfl, rfl, trivial⟩ ⟨rfl, rfl, rfl, trivial⟩ (J27 (⟨v23.Name, v23.Spans, v23.Errors, (IntKind.i64.wrap (v23.Roots + (a0.getD v1.toNat Z9).Weight))⟩ : Zc) h)
         ·have h := hif.2 hc
          refine Z1b ?_
          exact Z11 (st' := ⟨[(0, (.sl 3 (a0.map Zb) false)), (2, (.ptr 2 0)), (3, (.ptr 3 0)), (4, (.int .i64 v1)), (5, (.sl 14 (v10.map Z5) false)), (6, (.int .i64 (a0.getD v1.toNat Z9).Weight)), (7, (.int .i64 v12)), (8, (.ptr 8 0))], [(2, (.box [(.sl 4 [] false), (.sl 5 [] false)])), (3, (.box (Za v13).cells)), (8, (.box (Z3 v23).cells))]⟩) ⟨rfl, rfl, rfl, rfl, rfl, rfl, rfl, rfl, trivial⟩ ⟨rfl, rfl, rfl, trivial⟩ (J27 v23 h)
       ·intro J24
        have hif := Z21 h
        refine Z18 I (fun hc => ?_) (fun hc => ?_)
        ·have h := hif.1 hc
         refine Zd <| Z2 I (Zu (m := 8) (o := 0) I f68_2 I I) I <| Z2 I (Zz (cs := [(.str v21.Name), (.int .i64 (IntKind.i64.wrap (v21.Spans + (a0.getD v1.toNat Z9).Weight))), (.int .i64 v21.Errors), (.int .i64 v21.Roots)]) (v := (.int .i64 v21.Errors)) I o3 I I I) I <| Z2 I (Zn (v := (.int .i64 (a0.getD v1.toNat Z9).Weight)) I I) I <| Z2 I (Z1m (k := .i64) (a := v21.Errors) (b := (a0.getD v1.toNat Z9).Weight) (c := (IntKind.i64.wrap (v21.Errors + (a0.getD v1.toNat Z9).Weight))) I I I I) I <| Z2 I (Zu (m := 8) (o := 0) I f68_2 I I) I <| Z2 I (Z1a (cs := [(.str v21.Name), (.int .i64 (IntKind.i64.wrap (v21.Spans + (a0.getD v1.toNat Z9).Weight))), (.int .i64 v21.Errors), (.int .i64 v21.Roots)]) (vs := [(.int .i64 (IntKind.i64.wrap (v21.Errors + (a0.getD v1.toNat Z9).Weight)))]) (ds := [(.str v21.Name), (.int .i64 (IntKind.i64.wrap (v21.Spans + (a0.getD v1.toNat Z9).Weight))), (.int .i64 (IntKind.i64.wrap (v21.Errors + (a0.getD v1.toNat Z9).Weight))), (.int .i64 v21.Roots)]) (v := (.int .i64 (IntKind.i64.wrap (v21.Errors + (a0.getD v1.toNat Z9).Weight)))) sz3 I I I I I I I I) I <| Zi ?_
         exact Z11 (st' := ⟨[(0, (.sl 3 (a0.map Zb) false)), (2, (.ptr 2 0)), (3, (.ptr 3 0)), (4, (.int .i64 v1)), (5, (.sl 14 (v10.map Z5) false)), (6, (.int .i64 (a0.getD v1.toNat Z9).Weight)), (7, (.int .i64 v12)), (8, (.ptr 8 0))], [(2, (.box [(.sl 4 [] false), (.sl 5 [] false)])), (3, (.box (Za v13).cells)), (8, (.box (Z3 (⟨v21.Name, (IntKind.i64.wrap (v21.Spans + (a0.getD v1.toNat Z9).Weight)), (IntKind.i64.wrap (v21.Errors + (a0.getD v1.toNat Z9).Weight)), v21.Roots⟩ : Zc)).cells))]⟩) ⟨rfl, rfl, rfl, rfl, rfl, rfl, rfl, rfl, trivial⟩ ⟨rfl, rfl, rfl, trivial⟩ (J24 (⟨v21.Name, (IntKind.i64.wrap (v21.Spans + (a0.getD v1.toNat Z9).Weight)), (IntKind.i64.wrap (v21.Errors + (a0.getD v1.toNat Z9).Weight)), v21.Roots⟩ : Zc) h)
        ·have h := hif.2 hc
         refine Z1b ?_
         exact Z11 (st' := ⟨[(0, (.sl 3 (a0.map Zb) false)), (2, (.ptr 2 0)), (3, (.ptr 3 0)), (4, (.int .i64 v1)), (5, (.sl 14 (v10.map Z5) false)), (6, (.int .i64 (a0.getD v1.toNat Z9).Weight)), (7, (.int .i64 v12)), (8, (.ptr 8 0))], [(2, (.box [(.sl 4 [] false), (.sl 5 [] false)])), (3, (.box (Za v13).cells)), (8, (.box (Z3 (⟨v21.Name, (IntKind.i64.wrap (v21.Spans + (a0.getD v1.toNat Z9).Weight)), v21.Errors, v21.Roots⟩ : Zc)).cells))]⟩) ⟨rfl, rfl, rfl, rfl, rfl, rfl, rfl, rfl, trivial⟩ ⟨rfl, rfl, rfl, trivial⟩ (J24 (⟨v21.Name, (IntKind.i64.wrap (v21.Spans + (a0.getD v1.toNat Z9).Weight)), v21.Errors, v21.Roots⟩ : Zc) h)
      ·have h := hif.2 hc
       refine AWp.exit <| At.thru ?_
       exact Z11 (st' := ⟨[(0, (.sl 3 (a0.map Zb) false)), (2, (.ptr 2 0)), (3, (.ptr 3 0)), (4, (.int .i64 v1))], [(2, (.box [(.sl 4 [] false), (.sl 5 [] false)])), (3, (.box (Za v13).cells))]⟩) ⟨rfl, rfl, rfl, rfl, trivial⟩ ⟨rfl, rfl, trivial⟩ (J14 v13 h)
   ·have h := hif.2 hc
    refine AWp.exit <| At.thru ?_
    exact Z11 (st' := ⟨[(2, (.ptr 2 0)), (3, (.ptr 3 0))], [(2, (.box [(.sl 4 [] false), (.sl 5 [] false)])), (3, (.box (Za v2).cells))]⟩) ⟨rfl, rfl, trivial⟩ ⟨rfl, rfl, trivial⟩ (J3 v2 h)
end Go.AM.TopZ
