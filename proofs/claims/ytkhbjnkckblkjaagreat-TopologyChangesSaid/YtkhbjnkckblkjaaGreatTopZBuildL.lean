/- What the definition's build returns: the sums, in order. -/
import Derived.Test.YtkhbjnkckblkjaaGreatTopZG0
import Derived.Test.YtkhbjnkckblkjaaGreatTopZG3
import Derived.Test.YtkhbjnkckblkjaaGreatTopZG4
import Derived.Test.YtkhbjnkckblkjaaGreatTopZBuildA
namespace Go.AM.TopZ
open Go Go.AM
theorem F20_l32_val (K : Nat) (hK : 1000 < K) {w : Int} {W : List Zg} (hW : Ws w W) (a0 : List Zo) (v1 : Int) (hw : (a0.getD v1.toNat Zq).Weight = w) (v12 : Int) (hi : 0 ≤ v12 ∧ v12 < (W.length : Int)) {s : Zg} (hs : W.getD v12.toNat Z2 = s) (hsW : s ∈ W)
  {M : List Zl} (hM : M.length ≤ 890) (hbM : ∀ x ∈ M, BC x) (S : List Zc) (c : Zd → Option Zd) :
  ∀ (rest pre : List Zg) (k : Nat) (C : List Zl), W = pre ++ rest → rest.length < k → KC.Is cQ (M ++ evC w pre s) C → ∃ C', F20_l32 K W v12 a0 v1 c k (pre.length : Int) ⟨S, C⟩ = c ⟨S, C'⟩ ∧ KC.Is cQ (M ++ evC w W s) C' := by
 intro rest
 induction rest with
 | nil =>
  intro pre k C h hk hC
  obtain ⟨k, rfl⟩ : ∃ q, k = q + 1 := ⟨k - 1, by omega⟩
  have e : W = pre := by simpa using h
  subst e
  exact ⟨C, by rw [F20_l32, if_neg (by simp)], hC⟩
 | cons q rest ih =>
  intro pre k C h hk hC
  obtain ⟨k, rfl⟩ : ∃ q, k = q + 1 := ⟨k - 1, by omega⟩
  have hWl := hW.len
  obtain ⟨m1, m2, m3, m4⟩ := atMid h Z2
  obtain ⟨n1, n2⟩ := next pre q h (by omega)
  have i1 : ((0 : Int) ≤ v12 ∧ v12 < (W.length : Int)) = True := eq_true hi
  have i2 : ((0 : Int) ≤ (pre.length : Int) ∧ (pre.length : Int) < (W.length : Int)) = True := eq_true m2
  have i3 : (decide ((pre.length : Int) < (W.length : Int)) = true) = True := eq_true m1
  have go : ∀ C1, KC.Is cQ (M ++ evC w (pre ++ [q]) s) C1 → F20_l32 K W v12 a0 v1 c (k + 1) (pre.length : Int) ⟨S, C⟩ = F20_l32 K W v12 a0 v1 c k ((pre ++ [q]).length : Int) ⟨S, C1⟩ →
    ∃ C', F20_l32 K W v12 a0 v1 c (k + 1) (pre.length : Int) ⟨S, C⟩ = c ⟨S, C'⟩ ∧ KC.Is cQ (M ++ evC w W s) C' := fun C1 h1 e => by
   obtain ⟨C', r1, r2⟩ := ih (pre ++ [q]) k C1 n2 (by simpa using hk) h1
   exact ⟨C', by rw [e, r1], r2⟩
  have ef : (pre ++ [q]).find? (fun p => p.Id == s.Parent) = (pre.find? fun p => p.Id == s.Parent).or (if q.Id = s.Parent then some q else none) := by
   rw [List.find?_append]
   by_cases e : q.Id = s.Parent <;> simp [e]
  by_cases e : q.Id = s.Parent
  ·have hnone : pre.find? (fun p => p.Id == s.Parent) = none := by
    rw [List.find?_eq_none]
    intro p hp hpe
    have hn := hW.ids
    rw [h, List.map_append, List.nodup_append] at hn
    refine hn.2.2 p.Id (List.mem_map.2 ⟨p, hp, rfl⟩) q.Id (by simp) ?_
    rw [e]; simpa using hpe
   have e1 : evC w pre s = [] := by unfold evC; rw [hnone]
   have e2 : (pre ++ [q]).find? (fun p => p.Id == s.Parent) = some q := by rw [ef, hnone, if_pos e]; rfl
   by_cases f : q.Service = s.Service
   ·have e3 : evC w (pre ++ [q]) s = [] := by unfold evC; rw [e2]; simp [f]
    refine go C (by rw [e3, ← e1]; exact hC) ?_
    simp only [F20_l32, i1, i2, i3, if_true, m3, hs, F20_j38, n1]
    rw [if_neg (by simp [e]), if_pos (by simp [f])]
   ·have e3 : evC w (pre ++ [q]) s = [evC1 w s q] := by unfold evC; rw [e2]; simp [f]
    rw [e1, List.append_nil] at hC
    have hBx := evC1_B hW hsW q
    obtain ⟨p1, C1, p2, p3⟩ := putC K hK (by omega) S hC (evC1 w s q)
    obtain ⟨b1, b2, b3⟩ := smC (by omega) hbM (KC.f (evC1 w s q))
    have hd := hW.dur s hsW
    have hw2 := mulB hW.wt hd
    have hwt := hW.wt
    have p1' : F54 K ⟨S, C⟩ q.Service s.Service = some (KC.tot M (KC.f (evC1 w s q))) := p1
    have hf51 : F51 K s = some (s.End - s.Start) := by rw [F51, wrapI (by omega) (by omega)]
    have ht := Kd.tot_next (D := KC) M (evC1 w s q)
    refine go C1 (by rw [e3]; exact p3) ?_
    have hrec : ∀ y : Zl, y = KC.tot (M ++ [evC1 w s q]) (KC.f (evC1 w s q)) → F20_j52 K ⟨S, C⟩ (F20_l32 K W v12 a0 v1 c k) (pre.length : Int) y = F20_l32 K W v12 a0 v1 c k ((pre ++ [q]).length : Int) ⟨S, C1⟩ := fun y hy => by
     rw [hy, F20_j52, p2, Option.bind_some, F20_j38, n1]
    simp only [F20_l32, i1, i2, i3, if_true, m3, hs, hw, p1', hf51, Option.bind_some]
    rw [if_neg (by simp [e]), if_neg (by simp [f])]
    have a1 : (KC.tot M (KC.f (evC1 w s q))).Count = sm KC.f KC.g1 M (KC.f (evC1 w s q)) := rfl
    have a2 : (KC.tot M (KC.f (evC1 w s q))).Errors = sm KC.f KC.g2 M (KC.f (evC1 w s q)) := rfl
    have a3 : (KC.tot M (KC.f (evC1 w s q))).Time = sm KC.f KC.g3 M (KC.f (evC1 w s q)) := rfl
    rw [a1, a2, a3]
    have w1 : IntKind.i64.wrap (sm KC.f KC.g1 M (KC.f (evC1 w s q)) + w) = sm KC.f KC.g1 M (KC.f (evC1 w s q)) + w := wrapI (by omega) (by omega)
    have w2 : IntKind.i64.wrap (sm KC.f KC.g2 M (KC.f (evC1 w s q)) + w) = sm KC.f KC.g2 M (KC.f (evC1 w s q)) + w := wrapI (by omega) (by omega)
    have w3 : IntKind.i64.wrap (w * (s.End - s.Start)) = w * (s.End - s.Start) := wrapI (by omega) (by omega)
    have w4 : IntKind.i64.wrap (sm KC.f KC.g3 M (KC.f (evC1 w s q)) + w * (s.End - s.Start)) = sm KC.f KC.g3 M (KC.f (evC1 w s q)) + w * (s.End - s.Start) := wrapI (by omega) (by omega)
    rw [w1, w3, w4]
    by_cases er : s.Error = true
    ·rw [if_pos er, w2]
     refine hrec _ ?_
     rw [ht]
     have g2 : KC.g2 (evC1 w s q) = w := by simp [KC, evC1, er]
     rw [g2]; rfl
    ·rw [if_neg er]
     refine hrec _ ?_
     rw [ht]
     have g2 : KC.g2 (evC1 w s q) = 0 := by simp [KC, evC1, er]
     rw [g2, Int.add_zero]; rfl
  ·have e3 : evC w (pre ++ [q]) s = evC w pre s := by unfold evC; rw [ef, if_neg e, Option.or_none]
   refine go C (by rw [e3]; exact hC) ?_
   simp only [F20_l32, i1, i2, i3, if_true, m3, hs, F20_j38, n1]
   rw [if_pos (by simp [e])]
theorem F20_l14_val (K : Nat) (hK : 1000 < K) {w : Int} {W : List Zg} (hW : Ws w W) (a0 : List Zo) (v1 : Int) (hw : (a0.getD v1.toNat Zq).Weight = w) (c : Zd → Option Zd) :
  ∀ (rest pre : List Zg) (k : Nat) (L : List Zc) (M : List Zl) (S : List Zc) (C : List Zl), W = pre ++ rest → rest.length < k → L.length + rest.length ≤ 890 → M.length + rest.length ≤ 890 →
   (∀ x ∈ L, BS x) → (∀ x ∈ M, BC x) → KS.Is cS L S → KC.Is cQ M C → ∃ S' C', F20_l14 K W a0 v1 c k (pre.length : Int) ⟨S, C⟩ = c ⟨S', C'⟩ ∧ KS.Is cS (L ++ evSs w rest) S' ∧ KC.Is cQ (M ++ evCs w W rest) C' := by
 intro rest
 induction rest with
 | nil =>
  intro pre k L M S C h hk _ _ _ _ hS hC
  obtain ⟨k, rfl⟩ : ∃ q, k = q + 1 := ⟨k - 1, by omega⟩
  exact ⟨S, C, by rw [F20_l14, if_neg (atEnd h)], by simpa [evSs] using hS, by simpa [evCs] using hC⟩
 | cons s rest ih =>
  intro pre k L M S C h hk hl hl2 hbL hbM hS hC
  obtain ⟨k, rfl⟩ : ∃ q, k = q + 1 := ⟨k - 1, by omega⟩
  have hWl := hW.len
  have hsW : s ∈ W := by rw [h]; simp
  obtain ⟨m1, m2, m3, m4⟩ := atMid h Z2
  obtain ⟨n1, n2⟩ := next pre s h (by omega)
  simp only [List.length_cons] at hl hl2
  obtain ⟨p1, S1, p2, p3⟩ := putS K hK (by omega) C hS (evS w s)
  have p1' : F31 K ⟨S, C⟩ s.Service = some (KS.tot L s.Service) := p1
  obtain ⟨b1, b2, b3⟩ := smS (by omega) hbL s.Service
  have hwt := hW.wt
  obtain ⟨C1, q1, q2⟩ := F20_l32_val K hK hW a0 v1 hw (pre.length : Int) m2 m3 hsW (by omega) hbM S1 (F20_c34 K (F20_l14 K W a0 v1 c k) (pre.length : Int)) W [] K C rfl (by omega) (by simpa [evC] using hC)
  have hel := evC_len w W s
  obtain ⟨S', C', r1, r2, r3⟩ := ih (pre ++ [s]) k (L ++ [evS w s]) (M ++ evC w W s) S1 C1 n2 (by simpa using hk) (by simp; omega) (by simp; omega) (fun x hx => by
    rcases List.mem_append.1 hx with hx | hx
    ·exact hbL x hx
    ·simp at hx; subst hx; exact evS_B hW s) (fun x hx => by
    rcases List.mem_append.1 hx with hx | hx
    ·exact hbM x hx
    ·exact evC_B hW hsW x hx) p3 q2
  refine ⟨S', C', ?_, by simpa [evSs] using r2, by simpa [evCs] using r3⟩
  have ht := Kd.tot_next (D := KS) L (evS w s)
  have hrec : ∀ y : Zc, y = KS.tot (L ++ [evS w s]) s.Service → F20_j27 K ⟨S, C⟩ W (pre.length : Int) a0 v1 (F20_l14 K W a0 v1 c k) y = c ⟨S', C'⟩ := fun y hy => by
   rw [hy, F20_j27]
   have p2' : F53 K ⟨S, C⟩ (KS.tot (L ++ [evS w s]) s.Service) = some ⟨S1, C⟩ := p2
   rw [p2', Option.bind_some]
   refine Eq.trans q1 ?_
   rw [F20_c34, n1, r1]
  have i2 : ((0 : Int) ≤ (pre.length : Int) ∧ (pre.length : Int) < (W.length : Int)) = True := eq_true m2
  have i3 : (decide ((pre.length : Int) < (W.length : Int)) = true) = True := eq_true m1
  simp only [F20_l14, i2, i3, if_true, m3, hw, p1', Option.bind_some, F20_j24]
  have a1 : (KS.tot L s.Service).Spans = sm KS.f KS.g1 L s.Service := rfl
  have a2 : (KS.tot L s.Service).Errors = sm KS.f KS.g2 L s.Service := rfl
  have a3 : (KS.tot L s.Service).Roots = sm KS.f KS.g3 L s.Service := rfl
  rw [a1, a2, a3]
  have w1 : IntKind.i64.wrap (sm KS.f KS.g1 L s.Service + w) = sm KS.f KS.g1 L s.Service + w := wrapI (by omega) (by omega)
  have w2 : IntKind.i64.wrap (sm KS.f KS.g2 L s.Service + w) = sm KS.f KS.g2 L s.Service + w := wrapI (by omega) (by omega)
  have w3 : IntKind.i64.wrap (sm KS.f KS.g3 L s.Service + w) = sm KS.f KS.g3 L s.Service + w := wrapI (by omega) (by omega)
  rw [w1, w2, w3]
  have ht' : KS.tot (L ++ [evS w s]) s.Service = ⟨s.Service, sm KS.f KS.g1 L s.Service + w, sm KS.f KS.g2 L s.Service + (if s.Error = true then w else 0), sm KS.f KS.g3 L s.Service + (if s.Parent = 0 then w else 0)⟩ := ht
  by_cases er : s.Error = true <;> by_cases pa : s.Parent = 0
  ·rw [if_pos er, if_pos (by simpa using pa)]
   exact hrec _ (by rw [ht', if_pos er, if_pos pa]; rfl)
  ·rw [if_pos er, if_neg (by simpa using pa)]
   exact hrec _ (by rw [ht', if_pos er, if_neg pa, Int.add_zero]; rfl)
  ·rw [if_neg er, if_pos (by simpa using pa)]
   exact hrec _ (by rw [ht', if_neg er, if_pos pa, Int.add_zero]; rfl)
  ·rw [if_neg er, if_neg (by simpa using pa)]
   exact hrec _ (by rw [ht', if_neg er, if_neg pa, Int.add_zero, Int.add_zero]; rfl)
theorem F20_l3_val (K : Nat) (hK : 3000 < K) (a0 : List Zo) (hl : a0.length ≤ 20) (hg : ∀ t ∈ a0, Gt t) (c : Zd → Option Zd) :
  ∀ (rest pre : List Zo) (k : Nat) (S : List Zc) (C : List Zl), a0 = pre ++ rest → rest.length < k → KS.Is cS (allS pre) S → KC.Is cQ (allC pre) C →
   ∃ S' C', F20_l3 K a0 c k (pre.length : Int) ⟨S, C⟩ = c ⟨S', C'⟩ ∧ KS.Is cS (allS a0) S' ∧ KC.Is cQ (allC a0) C' := by
 intro rest
 induction rest with
 | nil =>
  intro pre k S C h hk hS hC
  obtain ⟨k, rfl⟩ : ∃ q, k = q + 1 := ⟨k - 1, by omega⟩
  have e : a0 = pre := by simpa using h
  subst e
  exact ⟨S, C, by rw [F20_l3, if_neg (by simp)], hS, hC⟩
 | cons t rest ih =>
  intro pre k S C h hk hS hC
  obtain ⟨k, rfl⟩ : ∃ q, k = q + 1 := ⟨k - 1, by omega⟩
  have gt := hg t (by rw [h]; simp)
  have hpre : ∀ x ∈ pre, Gt x := fun x hx => hg x (by rw [h]; simp [hx])
  obtain ⟨m1, m2, m3, m4⟩ := atMid h Zq
  obtain ⟨n1, n2⟩ := next pre t h (by omega)
  have hpl : pre.length ≤ 20 := by rw [h] at hl; simp at hl; omega
  have l1 := allS_len hpre
  have l2 := allC_len hpre
  have hsl := gt.len
  have hwl := gt.ws.len
  obtain ⟨S1, C1, g1, g2, g3⟩ := F20_l14_val K (by omega) gt.ws a0 (pre.length : Int) (by rw [m3]) (F20_c16 K (F20_l3 K a0 c k) (pre.length : Int)) (winners t.Spans) [] K (allS pre) (allC pre) S C rfl (by omega) (by omega) (by omega) (allS_B hpre) (allC_B hpre) hS hC
  have eS : allS (pre ++ [t]) = allS pre ++ evSs t.Weight (winners t.Spans) := by simp [allS]
  have eC : allC (pre ++ [t]) = allC pre ++ evCs t.Weight (winners t.Spans) (winners t.Spans) := by simp [allC]
  obtain ⟨S', C', r1, r2, r3⟩ := ih (pre ++ [t]) k S1 C1 n2 (by simpa using hk) (by rw [eS]; exact g2) (by rw [eC]; exact g3)
  refine ⟨S', C', ?_, r2, r3⟩
  rw [F20_l3, if_pos m1, if_pos (by simpa using m2), m3, F47_val K (by omega) t.Spans (by omega) (by omega) gt.small, Option.bind_some, if_pos (by simpa using m2)]
  refine Eq.trans g1 ?_
  rw [F20_c16, n1, r1]
theorem F20_val (K : Nat) (hK : 3000 < K) {a0 : List Zo} (hl : a0.length ≤ 8) (hg : ∀ t ∈ a0, Gt t) : ∃ S C, F20 K a0 = some ⟨S, C⟩ ∧ KS.Is cS (allS a0) S ∧ KC.Is cQ (allC a0) C := by
 obtain ⟨S, C, r1, r2, r3⟩ := F20_l3_val K hK a0 (by omega) hg (F20_c5 K) a0 [] K [] [] rfl (by omega) .nil .nil
 exact ⟨S, C, by rw [F20]; refine Eq.trans r1 ?_; rw [F20_c5], r2, r3⟩
end Go.AM.TopZ
