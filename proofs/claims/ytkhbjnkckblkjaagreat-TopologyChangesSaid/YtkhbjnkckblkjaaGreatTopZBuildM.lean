/- What Build returns: the sums, in order. -/
import Derived.Test.YtkhbjnkckblkjaaGreatTopZG0
import Derived.Test.YtkhbjnkckblkjaaGreatTopZG2
import Derived.Test.YtkhbjnkckblkjaaGreatTopZBuildA
namespace Go.AM.TopZ
open Go Go.AM
theorem F49_val (K : Nat) (b : Bool) (w : Int) : F49 K b w = some (if b = true then w else 0) := by
 rw [F49]
 cases b <;> rfl
theorem F17_i1_l29_val (K : Nat) (_hK : 1000 < K) {w : Int} {W : List Zg} (hW : Ws w W) (a0 : List Zo) (v5 : Int) (hw : (a0.getD v5.toNat Zq).Weight = w) (of : List (Int × Zg)) (hm : ∀ x, mget q_i64 x of = W.find? fun p => p.Id == x)
  (c : Bool → List (Str × Zc) → List (Zu × Zl) → Option (Zd × Int)) :
  ∀ (rest pre : List Zg) (k : Nat) (L : List Zc) (M : List Zl) (v : List (Str × Zc)) (u : List (Zu × Zl)), W = pre ++ rest → rest.length < k → L.length + rest.length ≤ 900 → M.length + rest.length ≤ 900 →
   (∀ x ∈ L, BS x) → (∀ x ∈ M, BC x) → KS.Map L v → KC.Map M u → ∃ v' u', F17_i1_l29 K W a0 v5 of c k (pre.length : Int) false v u = c false v' u' ∧ KS.Map (L ++ evSs w rest) v' ∧ KC.Map (M ++ evCs w W rest) u' := by
 intro rest
 induction rest with
 | nil =>
  intro pre k L M v u h hk _ _ _ _ hv hu
  obtain ⟨k, rfl⟩ : ∃ q, k = q + 1 := ⟨k - 1, by omega⟩
  exact ⟨v, u, by rw [F17_i1_l29, if_neg (atEnd h)], by simpa [evSs] using hv, by simpa [evCs] using hu⟩
 | cons s rest ih =>
  intro pre k L M v u h hk hl hl2 hbL hbM hv hu
  obtain ⟨k, rfl⟩ : ∃ q, k = q + 1 := ⟨k - 1, by omega⟩
  have hWl := hW.len
  have hs : s ∈ W := by rw [h]; simp
  obtain ⟨m1, m2, m3, m4⟩ := atMid h Z2
  obtain ⟨n1, n2⟩ := next pre s h (by omega)
  simp only [List.length_cons] at hl hl2
  obtain ⟨v1, q1, q2⟩ := F48_val K (L := L) (by omega) hbL (evS_B hW s) false hv u
  have es : (⟨s.Service, w, if s.Error = true then w else 0, if (s.Parent == 0) = true then w else 0⟩ : Zc) = evS w s := by simp [evS]
  have hbL' : ∀ x ∈ L ++ [evS w s], BS x := fun x hx => by
   rcases List.mem_append.1 hx with hx | hx
   ·exact hbL x hx
   ·simp at hx; subst hx; exact evS_B hW s
  have eS : L ++ [evS w s] ++ evSs w rest = L ++ evSs w (s :: rest) := by simp [evSs]
  have goal : ∀ u1, KC.Map (M ++ evC w W s) u1 → F17_i1_l29 K W a0 v5 of c (k + 1) (pre.length : Int) false v u = F17_i1_l29 K W a0 v5 of c k ((pre ++ [s]).length : Int) false v1 u1 →
    ∃ v' u', F17_i1_l29 K W a0 v5 of c (k + 1) (pre.length : Int) false v u = c false v' u' ∧ KS.Map (L ++ evSs w (s :: rest)) v' ∧ KC.Map (M ++ evCs w W (s :: rest)) u' := fun u1 hu1 e => by
   have hel := evC_len w W s
   obtain ⟨v', u', r1, r2, r3⟩ := ih (pre ++ [s]) k (L ++ [evS w s]) (M ++ evC w W s) v1 u1 n2 (by simpa using hk) (by simp; omega) (by simp; omega) hbL' (fun x hx => by
    rcases List.mem_append.1 hx with hx | hx
    ·exact hbM x hx
    ·exact evC_B hW hs x hx) q2 hu1
   refine ⟨v', u', by rw [e, r1], by rw [← eS]; exact r2, ?_⟩
   have eC : M ++ evC w W s ++ evCs w W rest = M ++ evCs w W (s :: rest) := by simp [evCs]
   rw [← eC]; exact r3
  have hm' := hm s.Parent
  have e0 : F17_i1_l29 K W a0 v5 of c (k + 1) (pre.length : Int) false v u = if (mget q_i64 s.Parent of).isSome = true then
    (if (!(((mget q_i64 s.Parent of).getD Z2).Service == s.Service)) = true then
     (F50 K (⟨((mget q_i64 s.Parent of).getD Z2).Service, s.Service, w, if s.Error = true then w else 0, IntKind.i64.wrap (IntKind.i64.wrap (s.End - s.Start) * w)⟩ : Zl) false v1 u).bind fun v58 => F17_i1_l29 K W a0 v5 of c k ((pre ++ [s]).length : Int) v58.1 v1 v58.2
    else F17_i1_l29 K W a0 v5 of c k ((pre ++ [s]).length : Int) false v1 u) else F17_i1_l29 K W a0 v5 of c k ((pre ++ [s]).length : Int) false v1 u := by
   rw [F17_i1_l29, if_pos m1, if_pos m2]
   simp only [m3, hw, F49_val, Option.bind_some, es, q1, F51, F17_i1_j49, F17_i1_j39, n1]
  have d1 := hW.dur s hs
  have d2 := mulB hW.wt d1
  have ed : IntKind.i64.wrap (IntKind.i64.wrap (s.End - s.Start) * w) = w * (s.End - s.Start) := by
   rw [wrapI (n := s.End - s.Start) (by omega) (by omega), Int.mul_comm, wrapI (by omega) (by omega)]
  cases hf : W.find? fun p => p.Id == s.Parent with
  | none =>
   have ee : evC w W s = [] := by unfold evC; rw [hf]
   refine goal u (by rw [ee]; simpa using hu) ?_
   rw [e0, hm', hf, if_neg (by simp)]
  | some p =>
   by_cases e : p.Service = s.Service
   ·have ee : evC w W s = [] := by unfold evC; rw [hf]; simp [e]
    refine goal u (by rw [ee]; simpa using hu) ?_
    rw [e0, hm', hf, if_pos (by simp), if_neg (by simp [e])]
   ·have ee : evC w W s = [evC1 w s p] := by unfold evC; rw [hf]; simp [e]
    obtain ⟨u1, t1, t2⟩ := F50_val K (L := M) (by omega) hbM (evC1_B hW hs p) false hu v1
    refine goal u1 (by rw [ee]; exact t2) ?_
    rw [e0, hm', hf, if_pos (by simp), if_pos (by simp [e]), ed]
    have : (⟨((some p).getD Z2).Service, s.Service, w, if s.Error = true then w else 0, w * (s.End - s.Start)⟩ : Zl) = evC1 w s p := rfl
    rw [this, t1, Option.bind_some]
theorem F17_i1_l21_val (K : Nat) {W : List Zg} (hW : (W.map (·.Id)).Nodup) (hl : W.length ≤ 30) (c : List (Int × Zg) → Option (Zd × Int)) :
  ∀ (rest pre : List Zg) (k : Nat) (v : List (Int × Zg)), W = pre ++ rest → rest.length < k → (∀ x, mget q_i64 x v = pre.find? fun p => p.Id == x) → ∃ v', F17_i1_l21 K W c k (pre.length : Int) v = c v' ∧ ∀ x, mget q_i64 x v' = W.find? fun p => p.Id == x := by
 intro rest
 induction rest with
 | nil =>
  intro pre k v h hk hv
  obtain ⟨k, rfl⟩ : ∃ q, k = q + 1 := ⟨k - 1, by omega⟩
  exact ⟨v, by rw [F17_i1_l21, if_neg (atEnd h)], by rw [h]; simpa using hv⟩
 | cons s rest ih =>
  intro pre k v h hk hv
  obtain ⟨k, rfl⟩ : ∃ q, k = q + 1 := ⟨k - 1, by omega⟩
  obtain ⟨m1, m2, m3, m4⟩ := atMid h Z2
  obtain ⟨n1, n2⟩ := next pre s h (by omega)
  obtain ⟨v', r1, r2⟩ := ih (pre ++ [s]) k (mput q_i64 s.Id s v) n2 (by simpa using hk) (fun x => by
   rw [mget_mput lawI, hv, List.find?_append]
   by_cases e : x = s.Id
   ·have : pre.find? (fun p => p.Id == x) = none := by
     rw [List.find?_eq_none]
     intro p hp hpe
     rw [h, List.map_append, List.nodup_append] at hW
     refine hW.2.2 p.Id (List.mem_map.2 ⟨p, hp, rfl⟩) s.Id (by simp) ?_
     rw [← e]; simpa using hpe
    rw [if_pos ((lawI _ _).2 e), this]
    simp [e]
   ·rw [if_neg (fun h => e ((lawI _ _).1 h))]
    have : ¬ s.Id = x := fun h => e h.symm
    simp [this])
  refine ⟨v', ?_, r2⟩
  rw [F17_i1_l21, if_pos m1, if_pos m2, m3, n1, r1]
theorem F17_i1_l7_val (K : Nat) (hK : 3000 < K) (a0 : List Zo) (hl : a0.length ≤ 20) (hg : ∀ t ∈ a0, Gt t) (c : Bool → List (Str × Zc) → List (Zu × Zl) → Option (Zd × Int)) :
  ∀ (rest pre : List Zo) (k : Nat) (v : List (Str × Zc)) (u : List (Zu × Zl)), a0 = pre ++ rest → rest.length < k → KS.Map (allS pre) v → KC.Map (allC pre) u →
   ∃ v' u', F17_i1_l7 K a0 c k (pre.length : Int) false v u = c false v' u' ∧ KS.Map (allS a0) v' ∧ KC.Map (allC a0) u' := by
 intro rest
 induction rest with
 | nil =>
  intro pre k v u h hk hv hu
  obtain ⟨k, rfl⟩ : ∃ q, k = q + 1 := ⟨k - 1, by omega⟩
  have e : a0 = pre := by simpa using h
  subst e
  exact ⟨v, u, by rw [F17_i1_l7, if_neg (by simp)], hv, hu⟩
 | cons t rest ih =>
  intro pre k v u h hk hv hu
  obtain ⟨k, rfl⟩ : ∃ q, k = q + 1 := ⟨k - 1, by omega⟩
  have ht : t ∈ a0 := by rw [h]; simp
  have gt := hg t ht
  have hpre : ∀ x ∈ pre, Gt x := fun x hx => hg x (by rw [h]; simp [hx])
  obtain ⟨m1, m2, m3, m4⟩ := atMid h Zq
  obtain ⟨n1, n2⟩ := next pre t h (by omega)
  have hpl : pre.length ≤ 20 := by rw [h] at hl; simp at hl; omega
  have l1 := allS_len hpre
  have l2 := allC_len hpre
  have hsl := gt.len
  have hwl := gt.ws.len
  obtain ⟨of, f1, f2⟩ := F17_i1_l21_val K gt.ws.ids gt.ws.len (F17_i1_c23 K (winners t.Spans) a0 (pre.length : Int) (F17_i1_l7 K a0 c k) false v u) (winners t.Spans) [] K [] rfl (by omega) (fun x => by simp [mget_nil])
  obtain ⟨v1, u1, g1, g2, g3⟩ := F17_i1_l29_val K (by omega) gt.ws a0 (pre.length : Int) (by rw [m3]) of f2 (F17_i1_c33 K (F17_i1_l7 K a0 c k) (pre.length : Int)) (winners t.Spans) [] K (allS pre) (allC pre) v u rfl (by omega) (by omega) (by omega) (allS_B hpre) (allC_B hpre) hv hu
  have eS : allS (pre ++ [t]) = allS pre ++ evSs t.Weight (winners t.Spans) := by simp [allS]
  have eC : allC (pre ++ [t]) = allC pre ++ evCs t.Weight (winners t.Spans) (winners t.Spans) := by simp [allC]
  obtain ⟨v', u', r1, r2, r3⟩ := ih (pre ++ [t]) k v1 u1 n2 (by simpa using hk) (by rw [eS]; exact g2) (by rw [eC]; exact g3)
  refine ⟨v', u', ?_, r2, r3⟩
  rw [F17_i1_l7, if_pos m1, if_pos (by simpa using m2), m3, F47_val K (by omega) t.Spans (by omega) (by omega) gt.small, Option.bind_some]
  refine Eq.trans f1 ?_
  rw [F17_i1_c23]
  refine Eq.trans g1 ?_
  rw [F17_i1_c33, n1, r1]
theorem F17_i1_val (K : Nat) (hK : 3000 < K) {a0 : List Zo} (hl : a0.length ≤ 8) (hg : ∀ t ∈ a0, Gt t) {S : List Zc} {C : List Zl} (hS : KS.Is cS (allS a0) S) (hC : KC.Is cQ (allC a0) C) : F17_i1 K a0 = some (⟨S, C⟩, 0) := by
 obtain ⟨v, u, r1, r2, r3⟩ := F17_i1_l7_val K hK a0 (by omega) hg (F17_i1_c11 K) a0 [] K [] [] rfl (by omega) .nil .nil
 have l1 := allS_len hg
 have l2 := allC_len hg
 have l3 := r2.len
 have l4 := r3.len
 rw [F17_i1, F46, Option.bind_some]
 refine Eq.trans r1 ?_
 rw [F17_i1_c11, F52_tot K (by omega) r2 r3 hS hC (by omega) (by omega), Option.bind_some]
end Go.AM.TopZ
