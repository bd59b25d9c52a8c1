/- What Differ returns, and the model of it. -/
import Derived.Test.YtkhbjnkckblkjaaGreatTopZDiffA
namespace Go.AM.TopZ
open Go Go.AM
theorem Zaw (K : Nat) (c : List (Df × Bool) → Option (List Df)) (r : List Df) : ∀ (k : Nat) (rem v : List (Df × Bool)), rem.length < k → (v.map (·.1)).Nodup →
  (∀ v', (v'.map (·.1)).Nodup → (∀ kv, kv ∈ v' ↔ kv ∈ v ∧ kv.1 ∉ rem.map (·.1)) → c v' = some r) → Zbe K c k v rem = some r
 | k + 1, rem, v, hk, hn, hc => by
  rw [Zbe]
  refine Z74 (fun e => ?_) fun pre x post e => ?_
  ·subst e
   exact hc v hn fun kv => by simp
  ·subst e
   obtain ⟨q1, q2⟩ := Z9x lawD x.1 hn
   refine Zaw K c r k (pre ++ post) _ (by simp at hk ⊢; omega) q1 fun v' h1 h2 => hc v' h1 fun kv => ?_
   rw [h2, q2]
   simp only [List.map_append, List.map_cons, List.mem_append, List.mem_cons, not_or]
   constructor
   ·rintro ⟨⟨a1, a2⟩, a3, a4⟩; exact ⟨a1, a3, a2, a4⟩
   ·rintro ⟨a1, a3, a2, a4⟩; exact ⟨⟨a1, a2⟩, a3, a4⟩
theorem Z9l (K : Nat) (c : List (Df × Bool) → Option (List Df)) (r : List Df) : ∀ (k : Nat) (rem v : List (Df × Bool)), rem.length < k → (v.map (·.1)).Nodup →
  (∀ v', (v'.map (·.1)).Nodup → (∀ kv, kv ∈ v' ↔ kv ∈ v ∧ kv.1 ∉ rem.map (·.1)) → c v' = some r) → Z83 K c k v rem = some r
 | k + 1, rem, v, hk, hn, hc => by
  rw [Z83]
  refine Z74 (fun e => ?_) fun pre x post e => ?_
  ·subst e
   exact hc v hn fun kv => by simp
  ·subst e
   obtain ⟨q1, q2⟩ := Z9x lawD x.1 hn
   refine Z9l K c r k (pre ++ post) _ (by simp at hk ⊢; omega) q1 fun v' h1 h2 => hc v' h1 fun kv => ?_
   rw [h2, q2]
   simp only [List.map_append, List.map_cons, List.mem_append, List.mem_cons, not_or]
   constructor
   ·rintro ⟨⟨a1, a2⟩, a3, a4⟩; exact ⟨a1, a3, a2, a4⟩
   ·rintro ⟨a1, a3, a2, a4⟩; exact ⟨⟨a1, a2⟩, a3, a4⟩
theorem F104_val (K : Nat) {n : Int} (h : 0 ≤ n ∧ n ≤ 1000) : F104 K n = some [] := by
 have e0 : IntKind.i64.wrap (0 - (([] : List Df).length : Int)) = 0 := wrapI (n := 0) (by omega) (by omega)
 have e1 : IntKind.i64.wrap (n - 0) = n := by rw [wrapI (by omega) (by omega)]; omega
 rw [F104, if_neg (by simp; omega), e0, e1]
 by_cases h0 : 0 < n
 ·rw [if_pos (by simpa using h0), if_pos (by omega), if_pos (by simp; omega), if_pos (by simp), if_pos (by simp), Z86]
  simp
 ·rw [if_neg (by simpa using h0), Z86]
theorem F62_val (K : Nat) (hK : 1000 < K) (A B : List Df) (hA : A.length ≤ 100) (hB : B.length ≤ 100) : F62 K [A, B] = some (A ++ B) := by
 obtain ⟨K', rfl⟩ : ∃ q, K = q + 3 := ⟨K - 3, by omega⟩
 have w0 : IntKind.i64.wrap ((0 : Int) + 1) = 1 := wrapI (by omega) (by omega)
 have w1 : IntKind.i64.wrap ((1 : Int) + 1) = 2 := wrapI (by omega) (by omega)
 have g0 : [A, B].getD (0 : Int).toNat ([] : List Df) = A := rfl
 have g1 : [A, B].getD (1 : Int).toNat ([] : List Df) = B := rfl
 have wa : IntKind.i64.wrap (0 + (A.length : Int)) = (A.length : Int) := by rw [wrapI (by omega) (by omega)]; omega
 have wb : IntKind.i64.wrap ((A.length : Int) + (B.length : Int)) = (A.length : Int) + (B.length : Int) := wrapI (by omega) (by omega)
 have l2 : ∀ c, Z4g (K' + 3) [A, B] c (K' + 1) 2 (A ++ B) = c (A ++ B) := fun c => by rw [Z4g, if_neg (by simp)]
 have l1 : ∀ c, Z4g (K' + 3) [A, B] c (K' + 2) 1 A = c (A ++ B) := fun c => by
  rw [Z4g, if_pos (by simp), if_pos (by simp), g1, if_pos (by omega), w1, l2]
 have l0 : ∀ c, Z4g (K' + 3) [A, B] c (K' + 3) 0 [] = c (A ++ B) := fun c => by
  rw [Z4g, if_pos (by simp), if_pos (by simp), g0, if_pos (by simp only [List.length_nil]; omega), w0, List.nil_append, l1]
 have m2 : ∀ c, Z7i (K' + 3) [A, B] c (K' + 1) ((A.length : Int) + (B.length : Int)) 2 = c ((A.length : Int) + (B.length : Int)) := fun c => by rw [Z7i, if_neg (by simp)]
 have m1 : ∀ c, Z7i (K' + 3) [A, B] c (K' + 2) (A.length : Int) 1 = c ((A.length : Int) + (B.length : Int)) := fun c => by
  rw [Z7i, if_pos (by simp), if_pos (by simp), g1, wb, if_neg (by simp; omega), w1, m2]
 rw [F62, Z7i, if_pos (by simp), if_pos (by simp), g0, wa, if_neg (by simp), w0, m1, F62_c5, F104_val _ (by omega), Option.bind_some, l0, Z9t]
def DM (x y : Zc) (d : Df) : Prop := (KM y 1 3 d ∧ ¬ KM x 1 3 d) ∨ (KM x 2 4 d ∧ ¬ KM y 2 4 d)
theorem KM_kind {m : Zc} {s c : Int} {d : Df} (h : KM m s c d) : d.Kind = s ∨ d.Kind = c := by
 rcases h with ⟨t, _, rfl⟩ | ⟨t, _, rfl⟩
 ·exact .inl rfl
 ·exact .inr rfl
theorem F23_val (K : Nat) (hK : 1000 < K) {x y : Zc} (hx : Wf x) (hy : Wf y) : ∃ L, F23 K x y = some L ∧ Strict cD L ∧ (∀ d, d ∈ L ↔ DM x y d) ∧ L.length ≤ 84 := by
 classical
 obtain ⟨a, a1, a2, a3, a4⟩ := F61_val K hK hy 1 3
 obtain ⟨b, b1, b2, b3, b4⟩ := F61_val K hK hx 2 4
 obtain ⟨a', a1', a2', a3', a4'⟩ := F61_val K hK hx 1 3
 obtain ⟨b', b1', b2', b3', b4'⟩ := F61_val K hK hy 2 4
 let L := setOf cD (((a.map (·.1)).filter fun d => decide (¬ KM x 1 3 d)) ++ ((b.map (·.1)).filter fun d => decide (¬ KM y 2 4 d)))
 have hL : ∀ d, d ∈ L ↔ DM x y d := fun d => by
  rw [setOf_mem, List.mem_append, List.mem_filter, List.mem_filter, decide_eq_true_eq, decide_eq_true_eq, a3, b3]
  rfl
 have hlen : L.length ≤ 84 := by
  refine Nat.le_trans (setOf_len _) ?_
  rw [List.length_append]
  have h1 := List.length_filter_le (fun d => decide (¬ KM x 1 3 d)) (a.map (·.1))
  have h2 := List.length_filter_le (fun d => decide (¬ KM y 2 4 d)) (b.map (·.1))
  simp only [List.length_map] at h1 h2
  omega
 refine ⟨L, ?_, cordD.setOf_strict _, hL, hlen⟩
 rw [F23, a1, Option.bind_some, b1, Option.bind_some, a1', Option.bind_some]
 refine Zaw K _ L K a' a (by omega) a2 fun v hv1 hv2 => ?_
 rw [Z96, b1', Option.bind_some]
 refine Z9l K _ L K b' b (by omega) b2 fun u hu1 hu2 => ?_
 have mv : ∀ d, d ∈ v.map (·.1) ↔ KM y 1 3 d ∧ ¬ KM x 1 3 d := fun d => by
  rw [List.mem_map, ← a3, ← a3']
  constructor
  ·rintro ⟨kv, k1, rfl⟩
   obtain ⟨k2, k3⟩ := (hv2 kv).1 k1
   exact ⟨List.mem_map.2 ⟨kv, k2, rfl⟩, k3⟩
  ·rintro ⟨k1, k2⟩
   obtain ⟨kv, k3, rfl⟩ := List.mem_map.1 k1
   exact ⟨kv, (hv2 kv).2 ⟨k3, k2⟩, rfl⟩
 have mu : ∀ d, d ∈ u.map (·.1) ↔ KM x 2 4 d ∧ ¬ KM y 2 4 d := fun d => by
  rw [List.mem_map, ← b3, ← b3']
  constructor
  ·rintro ⟨kv, k1, rfl⟩
   obtain ⟨k2, k3⟩ := (hu2 kv).1 k1
   exact ⟨List.mem_map.2 ⟨kv, k2, rfl⟩, k3⟩
  ·rintro ⟨k1, k2⟩
   obtain ⟨kv, k3, rfl⟩ := List.mem_map.1 k1
   exact ⟨kv, (hu2 kv).2 ⟨k3, k2⟩, rfl⟩
 have lv : v.length ≤ 42 := by
  have := Z44 (l := v.map (·.1)) (m := a.map (·.1)) hv1 fun d hd => (a3 d).2 ((mv d).1 hd).1
  simp only [List.length_map] at this
  omega
 have lu : u.length ≤ 42 := by
  have := Z44 (l := u.map (·.1)) (m := b.map (·.1)) hu1 fun d hd => (b3 d).2 ((mu d).1 hd).1
  simp only [List.length_map] at this
  omega
 rw [Z94, F64, Option.bind_some, if_pos (by omega)]
 refine ndPerm_of fun v' pv => ?_
 rw [F64, Option.bind_some, if_pos (by omega)]
 refine ndPerm_of fun u' pu => ?_
 have pv' := pv.map (fun e : Df × Bool => e.1)
 have pu' := pu.map (fun e : Df × Bool => e.1)
 have hnod : (v'.map (fun e : Df × Bool => e.1) ++ u'.map (fun e : Df × Bool => e.1)).Nodup := by
  rw [List.nodup_append]
  refine ⟨pv'.nodup_iff.2 hv1, pu'.nodup_iff.2 hu1, fun d hd e he h => ?_⟩
  subst h
  have k1 := KM_kind ((mv d).1 (pv'.mem_iff.1 hd)).1
  have k2 := KM_kind ((mu d).1 (pu'.mem_iff.1 he)).1
  omega
 have l1 := pv'.length_eq
 have l2 := pu'.length_eq
 simp only [List.length_map] at l1 l2
 rw [F62_val K hK _ _ (by simp only [List.length_map]; omega) (by simp only [List.length_map]; omega), Option.bind_some]
 have hs : sortF (fun a b => F66 K a b) (v'.map (fun e : Df × Bool => e.1) ++ u'.map (fun e : Df × Bool => e.1)) = some L := by
  refine sort_key pordD (fun _ _ => cD_zero) id (fun a b => F66_val K (by omega) a b) (by simp only [List.length_append, List.length_map]; omega) hnod (fun a _ b _ e => e) (cordD.setOf_strict _) fun d => ?_
  rw [hL, List.mem_append, pv'.mem_iff, pu'.mem_iff, mv, mu]
  rfl
 rw [hs, Option.bind_some]
end Go.AM.TopZ
