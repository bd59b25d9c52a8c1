/- Differ for service graphs of up to 90 services and 90 calls. -/
import Derived.Test.YtkhbjnkckblkjaaGreatTopZG2
import Derived.Test.YtkhbjnkckblkjaaGreatTopZG3
import Derived.Test.YtkhbjnkckblkjaaGreatTopZDiffB
namespace Go.AM.TopZ
open Go Go.AM
theorem F61_gen (K : Nat) (hK : 1000 < K) {m : Zd} (hl : m.Services.length ≤ 90) (hlC : m.Calls.length ≤ 90) (s c : Int) : ∃ v, F61 K m s c = some v ∧ (v.map (·.1)).Nodup ∧ (∀ d, d ∈ v.map (·.1) ↔ KM m s c d) ∧ v.length ≤ 180 := by
 have l10 : ∀ (rest pre : List Zl) (k : Nat) (v : List (Df × Bool)), m.Calls = pre ++ rest → rest.length < k → (v.map (·.1)).Nodup → (∀ d, d ∈ v.map (·.1) ↔ (∃ t ∈ m.Services, d = ⟨s, t.Name, []⟩) ∨ ∃ t ∈ pre, d = ⟨c, t.Caller, t.Callee⟩) →
   ∃ v', F61_l10 K m c (F61_c12 K) k (pre.length : Int) v = some v' ∧ (v'.map (·.1)).Nodup ∧ (∀ d, d ∈ v'.map (·.1) ↔ KM m s c d) ∧ v'.length ≤ v.length + rest.length := by
  intro rest
  induction rest with
  | nil =>
   intro pre k v hp hk hn hm
   obtain ⟨k, rfl⟩ : ∃ q, k = q + 1 := ⟨k - 1, by omega⟩
   have e : m.Calls = pre := by simpa using hp
   exact ⟨v, by rw [F61_l10, if_neg (atEnd hp), F61_c12], hn, fun d => by rw [hm, ← e]; rfl, by simp⟩
  | cons x rest ih =>
   intro pre k v hp hk hn hm
   obtain ⟨k, rfl⟩ : ∃ q, k = q + 1 := ⟨k - 1, by omega⟩
   obtain ⟨m1, m2, m3, m4⟩ := atMid hp Zk
   obtain ⟨n1, n2⟩ := next pre x hp (by omega)
   obtain ⟨q1, q2, q3⟩ := mput_spec lawD (⟨c, x.Caller, x.Callee⟩ : Df) true hn
   obtain ⟨v', r1, r2, r3, r4⟩ := ih (pre ++ [x]) k _ n2 (by simpa using hk) q1 (fun d => by
    have e : d ∈ (mput Z22 (⟨c, x.Caller, x.Callee⟩ : Df) true v).map (·.1) ↔ d = ⟨c, x.Caller, x.Callee⟩ ∨ d ∈ v.map (·.1) := by
     rw [List.mem_map, List.mem_map]
     constructor
     ·rintro ⟨kv, k1, rfl⟩
      rcases (q2 kv).1 k1 with rfl | ⟨k1, _⟩
      ·exact .inl rfl
      ·exact .inr ⟨kv, k1, rfl⟩
     ·rintro (rfl | ⟨kv, k1, rfl⟩)
      ·exact ⟨_, (q2 _).2 (.inl rfl), rfl⟩
      ·by_cases e : kv.1 = ⟨c, x.Caller, x.Callee⟩
       ·exact ⟨_, (q2 _).2 (.inl rfl), e.symm⟩
       ·exact ⟨kv, (q2 _).2 (.inr ⟨k1, e⟩), rfl⟩
    rw [e, hm]
    constructor
    ·rintro (e | e | ⟨t, t1, e⟩)
     ·exact .inr ⟨x, by simp, e⟩
     ·exact .inl e
     ·exact .inr ⟨t, by simp [t1], e⟩
    ·rintro (e2 | ⟨t, t1, e2⟩)
     ·exact .inr (.inl e2)
     ·rcases List.mem_append.1 t1 with t1 | t1
      ·exact .inr (.inr ⟨t, t1, e2⟩)
      ·simp at t1; subst t1; exact .inl e2)
   exact ⟨v', by rw [F61_l10, if_pos m1, if_pos m2, m3, n1, r1], r2, r3, by simp; omega⟩
 have l4 : ∀ (rest pre : List Zc) (k : Nat) (v : List (Df × Bool)), m.Services = pre ++ rest → rest.length < k → (v.map (·.1)).Nodup → (∀ d, d ∈ v.map (·.1) ↔ ∃ t ∈ pre, d = ⟨s, t.Name, []⟩) → v.length ≤ pre.length →
   ∃ v', F61_l4 K m s (F61_c6 K m c) k (pre.length : Int) v = some v' ∧ (v'.map (·.1)).Nodup ∧ (∀ d, d ∈ v'.map (·.1) ↔ KM m s c d) ∧ v'.length ≤ 180 := by
  intro rest
  induction rest with
  | nil =>
   intro pre k v hp hk hn hm hv
   obtain ⟨k, rfl⟩ : ∃ q, k = q + 1 := ⟨k - 1, by omega⟩
   have e : m.Services = pre := by simpa using hp
   obtain ⟨v', r1, r2, r3, r4⟩ := l10 m.Calls [] K v rfl (by omega) hn (fun d => by rw [hm, ← e]; simp)
   rw [e] at hl
   exact ⟨v', by rw [F61_l4, if_neg (atEnd hp), F61_c6]; exact r1, r2, r3, by omega⟩
  | cons x rest ih =>
   intro pre k v hp hk hn hm hv
   obtain ⟨k, rfl⟩ : ∃ q, k = q + 1 := ⟨k - 1, by omega⟩
   obtain ⟨m1, m2, m3, m4⟩ := atMid hp Zr
   obtain ⟨n1, n2⟩ := next pre x hp (by omega)
   obtain ⟨q1, q2, q3⟩ := mput_spec lawD (⟨s, x.Name, []⟩ : Df) true hn
   obtain ⟨v', r1, r2⟩ := ih (pre ++ [x]) k _ n2 (by simpa using hk) q1 (fun d => by
    have e : d ∈ (mput Z22 (⟨s, x.Name, []⟩ : Df) true v).map (·.1) ↔ d = ⟨s, x.Name, []⟩ ∨ d ∈ v.map (·.1) := by
     rw [List.mem_map, List.mem_map]
     constructor
     ·rintro ⟨kv, k1, rfl⟩
      rcases (q2 kv).1 k1 with rfl | ⟨k1, _⟩
      ·exact .inl rfl
      ·exact .inr ⟨kv, k1, rfl⟩
     ·rintro (rfl | ⟨kv, k1, rfl⟩)
      ·exact ⟨_, (q2 _).2 (.inl rfl), rfl⟩
      ·by_cases e : kv.1 = ⟨s, x.Name, []⟩
       ·exact ⟨_, (q2 _).2 (.inl rfl), e.symm⟩
       ·exact ⟨kv, (q2 _).2 (.inr ⟨k1, e⟩), rfl⟩
    rw [e, hm]
    constructor
    ·rintro (e | ⟨t, t1, e⟩)
     ·exact ⟨x, by simp, e⟩
     ·exact ⟨t, by simp [t1], e⟩
    ·rintro ⟨t, t1, e2⟩
     rcases List.mem_append.1 t1 with t1 | t1
     ·exact .inr ⟨t, t1, e2⟩
     ·simp at t1; subst t1; exact .inl e2) (by simp; omega)
   exact ⟨v', by rw [F61_l4, if_pos m1, if_pos m2, m3, n1, r1], r2⟩
 obtain ⟨v, r1, r2⟩ := l4 m.Services [] K [] rfl (by omega) (by simp) (by simp) (by simp)
 exact ⟨v, by rw [F61]; exact r1, r2⟩
theorem F62_gen (K : Nat) (hK : 1000 < K) (A B : List Df) (hA : A.length ≤ 400) (hB : B.length ≤ 400) : F62 K [A, B] = some (A ++ B) := by
 obtain ⟨K', rfl⟩ : ∃ q, K = q + 3 := ⟨K - 3, by omega⟩
 have w0 : IntKind.i64.wrap ((0 : Int) + 1) = 1 := wrapI (by omega) (by omega)
 have w1 : IntKind.i64.wrap ((1 : Int) + 1) = 2 := wrapI (by omega) (by omega)
 have g0 : [A, B].getD (0 : Int).toNat ([] : List Df) = A := rfl
 have g1 : [A, B].getD (1 : Int).toNat ([] : List Df) = B := rfl
 have wa : IntKind.i64.wrap (0 + (A.length : Int)) = (A.length : Int) := by rw [wrapI (by omega) (by omega)]; omega
 have wb : IntKind.i64.wrap ((A.length : Int) + (B.length : Int)) = (A.length : Int) + (B.length : Int) := wrapI (by omega) (by omega)
 have l2 : ∀ c, F62_l11 (K' + 3) [A, B] c (K' + 1) 2 (A ++ B) = c (A ++ B) := fun c => by rw [F62_l11, if_neg (by simp)]
 have l1 : ∀ c, F62_l11 (K' + 3) [A, B] c (K' + 2) 1 A = c (A ++ B) := fun c => by
  rw [F62_l11, if_pos (by simp), if_pos (by simp), g1, if_pos (by omega), w1, l2]
 have l0 : ∀ c, F62_l11 (K' + 3) [A, B] c (K' + 3) 0 [] = c (A ++ B) := fun c => by
  rw [F62_l11, if_pos (by simp), if_pos (by simp), g0, if_pos (by simp only [List.length_nil]; omega), w0, List.nil_append, l1]
 have m2 : ∀ c, F62_l3 (K' + 3) [A, B] c (K' + 1) ((A.length : Int) + (B.length : Int)) 2 = c ((A.length : Int) + (B.length : Int)) := fun c => by rw [F62_l3, if_neg (by simp)]
 have m1 : ∀ c, F62_l3 (K' + 3) [A, B] c (K' + 2) (A.length : Int) 1 = c ((A.length : Int) + (B.length : Int)) := fun c => by
  rw [F62_l3, if_pos (by simp), if_pos (by simp), g1, wb, if_neg (by simp; omega), w1, m2]
 rw [F62, F62_l3, if_pos (by simp), if_pos (by simp), g0, wa, if_neg (by simp), w0, m1, F62_c5, F104_val _ (by omega), Option.bind_some, l0, F62_c13]
theorem F23_gen (K : Nat) (hK : 1000 < K) {x y : Zd} (hx : x.Services.length ≤ 90) (hx2 : x.Calls.length ≤ 90) (hy : y.Services.length ≤ 90) (hy2 : y.Calls.length ≤ 90) : ∃ L, F23 K x y = some L ∧ Strict cD L ∧ (∀ d, d ∈ L ↔ DM x y d) ∧ L.length ≤ 360 := by
 classical
 obtain ⟨a, a1, a2, a3, a4⟩ := F61_gen K hK hy hy2 1 3
 obtain ⟨b, b1, b2, b3, b4⟩ := F61_gen K hK hx hx2 2 4
 obtain ⟨a', a1', a2', a3', a4'⟩ := F61_gen K hK hx hx2 1 3
 obtain ⟨b', b1', b2', b3', b4'⟩ := F61_gen K hK hy hy2 2 4
 let L := setOf cD (((a.map (·.1)).filter fun d => decide (¬ KM x 1 3 d)) ++ ((b.map (·.1)).filter fun d => decide (¬ KM y 2 4 d)))
 have hL : ∀ d, d ∈ L ↔ DM x y d := fun d => by
  rw [setOf_mem, List.mem_append, List.mem_filter, List.mem_filter, decide_eq_true_eq, decide_eq_true_eq, a3, b3]
  rfl
 have hlen : L.length ≤ 360 := by
  refine Nat.le_trans (setOf_len _) ?_
  rw [List.length_append]
  have h1 := List.length_filter_le (fun d => decide (¬ KM x 1 3 d)) (a.map (·.1))
  have h2 := List.length_filter_le (fun d => decide (¬ KM y 2 4 d)) (b.map (·.1))
  simp only [List.length_map] at h1 h2
  omega
 refine ⟨L, ?_, cordD.setOf_strict _, hL, hlen⟩
 rw [F23, a1, Option.bind_some, b1, Option.bind_some, a1', Option.bind_some]
 refine F23_l9_val K _ L K a' a (by omega) a2 fun v hv1 hv2 => ?_
 rw [F23_c11, b1', Option.bind_some]
 refine F23_l17_val K _ L K b' b (by omega) b2 fun u hu1 hu2 => ?_
 have mv : ∀ d, d ∈ v.map (·.1) ↔ KM y 1 3 d ∧ ¬ KM x 1 3 d := fun d => by
  rw [List.mem_map, ← a3, ← a3']
  constructor
  ·rintro ⟨kv, k1, rfl⟩
   obtain ⟨k2, k3⟩ := (hv2 kv).1 k1
   exact ⟨List.mem_map.2 ⟨kv, k2, rfl⟩, k3⟩
  ·rintro ⟨k1, k2⟩
   obtain ⟨kv, k3, rfl⟩ := List.mem_map.1 k1
   exact ⟨kv, (hv2 kv).2 ⟨k3, k2⟩, rfl⟩
 have mu : ∀ d, d ∈ u.map (·.1) ↔ KM x 2 4 d ∧ ¬ KM y 2 4 d := fun d => by
  rw [List.mem_map, ← b3, ← b3']
  constructor
  ·rintro ⟨kv, k1, rfl⟩
   obtain ⟨k2, k3⟩ := (hu2 kv).1 k1
   exact ⟨List.mem_map.2 ⟨kv, k2, rfl⟩, k3⟩
  ·rintro ⟨k1, k2⟩
   obtain ⟨kv, k3, rfl⟩ := List.mem_map.1 k1
   exact ⟨kv, (hu2 kv).2 ⟨k3, k2⟩, rfl⟩
 have lv : v.length ≤ 180 := by
  have := nodup_len' (l := v.map (·.1)) (m := a.map (·.1)) hv1 fun d hd => (a3 d).2 ((mv d).1 hd).1
  simp only [List.length_map] at this
  omega
 have lu : u.length ≤ 180 := by
  have := nodup_len' (l := u.map (·.1)) (m := b.map (·.1)) hu1 fun d hd => (b3 d).2 ((mu d).1 hd).1
  simp only [List.length_map] at this
  omega
 rw [F23_c19, F64, Option.bind_some, if_pos (by omega)]
 refine ndPerm_of fun v' pv => ?_
 rw [F64, Option.bind_some, if_pos (by omega)]
 refine ndPerm_of fun u' pu => ?_
 have pv' := pv.map (fun e : Df × Bool => e.1)
 have pu' := pu.map (fun e : Df × Bool => e.1)
 have hnod : (v'.map (fun e : Df × Bool => e.1) ++ u'.map (fun e : Df × Bool => e.1)).Nodup := by
  rw [List.nodup_append]
  refine ⟨pv'.nodup_iff.2 hv1, pu'.nodup_iff.2 hu1, fun d hd e he h => ?_⟩
  subst h
  have k1 := KM_kind ((mv d).1 (pv'.mem_iff.1 hd)).1
  have k2 := KM_kind ((mu d).1 (pu'.mem_iff.1 he)).1
  omega
 have l1 := pv'.length_eq
 have l2 := pu'.length_eq
 simp only [List.length_map] at l1 l2
 rw [F62_gen K hK _ _ (by simp only [List.length_map]; omega) (by simp only [List.length_map]; omega), Option.bind_some]
 have hs : sortF (fun a b => F66 K a b) (v'.map (fun e : Df × Bool => e.1) ++ u'.map (fun e : Df × Bool => e.1)) = some L := by
  refine sort_key pordD (fun _ _ => cD_zero) id (fun a b => F66_val K (by omega) a b) (by simp only [List.length_append, List.length_map]; omega) hnod (fun a _ b _ e => e) (cordD.setOf_strict _) fun d => ?_
  rw [hL, List.mem_append, pv'.mem_iff, pu'.mem_iff, mv, mu]
  rfl
 rw [hs, Option.bind_some]
end Go.AM.TopZ
