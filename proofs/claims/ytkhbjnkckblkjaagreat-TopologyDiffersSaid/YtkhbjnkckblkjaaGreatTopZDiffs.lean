/- TopologyDiffers: Differ returns the differences of any two drawn service graphs (at most 12 arrows), none for the same one, and in the other direction the opposite ones. -/
import Derived.Test.YtkhbjnkckblkjaaGreatTopZDiffB
namespace Go.AM.TopZ
open Go Go.AM
def dS (k : Int) (o m : Zc) : List Df := (m.Services.filter fun t => decide (∀ u ∈ o.Services, u.Name ≠ t.Name)).map fun t => ⟨k, t.Name, []⟩
def dC (k : Int) (o m : Zc) : List Df := (m.Calls.filter fun t => decide (∀ u ∈ o.Calls, ¬ (u.Caller = t.Caller ∧ u.Callee = t.Callee))).map fun t => ⟨k, t.Caller, t.Callee⟩
theorem F25_l13_val (K : Nat) (hK : 1000 < K) (m o : Zc) (ho : o.Services.length ≤ 1000) (hf : Few 1000 o) (k : Int) (hk : k ≤ 2) (c : List Df → Option (List Df)) (acc : List Df) (ha : acc.length ≤ 1000) (hm : m.Services.length ≤ 100) :
  Z3w K m k o c K 0 acc = c (acc ++ dS k o m) := by
 have all : ∀ (rest pre : List Zg) (f : Nat) (a : List Df), m.Services = pre ++ rest → rest.length < f → a.length ≤ 1000 + pre.length → Z3w K m k o c f (pre.length : Int) a = c (a ++ ((rest.filter fun t => decide (∀ u ∈ o.Services, u.Name ≠ t.Name)).map fun t => (⟨k, t.Name, []⟩ : Df))) := by
  intro rest
  induction rest with
  | nil =>
   intro pre f a hp hf' _
   obtain ⟨f, rfl⟩ : ∃ q, f = q + 1 := ⟨f - 1, by omega⟩
   rw [Z3w, if_neg (atEnd hp)]; simp
  | cons x rest ih =>
   intro pre f a hp hf' ha
   obtain ⟨f, rfl⟩ : ∃ q, f = q + 1 := ⟨f - 1, by omega⟩
   obtain ⟨m1, m2, m3, m4⟩ := atMid hp Z9
   obtain ⟨n1, n2⟩ := next pre x hp (by omega)
   obtain ⟨s, s1, s2, s3⟩ := F31_val K o x.Name ho hK
   have hpl : pre.length < m.Services.length := by rw [hp]; simp
   rw [Z3w, if_pos m1, if_pos (by simpa using hk), if_pos m2, m3, s1, Option.bind_some]
   by_cases e : ∀ u ∈ o.Services, u.Name ≠ x.Name
   ·have hs : s.Spans = 0 := by
     rcases s3 with s3 | ⟨s3, _⟩
     ·exact absurd s2 (e s s3)
     ·rw [s3]
    rw [if_pos (by simp [hs]), if_pos m2, if_pos (by simp only [List.length_cons, List.length_nil]; omega), Z7q, n1, ih (pre ++ [x]) f _ n2 (by simpa using hf') (by simp; omega), List.filter_cons, if_pos (by simpa using e)]
    simp
   ·have hs : 1 ≤ s.Spans := by
     rcases s3 with s3 | ⟨_, s3⟩
     ·exact (hf s s3).1
     ·exact absurd s3 e
    rw [if_neg (by simp; omega), Z7q, n1, ih (pre ++ [x]) f _ n2 (by simpa using hf') (by simp; omega), List.filter_cons, if_neg (by simpa using e)]
 exact all m.Services [] K acc rfl (by omega) (by simp; omega)
theorem F25_l19_val (K : Nat) (hK : 1000 < K) (m o : Zc) (ho : o.Calls.length ≤ 1000) (hf : FewC 1000 o) (k : Int) (hk : 2 < k) (c : List Df → Option (List Df)) (acc : List Df) (ha : acc.length ≤ 1000) (hm : m.Calls.length ≤ 100) :
  Z3y K m k o c K 0 acc = c (acc ++ dC k o m) := by
 have all : ∀ (rest pre : List Zk) (f : Nat) (a : List Df), m.Calls = pre ++ rest → rest.length < f → a.length ≤ 1000 + pre.length → Z3y K m k o c f (pre.length : Int) a = c (a ++ ((rest.filter fun t => decide (∀ u ∈ o.Calls, ¬ (u.Caller = t.Caller ∧ u.Callee = t.Callee))).map fun t => (⟨k, t.Caller, t.Callee⟩ : Df))) := by
  intro rest
  induction rest with
  | nil =>
   intro pre f a hp hf' _
   obtain ⟨f, rfl⟩ : ∃ q, f = q + 1 := ⟨f - 1, by omega⟩
   rw [Z3y, if_neg (atEnd hp)]; simp
  | cons x rest ih =>
   intro pre f a hp hf' ha
   obtain ⟨f, rfl⟩ : ∃ q, f = q + 1 := ⟨f - 1, by omega⟩
   obtain ⟨m1, m2, m3, m4⟩ := atMid hp Z6
   obtain ⟨n1, n2⟩ := next pre x hp (by omega)
   obtain ⟨s, s1, s2, s3⟩ := F54_full K o x.Caller x.Callee ho hK
   have hpl : pre.length < m.Calls.length := by rw [hp]; simp
   have key : ∀ u : Zk, KC.f u = ⟨x.Caller, x.Callee⟩ ↔ u.Caller = x.Caller ∧ u.Callee = x.Callee := fun u => by simp [KC]
   rw [Z3y, if_pos m1, if_pos (by simpa using hk), if_pos m2, if_pos m2, m3, s1, Option.bind_some]
   by_cases e : ∀ u ∈ o.Calls, ¬ (u.Caller = x.Caller ∧ u.Callee = x.Callee)
   ·have hs : s.Count = 0 := by
     rcases s3 with s3 | ⟨s3, _⟩
     ·exact absurd ((key s).1 s2) (e s s3)
     ·rw [s3]
    rw [if_pos (by simp [hs]), if_pos m2, if_pos m2, if_pos (by simp only [List.length_cons, List.length_nil]; omega), Z7s, n1, ih (pre ++ [x]) f _ n2 (by simpa using hf') (by simp; omega), List.filter_cons, if_pos (by simpa using e)]
    simp
   ·have hs : 1 ≤ s.Count := by
     rcases s3 with s3 | ⟨_, s3⟩
     ·exact (hf s s3).1
     ·exact absurd (fun u hu h => s3 u hu ((key u).2 h)) e
    rw [if_neg (by simp; omega), Z7s, n1, ih (pre ++ [x]) f _ n2 (by simpa using hf') (by simp; omega), List.filter_cons, if_neg (by simpa using e)]
 exact all m.Calls [] K acc rfl (by omega) (by simp; omega)
theorem dS_len (k : Int) (o m : Zc) : (dS k o m).length ≤ m.Services.length := by
 unfold dS; rw [List.length_map]; exact List.length_filter_le _ _
theorem dC_len (k : Int) (o m : Zc) : (dC k o m).length ≤ m.Calls.length := by
 unfold dC; rw [List.length_map]; exact List.length_filter_le _ _
theorem F25_val (K : Nat) (hK : 1000 < K) {x y : Zc} (hx : Wf x) (hy : Wf y) (fx : Few 1000 x) (fy : Few 1000 y) (gx : FewC 1000 x) (gy : FewC 1000 y) :
  F25 K x y = some (dS 1 x y ++ dS 2 y x ++ dC 3 x y ++ dC 4 y x) := by
 obtain ⟨K', hK'⟩ : ∃ q, K = q + 5 := ⟨K - 5, by omega⟩
 have lx := hx.len
 have ly := hy.len
 have lxC := hx.lenC
 have lyC := hy.lenC
 have d1 := dS_len 1 x y
 have d2 := dS_len 2 y x
 have d3 := dC_len 3 x y
 have wS : ∀ (k : Int) (o m : Zc) (b : Int → List Df → Option (List Df)) (acc : List Df), 1 ≤ k → k ≤ 2 → o.Services.length ≤ 1000 → Few 1000 o → m.Services.length ≤ 100 → acc.length ≤ 500 → Z5e K k b acc o m = b (k + 1) (acc ++ dS k o m) := fun k o m b acc h0 hk ho hf hm ha => by
  rw [Z5e, F25_l13_val K hK m o ho hf k hk _ acc (by omega) hm, Z6q]
  obtain ⟨q, hq⟩ : ∃ q, K = q + 1 := ⟨K - 1, by omega⟩
  have : Z3y K m k o (Z55 K b k) K 0 (acc ++ dS k o m) = Z55 K b k (acc ++ dS k o m) := by
   conv => lhs; arg 6; rw [hq]
   rw [Z3y]
   split
   ·rw [if_neg (by simp; omega)]
   ·rfl
  rw [this, Z55, wrapI (by omega) (by omega)]
 have wC : ∀ (k : Int) (o m : Zc) (b : Int → List Df → Option (List Df)) (acc : List Df), 2 < k → k ≤ 4 → o.Calls.length ≤ 1000 → FewC 1000 o → m.Calls.length ≤ 100 → acc.length ≤ 500 → Z5e K k b acc o m = b (k + 1) (acc ++ dC k o m) := fun k o m b acc h0 hk ho hf hm ha => by
  obtain ⟨q, hq⟩ : ∃ q, K = q + 1 := ⟨K - 1, by omega⟩
  have : ∀ c : List Df → Option (List Df), Z3w K m k o c K 0 acc = c acc := fun c => by
   conv => lhs; arg 6; rw [hq]
   rw [Z3w]
   split
   ·rw [if_neg (by simp; omega)]
   ·rfl
  rw [Z5e, this, Z6q, F25_l19_val K hK m o ho hf k h0 _ acc (by omega) hm, Z55, wrapI (by omega) (by omega)]
 have t1 : (1 : Int).tmod 2 = 1 := rfl
 have t2 : (2 : Int).tmod 2 = 0 := rfl
 have t3 : (3 : Int).tmod 2 = 1 := rfl
 have t4 : (4 : Int).tmod 2 = 0 := rfl
 rw [F25]
 conv => lhs; arg 5; rw [hK']
 rw [Z3s, if_pos (by simp), t1, if_neg (by simp), wS 1 x y _ [] (by omega) (by omega) (by omega) fx (by omega) (by simp), List.nil_append, show (1 : Int) + 1 = 2 by rfl]
 rw [Z3s, if_pos (by simp), t2, if_pos (by simp), wS 2 y x _ _ (by omega) (by omega) (by omega) fy (by omega) (by omega), show (2 : Int) + 1 = 3 by rfl]
 rw [Z3s, if_pos (by simp), t3, if_neg (by simp), wC 3 x y _ _ (by omega) (by omega) (by omega) gx (by omega) (by simp only [List.length_append]; omega), show (3 : Int) + 1 = 4 by rfl]
 rw [Z3s, if_pos (by simp), t4, if_pos (by simp), wC 4 y x _ _ (by omega) (by omega) (by omega) gy (by omega) (by simp only [List.length_append]; omega), show (4 : Int) + 1 = 5 by rfl]
 rw [Z3s, if_neg (by simp), Z5b]
theorem cD_lt (a b : Df) : cD a b < 0 ↔ a.Kind < b.Kind ∨ a.Kind = b.Kind ∧ cP (a.Service, a.Target) (b.Service, b.Target) < 0 := by
 unfold cD
 rw [Z49]
 by_cases h : sg a.Kind b.Kind = 0
 ·rw [if_pos h]
  have h1 := Z9s.1 h
  constructor
  ·intro h2; exact .inr ⟨h1, h2⟩
  ·rintro (h2 | ⟨_, h2⟩)
   ·omega
   ·exact h2
 ·rw [if_neg h]
  have h1 : ¬ a.Kind = b.Kind := fun e => h (Z9s.2 e)
  unfold sg at h ⊢
  split
  ·next h2 => simp [h2]
  ·next h2 =>
   have : ¬ a.Kind < b.Kind := h2
   split
   ·simp [this, h1]
   ·omega
theorem dS_strict (k : Int) {o m : Zc} (h : Wf m) : Strict cD (dS k o m) := by
 unfold Strict dS
 rw [List.pairwise_map]
 exact (h.so.filter _).imp fun {a b} hab => (cD_lt (⟨k, a.Name, []⟩ : Df) ⟨k, b.Name, []⟩).2 (.inr ⟨rfl, (cP_lt _ _).2 (.inl hab)⟩)
theorem dC_strict (k : Int) {o m : Zc} (h : Wf m) : Strict cD (dC k o m) := by
 unfold Strict dC
 rw [List.pairwise_map]
 exact (h.co.filter _).imp fun {a b} hab => (cD_lt (⟨k, a.Caller, a.Callee⟩ : Df) ⟨k, b.Caller, b.Callee⟩).2 (.inr ⟨rfl, hab⟩)
theorem dS_mem {k : Int} {o m : Zc} {d : Df} : d ∈ dS k o m ↔ (∃ t ∈ m.Services, d = ⟨k, t.Name, []⟩) ∧ ∀ u ∈ o.Services, d ≠ ⟨k, u.Name, []⟩ := by
 unfold dS
 rw [List.mem_map]
 constructor
 ·rintro ⟨t, h1, rfl⟩
  obtain ⟨h1, h2⟩ := List.mem_filter.1 h1
  simp only [decide_eq_true_eq] at h2
  exact ⟨⟨t, h1, rfl⟩, fun u hu e => h2 u hu (congrArg Z7.Service e).symm⟩
 ·rintro ⟨⟨t, h1, rfl⟩, h2⟩
  exact ⟨t, List.mem_filter.2 ⟨h1, by simpa using fun u hu e => h2 u hu (by rw [e])⟩, rfl⟩
theorem dC_mem {k : Int} {o m : Zc} {d : Df} : d ∈ dC k o m ↔ (∃ t ∈ m.Calls, d = ⟨k, t.Caller, t.Callee⟩) ∧ ∀ u ∈ o.Calls, d ≠ ⟨k, u.Caller, u.Callee⟩ := by
 unfold dC
 rw [List.mem_map]
 constructor
 ·rintro ⟨t, h1, rfl⟩
  obtain ⟨h1, h2⟩ := List.mem_filter.1 h1
  simp only [decide_eq_true_eq] at h2
  exact ⟨⟨t, h1, rfl⟩, fun u hu e => h2 u hu ⟨(congrArg Z7.Service e).symm, (congrArg Z7.Target e).symm⟩⟩
 ·rintro ⟨⟨t, h1, rfl⟩, h2⟩
  refine ⟨t, List.mem_filter.2 ⟨h1, ?_⟩, rfl⟩
  simp only [decide_eq_true_eq]
  exact fun u hu e => h2 u hu (by rw [e.1, e.2])
theorem model_is {x y : Zc} (hx : Wf x) (hy : Wf y) {L : List Df} (hL : Strict cD L) (hm : ∀ d, d ∈ L ↔ DM x y d) : dS 1 x y ++ dS 2 y x ++ dC 3 x y ++ dC 4 y x = L := by
 have kS : ∀ {k : Int} {o m : Zc}, ∀ d ∈ dS k o m, d.Kind = k := fun {k o m} d hd => by obtain ⟨⟨t, _, rfl⟩, _⟩ := dS_mem.1 hd; rfl
 have kC : ∀ {k : Int} {o m : Zc}, ∀ d ∈ dC k o m, d.Kind = k := fun {k o m} d hd => by obtain ⟨⟨t, _, rfl⟩, _⟩ := dC_mem.1 hd; rfl
 refine Z7b cordD ?_ hL fun d => ?_
 ·refine List.pairwise_append.2 ⟨List.pairwise_append.2 ⟨List.pairwise_append.2 ⟨dS_strict 1 hy, dS_strict 2 hx, fun a ha b hb => ?_⟩, dC_strict 3 hy, fun a ha b hb => ?_⟩, dC_strict 4 hx, fun a ha b hb => ?_⟩
  ·exact (cD_lt _ _).2 (.inl (by rw [kS a ha, kS b hb]; omega))
  ·rcases List.mem_append.1 ha with ha | ha
   ·exact (cD_lt _ _).2 (.inl (by rw [kS a ha, kC b hb]; omega))
   ·exact (cD_lt _ _).2 (.inl (by rw [kS a ha, kC b hb]; omega))
  ·rcases List.mem_append.1 ha with ha | ha
   ·rcases List.mem_append.1 ha with ha | ha
    ·exact (cD_lt _ _).2 (.inl (by rw [kS a ha, kC b hb]; omega))
    ·exact (cD_lt _ _).2 (.inl (by rw [kS a ha, kC b hb]; omega))
   ·exact (cD_lt _ _).2 (.inl (by rw [kC a ha, kC b hb]; omega))
 ·rw [hm]
  simp only [List.mem_append, dS_mem, dC_mem, DM, KM]
  constructor
  ·rintro (((⟨⟨t, t1, rfl⟩, h⟩ | ⟨⟨t, t1, rfl⟩, h⟩) | ⟨⟨t, t1, rfl⟩, h⟩) | ⟨⟨t, t1, rfl⟩, h⟩)
   ·refine .inl ⟨.inl ⟨t, t1, rfl⟩, ?_⟩
    rintro (⟨u, u1, e⟩ | ⟨u, u1, e⟩)
    ·exact h u u1 e
    ·simp at e
   ·refine .inr ⟨.inl ⟨t, t1, rfl⟩, ?_⟩
    rintro (⟨u, u1, e⟩ | ⟨u, u1, e⟩)
    ·exact h u u1 e
    ·simp at e
   ·refine .inl ⟨.inr ⟨t, t1, rfl⟩, ?_⟩
    rintro (⟨u, u1, e⟩ | ⟨u, u1, e⟩)
    ·simp at e
    ·exact h u u1 e
   ·refine .inr ⟨.inr ⟨t, t1, rfl⟩, ?_⟩
    rintro (⟨u, u1, e⟩ | ⟨u, u1, e⟩)
    ·simp at e
    ·exact h u u1 e
  ·rintro (⟨⟨t, t1, rfl⟩ | ⟨t, t1, rfl⟩, h⟩ | ⟨⟨t, t1, rfl⟩ | ⟨t, t1, rfl⟩, h⟩)
   ·exact .inl (.inl (.inl ⟨⟨t, t1, rfl⟩, fun u hu e => h (.inl ⟨u, hu, e⟩)⟩))
   ·exact .inl (.inr ⟨⟨t, t1, rfl⟩, fun u hu e => h (.inr ⟨u, hu, e⟩)⟩)
   ·exact .inl (.inl (.inr ⟨⟨t, t1, rfl⟩, fun u hu e => h (.inl ⟨u, hu, e⟩)⟩))
   ·exact .inr ⟨⟨t, t1, rfl⟩, fun u hu e => h (.inr ⟨u, hu, e⟩)⟩
def flip (k : Int) : Int := [0, 2, 1, 4, 3].getD k.toNat 0
def fl (d : Df) : Df := { d with Kind := flip d.Kind }
theorem KM_flip {m : Zc} {d : Df} (h : KM m 1 3 d) : KM m 2 4 (fl d) := by
 rcases h with ⟨t, t1, rfl⟩ | ⟨t, t1, rfl⟩
 ·exact .inl ⟨t, t1, rfl⟩
 ·exact .inr ⟨t, t1, rfl⟩
theorem KM_flop {m : Zc} {d : Df} (h : KM m 2 4 d) : KM m 1 3 (fl d) := by
 rcases h with ⟨t, t1, rfl⟩ | ⟨t, t1, rfl⟩
 ·exact .inl ⟨t, t1, rfl⟩
 ·exact .inr ⟨t, t1, rfl⟩
theorem fl_fl {d : Df} (h : d.Kind = 1 ∨ d.Kind = 2 ∨ d.Kind = 3 ∨ d.Kind = 4) : fl (fl d) = d := by
 obtain ⟨k, s, t⟩ := d
 simp only at h
 rcases h with rfl | rfl | rfl | rfl <;> rfl
theorem DM_kind {x y : Zc} {d : Df} (h : DM x y d) : d.Kind = 1 ∨ d.Kind = 2 ∨ d.Kind = 3 ∨ d.Kind = 4 := by
 rcases h with ⟨h, _⟩ | ⟨h, _⟩
 ·rcases KM_kind h with h | h <;> omega
 ·rcases KM_kind h with h | h <;> omega
theorem DM_flip {x y : Zc} {d : Df} (h : DM x y d) : DM y x (fl d) := by
 have hk := DM_kind h
 rcases h with ⟨h1, h2⟩ | ⟨h1, h2⟩
 ·refine .inr ⟨KM_flip h1, fun h3 => h2 ?_⟩
  have := KM_flop h3
  rwa [fl_fl hk] at this
 ·refine .inl ⟨KM_flop h1, fun h3 => h2 ?_⟩
  have := KM_flip h3
  rwa [fl_fl hk] at this
theorem eqD (a b : Df) : ((a.Kind == b.Kind) && ((a.Service == b.Service) && ((a.Target == b.Target) && true))) = decide (a = b) := by
 cases a; cases b
 rw [Bool.eq_iff_iff]
 simp
theorem F24_same (K : Nat) (hK : 1000 < K) (l : List Df) (hl : l.length ≤ 900) : F24 K l l = some true := by
 rw [F24, if_neg (by simp)]
 have := forLoopX (fun k i (_ : Unit) => Z9i K l l (Zax K) k i) l.length (fun _ _ => True) (fun r => r = true)
  (fun k i s hi _ _ => .inr ⟨(), trivial, by
   have w : IntKind.i64.wrap ((i : Int) + 1) = ((i + 1 : Nat) : Int) := wrapS (by omega)
   rw [Z9i, if_pos (by simpa using hi), if_pos (by omega), if_pos (by omega), if_neg (by simp), w]⟩)
  (fun k s _ => ⟨true, by rw [Z9i, if_neg (by simp), Zax], rfl⟩) l.length 0 () K (by omega) trivial (by omega)
 obtain ⟨r, h1, h2⟩ := this
 subst h2
 exact h1
theorem F5_l23_val (K : Nat) (B L : List Df) (hB : B.length ≤ 900) (i : Int) {d : Df} (hd : L.getD i.toNat Ze = d) (c : Bool → Option Bool) : ∀ (rest pre : List Df) (k : Nat) (b : Bool), B = pre ++ rest → rest.length < k →
  Z6f K B L i c k b (pre.length : Int) = c (b || decide (fl d ∈ rest)) := by
 intro rest
 induction rest with
 | nil =>
  intro pre k b hp hk
  obtain ⟨k, rfl⟩ : ∃ q, k = q + 1 := ⟨k - 1, by omega⟩
  rw [Z6f, if_neg (atEnd hp)]; simp
 | cons x rest ih =>
  intro pre k b hp hk
  obtain ⟨k, rfl⟩ : ∃ q, k = q + 1 := ⟨k - 1, by omega⟩
  obtain ⟨m1, m2, m3, m4⟩ := atMid hp Ze
  obtain ⟨n1, n2⟩ := next pre x hp (by omega)
  have hk' : rest.length < k := by simpa using hk
  cases b with
  | true =>
   rw [Z6f, if_pos m1, if_pos rfl, Zap, n1, ih (pre ++ [x]) k true n2 hk']
   simp
  | false =>
   have e : ((x.Kind == ([0, 2, 1, 4, 3].getD d.Kind.toNat 0)) && ((x.Service == d.Service) && ((x.Target == d.Target) && true))) = decide (x = fl d) := eqD x (fl d)
   rw [Z6f, if_pos m1, if_neg (by simp), if_pos m2, m3, hd, e, Zap, n1, ih (pre ++ [x]) k _ n2 hk']
   by_cases h : x = fl d
   ·simp [h]
   ·have : ¬ fl d = x := fun e => h e.symm
    simp [h, this]
theorem pureDiffers (a b : List Z18) (ha : ok58 a) (hb : ok58 b) : ∃ K, F5 K a b = some true := by
 refine ⟨4001, ?_⟩
 obtain ⟨x, x1, x2, x3, x4⟩ := F22_valC 4001 (by omega) a fun x hx => ⟨(ha.2 x hx).1, (ha.2 x hx).2.1, (ha.2 x hx).2.2.1⟩
 obtain ⟨y, y1, y2, y3, y4⟩ := F22_valC 4001 (by omega) b fun x hx => ⟨(hb.2 x hx).1, (hb.2 x hx).2.1, (hb.2 x hx).2.2.1⟩
 obtain ⟨L, l1, l2, l3, l4⟩ := F23_val 4001 (by omega) x2 y2
 obtain ⟨B, b1, b2, b3, b4⟩ := F23_val 4001 (by omega) y2 x2
 obtain ⟨Z, z1, z2, z3, z4⟩ := F23_val 4001 (by omega) x2 x2
 have hZ : Z = [] := by
  cases hz : Z with
  | nil => rfl
  | cons d Z' =>
   have := (z3 d).1 (by rw [hz]; simp)
   rcases this with ⟨h1, h2⟩ | ⟨h1, h2⟩
   ·exact absurd h1 h2
   ·exact absurd h1 h2
 subst hZ
 have hm := F25_val 4001 (by omega) x2 y2 x3 y3 x4 y4
 rw [model_is x2 y2 l2 l3] at hm
 have nod : ∀ {l : List Df}, Strict cD l → l.Nodup := fun {l} h => by
  unfold List.Nodup
  exact List.Pairwise.imp (fun {a b} hab e => by
   rw [e, (cordD.zero b b).2 rfl] at hab
   omega) h
 have hle : ∀ {P Q : List Df} {u v : Zc}, Strict cD P → (∀ d, d ∈ P ↔ DM u v d) → (∀ d, d ∈ Q ↔ DM v u d) → P.length ≤ Q.length := fun {P Q u v} hP hp hq => by
  have := Z44 (l := P.map fl) (m := Q) (by
   unfold List.Nodup
   rw [List.pairwise_map]
   refine (nod hP).imp_of_mem fun {a b} ha hb hab e => hab ?_
   rw [← fl_fl (DM_kind ((hp a).1 ha)), ← fl_fl (DM_kind ((hp b).1 hb)), e]) fun d hd => by
   obtain ⟨e, e1, rfl⟩ := List.mem_map.1 hd
   exact (hq _).2 (DM_flip ((hp e).1 e1))
  simpa using this
 have hlen : B.length = L.length := Nat.le_antisymm (hle b2 b3 l3) (hle l2 l3 b3)
 have loop : Z5c 4001 L B (Z5h 4001) 4001 0 = some true := by
  obtain ⟨s, _, h2⟩ := forLoop0 (fun k i (_ : Unit) => Z5c 4001 L B (Z5h 4001) k i) (fun _ => Z5h 4001) L.length (fun _ _ => True) 4001 () trivial (by omega)
   (fun k i s hi _ => ⟨(), trivial, by
    have w : IntKind.i64.wrap ((i : Int) + 1) = ((i + 1 : Nat) : Int) := wrapS (by omega)
    have hg : L.getD i Ze = L[i] := by simp [List.getD, hi]
    have hd := (l3 _).1 (List.getElem_mem hi)
    have hk := DM_kind hd
    have hin : fl L[i] ∈ B := (b3 _).2 (DM_flip hd)
    have r := F5_l23_val 4001 B L (by omega) (i : Int) (d := L[i]) (by rw [Int.toNat_natCast, hg]) (Z93 4001 (Z5c 4001 L B (Z5h 4001) k) (i : Int)) B [] 4001 false rfl (by omega)
    rw [Z5c, if_pos (by simpa using hi), if_pos (by omega), Int.toNat_natCast, hg, if_pos (by simp; omega), if_pos (by simp; omega)]
    refine Eq.trans r ?_
    have e : (false || decide (fl L[i] ∈ B)) = true := by simpa using hin
    rw [e, Z93, if_neg (by simp), w]⟩)
   (fun k s _ => by rw [Z5c, if_neg (by simp)])
  exact h2
 rw [F5, known_ok' 4001 (by omega), Option.bind_some, if_neg (by simp), x1, Option.bind_some, y1, Option.bind_some, l1, Option.bind_some, b1, Option.bind_some, hm, Option.bind_some, F24_same 4001 (by omega) L (by omega), Option.bind_some, if_neg (by simp), z1, Option.bind_some, if_neg (by simp), Zbg, if_neg (by simp; omega), loop]
end Go.AM.TopZ
