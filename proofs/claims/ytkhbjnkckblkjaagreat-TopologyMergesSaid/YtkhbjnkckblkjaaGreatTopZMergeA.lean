/- Merge sums what two service graphs hold; windows of traces. -/
import Derived.Test.YtkhbjnkckblkjaaGreatTopZBuilds
namespace Go.AM.TopZ
open Go Go.AM
theorem Zb7 (K : Nat) (a b : Ze) (v3 : Int) {m : Ze} (hm : [a, b].getD v3.toNat Z12 = m) (u : List (Zs × Zk)) (c : Bool → List (Str × Zc) → Option (Ze × Int)) {L : List Zc} (hl : L.length + m.Services.length ≤ 900) (hL : ∀ x ∈ L, BS x) (hB : ∀ x ∈ m.Services, BS x) :
  ∀ (rest pre : List Zc) (k : Nat) (v : List (Str × Zc)), m.Services = pre ++ rest → rest.length < k → KS.Map (L ++ pre) v → ∃ v', Z80 K a b v3 u c k (pre.length : Int) false v = c false v' ∧ KS.Map (L ++ m.Services) v' := by
 intro rest
 induction rest with
 | nil =>
  intro pre k v h hk hv
  obtain ⟨k, rfl⟩ : ∃ q, k = q + 1 := ⟨k - 1, by omega⟩
  rw [List.append_nil] at h
  exact ⟨v, by rw [Z80, hm, h, if_neg (by simp)], by rw [h]; exact hv⟩
 | cons x rest ih =>
  intro pre k v h hk hv
  obtain ⟨k, rfl⟩ : ∃ q, k = q + 1 := ⟨k - 1, by omega⟩
  obtain ⟨m1, m2, m3, m4⟩ := atMid h Zg
  obtain ⟨n1, n2⟩ := next pre x h (by omega)
  have hlen : m.Services.length = pre.length + rest.length + 1 := by rw [h]; simp; omega
  obtain ⟨v1, q1, q2⟩ := F48_val K (L := L ++ pre) (by simp; omega) (fun y hy => by
   rcases List.mem_append.1 hy with hy | hy
   ·exact hL y hy
   ·exact hB y (by rw [h]; simp [hy])) (hB x (by rw [h]; simp)) false hv u
  rw [List.append_assoc] at q2
  obtain ⟨v', r1, r2⟩ := ih (pre ++ [x]) k v1 n2 (by simpa using hk) q2
  refine ⟨v', ?_, r2⟩
  rw [Z80, hm, if_pos m1, if_pos m2, m3, q1, Option.bind_some, n1, r1]
theorem Zc2 (K : Nat) (a b : Ze) (v3 : Int) {m : Ze} (hm : [a, b].getD v3.toNat Z12 = m) (u : List (Str × Zc)) (c : Bool → List (Zs × Zk) → Option (Ze × Int)) {L : List Zk} (hl : L.length + m.Calls.length ≤ 900) (hL : ∀ x ∈ L, BC x) (hB : ∀ x ∈ m.Calls, BC x) :
  ∀ (rest pre : List Zk) (k : Nat) (v : List (Zs × Zk)), m.Calls = pre ++ rest → rest.length < k → KC.Map (L ++ pre) v → ∃ v', Z8a K a b v3 u c k (pre.length : Int) false v = c false v' ∧ KC.Map (L ++ m.Calls) v' := by
 intro rest
 induction rest with
 | nil =>
  intro pre k v h hk hv
  obtain ⟨k, rfl⟩ : ∃ q, k = q + 1 := ⟨k - 1, by omega⟩
  rw [List.append_nil] at h
  exact ⟨v, by rw [Z8a, hm, h, if_neg (by simp)], by rw [h]; exact hv⟩
 | cons x rest ih =>
  intro pre k v h hk hv
  obtain ⟨k, rfl⟩ : ∃ q, k = q + 1 := ⟨k - 1, by omega⟩
  obtain ⟨m1, m2, m3, m4⟩ := atMid h Zf
  obtain ⟨n1, n2⟩ := next pre x h (by omega)
  have hlen : m.Calls.length = pre.length + rest.length + 1 := by rw [h]; simp; omega
  obtain ⟨v1, q1, q2⟩ := F50_val K (L := L ++ pre) (by simp; omega) (fun y hy => by
   rcases List.mem_append.1 hy with hy | hy
   ·exact hL y hy
   ·exact hB y (by rw [h]; simp [hy])) (hB x (by rw [h]; simp)) false hv u
  rw [List.append_assoc] at q2
  obtain ⟨v', r1, r2⟩ := ih (pre ++ [x]) k v1 n2 (by simpa using hk) q2
  refine ⟨v', ?_, r2⟩
  rw [Z8a, hm, if_pos m1, if_pos m2, m3, q1, Option.bind_some, n1, r1]
theorem F18_val (K : Nat) (hK : 3000 < K) {a b : Ze} (h1 : a.Services.length ≤ 100) (h2 : b.Services.length ≤ 100) (h3 : a.Calls.length ≤ 100) (h4 : b.Calls.length ≤ 100)
  (b1 : ∀ x ∈ a.Services, BS x) (b2 : ∀ x ∈ b.Services, BS x) (b3 : ∀ x ∈ a.Calls, BC x) (b4 : ∀ x ∈ b.Calls, BC x) {S : List Zc} {C : List Zk} (hS : KS.Is cS (a.Services ++ b.Services) S) (hC : KC.Is cQ (a.Calls ++ b.Calls) C) : F18 K a b = some (⟨S, C⟩, 0) := by
 obtain ⟨K', rfl⟩ : ∃ q, K = q + 3 := ⟨K - 3, by omega⟩
 have w0 : IntKind.i64.wrap ((0 : Int) + 1) = 1 := wrapI (by omega) (by omega)
 have w1 : IntKind.i64.wrap ((1 : Int) + 1) = 2 := wrapI (by omega) (by omega)
 have g0 : [a, b].getD (0 : Int).toNat Z12 = a := rfl
 have g1 : [a, b].getD (1 : Int).toNat Z12 = b := rfl
 let R0 := Z4q (K' + 3) a b (Z3s (K' + 3)) (K' + 2)
 let R1 := Z4q (K' + 3) a b (Z3s (K' + 3)) (K' + 1)
 obtain ⟨v1, p1, p2⟩ := Zb7 (K' + 3) a b 0 g0 [] (Z6k (K' + 3) a b 0 R0 []) (L := []) (by simp; omega) (by simp) b1 a.Services [] (K' + 3) [] rfl (by omega) .nil
 obtain ⟨u1, q1, q2⟩ := Zc2 (K' + 3) a b 0 g0 v1 (Z6f (K' + 3) R0 0 v1) (L := []) (by simp; omega) (by simp) b3 a.Calls [] (K' + 3) [] rfl (by omega) .nil
 simp only [List.nil_append] at p2 q2
 obtain ⟨v2, s1, s2⟩ := Zb7 (K' + 3) a b 1 g1 u1 (Z6k (K' + 3) a b 1 R1 u1) (L := a.Services) (by omega) b1 b2 b.Services [] (K' + 3) v1 rfl (by omega) (by simpa using p2)
 obtain ⟨u2, t1, t2⟩ := Zc2 (K' + 3) a b 1 g1 v2 (Z6f (K' + 3) R1 1 v2) (L := a.Calls) (by omega) b3 b4 b.Calls [] (K' + 3) u1 rfl (by omega) (by simpa using q2)
 have l1 := s2.len
 have l2 := t2.len
 simp only [List.length_append] at l1 l2
 have e3 : R1 2 false v2 u2 = Z3s (K' + 3) false v2 u2 := by
  show Z4q (K' + 3) a b (Z3s (K' + 3)) (K' + 1) 2 false v2 u2 = _
  rw [Z4q, if_neg (by simp)]
 have e2 : R0 1 false v1 u1 = Z3s (K' + 3) false v2 u2 := by
  show Z4q (K' + 3) a b (Z3s (K' + 3)) (K' + 1 + 1) 1 false v1 u1 = _
  rw [Z4q, if_pos (by simp), if_pos (by simp), if_pos (by simp)]
  refine Eq.trans s1 ?_
  rw [Z6k]
  refine Eq.trans t1 ?_
  rw [Z6f, w1, e3]
 rw [F18, F46, Option.bind_some, Z4q, if_pos (by simp), if_pos (by simp), if_pos (by simp)]
 refine Eq.trans p1 ?_
 rw [Z6k]
 refine Eq.trans q1 ?_
 rw [Z6f, w0, e2, Z3s, F52_tot _ (by omega) s2 t2 hS hC (by omega) (by omega), Option.bind_some]
theorem F90_val (K : Nat) {a : List Z1h} (h : a.length ≤ 1000) : F90 K a = some a := by rw [F90, if_pos (by simp; omega)]
theorem F91_val (K : Nat) {a : List Z22} (h : a.length ≤ 1000) : F91 K a = some a := by rw [F91, if_pos (by simp; omega)]
theorem F45_val (K : Nat) (hK : 1000 < K) {l : List Zh} (hl : l.length ≤ 30) (hs : ∀ s ∈ l, Small s) : F45 K l = some l := by
 rw [F45, F89, if_pos (by simp; omega), Option.bind_some]
 refine (forLoopF (fun k i s => Zc3 K l (Zbj K) k i s) (Zbj K) l.length (fun _ => l) K l rfl (by omega) ?_ ?_).trans (by rw [Zbj])
 ·intro k i hi
  have w : IntKind.i64.wrap ((i : Int) + 1) = ((i + 1 : Nat) : Int) := wrapS (by omega)
  have hgi : l.getD i Z1 = l[i] := by simp [List.getD, hi]
  have hm : l.getD i Z1 ∈ l := by rw [hgi]; exact List.getElem_mem hi
  have hset : l.set i (l.getD i Z1) = l := by rw [hgi]; simp
  obtain ⟨s1, s2⟩ := hs _ hm
  generalize hx : l.getD i Z1 = x at hset s1 s2
  obtain ⟨x1, x2, x3, x4, x5, x6, x7, x8, x9, x10, x11, x12, x13, x14⟩ := x
  have c1 : (decide ((i : Int) < (l.length : Int)) = true) = True := eq_true (by simpa using hi)
  have c2 : ((0 : Int) ≤ (i : Int) ∧ (i : Int) < ((l.length : Nat) : Int)) = True := eq_true (by omega)
  have c3 : (i < l.length) = True := eq_true hi
  simp only [Zc3, Int.toNat_natCast, hx, F90_val K s1, F91_val K s2, Option.bind_some, hset, c1, c2, c3, if_true, w]
 ·intro k
  rw [Zc3, if_neg (by simp)]
def slotOf (t : Zt) : Int := t.Id / 1048576
theorem F16_val (K : Nat) {n : Int} (_ : 0 ≤ n) : F16 K n = some (n / 1048576) := by
 have e : (2 : Int) ^ (min (20 : Int).toNat IntKind.i64.bits) = 1048576 := by decide
 rw [F16, if_pos (by omega), e, Int.fdiv_eq_ediv_of_nonneg _ (by omega)]
theorem F14_val (K : Nat) (hK : 1000 < K) {l : List Zt} (hl : l.length ≤ 20) (hg : ∀ t ∈ l, t.Spans.length ≤ 30 ∧ (∀ s ∈ t.Spans, Small s) ∧ 0 ≤ t.Id) (f t : Int) : F14 K l ⟨f, t⟩ = some (l.filter fun x => decide (f ≤ slotOf x ∧ slotOf x < t)) := by
 have all : ∀ (rest pre : List Zt) (k : Nat), l = pre ++ rest → rest.length < k → Z6j K l ⟨f, t⟩ (Za5 K) k (pre.length : Int) (pre.filter fun x => decide (f ≤ slotOf x ∧ slotOf x < t)) = some (l.filter fun x => decide (f ≤ slotOf x ∧ slotOf x < t)) := by
  intro rest
  induction rest with
  | nil =>
   intro pre k h hk
   obtain ⟨k, rfl⟩ : ∃ q, k = q + 1 := ⟨k - 1, by omega⟩
   rw [Z6j, if_neg (atEnd h), Za5, h, List.append_nil]
  | cons x rest ih =>
   intro pre k h hk
   obtain ⟨k, rfl⟩ : ∃ q, k = q + 1 := ⟨k - 1, by omega⟩
   obtain ⟨m1, m2, m3, m4⟩ := atMid h Z9
   obtain ⟨n1, n2⟩ := next pre x h (by omega)
   obtain ⟨g1, g2, g3⟩ := hg x (by rw [h]; simp)
   have ih' := ih (pre ++ [x]) k n2 (by simpa using hk)
   have hfl : (pre.filter fun x => decide (f ≤ slotOf x ∧ slotOf x < t)).length ≤ pre.length := List.length_filter_le _ _
   have hpl : l.length = pre.length + rest.length + 1 := by rw [h]; simp; omega
   rw [List.filter_append, List.filter_cons, List.filter_nil] at ih'
   rw [Z6j, if_pos m1, if_pos m2]
   simp only [m3, F16_val K g3, Option.bind_some, F45_val K hK g1 g2, Zbd, F14_j9, n1]
   have es : x.Id / 1048576 = slotOf x := rfl
   rw [es]
   by_cases c1 : f ≤ slotOf x
   ·rw [if_pos (by simpa using c1)]
    by_cases c2 : slotOf x < t
    ·rw [if_pos (by simp [c1, c2])] at ih'
     rw [if_pos (by simpa using c2), if_pos (by simp only [List.length_cons, List.length_nil]; omega)]
     exact ih'
    ·rw [if_neg (by simp [c2])] at ih'
     rw [if_neg (by simpa using c2)]
     simpa using ih'
   ·rw [if_neg (by simp [c1])] at ih'
    rw [if_neg (by simpa using c1)]
    simpa using ih'
 exact all l [] K rfl (by omega)
theorem F15_val (K : Nat) (hK : 1000 < K) {l : List Zt} (hl : l.length ≤ 20) (hg : ∀ t ∈ l, 0 ≤ t.Id) (f t : Int) : F15 K l f t = some (l.filter fun x => decide (f ≤ slotOf x ∧ slotOf x < t)) := by
 have all : ∀ (rest pre : List Zt) (k : Nat), l = pre ++ rest → rest.length < k → Z6o K l f t (Z9v K) k (pre.length : Int) (pre.filter fun x => decide (f ≤ slotOf x ∧ slotOf x < t)) = some (l.filter fun x => decide (f ≤ slotOf x ∧ slotOf x < t)) := by
  intro rest
  induction rest with
  | nil =>
   intro pre k h hk
   obtain ⟨k, rfl⟩ : ∃ q, k = q + 1 := ⟨k - 1, by omega⟩
   rw [Z6o, if_neg (atEnd h), Z9v, h, List.append_nil]
  | cons x rest ih =>
   intro pre k h hk
   obtain ⟨k, rfl⟩ : ∃ q, k = q + 1 := ⟨k - 1, by omega⟩
   obtain ⟨m1, m2, m3, m4⟩ := atMid h Z9
   obtain ⟨n1, n2⟩ := next pre x h (by omega)
   have g3 := hg x (by rw [h]; simp)
   have ih' := ih (pre ++ [x]) k n2 (by simpa using hk)
   have hfl : (pre.filter fun x => decide (f ≤ slotOf x ∧ slotOf x < t)).length ≤ pre.length := List.length_filter_le _ _
   have hpl : l.length = pre.length + rest.length + 1 := by rw [h]; simp; omega
   rw [List.filter_append, List.filter_cons, List.filter_nil] at ih'
   rw [Z6o, if_pos m1, if_pos m2]
   simp only [m3, F16_val K g3, Option.bind_some, Zcb, F15_j9, n1]
   have es : x.Id / 1048576 = slotOf x := rfl
   rw [es]
   by_cases c1 : f ≤ slotOf x
   ·rw [if_pos (by simpa using c1)]
    by_cases c2 : slotOf x < t
    ·rw [if_pos (by simp [c1, c2])] at ih'
     rw [if_pos (by simpa using c2), if_pos m2, if_pos (by simp only [List.length_cons, List.length_nil]; omega)]
     exact ih'
    ·rw [if_neg (by simp [c2])] at ih'
     rw [if_neg (by simpa using c2)]
     simpa using ih'
   ·rw [if_neg (by simp [c1])] at ih'
    rw [if_neg (by simpa using c1)]
    simpa using ih'
 exact all l [] K rfl (by omega)
end Go.AM.TopZ
