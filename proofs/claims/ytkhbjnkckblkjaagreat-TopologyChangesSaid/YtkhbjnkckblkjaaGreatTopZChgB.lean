/- The model's merge of two service graphs. -/
import Derived.Test.YtkhbjnkckblkjaaGreatTopZG4
import Derived.Test.YtkhbjnkckblkjaaGreatTopZMerges
namespace Go.AM.TopZ
open Go Go.AM
theorem F60_l3_val (K : Nat) (hK : 1000 < K) (a1 : Zd) (c : Zd → Option Zd) {L : List Zc} (hl : L.length + a1.Services.length ≤ 890) (hL : ∀ x ∈ L, BS x) (hB : ∀ x ∈ a1.Services, BS x) (C : List Zl) :
  ∀ (rest pre : List Zc) (k : Nat) (S : List Zc), a1.Services = pre ++ rest → rest.length < k → KS.Is cS (L ++ pre) S → ∃ S', F60_l3 K a1 c k (pre.length : Int) ⟨S, C⟩ = c ⟨S', C⟩ ∧ KS.Is cS (L ++ a1.Services) S' := by
 intro rest
 induction rest with
 | nil =>
  intro pre k S h hk hS
  obtain ⟨k, rfl⟩ : ∃ q, k = q + 1 := ⟨k - 1, by omega⟩
  rw [List.append_nil] at h
  exact ⟨S, by rw [F60_l3, h, if_neg (by simp)], by rw [h]; exact hS⟩
 | cons x rest ih =>
  intro pre k S h hk hS
  obtain ⟨k, rfl⟩ : ∃ q, k = q + 1 := ⟨k - 1, by omega⟩
  obtain ⟨m1, m2, m3, m4⟩ := atMid h Zr
  obtain ⟨n1, n2⟩ := next pre x h (by omega)
  have hlen : a1.Services.length = pre.length + rest.length + 1 := by rw [h]; simp; omega
  have hb : ∀ y ∈ L ++ pre, BS y := fun y hy => by
   rcases List.mem_append.1 hy with hy | hy
   ·exact hL y hy
   ·exact hB y (by rw [h]; simp [hy])
  have hx := hB x (by rw [h]; simp)
  obtain ⟨p1, S1, p2, p3⟩ := putS K hK (by simp; omega) C hS x
  obtain ⟨b1, b2, b3⟩ := smS (by simp; omega) hb x.Name
  obtain ⟨x1, x2, x3⟩ := hx
  rw [List.append_assoc] at p3
  obtain ⟨S', r1, r2⟩ := ih (pre ++ [x]) k S1 n2 (by simpa using hk) p3
  refine ⟨S', ?_, r2⟩
  have a1' : (KS.tot (L ++ pre) x.Name).Spans = sm KS.f KS.g1 (L ++ pre) x.Name := rfl
  have a2' : (KS.tot (L ++ pre) x.Name).Errors = sm KS.f KS.g2 (L ++ pre) x.Name := rfl
  have a3' : (KS.tot (L ++ pre) x.Name).Roots = sm KS.f KS.g3 (L ++ pre) x.Name := rfl
  have ht := Kd.tot_next (D := KS) (L ++ pre) x
  have e : (⟨x.Name, IntKind.i64.wrap ((KS.tot (L ++ pre) x.Name).Spans + x.Spans), IntKind.i64.wrap ((KS.tot (L ++ pre) x.Name).Errors + x.Errors), IntKind.i64.wrap ((KS.tot (L ++ pre) x.Name).Roots + x.Roots)⟩ : Zc) = KS.tot (L ++ pre ++ [x]) x.Name := by
   rw [a1', a2', a3', wrapI (by omega) (by omega), wrapI (by omega) (by omega), wrapI (by omega) (by omega)]
   exact ht.symm
  rw [F60_l3, if_pos m1, if_pos m2, m3, p1, Option.bind_some, if_pos m2, e, p2, Option.bind_some, n1, r1]
theorem F60_l9_val (K : Nat) (hK : 1000 < K) (a1 : Zd) (c : Zd → Option Zd) {L : List Zl} (hl : L.length + a1.Calls.length ≤ 890) (hL : ∀ x ∈ L, BC x) (hB : ∀ x ∈ a1.Calls, BC x) (S : List Zc) :
  ∀ (rest pre : List Zl) (k : Nat) (C : List Zl), a1.Calls = pre ++ rest → rest.length < k → KC.Is cQ (L ++ pre) C → ∃ C', F60_l9 K a1 c k (pre.length : Int) ⟨S, C⟩ = c ⟨S, C'⟩ ∧ KC.Is cQ (L ++ a1.Calls) C' := by
 intro rest
 induction rest with
 | nil =>
  intro pre k C h hk hC
  obtain ⟨k, rfl⟩ : ∃ q, k = q + 1 := ⟨k - 1, by omega⟩
  rw [List.append_nil] at h
  exact ⟨C, by rw [F60_l9, h, if_neg (by simp)], by rw [h]; exact hC⟩
 | cons x rest ih =>
  intro pre k C h hk hC
  obtain ⟨k, rfl⟩ : ∃ q, k = q + 1 := ⟨k - 1, by omega⟩
  obtain ⟨m1, m2, m3, m4⟩ := atMid h Zk
  obtain ⟨n1, n2⟩ := next pre x h (by omega)
  have hlen : a1.Calls.length = pre.length + rest.length + 1 := by rw [h]; simp; omega
  have hb : ∀ y ∈ L ++ pre, BC y := fun y hy => by
   rcases List.mem_append.1 hy with hy | hy
   ·exact hL y hy
   ·exact hB y (by rw [h]; simp [hy])
  have hx := hB x (by rw [h]; simp)
  obtain ⟨p1, C1, p2, p3⟩ := putC K hK (by simp; omega) S hC x
  obtain ⟨b1, b2, b3⟩ := smC (by simp; omega) hb (KC.f x)
  obtain ⟨x1, x2, x3⟩ := hx
  rw [List.append_assoc] at p3
  obtain ⟨C', r1, r2⟩ := ih (pre ++ [x]) k C1 n2 (by simpa using hk) p3
  refine ⟨C', ?_, r2⟩
  have a1' : (KC.tot (L ++ pre) (KC.f x)).Count = sm KC.f KC.g1 (L ++ pre) (KC.f x) := rfl
  have a2' : (KC.tot (L ++ pre) (KC.f x)).Errors = sm KC.f KC.g2 (L ++ pre) (KC.f x) := rfl
  have a3' : (KC.tot (L ++ pre) (KC.f x)).Time = sm KC.f KC.g3 (L ++ pre) (KC.f x) := rfl
  have ht := Kd.tot_next (D := KC) (L ++ pre) x
  have e : (⟨x.Caller, x.Callee, IntKind.i64.wrap ((KC.tot (L ++ pre) (KC.f x)).Count + x.Count), IntKind.i64.wrap ((KC.tot (L ++ pre) (KC.f x)).Errors + x.Errors), IntKind.i64.wrap ((KC.tot (L ++ pre) (KC.f x)).Time + x.Time)⟩ : Zl) = KC.tot (L ++ pre ++ [x]) (KC.f x) := by
   rw [a1', a2', a3', wrapI (by omega) (by omega), wrapI (by omega) (by omega), wrapI (by omega) (by omega)]
   exact ht.symm
  rw [F60_l9, if_pos m1, if_pos m2, if_pos m2, m3, p1, Option.bind_some, if_pos m2, e, p2, Option.bind_some, n1, r1]
theorem F60_is (K : Nat) (hK : 1000 < K) {a b : Zd} {L : List Zc} {M : List Zl} (h1 : L.length + b.Services.length ≤ 890) (h2 : M.length + b.Calls.length ≤ 890) (hL : ∀ x ∈ L, BS x) (hM : ∀ x ∈ M, BC x) (hS : ∀ x ∈ b.Services, BS x) (hC : ∀ x ∈ b.Calls, BC x)
  (ha : KS.Is cS L a.Services) (ha2 : KC.Is cQ M a.Calls) : ∃ S C, F60 K a b = some ⟨S, C⟩ ∧ KS.Is cS (L ++ b.Services) S ∧ KC.Is cQ (M ++ b.Calls) C := by
 obtain ⟨S, r1, r2⟩ := F60_l3_val K hK b (F60_c5 K b) h1 hL hS a.Calls b.Services [] K a.Services rfl (by omega) (by simpa using ha)
 obtain ⟨C, q1, q2⟩ := F60_l9_val K hK b (F60_c11 K) h2 hM hC S b.Calls [] K a.Calls rfl (by omega) (by simpa using ha2)
 exact ⟨S, C, by rw [F60]; refine Eq.trans r1 ?_; rw [F60_c5]; refine Eq.trans q1 ?_; rw [F60_c11], r2, q2⟩
end Go.AM.TopZ
