/- Changes and the model's changes, window by window. -/
import Derived.Test.YtkhbjnkckblkjaaGreatTopZG2
import Derived.Test.YtkhbjnkckblkjaaGreatTopZG3
import Derived.Test.YtkhbjnkckblkjaaGreatTopZG4
import Derived.Test.YtkhbjnkckblkjaaGreatTopZChgE
namespace Go.AM.TopZ
open Go Go.AM
def chO (f z : Int) (Q : Int → List Pr) : Nat → List Chg
 | 0 => []
 | n + 1 => if n = 0 then [] else chO f z Q n ++ numb (f + n * z) (chO f z Q n).length (Q n)
def cumC (A : Int → Nat) : Nat → Nat
 | 0 => 0
 | n + 1 => cumC A n + A n
theorem chO_len {f z : Int} {Q : Int → List Pr} {A : Int → Nat} (h : ∀ n, (Q n).length ≤ A (n - 1) + A n) : ∀ n, (chO f z Q (n + 1)).length ≤ cumC A n + cumC A (n + 1)
 | 0 => by simp [chO]
 | n + 1 => by
  have ih := chO_len (f := f) (z := z) h n
  have hq := h ((n + 1 : Nat) : Int)
  have e : ((n + 1 : Nat) : Int) - 1 = n := by omega
  rw [e] at hq
  rw [chO, if_neg (by omega), List.length_append, numb_len]
  simp only [cumC] at ih ⊢
  omega
theorem cum_add (A B : Int → Nat) : ∀ n, cumC (fun i => A i + B i) n = cumC A n + cumC B n
 | 0 => rfl
 | n + 1 => by simp only [cumC, cum_add A B n]; omega
theorem cum_one (i : Int) (c : Nat) : ∀ n : Nat, cumC (fun j => if i = j then c else 0) n ≤ if i < n then c else 0
 | 0 => by simp [cumC]
 | n + 1 => by
  have ih := cum_one i c n
  simp only [cumC]
  by_cases e : i = (n : Int)
  ·rw [if_neg (by omega)] at ih
   rw [if_pos e, if_pos (by omega)]; omega
  ·rw [if_neg e]
   by_cases e2 : i < (n : Int)
   ·rw [if_pos e2] at ih; rw [if_pos (by omega)]; omega
   ·rw [if_neg e2] at ih; omega
theorem cum_le (f z : Int) (N : Nat) : ∀ l : List Zo, cumC (fun n => (allC (win f z l n)).length) N ≤ (allC l).length
 | [] => by
  have : ∀ N, cumC (fun n => (allC (win f z [] n)).length) N = 0 := fun N => by
   induction N with
   | zero => rfl
   | succ n ih => simp only [cumC, ih]; rfl
  rw [this]; exact Nat.zero_le _
 | x :: l => by
  have e : (fun n => (allC (win f z (x :: l) n)).length) = fun n => (if idx f z x = n then (allC [x]).length else 0) + (allC (win f z l n)).length := by
   funext n
   unfold win
   by_cases h : idx f z x = n
   ·rw [List.filter_cons, if_pos (by simpa using h), if_pos h]
    simp [allC]
   ·rw [List.filter_cons, if_neg (by simpa using h), if_neg h]
    simp
  have ih := cum_le f z N l
  have h1 := cum_one (idx f z x) (allC [x]).length N
  have h2 : (allC (x :: l)).length = (allC [x]).length + (allC l).length := by simp [allC]
  rw [e, cum_add, h2]
  have h3 : (if idx f z x < (N : Int) then (allC [x]).length else 0) ≤ (allC [x]).length := by split <;> omega
  omega
theorem Bt.empty {m : Zd} (h : Bt [] m) : m = ⟨[], []⟩ := by
 have h1 := h.s.len pordS
 have h2 := h.c.len pordQ
 obtain ⟨S, C⟩ := m
 have e1 : S = [] := List.length_eq_zero_iff.1 (by have : (allS []).length = 0 := rfl; simp only at h1; omega)
 have e2 : C = [] := List.length_eq_zero_iff.1 (by have : (allC []).length = 0 := rfl; simp only at h2; omega)
 rw [e1, e2]
theorem exM (K : Nat) (hK : 3000 < K) (f z : Int) {l : List Zo} (hl : l.length ≤ 3) (hg : ∀ t ∈ l, Gt t) : ∃ M : Int → Zd, ∀ n, F20 K (win f z l n) = some (M n) ∧ Bt (win f z l n) (M n) ∧ F17_i1 K (win f z l n) = some (M n, 0) := by
 refine Classical.axiomOfChoice (r := fun (n : Int) (m : Zd) => F20 K (win f z l n) = some m ∧ Bt (win f z l n) m ∧ F17_i1 K (win f z l n) = some (m, 0)) fun n => ?_
 have hwl : (win f z l n).length ≤ l.length := List.length_filter_le _ _
 have hwg : ∀ t ∈ win f z l n, Gt t := fun t ht => hg t (List.mem_filter.1 ht).1
 obtain ⟨S, C, r1, r2, r3⟩ := F20_val K hK (a0 := win f z l n) (by omega) hwg
 exact ⟨⟨S, C⟩, r1, ⟨r2, r3⟩, F17_i1_val K hK (by omega) hwg r2 r3⟩
theorem exQ (K : Nat) (hK : 3000 < K) (f z : Int) {l : List Zo} (hl : l.length ≤ 3) (hg : ∀ t ∈ l, Gt t) {M : Int → Zd} (hM : ∀ n, Bt (win f z l n) (M n)) :
  ∃ Q : Int → List Pr, ∀ n, (Q n).length ≤ (allC (win f z l (n - 1))).length + (allC (win f z l n)).length ∧ (∀ k, k ∈ Q n ↔ xk (M (n - 1)).Calls (M n).Calls k = true) ∧
   (∀ at_ c acc, acc.length ≤ 1000 → (F60 K (M (n - 1)) (M n)).bind (fun v => F42_l21 K v (M (n - 1)) (M n) at_ c K 0 acc) = c (acc ++ numb at_ acc.length (Q n))) ∧
   (∀ (a1 : Tapi_Interval) (n' a2 at_ : Int) b acc, IntKind.i64.wrap (a1.From + (IntKind.i64.wrap (n' * (if 1048576 < a2 then 1048576 else a2)))) = at_ → acc.length ≤ 1000 →
    (F23 K (M (n - 1)) (M n)).bind (fun v => F40_l37 K v a1 n' a2 (F40_c39 K b n' acc) K 0 []) = F40_c47 K b n' (acc ++ numb at_ acc.length (Q n))) := by
 have hwl : ∀ n, (win f z l n).length ≤ 3 := fun n => Nat.le_trans (List.length_filter_le _ _) hl
 have hwg : ∀ n, ∀ t ∈ win f z l n, Gt t := fun n t ht => hg t (List.mem_filter.1 ht).1
 exact Classical.axiomOfChoice (r := fun (n : Int) (Q : List Pr) => Q.length ≤ (allC (win f z l (n - 1))).length + (allC (win f z l n)).length ∧ (∀ k, k ∈ Q ↔ xk (M (n - 1)).Calls (M n).Calls k = true) ∧
   (∀ at_ c acc, acc.length ≤ 1000 → (F60 K (M (n - 1)) (M n)).bind (fun v => F42_l21 K v (M (n - 1)) (M n) at_ c K 0 acc) = c (acc ++ numb at_ acc.length Q)) ∧
   (∀ (a1 : Tapi_Interval) (n' a2 at_ : Int) b acc, IntKind.i64.wrap (a1.From + (IntKind.i64.wrap (n' * (if 1048576 < a2 then 1048576 else a2)))) = at_ → acc.length ≤ 1000 →
    (F23 K (M (n - 1)) (M n)).bind (fun v => F40_l37 K v a1 n' a2 (F40_c39 K b n' acc) K 0 []) = F40_c47 K b n' (acc ++ numb at_ acc.length Q))) fun n =>
  step_is K hK (hwl (n - 1)) (hwl n) (hwg (n - 1)) (hwg n) (hM (n - 1)) (hM n)
theorem F40_l26_val (K : Nat) (f t a2 z : Int) (hz : (if 1048576 < a2 then 1048576 else a2) = z) (last : Nat) (hl1 : last ≤ 1000000)
  (hlast : IntKind.i64.wrap ((IntKind.i64.wrap ((IntKind.i64.wrap ((IntKind.i64.wrap (t - f)) - 1)).tdiv z)) + 1) = (last : Int) + 1)
  (ks : List Int) (M : Int → Zd) (Q : Int → List Pr) (v : List (Int × Zd)) (u : List (Int × Bool))
  (hv : ∀ n, (mget q_i64 n v).getD z_Ttopology_Map = M n) (hu : ∀ n, (mget q_i64 n u).getD false = decide (n ∈ ks ∨ n - 1 ∈ ks)) (hne : ∀ n, ¬ (n ∈ ks ∨ n - 1 ∈ ks) → Q n = [])
  (hat : ∀ n : Nat, n ≤ last → IntKind.i64.wrap (f + (IntKind.i64.wrap ((n : Int) * z))) = f + n * z)
  (hp : ∀ (n : Int) (a1 : Tapi_Interval) (n' a2 at_ : Int) b acc, IntKind.i64.wrap (a1.From + (IntKind.i64.wrap (n' * (if 1048576 < a2 then 1048576 else a2)))) = at_ → acc.length ≤ 1000 →
    (F23 K (M (n - 1)) (M n)).bind (fun v => F40_l37 K v a1 n' a2 (F40_c39 K b n' acc) K 0 []) = F40_c47 K b n' (acc ++ numb at_ acc.length (Q n)))
  (hlen : ∀ n, (chO f z Q n).length ≤ 256) (c : List Chg → Option (List Chg × Int)) :
  ∀ (r n k : Nat), n + r = last + 1 → r < k → F40_l26 K ⟨f, t⟩ a2 u v c k (n : Int) (chO f z Q n) = c (chO f z Q (last + 1)) := by
 intro r
 induction r with
 | zero =>
  intro n k h hk
  obtain ⟨k, rfl⟩ : ∃ q, k = q + 1 := ⟨k - 1, by omega⟩
  have e : n = last + 1 := by omega
  subst e
  simp only [F40_l26, hz, hlast]
  rw [if_neg (by simp)]
 | succ r ih =>
  intro n k h hk
  obtain ⟨k, rfl⟩ : ∃ q, k = q + 1 := ⟨k - 1, by omega⟩
  have w1 : IntKind.i64.wrap ((n : Int) + 1) = ((n + 1 : Nat) : Int) := wrapS (by omega)
  have w2 : IntKind.i64.wrap ((n : Int) - 1) = (n : Int) - 1 := wrapI (by omega) (by omega)
  have go := ih (n + 1) k (by omega) (by omega)
  rw [F40_l26]
  rw [if_pos (by rw [hz]; simp only [hlast]; simp; omega)]
  by_cases h0 : n = 0
  ·subst h0
   rw [if_pos (by simp), F40_j32, w1]
   exact go
  ·rw [if_neg (by simp; omega), hu]
   have en : chO f z Q (n + 1) = chO f z Q n ++ numb (f + n * z) (chO f z Q n).length (Q n) := by rw [chO, if_neg h0]
   by_cases hk2 : (n : Int) ∈ ks ∨ (n : Int) - 1 ∈ ks
   ·rw [if_neg (by simp [hk2]), w2, hv, hv]
    refine (hp (n : Int) ⟨f, t⟩ (n : Int) a2 (f + n * z) _ (chO f z Q n) (by rw [hz]; exact hat n (by omega)) (by have := hlen n; omega)).trans ?_
    have := hlen (n + 1)
    rw [← en, F40_c47, if_neg (by simp; omega), F40_j32, w1]
    exact go
   ·rw [if_pos (by simp only [decide_eq_false hk2]; rfl), F40_j32, w1]
    rw [en, hne _ hk2, numb, List.append_nil] at go
    exact go
theorem F42_l8_val (K : Nat) (l lw : List Zo) (f t z : Int) (hf : 0 ≤ f) (ht : t ≤ 1000000) (hz : 1 ≤ z ∧ z ≤ 1000000) (last : Nat) (hlast : ∀ n : Nat, n ≤ last ↔ f + n * z < t) (M : Int → Zd) (Q : Int → List Pr)
  (h15 : ∀ n : Nat, n ≤ last → F15 K l (f + n * z) (if (IntKind.i64.wrap ((f + n * z) + z)) < t then (IntKind.i64.wrap ((f + n * z) + z)) else t) = some (win f z lw n)) (hM : ∀ n, F20 K (win f z lw n) = some (M n))
  (hm : ∀ (n : Int) at_ c acc, acc.length ≤ 1000 → (F60 K (M (n - 1)) (M n)).bind (fun v => F42_l21 K v (M (n - 1)) (M n) at_ c K 0 acc) = c (acc ++ numb at_ acc.length (Q n)))
  (hlen : ∀ n, (chO f z Q n).length ≤ 256) (c : List Chg → Option (List Chg)) :
  ∀ (r n k : Nat), 1 ≤ n → n + r = last + 1 → r < k → F42_l8 K t l z c k (f + n * z) (chO f z Q n) (M ((n : Int) - 1)) = c (chO f z Q (last + 1)) := by
 intro r
 induction r with
 | zero =>
  intro n k _ h hk
  obtain ⟨k, rfl⟩ : ∃ q, k = q + 1 := ⟨k - 1, by omega⟩
  have e : n = last + 1 := by omega
  subst e
  have : ¬ f + ((last + 1 : Nat) : Int) * z < t := fun h2 => absurd ((hlast (last + 1)).2 h2) (by omega)
  rw [F42_l8, if_neg (by simpa using this)]
 | succ r ih =>
  intro n k h1 h hk
  obtain ⟨k, rfl⟩ : ∃ q, k = q + 1 := ⟨k - 1, by omega⟩
  have hlt := (hlast n).1 (by omega)
  have hnz : 0 ≤ (n : Int) * z := Int.mul_nonneg (by omega) (by omega)
  have e1 : ((n + 1 : Nat) : Int) * z = n * z + z := by rw [Int.natCast_add, Int.add_mul]; simp
  have w1 : IntKind.i64.wrap (f + n * z + z) = f + ((n + 1 : Nat) : Int) * z := by rw [e1, wrapI (by omega) (by omega)]; omega
  have go := ih (n + 1) k (by omega) (by omega) (by omega)
  have e2 : ((n + 1 : Nat) : Int) - 1 = n := by omega
  rw [e2] at go
  have en : chO f z Q (n + 1) = chO f z Q n ++ numb (f + n * z) (chO f z Q n).length (Q n) := by rw [chO, if_neg (by omega)]
  rw [F42_l8, if_pos (by simpa using hlt), h15 n (by omega), Option.bind_some, hM, Option.bind_some]
  refine (hm (n : Int) _ _ _ (by have := hlen n; omega)).trans ?_
  rw [← en, F42_c23, w1]
  exact go
end Go.AM.TopZ
