/- The small functions of package graph. -/
import Derived.Test.YtkhbjnkckblkjaaGreatTopZBase
import Derived.OpenShut
namespace Go.AM.TopZ
open Go Go.AM
theorem F81_val (K : Nat) (n a : Int) {l : List Zv} (hl : l.length ≤ 1000000) (hK : l.length < K) : F81 K ⟨n, l⟩ a = some (outs l a) := by
 have all : ∀ (rest pre : List Zv) (k : Nat), l = pre ++ rest → rest.length < k → F81_l3 K ⟨n, l⟩ a (F81_c5 K) k (pre.length : Int) (outs pre a) = some (outs l a) := by
  intro rest
  induction rest with
  | nil =>
   intro pre k h hk
   obtain ⟨k, rfl⟩ : ∃ k', k = k' + 1 := ⟨k - 1, by omega⟩
   rw [F81_l3, if_neg (atEnd h), F81_c5, h, List.append_nil]
  | cons x rest ih =>
   intro pre k h hk
   obtain ⟨k, rfl⟩ : ∃ k', k = k' + 1 := ⟨k - 1, by omega⟩
   obtain ⟨m1, m2, m3, m4⟩ := atMid h Zd
   obtain ⟨n1, n2⟩ := next pre x h (by omega)
   have hlen : (outs pre a).length ≤ pre.length := by simp only [outs, List.length_map]; exact List.length_filter_le _ _
   have ih' := ih (pre ++ [x]) k n2 (by simpa using hk)
   rw [F81_l3, if_pos m1, if_pos m2]
   simp only [F81_j10, n1, m3]
   have e : outs (pre ++ [x]) a = if x.From == a then outs pre a ++ [x.To] else outs pre a := by
    simp only [outs, List.filter_append, List.map_append, List.filter_cons, List.filter_nil]
    split <;> simp
   rw [e] at ih'
   by_cases h1 : (x.From == a) = true
   ·rw [if_pos h1] at ih' ⊢
    rw [if_pos (by simp; omega)]; exact ih'
   ·rw [if_neg h1] at ih' ⊢; exact ih'
 rw [F81]
 exact all l [] K rfl hK
theorem F79_val (K : Nat) (n a : Int) {l : List Zv} (hl : l.length ≤ 1000000) (hK : l.length < K) : F79 K ⟨n, l⟩ a = some (ins l a) := by
 have all : ∀ (rest pre : List Zv) (k : Nat), l = pre ++ rest → rest.length < k → F79_l3 K ⟨n, l⟩ a (F79_c5 K) k (pre.length : Int) (ins pre a) = some (ins l a) := by
  intro rest
  induction rest with
  | nil =>
   intro pre k h hk
   obtain ⟨k, rfl⟩ : ∃ k', k = k' + 1 := ⟨k - 1, by omega⟩
   rw [F79_l3, if_neg (atEnd h), F79_c5, h, List.append_nil]
  | cons x rest ih =>
   intro pre k h hk
   obtain ⟨k, rfl⟩ : ∃ k', k = k' + 1 := ⟨k - 1, by omega⟩
   obtain ⟨m1, m2, m3, m4⟩ := atMid h Zd
   obtain ⟨n1, n2⟩ := next pre x h (by omega)
   have hlen : (ins pre a).length ≤ pre.length := by simp only [ins, List.length_map]; exact List.length_filter_le _ _
   have ih' := ih (pre ++ [x]) k n2 (by simpa using hk)
   rw [F79_l3, if_pos m1, if_pos m2]
   simp only [F79_j10, n1, m3]
   have e : ins (pre ++ [x]) a = if x.To == a then ins pre a ++ [x.From] else ins pre a := by
    simp only [ins, List.filter_append, List.map_append, List.filter_cons, List.filter_nil]
    split <;> simp
   rw [e] at ih'
   by_cases h1 : (x.To == a) = true
   ·rw [if_pos h1] at ih' ⊢
    rw [if_pos (by simp; omega)]; exact ih'
   ·rw [if_neg h1] at ih' ⊢; exact ih'
 rw [F79]
 exact all l [] K rfl hK
theorem F113_val (K : Nat) {n : Nat} {l : List Zv} (hn : n ≤ 1000) (hl : l.length ≤ 1000000) (hK : l.length < K) (hr : ∀ e ∈ l, inR (n : Int) e) : F113 K ⟨(n : Int), l⟩ = some (mk n fun a => outs l (a : Int)) := by
 have all : ∀ (rest pre : List Zv) (k : Nat), l = pre ++ rest → rest.length < k → F113_l4 K ⟨(n : Int), l⟩ (F113_c6 K) k (pre.length : Int) (mk n fun a => outs pre (a : Int)) = some (mk n fun a => outs l (a : Int)) := by
  intro rest
  induction rest with
  | nil =>
   intro pre k h hk
   obtain ⟨k, rfl⟩ : ∃ k', k = k' + 1 := ⟨k - 1, by omega⟩
   rw [F113_l4, if_neg (atEnd h), F113_c6, h, List.append_nil]
  | cons x rest ih =>
   intro pre k h hk
   obtain ⟨k, rfl⟩ : ∃ k', k = k' + 1 := ⟨k - 1, by omega⟩
   obtain ⟨m1, m2, m3, m4⟩ := atMid h Zd
   obtain ⟨n1, n2⟩ := next pre x h (by omega)
   have hx := hr x (by rw [h]; simp)
   obtain ⟨f, hf⟩ : ∃ f : Nat, x.From = (f : Int) ∧ f < n := ⟨x.From.toNat, by obtain ⟨a, b, _, _⟩ := hx; omega⟩
   have hlen : (outs pre (f : Int)).length ≤ pre.length := by simp only [outs, List.length_map]; exact List.length_filter_le _ _
   have ih' := ih (pre ++ [x]) k n2 (by simpa using hk)
   rw [F113_l4, if_pos m1, if_pos m2, m3, hf.1, Int.toNat_natCast, mk_len, if_pos (by omega), if_pos hf.2, if_pos hf.2, mk_get hf.2, if_pos (by simp; omega), List.length_set, mk_len, if_pos (by omega), if_pos hf.2, mk_set, n1]
   refine Eq.trans ?_ ih'
   congr 1
   refine mk_ext fun a _ => ?_
   simp only [outs, List.filter_append, List.map_append, List.filter_cons, List.filter_nil, hf.1]
   by_cases e : a = f
   ·subst e; simp
   ·have : ¬ (f : Int) = (a : Int) := by omega
    simp [e, this]
 rw [F113, if_pos (by simp; omega)]
 have := all l [] K rfl hK
 simp only [Int.toNat_natCast, mk_rep]
 simpa [outs] using this
theorem F113_el (K : Nat) {n : Nat} (E : Nat → Nat → Bool) (hn : n ≤ 9) (hK : 100 < K) : F113 K ⟨(n : Int), el n E⟩ = some (mk n fun a => nl (sel n (E a))) := by
 have hl := el_len E hn
 rw [F113_val K (by omega) (by omega) (by omega) el_inR]
 congr 1
 exact mk_ext fun a ha => outs_el E ha
end Go.AM.TopZ
