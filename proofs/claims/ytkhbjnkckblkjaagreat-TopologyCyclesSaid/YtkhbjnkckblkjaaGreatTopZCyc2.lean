/- The names of some services, and Cycles. -/
import Derived.Test.YtkhbjnkckblkjaaGreatTopZGraph
import Derived.Test.YtkhbjnkckblkjaaGreatTopZComp
namespace Go.AM.TopZ
open Go Go.AM
theorem F75_val (K : Nat) (hK : 1000 < K) (m : Zb) (l : List Nat) (hl : l.length ≤ 100) (hm : ∀ i ∈ l, i < m.Services.length) : F75 K m (nl l) = some (l.map (nmOf m)) := by
 have all : ∀ (rest pre : List Nat) (k : Nat), l = pre ++ rest → rest.length < k → F75_l3 K (nl l) m (F75_c5 K) k (pre.length : Int) (pre.map (nmOf m)) = some (l.map (nmOf m)) := by
  intro rest
  induction rest with
  | nil =>
   intro pre k h hk
   obtain ⟨k, rfl⟩ : ∃ q, k = q + 1 := ⟨k - 1, by omega⟩
   rw [F75_l3, nl_len, if_neg (by rw [h]; simp), F75_c5, h, List.append_nil]
  | cons x rest ih =>
   intro pre k h hk
   obtain ⟨k, rfl⟩ : ∃ q, k = q + 1 := ⟨k - 1, by omega⟩
   have hx := hm x (by rw [h]; simp)
   have hlen : l.length = pre.length + rest.length + 1 := by rw [h]; simp; omega
   have hget : (nl l).getD ((pre.length : Int)).toNat 0 = (x : Int) := by rw [nl_getD, h, Int.toNat_natCast, getMid]
   obtain ⟨n1, n2⟩ := next pre x h (by omega)
   rw [F75_l3, hget, nl_len, Int.toNat_natCast, if_pos (by simp only [decide_eq_true_eq]; omega), if_pos (by omega), if_pos (by omega), if_pos (by simp; omega), n1, ← ih (pre ++ [x]) k n2 (by simpa using hk)]
   simp [nmOf]
 exact all l [] K rfl (by omega)
noncomputable def cycN (m : Zb) : List (List Str) := ((leasts m.Services.length (calls m)).filter fun a => decide (1 < (scc m.Services.length (calls m) a).length)).map fun a => (scc m.Services.length (calls m) a).map (nmOf m)
theorem F43_val (K : Nat) (hK : 3100 < K) {m : Zb} (h : Wf m) : F43 K m = some (cycN m) := by
 have hl := h.len
 generalize hn : m.Services.length = n at *
 have hrl := leasts_len n (calls m)
 have loop : ∀ (rest pre : List Nat) (k : Nat), leasts n (calls m) = pre ++ rest → rest.length < k →
   F43_l7 K (comps n (calls m)) m (F43_c9 K) k (pre.length : Int) ((pre.filter fun a => decide (1 < (scc n (calls m) a).length)).map fun a => (scc n (calls m) a).map (nmOf m)) = some (((leasts n (calls m)).filter fun a => decide (1 < (scc n (calls m) a).length)).map fun a => (scc n (calls m) a).map (nmOf m)) := by
  intro rest
  induction rest with
  | nil =>
   intro pre k h' hk
   obtain ⟨k, rfl⟩ : ∃ q, k = q + 1 := ⟨k - 1, by omega⟩
   rw [F43_l7, comps_len, if_neg (by rw [h']; simp), F43_c9, h', List.append_nil]
  | cons x rest ih =>
   intro pre k h' hk
   obtain ⟨k, rfl⟩ : ∃ q, k = q + 1 := ⟨k - 1, by omega⟩
   have hlen : (leasts n (calls m)).length = pre.length + rest.length + 1 := by rw [h']; simp; omega
   have hx : (leasts n (calls m)).getD pre.length 0 = x := by rw [h']; exact getMid _ _ _
   have hget : (comps n (calls m)).getD ((pre.length : Int)).toNat [] = nl (scc n (calls m) x) := by
    rw [Int.toNat_natCast, comps_get (by omega), hx]
   obtain ⟨n1, n2⟩ := next pre x h' (by omega)
   have ih' := ih (pre ++ [x]) k n2 (by simpa using hk)
   have hsl := scc_len n (calls m) x
   have hfl : (pre.filter fun a => decide (1 < (scc n (calls m) a).length)).length ≤ pre.length := List.length_filter_le _ _
   have e75 := F75_val K (by omega) m (scc n (calls m) x) (by omega) (fun i hi => by rw [hn]; exact (sel_mem.1 hi).1)
   rw [F43_l7, hget, comps_len, nl_len, if_pos (by simp only [decide_eq_true_eq]; omega), if_pos (by omega), e75, Option.bind_some]
   simp only [F43_j14, n1]
   rw [List.filter_append, List.map_append, List.filter_cons] at ih'
   by_cases e : 1 < (scc n (calls m) x).length
   ·rw [if_pos (by simpa using e)] at ih'
    rw [if_pos (by simp; omega), if_pos (by simp; omega)]
    simpa using ih'
   ·rw [if_neg (by simpa using e)] at ih'
    rw [if_neg (by simp; omega)]
    simpa using ih'
 rw [F43, F33_val K (by omega) h, Option.bind_some, ed_el h, hn]
 have := F88_val K (n := n) (by omega) hK (calls m)
 rw [this, Option.bind_some]
 unfold cycN
 rw [hn]
 exact loop (leasts n (calls m)) [] K rfl (by omega)
end Go.AM.TopZ
