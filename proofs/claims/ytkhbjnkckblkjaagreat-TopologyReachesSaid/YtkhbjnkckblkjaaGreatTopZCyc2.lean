/- The names of some services, and Cycles. -/
import Derived.Test.YtkhbjnkckblkjaaGreatTopZGraph
import Derived.Test.YtkhbjnkckblkjaaGreatTopZComp
namespace Go.AM.TopZ
open Go Go.AM
theorem F75_val (K : Nat) (hK : 1000 < K) (m : Zb) (l : List Nat) (hl : l.length ≤ 100) (hm : ∀ i ∈ l, i < m.Services.length) : F75 K m (nl l) = some (l.map (nmOf m)) := by
 have all : ∀ (rest pre : List Nat) (k : Nat), l = pre ++ rest → rest.length < k → F75_l3 K (nl l) m (F75_c5 K) k (pre.length : Int) (pre.map (nmOf m)) = some (l.map (nmOf m)) := by
  intro rest
  induction rest with
  | nil =>
   intro pre k h hk
   obtain ⟨k, rfl⟩ : ∃ q, k = q + 1 := ⟨k - 1, by omega⟩
   rw [F75_l3, nl_len, if_neg (by rw [h]; simp), F75_c5, h, List.append_nil]
  | cons x rest ih =>
   intro pre k h hk
   obtain ⟨k, rfl⟩ : ∃ q, k = q + 1 := ⟨k - 1, by omega⟩
   have hx := hm x (by rw [h]; simp)
   have hlen : l.length = pre.length + rest.length + 1 := by rw [h]; simp; omega
   have hget : (nl l).getD ((pre.length : Int)).toNat 0 = (x : Int) := by rw [nl_getD, h, Int.toNat_natCast, getMid]
   obtain ⟨n1, n2⟩ := next pre x h (by omega)
   rw [F75_l3, hget, nl_len, Int.toNat_natCast, if_pos (by simp only [decide_eq_true_eq]; omega), if_pos (by omega), if_pos (by omega), if_pos (by simp; omega), n1, ← ih (pre ++ [x]) k n2 (by simpa using hk)]
   simp [nmOf]
 exact all l [] K rfl (by omega)
end Go.AM.TopZ
