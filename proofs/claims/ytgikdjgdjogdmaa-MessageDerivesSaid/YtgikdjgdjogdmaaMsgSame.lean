/- Two lists of messages are the same. -/
import Derived.Test.YtgikdjgdjogdmaaMsgG4
import Derived.Test.YtgikdjgdjogdmaaMsgCmp
namespace Go.AM.Msg
open Go Go.AM
theorem F18_l2_val (K : Nat) (l : List Zb) (hl : l.length ≤ 1000000) : ∀ (rest pre : List Zb) (k : Nat), l = pre ++ rest → rest.length < k → F18_l2 K l l (F18_c3 K) k (pre.length : Int) = some true
  | [], pre, k + 1, h, _ => by rw [F18_l2, if_neg (atEnd h), F18_c3]
  | x :: rest, pre, k + 1, h, hk => by
    obtain ⟨m1, m2, m3, m4⟩ := atMid h Z8
    obtain ⟨n1, n2⟩ := next pre x h (by omega)
    rw [F18_l2, if_pos m1, if_pos m2, if_pos m2, m3, eqMsg, if_neg (by simp), n1, F18_l2_val K l hl rest (pre ++ [x]) k n2 (by simpa using hk)]
theorem F18_val (K : Nat) (l : List Zb) (hl : l.length ≤ 1000000) (hK : l.length < K) : F18 K l l = some true := by
  rw [F18, if_neg (by simp)]
  exact F18_l2_val K l hl l [] K rfl hK
end Go.AM.Msg
