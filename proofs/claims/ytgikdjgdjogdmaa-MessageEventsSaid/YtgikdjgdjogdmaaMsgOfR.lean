/- The reference makes the same messages. -/
import Derived.Test.YtgikdjgdjogdmaaMsgG7
import Derived.Test.YtgikdjgdjogdmaaMsgOf
import Derived.Test.YtgikdjgdjogdmaaMsgSetR
namespace Go.AM.Msg
open Go Go.AM
theorem F38_l2_val (K : Nat) (ws : List Ze) (r : Zp) (hl : ws.length ≤ 1000000) : ∀ (rest pre : List Ze) (k : Nat), ws = pre ++ rest → rest.length < k →
    F38_l2 K ws r (F38_c3 K) k (pre.length : Int) = some ((look rest r).getD Z1, (look rest r).isSome)
  | [], pre, k + 1, h, _ => by rw [F38_l2, if_neg (atEnd h)]; rfl
  | x :: rest, pre, k + 1, h, hk => by
    obtain ⟨m1, m2, m3, m4⟩ := atMid h Z1
    obtain ⟨n1, n2⟩ := next pre x h (by omega)
    have ih := F38_l2_val K ws r hl rest (pre ++ [x]) k n2 (by simpa using hk)
    obtain ⟨r1, r2⟩ := r
    rw [F38_l2, if_pos m1, if_pos m2, m3]
    by_cases e1 : x.Trace = r1
    · rw [if_pos (by simpa using e1), if_pos m2]
      by_cases e2 : x.Id = r2
      · rw [if_pos (by simpa using e2), if_pos m2]
        have : rf x = ⟨r1, r2⟩ := by simp [rf, e1, e2]
        simp [look, this]
      · have : ¬ rf x = ⟨r1, r2⟩ := by simp [rf, e2]
        rw [if_neg (by simpa using e2), F38_j6, n1, ih]
        simp [look, this]
    · have : ¬ rf x = ⟨r1, r2⟩ := by simp [rf, e1]
      rw [if_neg (by simpa using e1), F38_j6, n1, ih]
      simp [look, this]
theorem F38_val (K : Nat) (ws : List Ze) (r : Zp) (hl : ws.length ≤ 1000000) (hK : ws.length < K) : F38 K ws r = some ((look ws r).getD Z1, (look ws r).isSome) :=
  F38_l2_val K ws r hl ws [] K rfl hK
end Go.AM.Msg
