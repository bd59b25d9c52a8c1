/- The messages of a story, by the reference. -/
import Derived.Test.YtgikdjgdjogdmaaMsgG10
import Derived.Test.YtgikdjgdjogdmaaMsgOfR
import Derived.Test.YtgikdjgdjogdmaaMsgTraces
namespace Go.AM.Msg
open Go Go.AM
theorem spanAt_small (s : Zp) (k i : Nat) : Small (spanAt s k i) := by
  have h1 := attrsOf_len (callOf (treeOf s k) i)
  refine ⟨?_, ?_⟩
  · show (attrsOf (callOf (treeOf s k) i)).length ≤ 1000
    omega
  · show (linksOf s k i).length ≤ 1000
    unfold linksOf
    split <;> simp
theorem spansOf_small {s : Zp} : ∀ x ∈ spansOf s, Small x := fun x hx => by
  obtain ⟨k, i, _, _, rfl⟩ := spansOf_mem.1 hx
  exact spanAt_small s k i
theorem finalOf_small {s : Zp} : ∀ x ∈ finalOf s, Small x := fun x hx => by
  obtain ⟨y, hy, rfl⟩ := List.mem_map.1 hx
  have := spansOf_small y hy
  unfold revOf
  split
  · exact this
  · exact this
theorem finalOf_len {s : Zp} (hs : Sh s) : (finalOf s).length ≤ 24 := by
  rw [finalOf, List.length_map]; exact spansOf_len hs
theorem exchsOf_len {s : Zp} (hs : Sh s) : (exchsOf s).length ≤ 6 := by
  rw [exchsOf, List.length_map]; exact hs.2.1
def smsgs (s : Zp) : List Zb := msgs (finalOf s) (exchsOf s)
theorem msgs_len (l : List Zd) (xs : List Z14) (hsm : ∀ s ∈ l, Small s) : (msgs l xs).length ≤ l.length * 1002 + xs.length := by
  have h1 := setOf_len (c := cMsg) (outOf (winners l) xs)
  have h2 := outOf_len (winners l) xs fun s hs => hsm s (winners_sub hs)
  have h3 := winners_len l
  unfold msgs
  have := Nat.mul_le_mul_right 1002 h3
  omega
theorem smsgs_len {s : Zp} (hs : Sh s) : (smsgs s).length ≤ 24054 := by
  have h1 := msgs_len (finalOf s) (exchsOf s) finalOf_small
  have h2 := finalOf_len hs
  have h3 := exchsOf_len hs
  unfold smsgs; omega
theorem F28_val (K : Nat) {s : Zp} (h : ok46 s) (hs : Sh s) (hK : 30000 < K) : F28 K s = some (smsgs s) := by
  have h2 := finalOf_len hs
  have h3 := exchsOf_len hs
  rw [F28, F36_val K h hs (by omega), Option.bind_some, F25_val K h hs (by omega), Option.bind_some, F22_val K _ _ (by omega) (by omega) finalOf_small (by omega) (by omega), Option.bind_some]
  rfl
end Go.AM.Msg
