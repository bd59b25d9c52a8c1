/- The messages of a story, by the reference. -/
import Derived.Test.YtgikdjgdjogdmaaMsgCAll
import Derived.Test.YtgikdjgdjogdmaaMsgCOfR
import Derived.Test.YtgikdjgdjogdmaaMsgCTraces2
namespace Go.AM.MsgC
open Go Go.AM
theorem spanAt_small (s : Zn) (k i : Nat) : Small (spanAt s k i) := by
 have h1 := attrsOf_len (callOf (treeOf s k) i)
 refine ⟨?_, ?_⟩
 ·show (attrsOf (callOf (treeOf s k) i)).length ≤ 1000
  omega
 ·show (linksOf s k i).length ≤ 1000
  unfold linksOf
  split <;> simp
theorem spansOf_small {s : Zn} : ∀ x ∈ spansOf s, Small x := fun x hx => by
 obtain ⟨k, i, _, _, rfl⟩ := Zab.1 hx
 exact spanAt_small s k i
theorem Z55 {s : Zn} : ∀ x ∈ finalOf s, Small x := fun x hx => by
 obtain ⟨y, hy, rfl⟩ := List.mem_map.1 hx
 have := spansOf_small y hy
 unfold revOf
 split
 ·exact this
 ·exact this
theorem Z6s {s : Zn} (hs : Sh s) : (finalOf s).length ≤ 24 := by
 rw [finalOf, List.length_map]; exact Z6p hs
theorem Z6v {s : Zn} (hs : Sh s) : (exchsOf s).length ≤ 6 := by
 rw [exchsOf, List.length_map]; exact hs.2.1
def smsgs (s : Zn) : List Z9 := msgs (finalOf s) (exchsOf s)
theorem msgs_len (l : List Zd) (xs : List Z13) (hsm : ∀ s ∈ l, Small s) : (msgs l xs).length ≤ l.length * 1002 + xs.length := by
 have h1 := Zb9 (c := cMsg) (outOf (winners l) xs)
 have h2 := Zb3 (winners l) xs fun s hs => hsm s (Z76 hs)
 have h3 := Z70 l
 unfold msgs
 have := Nat.mul_le_mul_right 1002 h3
 omega
theorem smsgs_len {s : Zn} (hs : Sh s) : (smsgs s).length ≤ 24054 := by
 have h1 := msgs_len (finalOf s) (exchsOf s) Z55
 have h2 := Z6s hs
 have h3 := Z6v hs
 unfold smsgs; omega
theorem F28_val (K : Nat) {s : Zn} (h : Zcd s) (hs : Sh s) (hK : 30000 < K) : F28 K s = some (smsgs s) := by
 have h2 := Z6s hs
 have h3 := Z6v hs
 rw [F28, F36_val K h hs (by omega), Option.bind_some, F25_val K h hs (by omega), Option.bind_some, F22_val K _ _ (by omega) (by omega) Z55 (by omega) (by omega), Option.bind_some]
 rfl
end Go.AM.MsgC
