/- The messages of a story, by the reference. -/
import Derived.Test.YtgikdjgdjogdmaaMsgG10
import Derived.Test.YtgikdjgdjogdmaaMsgOfR
import Derived.Test.YtgikdjgdjogdmaaMsgTraces
namespace Go.AM.Msg
open Go Go.AM
theorem spanAt_small (s : Zi) (k i : Nat) : Small (spanAt s k i) := by
  have h1 := attrsOf_len (callOf (treeOf s k) i)
  refine ⟨?_, ?_⟩
  · show (attrsOf (callOf (treeOf s k) i)).length ≤ 1000
    omega
  · show (linksOf s k i).length ≤ 1000
    unfold linksOf
    split <;> simp
theorem spansOf_small {s : Zi} : ∀ x ∈ spansOf s, Small x := fun x hx => by
  obtain ⟨k, i, _, _, rfl⟩ := spansOf_mem.1 hx
  exact spanAt_small s k i
theorem exchsOf_len {s : Zi} (hs : Sh s) : (exchsOf s).length ≤ 6 := by
  rw [exchsOf, List.length_map]; exact hs.2.1
def bndL (m : Za) : Int := IntKind.i64.wrap ((IntKind.i64.wrap (m.Received - m.Sent)) - m.Least)
theorem msgs_len (l : List Zc) (xs : List Z11) (hsm : ∀ s ∈ l, Small s) : (msgs l xs).length ≤ l.length * 1002 + xs.length := by
  have h1 := setOf_len (c := cMsg) (outOf (winners l) xs)
  have h2 := outOf_len (winners l) xs fun s hs => hsm s (winners_sub hs)
  have h3 := winners_len l
  unfold msgs
  have := Nat.mul_le_mul_right 1002 h3
  omega
end Go.AM.Msg
