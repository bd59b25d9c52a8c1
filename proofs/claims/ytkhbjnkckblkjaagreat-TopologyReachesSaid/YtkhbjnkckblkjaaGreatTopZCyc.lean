/- Cycle returns the cycle of the definition, exactly if there is no order. -/
import Derived.Test.YtkhbjnkckblkjaaGreatTopZOrd
namespace Go.AM.TopZ
open Go Go.AM
structure Best (n : Nat) (E : Nat → Nat → Bool) (i : Nat) (d : Nat → Int) (m : Nat) : Prop where
 lt : m < n
 e : E i m = true
 d0 : 0 ≤ d m
 min : ∀ x, x < n → E i x = true → 0 ≤ d x → d m ≤ d x
 first : ∀ x, x < m → E i x = true → 0 ≤ d x → d m < d x
end Go.AM.TopZ
