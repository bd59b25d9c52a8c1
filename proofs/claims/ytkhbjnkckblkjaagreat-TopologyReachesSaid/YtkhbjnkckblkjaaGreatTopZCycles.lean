/- TopologyCycles: Cycles returns the sets of services that call one another, for any drawn service graph (at most 12 arrows). -/
import Derived.Test.YtkhbjnkckblkjaaGreatTopZReachM2
import Derived.Test.YtkhbjnkckblkjaaGreatTopZKnown
import Derived.Test.YtkhbjnkckblkjaaGreatTopZOk
namespace Go.AM.TopZ
open Go Go.AM
theorem F32_same (K : Nat) (hK : 1000 < K) (l : List Str) (hl : l.length ≤ 900) : F32 K l l = some true := by
 rw [F32, if_neg (by simp)]
 have := forLoopX (fun k i (_ : Unit) => F32_l2 K l l (F32_c3 K) k i) l.length (fun _ _ => True) (fun r => r = true)
  (fun k i s hi _ _ => .inr ⟨(), trivial, by
   have w : IntKind.i64.wrap ((i : Int) + 1) = ((i + 1 : Nat) : Int) := wrapS (by omega)
   rw [F32_l2, if_pos (by simpa using hi), if_pos (by omega), if_pos (by omega), if_neg (by simp), w]⟩)
  (fun k s _ => ⟨true, by rw [F32_l2, if_neg (by simp), F32_c3], rfl⟩) l.length 0 () K (by omega) trivial (by omega)
 obtain ⟨r, h1, h2⟩ := this
 subst h2
 exact h1
end Go.AM.TopZ
