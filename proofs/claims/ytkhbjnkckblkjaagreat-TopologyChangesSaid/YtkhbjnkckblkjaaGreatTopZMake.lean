/- Make sorts the edges and strikes those that are twice. -/
import Derived.Test.YtkhbjnkckblkjaaGreatTopZT
import Derived.Test.YtkhbjnkckblkjaaGreatGraKit
namespace Go.AM.TopZ
open Go Go.AM
theorem set_mid {α : Type} (A mid : List α) (x : α) (rest : List α) (y : α) : (A ++ mid ++ x :: rest).set A.length y = A ++ [y] ++ (mid ++ [x]).tail ++ rest := by
 cases mid with
 | nil => simp
 | cons m mid => simp
end Go.AM.TopZ
