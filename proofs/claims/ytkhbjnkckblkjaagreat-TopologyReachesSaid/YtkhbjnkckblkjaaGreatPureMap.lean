/- Maps as lists of pairs: what is found after what is put. -/
import Derived.Test.YtkhbjnkckblkjaaGreatPureOrd
namespace Go.AM
open Go
section
variable {κ ν : Type} {eq : κ → κ → Bool}
end
section
variable {α : Type}
end
end Go.AM
