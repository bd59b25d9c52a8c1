/- The small functions of package graph. -/
import Derived.Test.YtkhbjnkckblkjaaGreatTopZBase
import Derived.OpenShut
namespace Go.AM.TopZ
open Go Go.AM
end Go.AM.TopZ
