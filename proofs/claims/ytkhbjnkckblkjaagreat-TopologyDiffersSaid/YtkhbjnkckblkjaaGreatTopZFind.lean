/- The place of a service is found. -/
import Derived.Test.YtkhbjnkckblkjaaGreatTopZDrawn
namespace Go.AM.TopZ
open Go Go.AM
end Go.AM.TopZ
