/- Make sorts the edges and strikes those that are twice. -/
import Derived.Test.YtkhbjnkckblkjaaGreatTopZAll
import Derived.Test.YtkhbjnkckblkjaaGreatGraKit
namespace Go.AM.TopZ
open Go Go.AM
end Go.AM.TopZ
