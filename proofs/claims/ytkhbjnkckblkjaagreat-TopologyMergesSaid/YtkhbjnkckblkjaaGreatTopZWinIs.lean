/- Winners are told by what is a member: of each identity the greatest. -/
import Derived.Test.YtkhbjnkckblkjaaGreatTopZWin
namespace Go.AM.TopZ
open Go Go.AM
end Go.AM.TopZ
