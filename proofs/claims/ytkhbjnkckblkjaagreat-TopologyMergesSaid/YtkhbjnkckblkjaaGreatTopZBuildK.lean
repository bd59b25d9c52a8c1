/- Check accepts what Build returns. -/
import Derived.Test.YtkhbjnkckblkjaaGreatTopZBuildS
import Derived.KernelRfl
namespace Go.AM.TopZ
open Go Go.AM
end Go.AM.TopZ
