/- TopologyBuilds: Build returns the service graph of any short story with weights, which Check accepts, also if the spans come in the other order with earlier revisions. -/
import Derived.Test.YtkhbjnkckblkjaaGreatTopZBuildK
namespace Go.AM.TopZ
open Go Go.AM
def old (s : Zg) : Zg := { s with Service := [111, 108, 100], Error := true }
def set2 (s : Zg) : Zg := { s with Revision := 2 }
def other (l : List Zg) : List Zg := l.reverse.flatMap fun s => [old s, set2 s]
end Go.AM.TopZ
