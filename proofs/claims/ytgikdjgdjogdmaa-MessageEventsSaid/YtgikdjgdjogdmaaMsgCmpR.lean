/- The reference compares messages likewise. -/
import Derived.Test.YtgikdjgdjogdmaaMsgG2
import Derived.Test.YtgikdjgdjogdmaaMsgCmp
namespace Go.AM.Msg
open Go Go.AM
set_option maxRecDepth 100000
end Go.AM.Msg
