/- The reference's set of messages is the same. -/
import Derived.Test.YtgikdjgdjogdmaaMsgG3
import Derived.Test.YtgikdjgdjogdmaaMsgCmpR
import Derived.Test.YtgikdjgdjogdmaaMsgSet
namespace Go.AM.Msg
open Go Go.AM
end Go.AM.Msg
