/- The reference makes the same messages. -/
import Derived.Test.YtgikdjgdjogdmaaMsgG7
import Derived.Test.YtgikdjgdjogdmaaMsgOf
import Derived.Test.YtgikdjgdjogdmaaMsgSetR
namespace Go.AM.Msg
open Go Go.AM
end Go.AM.Msg
