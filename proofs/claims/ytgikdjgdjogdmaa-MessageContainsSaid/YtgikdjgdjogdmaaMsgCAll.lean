/- All the walks. -/
import Derived.Test.YtgikdjgdjogdmaaMsgCG0
import Derived.Test.YtgikdjgdjogdmaaMsgCG1
import Derived.Test.YtgikdjgdjogdmaaMsgCG2
import Derived.Test.YtgikdjgdjogdmaaMsgCG3
