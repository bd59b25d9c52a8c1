/- All walks of this law. -/
import Derived.Test.YtkhbjnkckblkjaaTopLG0
import Derived.Test.YtkhbjnkckblkjaaTopLG1
import Derived.Test.YtkhbjnkckblkjaaTopLG2
