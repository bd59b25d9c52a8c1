/- Sums of services and of calls. -/
import Derived.Test.YtkhbjnkckblkjaaGreatTopZChecks
import Derived.Test.YtkhbjnkckblkjaaGreatPureTot
namespace Go.AM.TopZ
open Go Go.AM
def KS : Kd Zg Str := ⟨(·.Name), (·.Spans), (·.Errors), (·.Roots), fun k a b c => ⟨k, a, b, c⟩, fun _ _ _ _ => rfl, fun _ _ _ _ => rfl, fun _ _ _ _ => rfl, fun _ _ _ _ => rfl⟩
def KC : Kd Zk Zq := ⟨fun c => ⟨c.Caller, c.Callee⟩, (·.Count), (·.Errors), (·.Time), fun k a b c => ⟨k.caller, k.callee, a, b, c⟩, fun _ _ _ _ => rfl, fun _ _ _ _ => rfl, fun _ _ _ _ => rfl, fun _ _ _ _ => rfl⟩
end Go.AM.TopZ
