/- What the reference's check of a message returns. -/
import Derived.Test.YtgikdjgdjogdmaaMsgG11
import Derived.Test.YtgikdjgdjogdmaaPureKit
namespace Go.AM.Msg
open Go Go.AM
set_option maxRecDepth 100000
def inR (x a b : Int) : Bool := decide (a ≤ x) && decide (x ≤ b)
def zR (r : Zr) : Bool := (r.Trace == 0) && ((r.Id == 0) && true)
theorem zR_eq (r : Zr) : ((r.Trace == 0) && ((r.Id == 0) && true)) = zR r := rfl
def chk (m : Zb) : Int :=
  if inR m.Kind 1 4 = false then 12 else if inR m.From 1 1048576 = false then 2 else if inR m.To 1 1048576 = false then 2
  else if inR m.Sent (Int.negSucc 1099511627775) 1099511627776 = false then 32 else if inR m.Received (Int.negSucc 1099511627775) 1099511627776 = false then 32 else if inR m.Least 0 1099511627776 = false then 32
  else if (m.Kind == 4) = true then (if zR m.A = false then 3 else if zR m.B = false then 3 else 0)
  else if (m.Least != 0) = true then 3
  else if inR m.A.Trace 1 1099511627776 = false then 2 else if inR m.A.Id 1 1099511627776 = false then 2 else if inR m.B.Trace 1 1099511627776 = false then 2 else if inR m.B.Id 1 1099511627776 = false then 2 else 0
end Go.AM.Msg
