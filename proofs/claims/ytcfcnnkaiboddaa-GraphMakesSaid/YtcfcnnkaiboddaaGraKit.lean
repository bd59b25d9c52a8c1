/- Counted loops, rows and tables as functions. -/
import Derived.Test.YtcfcnnkaiboddaaPureSet
namespace Go.AM
open Go
section
variable {α β : Type}
def mk (n : Nat) (f : Nat → α) : List α := (List.range n).map f
@[simp] theorem mk_len (n : Nat) (f : Nat → α) : (mk n f).length = n := by simp [mk]
def tb (n m : Nat) (f : Nat → Nat → α) : List (List α) := mk n fun i => mk m (f i)
@[simp] theorem tb_len (n m : Nat) (f : Nat → Nat → α) : (tb n m f).length = n := mk_len _ _
end
end Go.AM
