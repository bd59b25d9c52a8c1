/- The chapter's example holds. -/
import Derived.Test.YtmdglfmfefmpkaaNotiG0
import Derived.Test.YtmdglfmfefmpkaaNotiG2
import Derived.Test.YtmdglfmfefmpkaaPureKit
import Derived.KernelRfl
namespace Go.AM.Noti
open Go Go.AM
set_option maxRecDepth 100000
def exIn : Ze := ⟨⟨1, 3, [⟨0, [97, 110, 110]⟩, ⟨5, [98, 111, 98]⟩]⟩, [⟨[114], [115], ⟨10, 20⟩⟩], [], []⟩
theorem F45_one (K : Nat) (s : Str) (b : Bool) : F45 K [(s, b)] = some [s] := by
 unfold F45
 rw [if_pos (by simp)]
 refine ndPerm_of fun l' h => ?_
 rw [List.perm_singleton.1 h]
 show (sortS [s]).bind some = some [s]
 rfl
theorem F17_ex (K : Nat) : F17 (K + 1000) exIn = some [[115]] := by
 have h : F17 (K + 1000) exIn = F17_c5 (K + 1000) [([115], true)] := by kernel_rfl
 rw [h, F17_c5, F45_one]
 rfl
theorem F27_ex (K : Nat) : F27 (K + 1000) exIn 100 = F27_l8 (K + 1000) [[115]] exIn 100 (F27_c11 (K + 1000)) (K + 1000) 0 0 [] := by
 have h : F51 (K + 1000) exIn 100 = some 0 := by kernel_rfl
 rw [F27, h, Option.bind_some, if_neg (by decide), F17_ex]
 rfl
def exLog : List Z2 := [⟨10, [115], 1, [97, 110, 110], [[114]]⟩, ⟨15, [115], 1, [98, 111, 98], [[114]]⟩, ⟨18, [115], 2, [98, 111, 98], [[114]]⟩, ⟨20, [115], 3, [97, 110, 110], []⟩, ⟨20, [115], 3, [98, 111, 98], []⟩]
theorem F27_exv (K : Nat) : F27 (K + 1000) exIn 100 = some (exLog, 0) := by
 rw [F27_ex]
 kernel_rfl
theorem known_ok (K : Nat) : F13 (K + 1000) = some true := by
 unfold F13
 show (F27 (K + 1000) exIn 100).bind _ = _
 rw [F27_exv]
 kernel_rfl
theorem known_any : ∃ K, 10000000 < K ∧ F13 K = some true := ⟨20000000 + 1000, by omega, known_ok _⟩
end Go.AM.Noti
