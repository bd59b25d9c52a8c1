/- The messages of spans and exchanges, as the program makes them. -/
import Derived.Test.YtgikdjgdjogdmaaMsgG1
import Derived.Test.YtgikdjgdjogdmaaMsgWin
namespace Go.AM.Msg
open Go Go.AM
def look (ws : List Zg) (r : Zs) : Option Zg := ws.find? fun s => decide (rf s = r)
def lnk (ws : List Zg) (c : Zg) (r : Zs) : List Z8 :=
  match look ws r with
  | some l => if r = rf c then [] else [⟨3, r, rf c, l.Clock, c.Clock, l.Start, c.Start, 0⟩]
  | none => []
def upm (ws : List Zg) (c : Zg) : List Z8 :=
  match look ws ⟨c.Trace, c.Parent⟩ with
  | some p => if c.Parent = 0 ∨ c.Parent = c.Id then [] else
      ⟨1, ⟨c.Trace, c.Parent⟩, rf c, p.Clock, c.Clock, p.Start, c.Start, 0⟩ :: (if c.Kind = 3 ∧ p.Kind = 2 ∧ p.Error = false then [⟨2, rf c, ⟨c.Trace, c.Parent⟩, c.Clock, p.Clock, c.End, p.End, 0⟩] else [])
  | none => []
def exm (x : Z17) : Z8 := ⟨4, Zv, Zv, x.From, x.To, x.Sent, x.Received, x.Least⟩
def oneOf (ws : List Zg) (c : Zg) : List Z8 := upm ws c ++ c.Links.flatMap (lnk ws c)
def outOf (ws : List Zg) (xs : List Z17) : List Z8 := ws.flatMap (oneOf ws) ++ xs.map exm
theorem lnk_len (ws : List Zg) (c : Zg) (r : Zs) : (lnk ws c r).length ≤ 1 := by
  unfold lnk
  split
  · split <;> simp
  · simp
theorem upm_len (ws : List Zg) (c : Zg) : (upm ws c).length ≤ 2 := by
  unfold upm
  split
  · split
    · simp
    · split <;> simp
  · simp
theorem flat_len {α β : Type} (f : α → List β) (n : Nat) : ∀ l : List α, (∀ x ∈ l, (f x).length ≤ n) → (l.flatMap f).length ≤ l.length * n
  | [], _ => by simp
  | x :: l, h => by
    have h1 := h x (by simp)
    have h2 := flat_len f n l fun y hy => h y (by simp [hy])
    simp only [List.flatMap_cons, List.length_append, List.length_cons, Nat.add_mul]
    omega
theorem oneOf_len (ws : List Zg) (c : Zg) (h : c.Links.length ≤ 1000) : (oneOf ws c).length ≤ 1002 := by
  have h1 := upm_len ws c
  have h2 := flat_len (lnk ws c) 1 c.Links fun r _ => lnk_len ws c r
  simp only [oneOf, List.length_append]
  omega
theorem outOf_len (ws : List Zg) (xs : List Z17) (hsm : ∀ s ∈ ws, Small s) : (outOf ws xs).length ≤ ws.length * 1002 + xs.length := by
  have := flat_len (oneOf ws) 1002 ws fun s hs => oneOf_len ws s (hsm s hs).2
  simp only [outOf, List.length_append, List.length_map]
  omega
def msgs (l : List Zg) (xs : List Z17) : List Z8 := setOf cMsg (outOf (winners l) xs)
end Go.AM.Msg
