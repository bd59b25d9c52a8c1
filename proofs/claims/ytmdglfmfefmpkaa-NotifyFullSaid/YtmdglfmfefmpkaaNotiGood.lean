/- Inputs that small numbers describe: what is known of them. -/
import Derived.Test.YtmdglfmfefmpkaaNotiG3
import Derived.Test.YtmdglfmfefmpkaaPureKit
import Derived.Test.YtmdglfmfefmpkaaNotiOk
import Derived.OpenShut
namespace Go.AM.Noti
open Go Go.AM
set_option maxRecDepth 100000
def u8 (n : Int) : Prop := 0 ≤ n ∧ n ≤ 255
theorem u8_of {n : Int} (h : ok5 n) : u8 n := bounds_u8 h
theorem tm {a b : Int} (h : 0 ≤ a) : a.tmod b = a % b := Int.tmod_eq_emod_of_nonneg h
def isNm (s : Str) : Bool := !(s == []) && decide (s.length ≤ 64) && s.all fun b => decide (33 ≤ b.toNat) && decide (b.toNat ≤ 126)
def svcs : List Str := [[97, 112, 105], [100, 98], [119, 101, 98]]
structure Good (x : Ze) : Prop where
 by0 : 0 ≤ x.Policy.By ∧ x.Policy.By ≤ 2
 rp : 0 ≤ x.Policy.Repeat ∧ x.Policy.Repeat ≤ 15
 st1 : 1 ≤ x.Policy.Steps.length ∧ x.Policy.Steps.length ≤ 4
 st2 : ∀ s ∈ x.Policy.Steps, 0 ≤ s.After ∧ s.After ≤ 100 ∧ isNm s.Who = true
 st3 : x.Policy.Steps.Pairwise fun a b => a.After < b.After
 f1 : x.Firings.length ≤ 6
 f2 : ∀ f ∈ x.Firings, 0 ≤ f.When.From ∧ f.When.From < f.When.To ∧ f.When.To ≤ 127 ∧ isNm f.Rule = true ∧ f.Service ∈ svcs
 s1 : x.Silences.length ≤ 4
 s2 : ∀ s ∈ x.Silences, 0 ≤ s.When.From ∧ s.When.From < s.When.To ∧ s.When.To ≤ 127 ∧ (s.Rule = [] ∨ isNm s.Rule = true) ∧ (s.Service = [] ∨ isNm s.Service = true) ∧ 1 ≤ s.Id ∧ s.Id ≤ 49
 s3 : x.Silences.Pairwise fun a b => a.Id < b.Id
 a1 : x.Acks.length ≤ 4
 a2 : ∀ a ∈ x.Acks, 0 ≤ a.At ∧ a.At ≤ 127 ∧ (a.Group = [] ∨ isNm a.Group = true) ∧ isNm a.Who = true
theorem mod3 {a : Int} (h : u8 a) : a.tmod 3 = 0 ∨ a.tmod 3 = 1 ∨ a.tmod 3 = 2 := by
 rw [tm h.1]; omega
theorem F40_val (K : Nat) {a : Int} (h : u8 a) : ∃ s, F40 K a = some s ∧ isNm s = true := by
 unfold F40
 rcases mod3 h with e | e | e <;> rw [e] <;> exact ⟨_, rfl, by decide⟩
theorem F41_val (K : Nat) {a : Int} (h : u8 a) : ∃ s, F41 K a = some s ∧ isNm s = true := by
 unfold F41
 rcases mod3 h with e | e | e <;> rw [e] <;> exact ⟨_, rfl, by decide⟩
theorem F42_val (K : Nat) {a : Int} (h : u8 a) : ∃ s, F42 K a = some s ∧ isNm s = true ∧ s ∈ svcs := by
 unfold F42
 rcases mod3 h with e | e | e <;> rw [e] <;> exact ⟨_, rfl, by decide, by decide⟩
theorem F43_val (K : Nat) {a : Int} {s : Str} (h : isNm s = true) : ∃ t, F43 K a s = some t ∧ (t = [] ∨ isNm t = true) := by
 unfold F43
 split
 ·exact ⟨_, rfl, .inl rfl⟩
 ·exact ⟨_, rfl, .inr h⟩
theorem F33_val (K : Nat) {a b : Int} (ha : u8 a) (hb : u8 b) : F33 K a b = some ⟨a % 64, a % 64 + 1 + b % 64⟩ := by
 obtain ⟨a1, a2⟩ := ha
 obtain ⟨b1, b2⟩ := hb
 have e1 : IntKind.i64.wrap (a % 64) = a % 64 := wrapI (by omega) (by omega)
 have e2 : IntKind.i64.wrap (b % 64) = b % 64 := wrapI (by omega) (by omega)
 have e3 : IntKind.i64.wrap (a % 64 + 1) = a % 64 + 1 := wrapI (by omega) (by omega)
 have e4 : IntKind.i64.wrap (a % 64 + 1 + b % 64) = a % 64 + 1 + b % 64 := wrapI (by omega) (by omega)
 rw [F33, tm a1, tm b1, e1, e2, e3, e4]
theorem span_ok {a b : Int} : 0 ≤ a % 64 ∧ a % 64 < a % 64 + 1 + b % 64 ∧ a % 64 + 1 + b % 64 ≤ 127 := by omega
def AckOk (a : Z13) : Prop := 0 ≤ a.At ∧ a.At ≤ 127 ∧ (a.Group = [] ∨ isNm a.Group = true) ∧ isNm a.Who = true
def SilOk (s : Zt) : Prop := 0 ≤ s.When.From ∧ s.When.From < s.When.To ∧ s.When.To ≤ 127 ∧ (s.Rule = [] ∨ isNm s.Rule = true) ∧ (s.Service = [] ∨ isNm s.Service = true)
def FirOk (f : Zo) : Prop := 0 ≤ f.When.From ∧ f.When.From < f.When.To ∧ f.When.To ≤ 127 ∧ isNm f.Rule = true ∧ f.Service ∈ svcs
def StpOk (v : Int) (l : List Zu) : Prop := l.length ≤ 4 ∧ 0 ≤ v ∧ v ≤ 16 * l.length ∧ (∀ s ∈ l, 0 ≤ s.After ∧ s.After ≤ v ∧ isNm s.Who = true) ∧ l.Pairwise fun a b => a.After < b.After
theorem StpOk.add {v w : Int} {l : List Zu} (h : StpOk v l) (hl : l.length ≤ 3) (h1 : l = [] ∧ v ≤ w ∨ v < w) (h2 : w ≤ v + 16) {s : Str} (hs : isNm s = true) : StpOk w (l ++ [⟨w, s⟩]) := by
 obtain ⟨a1, a2, a3, a4, a5⟩ := h
 refine ⟨by simp; omega, by omega, by simp; omega, fun t ht => ?_, ?_⟩
 ·rcases List.mem_append.1 ht with ht | ht
  ·obtain ⟨b1, b2, b3⟩ := a4 t ht
   exact ⟨b1, by omega, b3⟩
  ·simp at ht; subst ht
   exact ⟨by show 0 ≤ w; omega, Int.le_refl _, hs⟩
 ·rw [List.pairwise_append]
  refine ⟨a5, by simp, fun a ha b hb => ?_⟩
  simp at hb; subst hb
  obtain ⟨b1, b2, b3⟩ := a4 a ha
  show a.After < w
  rcases h1 with ⟨e, _⟩ | h1
  ·rw [e] at ha; cases ha
  ·omega
def SilsOk (l : List Zt) : Prop := l.length ≤ 4 ∧ (∀ s ∈ l, SilOk s ∧ 1 ≤ s.Id ∧ s.Id + 2 ≤ 3 * l.length) ∧ l.Pairwise fun a b => a.Id < b.Id
end Go.AM.Noti
