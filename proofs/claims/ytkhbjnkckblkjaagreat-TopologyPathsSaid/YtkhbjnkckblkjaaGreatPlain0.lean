/- Plain lemmas for this law. -/
import Derived.Test.YtkhbjnkckblkjaaGreatAm2
import Derived.Test.YtkhbjnkckblkjaaGreatTopZAll
namespace Go.AM
open Go
theorem wrapS {n : Nat} (h : n ≤ 1099511627776) : IntKind.i64.wrap ((n : Int) + 1) = ((n + 1 : Nat) : Int) := by
 simp only [IntKind.wrap, IntKind.min, IntKind.max, IntKind.signed, IntKind.bits]
 simp
 omega
theorem wrapI {n : Int} (h : -9223372036854775808 ≤ n) (h' : n ≤ 9223372036854775807) : IntKind.i64.wrap n = n := by
 simp only [IntKind.wrap, IntKind.min, IntKind.max, IntKind.signed, IntKind.bits]
 simp
 omega
theorem getMid {α : Type} {z : α} (pre : List α) (x : α) (rest : List α) : (pre ++ x :: rest).getD pre.length z = x := by
 simp [List.getD]
theorem getMid' {α : Type} {z : α} (pre : List α) (x : α) (rest : List α) : (pre ++ x :: rest).getD (Int.toNat (pre.length : Int)) z = x := by
 simp [List.getD]
def sg (a b : Int) : Int := if a < b then Int.negSucc 0 else if b < a then 1 else 0
def fstNZ : List Int → Int
 | [] => 0
 | x :: l => if x = 0 then fstNZ l else x
def keyC : List Int → List Int → Int
 | a :: l, b :: m => if sg a b = 0 then keyC l m else sg a b
 | _, _ => 0
theorem Z5d {a b : Int} : sg a b = 0 ↔ a = b := by
 unfold sg
 split
 ·exact ⟨fun h => (by cases h), fun h => by omega⟩
 ·split
  ·exact ⟨fun h => (by cases h), fun h => by omega⟩
  ·exact ⟨fun _ => by omega, fun _ => rfl⟩
theorem sg_neg (a b : Int) : sg b a = - sg a b := by
 unfold sg
 split <;> split <;> first | rfl | omega | (split <;> first | rfl | omega)
theorem sg_lt {a b : Int} : sg a b < 0 ↔ a < b := by
 unfold sg
 split
 ·simp_all
 ·split <;> simp_all
theorem keyC_neg : ∀ l m : List Int, keyC m l = - keyC l m
 | [], [] | [], _ :: _ | _ :: _, [] => rfl
 | a :: l, b :: m => by
  simp only [keyC]
  rw [sg_neg a b, keyC_neg l m]
  by_cases h : sg a b = 0
  ·simp [h]
  ·have : ¬ - sg a b = 0 := by omega
   simp [h, this]
theorem Za5 : ∀ {l m : List Int}, l.length = m.length → (keyC l m = 0 ↔ l = m)
 | [], [], _ => by simp [keyC]
 | a :: l, b :: m, h => by
  simp only [keyC]
  have ih := Za5 (l := l) (m := m) (by simpa using h)
  by_cases e : sg a b = 0
  ·rw [if_pos e, ih]
   have := Z5d.1 e
   simp [this]
  ·rw [if_neg e]
   have : ¬ a = b := fun h => e (Z5d.2 h)
   simp [e, this]
theorem sg_bound (a b : Int) : -1 ≤ sg a b ∧ sg a b ≤ 1 := by
 unfold sg
 split
 ·decide
 ·split <;> decide
theorem Zbg : ∀ {l m n : List Int}, l.length = m.length → m.length = n.length → keyC l m ≤ 0 → keyC m n ≤ 0 → keyC l n ≤ 0
 | [], [], [], _, _, _, _ => by simp [keyC]
 | a :: l, b :: m, c :: n, h1, h2, h3, h4 => by
  have ih := Zbg (l := l) (m := m) (n := n) (by simpa using h1) (by simpa using h2)
  simp only [keyC] at h3 h4 ⊢
  have z1 := @Z5d a b
  have z2 := @Z5d b c
  have z3 := @Z5d a c
  have n1 := @sg_lt a b
  have n2 := @sg_lt b c
  have n3 := @sg_lt a c
  have b1 := sg_bound a b
  have b2 := sg_bound b c
  have b3 := sg_bound a c
  by_cases e1 : sg a b = 0 <;> by_cases e2 : sg b c = 0 <;> by_cases e3 : sg a c = 0 <;> simp only [e1, e2, e3, if_true, if_false] at h3 h4 ⊢ <;> first | exact ih h3 h4 | omega
theorem keyC_ltrans {l m n : List Int} (h1 : l.length = m.length) (h2 : m.length = n.length) (h3 : keyC l m < 0) (h4 : keyC m n < 0) : keyC l n < 0 := by
 have h5 := Zbg h1 h2 (by omega) (by omega : keyC m n ≤ 0)
 rcases Int.lt_or_eq_of_le h5 with h | h
 ·exact h
 ·have := (Za5 (h1.trans h2)).1 h
  subst this
  rw [keyC_neg l m] at h4
  omega
end Go.AM
namespace Go.AM
open Go
theorem atMid {α : Type} {l pre rest : List α} {x : α} (h : l = pre ++ x :: rest) (z : α) :
  decide ((pre.length : Int) < (l.length : Int)) = true ∧ ((0 : Int) ≤ (pre.length : Int) ∧ (pre.length : Int) < ((l.length : Nat) : Int)) ∧ l.getD (Int.toNat (pre.length : Int)) z = x ∧ pre.length < l.length := by
 subst h
 refine ⟨by simp; omega, ⟨by omega, by simp; omega⟩, getMid' _ _ _, by simp⟩
theorem atEnd {α : Type} {l pre : List α} (h : l = pre ++ []) : ¬ decide ((pre.length : Int) < (l.length : Int)) = true := by
 subst h; simp
theorem next {α : Type} (pre : List α) (x : α) {l rest : List α} (h : l = pre ++ x :: rest) (hl : l.length ≤ 1099511627776) : IntKind.i64.wrap ((pre.length : Int) + 1) = (((pre ++ [x]).length : Nat) : Int) ∧ l = (pre ++ [x]) ++ rest := by
 subst h
 refine ⟨?_, by simp⟩
 rw [wrapS (by simp at hl; omega)]; simp
end Go.AM
namespace Go.AM
open Go
structure COrd {α : Type} (c : α → α → Int) : Prop where
 neg : ∀ a b, c b a = - c a b
 zero : ∀ a b, c a b = 0 ↔ a = b
 trans : ∀ {a b d}, c a b < 0 → c b d < 0 → c a d < 0
section
variable {α : Type} {c : α → α → Int}
def Strict (c : α → α → Int) (l : List α) : Prop := l.Pairwise fun x y => c x y < 0
theorem Z5k (h : COrd c) : ∀ {l m : List α}, Strict c l → Strict c m → (∀ x, x ∈ l ↔ x ∈ m) → l = m
 | [], [], _, _, _ => rfl
 | [], y :: m, _, _, hm => by have := (hm y).2 (by simp); simp at this
 | x :: l, [], _, _, hm => by have := (hm x).1 (by simp); simp at this
 | x :: l, y :: m, hl, hm, he => by
  obtain ⟨l1, l2⟩ := List.pairwise_cons.1 hl
  obtain ⟨m1, m2⟩ := List.pairwise_cons.1 hm
  have irr : ∀ a, ¬ c a a < 0 := fun a => by rw [(h.zero a a).2 rfl]; omega
  have hxy : x = y := by
   rcases List.mem_cons.1 ((he x).1 (by simp)) with e | e
   ·exact e
   ·rcases List.mem_cons.1 ((he y).2 (by simp)) with e' | e'
    ·exact e'.symm
    ·exact absurd (h.trans (l1 y e') (m1 x e)) (irr x)
  subst hxy
  rw [Z5k h l2 m2 fun z => ?_]
  constructor
  ·intro hz
   rcases List.mem_cons.1 ((he z).1 (by simp [hz])) with e | e
   ·subst e; exact absurd (l1 z hz) (irr z)
   ·exact e
  ·intro hz
   rcases List.mem_cons.1 ((he z).2 (by simp [hz])) with e | e
   ·subst e; exact absurd (m1 z hz) (irr z)
   ·exact e
theorem Z9e {f : α → α → Option Int} (hf : ∀ a b, f a b = some (c a b)) (a b : α) : cmpLt f a b = decide (c a b < 0) := by
 simp [cmpLt, hf]
theorem COrd.ltOn (h : COrd c) {f : α → α → Option Int} (hf : ∀ a b, f a b = some (c a b)) (l : List α) : LtOn (cmpLt f) l := by
 refine ⟨fun x _ y _ hl => ?_, fun x _ y _ z _ h1 h2 => ?_, fun x _ y _ h1 h2 => ?_⟩
 ·rw [Z9e hf] at hl ⊢
  rw [h.neg x y]
  simp at hl ⊢; omega
 ·rw [Z9e hf] at h1 h2 ⊢
  simp at h1 h2 ⊢; exact h.trans h1 h2
 ·rw [Z9e hf] at h1 h2
  rw [h.neg x y] at h2
  simp at h1 h2
  exact (h.zero x y).1 (by omega)
end
section
variable {α : Type} [DecidableEq α] {c : α → α → Int}
def dd : α → List α → List α
 | _, [] => []
 | x, y :: l => if y = x then dd y l else y :: dd y l
def dedup : List α → List α
 | [] => []
 | x :: l => x :: dd x l
theorem dd_mem : ∀ (x : α) (l : List α) (z : α), z ∈ x :: dd x l ↔ z ∈ x :: l
 | x, [], z => by simp [dd]
 | x, y :: l, z => by
  have := dd_mem y l z
  by_cases e : y = x
  ·subst e
   simp only [dd, if_true]
   simp only [List.mem_cons] at this ⊢
   constructor
   ·intro h; rcases this.1 h with e | e
    ·exact .inl e
    ·exact .inr (.inr e)
   ·intro h; rcases h with e | e | e
    ·exact .inl e
    ·exact .inl e
    ·exact this.2 (.inr e)
  ·simp only [dd, if_neg e]
   simp only [List.mem_cons] at this ⊢
   constructor
   ·intro h; rcases h with e | e
    ·exact .inl e
    ·exact .inr (this.1 e)
   ·intro h; rcases h with e | e
    ·exact .inl e
    ·exact .inr (this.2 e)
theorem dedup_mem {l : List α} {z : α} : z ∈ dedup l ↔ z ∈ l := by
 cases l with
 | nil => rfl
 | cons x l => exact dd_mem x l z
theorem dd_strict (h : COrd c) : ∀ (x : α) (l : List α), (x :: l).Pairwise (fun a b => ¬ c b a < 0) → Strict c (x :: dd x l)
 | x, [], _ => by simp [dd, Strict]
 | x, y :: l, hs => by
  obtain ⟨s1, s2⟩ := List.pairwise_cons.1 hs
  have ih := dd_strict h y l s2
  by_cases e : y = x
  ·subst e
   simp only [dd, if_true]
   exact ih
  ·simp only [dd, if_neg e]
   have hxy : c x y < 0 := by
    have h1 := s1 y (by simp)
    rw [h.neg x y] at h1
    have : ¬ c x y = 0 := fun k => e ((h.zero x y).1 k).symm
    omega
   refine List.pairwise_cons.2 ⟨fun z hz => ?_, ih⟩
   rcases List.mem_cons.1 hz with rfl | hz
   ·exact hxy
   ·exact h.trans hxy ((List.pairwise_cons.1 ih).1 z hz)
theorem dedup_strict (h : COrd c) {l : List α} (hs : l.Pairwise (fun a b => ¬ c b a < 0)) : Strict c (dedup l) := by
 cases l with
 | nil => exact .nil
 | cons x l => exact dd_strict h x l hs
theorem COrd.sort (h : COrd c) {f : α → α → Option Int} (hf : ∀ a b, f a b = some (c a b)) {l : List α} (hl : l.length ≤ 1073741824) :
  ∃ s, sortF f l = some s ∧ s.Perm l ∧ s.Pairwise (fun a b => ¬ c b a < 0) := by
 have hL := h.ltOn hf l
 refine ⟨_, sortF_of (lawB_of hL fun x _ y _ => by rw [hf]; rfl) hl, Z3o _ _, ?_⟩
 refine (Z48 hL).imp fun {a b} hab => ?_
 rw [Z9e hf] at hab
 simpa using hab
end
end Go.AM
namespace Go.AM
open Go
structure POrd {α : Type} (c : α → α → Int) : Prop where
 neg : ∀ a b, c b a = - c a b
 trans : ∀ {a b d}, c a b ≤ 0 → c b d ≤ 0 → c a d ≤ 0
section
variable {α β : Type} {c : α → α → Int}
theorem POrd.refl (h : POrd c) (a : α) : c a a = 0 := by have := h.neg a a; omega
theorem POrd.ltl (h : POrd c) {a b d : α} (h1 : c a b < 0) (h2 : c b d ≤ 0) : c a d < 0 := by
 have h3 := h.trans (by omega : c a b ≤ 0) h2
 rcases Int.lt_or_eq_of_le h3 with h4 | h4
 ·exact h4
 ·have h5 : c d a ≤ 0 := by rw [h.neg a d]; omega
  have h6 := h.trans h2 h5
  have h7 := h.neg a b
  omega
theorem POrd.ltr (h : POrd c) {a b d : α} (h1 : c a b ≤ 0) (h2 : c b d < 0) : c a d < 0 := by
 have h3 := h.trans h1 (by omega : c b d ≤ 0)
 rcases Int.lt_or_eq_of_le h3 with h4 | h4
 ·exact h4
 ·have h5 : c d a ≤ 0 := by rw [h.neg a d]; omega
  have h6 := h.trans h5 h1
  have h7 := h.neg b d
  omega
theorem POrd.zeroT (h : POrd c) {a b d : α} (h1 : c a b = 0) (h2 : c b d = 0) : c a d = 0 := by
 have h3 := h.trans (by omega : c a b ≤ 0) (by omega : c b d ≤ 0)
 have n1 := h.neg a b
 have n2 := h.neg b d
 have n3 := h.neg a d
 have h4 := h.trans (by omega : c d b ≤ 0) (by omega : c b a ≤ 0)
 omega
theorem POrd.comap (h : POrd c) (f : β → α) : POrd (fun a b => c (f a) (f b)) := ⟨fun a b => h.neg _ _, fun h1 h2 => h.trans h1 h2⟩
theorem pordSg : POrd sg := ⟨sg_neg, fun {a b d} h1 h2 => by
 have n1 := @sg_lt b a
 have n2 := @sg_lt d b
 have n3 := @sg_lt d a
 have m1 := sg_neg a b
 have m2 := sg_neg b d
 have m3 := sg_neg a d
 omega⟩
def lexC (cs : List (α → α → Int)) (a b : α) : Int := fstNZ (cs.map fun c => c a b)
theorem Z55 {cs : List (α → α → Int)} {a b : α} : lexC (c :: cs) a b = if c a b = 0 then lexC cs a b else c a b := rfl
theorem POrd.lexC : ∀ {cs : List (α → α → Int)}, (∀ c ∈ cs, POrd c) → POrd (lexC cs)
 | [], _ => ⟨fun _ _ => rfl, fun _ _ => Int.le_refl _⟩
 | c :: cs, h => by
  have hc := h c (by simp)
  have ih := POrd.lexC (cs := cs) fun c hc => h c (by simp [hc])
  refine ⟨fun a b => ?_, fun {a b d} h1 h2 => ?_⟩
  ·rw [Z55, Z55, hc.neg a b, ih.neg a b]
   by_cases e : c a b = 0
   ·simp [e]
   ·rw [if_neg (by omega), if_neg e]
  ·rw [Z55] at h1 h2 ⊢
   by_cases e1 : c a b = 0
   ·by_cases e2 : c b d = 0
    ·rw [if_pos e1] at h1
     rw [if_pos e2] at h2
     rw [if_pos (hc.zeroT e1 e2)]
     exact ih.trans h1 h2
    ·rw [if_neg e2] at h2
     have := hc.ltr (by omega : c a b ≤ 0) (by omega : c b d < 0)
     rw [if_neg (by omega)]; omega
   ·rw [if_neg e1] at h1
    have h2' : c b d ≤ 0 := by
     by_cases e2 : c b d = 0
     ·omega
     ·rw [if_neg e2] at h2; exact h2
    have := hc.ltl (by omega : c a b < 0) h2'
    rw [if_neg (by omega)]; omega
theorem lexC_zero {cs : List (α → α → Int)} {a b : α} (h : lexC cs a b = 0) : ∀ c ∈ cs, c a b = 0 := by
 induction cs with
 | nil => simp
 | cons c cs ih =>
  rw [Z55] at h
  by_cases e : c a b = 0
  ·rw [if_pos e] at h
   intro d hd
   rcases List.mem_cons.1 hd with rfl | hd
   ·exact e
   ·exact ih h d hd
  ·rw [if_neg e] at h; exact absurd h e
def lexL (c : α → α → Int) : List α → List α → Int
 | [], [] => 0
 | [], _ :: _ => Int.negSucc 0
 | _ :: _, [] => 1
 | a :: l, b :: m => if c a b = 0 then lexL c l m else c a b
theorem lexL_neg (h : POrd c) : ∀ l m : List α, lexL c m l = - lexL c l m
 | [], [] | [], _ :: _ | _ :: _, [] => rfl
 | a :: l, b :: m => by
  simp only [lexL, h.neg a b, lexL_neg h l m]
  by_cases e : c a b = 0
  ·simp [e]
  ·rw [if_neg (by omega), if_neg e]
theorem Zcn (h : POrd c) : ∀ {l m n : List α}, lexL c l m ≤ 0 → lexL c m n ≤ 0 → lexL c l n ≤ 0
 | [], _, [], _, _ => by simp [lexL]
 | [], _, _ :: _, _, _ => by simp [lexL]
 | _ :: _, [], _, h1, _ => by simp [lexL] at h1
 | _ :: _, _ :: _, [], _, h2 => by simp [lexL] at h2
 | a :: l, b :: m, d :: n, h1, h2 => by
  have ih := Zcn h (l := l) (m := m) (n := n)
  simp only [lexL] at h1 h2 ⊢
  by_cases e1 : c a b = 0
  ·by_cases e2 : c b d = 0
   ·rw [if_pos e1] at h1
    rw [if_pos e2] at h2
    rw [if_pos (h.zeroT e1 e2)]
    exact ih h1 h2
   ·rw [if_neg e2] at h2
    have := h.ltr (by omega : c a b ≤ 0) (by omega : c b d < 0)
    rw [if_neg (by omega)]; omega
  ·rw [if_neg e1] at h1
   have h2' : c b d ≤ 0 := by
    by_cases e2 : c b d = 0
    ·omega
    ·rw [if_neg e2] at h2; exact h2
   have := h.ltl (by omega : c a b < 0) h2'
   rw [if_neg (by omega)]; omega
theorem POrd.lexL (h : POrd c) : POrd (lexL c) := ⟨lexL_neg h, Zcn h⟩
theorem lexL_zero (hz : ∀ a b, c a b = 0 → a = b) : ∀ {l m : List α}, Go.AM.lexL c l m = 0 → l = m
 | [], [], _ => rfl
 | [], _ :: _, h => by simp [Go.AM.lexL] at h
 | _ :: _, [], h => by simp [Go.AM.lexL] at h
 | a :: l, b :: m, h => by
  simp only [Go.AM.lexL] at h
  by_cases e : c a b = 0
  ·rw [if_pos e] at h
   rw [hz a b e, lexL_zero hz h]
  ·rw [if_neg e] at h; exact absurd h e
end
def sgB (a b : UInt8) : Int := sg (a.toNat : Int) (b.toNat : Int)
theorem pordB : POrd sgB := pordSg.comap fun a : UInt8 => (a.toNat : Int)
theorem sgB_zero {a b : UInt8} (h : sgB a b = 0) : a = b := by
 have := Z5d.1 h
 exact UInt8.toNat_inj.1 (by omega)
def cS (a b : Str) : Int := lexL sgB a b
theorem pordS : POrd cS := pordB.lexL
theorem Z5v {a b : Str} (h : cS a b = 0) : a = b := lexL_zero (fun _ _ => sgB_zero) h
theorem cS_slt : ∀ a b : Str, (if slt a b = true then Int.negSucc 0 else if (!(slt a b || a == b)) = true then (1 : Int) else 0) = cS a b
 | [], [] => rfl
 | [], _ :: _ => rfl
 | _ :: _, [] => rfl
 | a :: l, b :: m => by
  have ih := cS_slt l m
  have e : slt (a :: l) (b :: m) = (decide (a < b) || (a == b && slt l m)) := rfl
  simp only [cS, lexL] at ih ⊢
  rw [e, ← ih]
  have hlt : a < b ↔ a.toNat < b.toNat := UInt8.lt_iff_toNat_lt
  have heq : a = b ↔ a.toNat = b.toNat := UInt8.toNat_inj.symm
  have z := @Z5d (a.toNat : Int) (b.toNat : Int)
  by_cases h1 : a < b
  ·have h2 : ¬ a = b := fun h => by rw [heq] at h; rw [hlt] at h1; omega
   have h3 : sgB a b = Int.negSucc 0 := by
    unfold sgB sg; rw [if_pos]; rw [hlt] at h1; omega
   simp [h1, h3]
  ·by_cases h2 : a = b
   ·subst h2
    have h3 : sgB a a = 0 := pordB.refl a
    simp [h3]
   ·have h3 : sgB a b = 1 := by
     unfold sgB sg; rw [hlt] at h1; rw [heq] at h2
     rw [if_neg (by omega), if_pos (by omega)]
    simp [h1, h2, h3]
end Go.AM
namespace Go.AM
open Go
section
variable {κ ν : Type} {eq : κ → κ → Bool}
end
section
variable {α : Type}
end
end Go.AM
namespace Go.AM
open Go
theorem forLoop {σ ρ : Type} (F : Nat → Int → σ → Option ρ) (c : σ → Option ρ) (n : Nat) (P : Nat → σ → Prop)
  (hs : ∀ k i s, i < n → P i s → ∃ s', P (i + 1) s' ∧ F (k + 1) (i : Int) s = F k ((i + 1 : Nat) : Int) s')
  (he : ∀ k s, P n s → F (k + 1) (n : Int) s = c s) :
  ∀ (m i : Nat) (s : σ) (K : Nat), i + m = n → P i s → m < K → ∃ s', P n s' ∧ F K (i : Int) s = c s'
 | 0, i, s, K + 1, h, hp, _ => by
  have : i = n := by omega
  subst this
  exact ⟨s, hp, he K s hp⟩
 | m + 1, i, s, K + 1, h, hp, hk => by
  obtain ⟨s', h1, h2⟩ := hs K i s (by omega) hp
  obtain ⟨s'', h3, h4⟩ := forLoop F c n P hs he m (i + 1) s' K (by omega) h1 (by omega)
  exact ⟨s'', h3, h2.trans h4⟩
theorem forLoop0 {σ ρ : Type} (F : Nat → Int → σ → Option ρ) (c : σ → Option ρ) (n : Nat) (P : Nat → σ → Prop) (K : Nat) (s : σ) (h0 : P 0 s) (hK : n < K)
  (hs : ∀ k i s, i < n → P i s → ∃ s', P (i + 1) s' ∧ F (k + 1) (i : Int) s = F k ((i + 1 : Nat) : Int) s')
  (he : ∀ k s, P n s → F (k + 1) (n : Int) s = c s) : ∃ s', P n s' ∧ F K 0 s = c s' :=
 forLoop F c n P hs he n 0 s K (by omega) h0 hK
theorem forLoopF {σ ρ : Type} (F : Nat → Int → σ → Option ρ) (c : σ → Option ρ) (n : Nat) (st : Nat → σ) (K : Nat) (s : σ) (h0 : s = st 0) (hK : n < K)
  (hs : ∀ k i, i < n → F (k + 1) (i : Int) (st i) = F k ((i + 1 : Nat) : Int) (st (i + 1)))
  (he : ∀ k, F (k + 1) (n : Int) (st n) = c (st n)) : F K 0 s = c (st n) := by
 obtain ⟨s', h1, h2⟩ := forLoop0 F c n (fun i s => s = st i) K s h0 hK (fun k i s hi e => ⟨st (i + 1), rfl, by rw [e]; exact hs k i hi⟩) (fun k s e => by rw [e]; exact he k)
 rw [h2, h1]
theorem forLoopX {σ ρ : Type} (F : Nat → Int → σ → Option ρ) (n : Nat) (P : Nat → σ → Prop) (Q : ρ → Prop)
  (hs : ∀ k i s, i < n → P i s → n - i ≤ k → (∃ r, F (k + 1) (i : Int) s = some r ∧ Q r) ∨ ∃ s', P (i + 1) s' ∧ F (k + 1) (i : Int) s = F k ((i + 1 : Nat) : Int) s')
  (he : ∀ k s, P n s → ∃ r, F (k + 1) (n : Int) s = some r ∧ Q r) :
  ∀ (m i : Nat) (s : σ) (K : Nat), i + m = n → P i s → m < K → ∃ r, F K (i : Int) s = some r ∧ Q r
 | 0, i, s, K + 1, h, hp, _ => by
  have : i = n := by omega
  subst this
  exact he K s hp
 | m + 1, i, s, K + 1, h, hp, hk => by
  rcases hs K i s (by omega) hp (by omega) with h1 | ⟨s', h1, h2⟩
  ·exact h1
  ·rw [h2]; exact forLoopX F n P Q hs he m (i + 1) s' K (by omega) h1 (by omega)
section
variable {α β : Type}
def mk (n : Nat) (f : Nat → α) : List α := (List.range n).map f
@[simp] theorem mk_len (n : Nat) (f : Nat → α) : (mk n f).length = n := by simp [mk]
theorem Z94 {n : Nat} {f : Nat → α} {i : Nat} (h : i < n) (z : α) : (mk n f).getD i z = f i := by
 simp [mk, List.getD, List.getElem?_map, List.getElem?_range h]
theorem mk_set (n : Nat) (f : Nat → α) (i : Nat) (x : α) : (mk n f).set i x = mk n fun j => if j = i then x else f j := by
 apply List.ext_getElem (by simp)
 intro j h1 h2
 simp only [mk, List.getElem_set, List.getElem_map, List.getElem_range]
 by_cases e : i = j
 ·simp [e]
 ·rw [if_neg e, if_neg (fun h => e h.symm)]
theorem mk_ext {n : Nat} {f g : Nat → α} (h : ∀ i, i < n → f i = g i) : mk n f = mk n g := by
 unfold mk
 exact List.map_congr_left fun i hi => h i (List.mem_range.1 hi)
theorem mk_rep (n : Nat) (x : α) : List.replicate n x = mk n fun _ => x := by
 apply List.ext_getElem (by simp)
 intro i h1 h2
 simp [mk]
theorem mk_mem {n : Nat} {f : Nat → α} {x : α} : x ∈ mk n f ↔ ∃ i, i < n ∧ f i = x := by
 unfold mk; simp only [List.mem_map, List.mem_range]
def tb (n m : Nat) (f : Nat → Nat → α) : List (List α) := mk n fun i => mk m (f i)
@[simp] theorem tb_len (n m : Nat) (f : Nat → Nat → α) : (tb n m f).length = n := mk_len _ _
end
theorem Z64 {α : Type} [DecidableEq α] : ∀ {l m : List α}, l.Nodup → (∀ x ∈ l, x ∈ m) → l.length ≤ m.length
 | [], m, _, _ => by simp
 | x :: l, m, h, hs => by
  obtain ⟨h1, h2⟩ := List.nodup_cons.1 h
  have hx := hs x (by simp)
  have := Z64 (l := l) (m := m.erase x) h2 fun y hy => by
   have hne : y ≠ x := fun e => h1 (e ▸ hy)
   exact (List.mem_erase_of_ne hne).2 (hs y (by simp [hy]))
  rw [List.length_erase_of_mem hx] at this
  have : 0 < m.length := List.length_pos_of_mem hx
  simp; omega
theorem sorted_eq : ∀ {l m : List Nat}, l.Pairwise (· < ·) → m.Pairwise (· < ·) → (∀ x, x ∈ l ↔ x ∈ m) → l = m
 | [], [], _, _, _ => rfl
 | [], y :: m, _, _, h => by have := (h y).2 (by simp); simp at this
 | x :: l, [], _, _, h => by have := (h x).1 (by simp); simp at this
 | x :: l, y :: m, hl, hm, he => by
  obtain ⟨l1, l2⟩ := List.pairwise_cons.1 hl
  obtain ⟨m1, m2⟩ := List.pairwise_cons.1 hm
  have hxy : x = y := by
   rcases List.mem_cons.1 ((he x).1 (by simp)) with e | e
   ·exact e
   ·rcases List.mem_cons.1 ((he y).2 (by simp)) with e' | e'
    ·exact e'.symm
    ·have h1 := l1 y e'
     have h2 := m1 x e
     omega
  subst hxy
  rw [sorted_eq l2 m2 fun z => ?_]
  constructor
  ·intro hz
   rcases List.mem_cons.1 ((he z).1 (by simp [hz])) with e | e
   ·subst e; have := l1 z hz; omega
   ·exact e
  ·intro hz
   rcases List.mem_cons.1 ((he z).2 (by simp [hz])) with e | e
   ·subst e; have := m1 z hz; omega
   ·exact e
def nl (l : List Nat) : List Int := l.map fun i : Nat => (i : Int)
@[simp] theorem nl_len (l : List Nat) : (nl l).length = l.length := by simp [nl]
def sel (n : Nat) (p : Nat → Bool) : List Nat := (List.range n).filter p
theorem Z5e {n : Nat} {p : Nat → Bool} {i : Nat} : i ∈ sel n p ↔ i < n ∧ p i = true := by simp [sel]
theorem Z6v (n : Nat) (p : Nat → Bool) : (sel n p).Pairwise (· < ·) := List.pairwise_lt_range.filter _
theorem sel_eq {n : Nat} {p : Nat → Bool} {l : List Nat} (h : l.Pairwise (· < ·)) (hm : ∀ x, x ∈ l ↔ x < n ∧ p x = true) : l = sel n p :=
 sorted_eq h (Z6v n p) fun x => (hm x).trans Z5e.symm
theorem Z8n (n : Nat) (p : Nat → Bool) : (sel n p).length ≤ n := by
 have := List.length_filter_le p (List.range n)
 simpa [sel] using this
theorem sel_succ (n : Nat) (p : Nat → Bool) : sel (n + 1) p = if p n = true then sel n p ++ [n] else sel n p := by
 simp only [sel, List.range_succ, List.filter_append, List.filter_cons, List.filter_nil]
 split <;> simp
end Go.AM
namespace Go.AM
open Go
theorem Zc8 {α : Type} {R : α → α → Prop} (irr : ∀ a, ¬ R a a) (tr : ∀ {a b c}, R a b → R b c → R a c) : ∀ {l m : List α}, l.Pairwise R → m.Pairwise R → (∀ x, x ∈ l ↔ x ∈ m) → l = m
 | [], [], _, _, _ => rfl
 | [], y :: m, _, _, h => by have := (h y).2 (by simp); simp at this
 | x :: l, [], _, _, h => by have := (h x).1 (by simp); simp at this
 | x :: l, y :: m, hl, hm, he => by
  obtain ⟨l1, l2⟩ := List.pairwise_cons.1 hl
  obtain ⟨m1, m2⟩ := List.pairwise_cons.1 hm
  have hxy : x = y := by
   rcases List.mem_cons.1 ((he x).1 (by simp)) with e | e
   ·exact e
   ·rcases List.mem_cons.1 ((he y).2 (by simp)) with e' | e'
    ·exact e'.symm
    ·exact absurd (tr (l1 y e') (m1 x e)) (irr x)
  subst hxy
  rw [Zc8 irr tr l2 m2 fun z => ?_]
  constructor
  ·intro hz
   rcases List.mem_cons.1 ((he z).1 (by simp [hz])) with e | e
   ·subst e; exact absurd (l1 z hz) (irr z)
   ·exact e
  ·intro hz
   rcases List.mem_cons.1 ((he z).2 (by simp [hz])) with e | e
   ·subst e; exact absurd (m1 z hz) (irr z)
   ·exact e
theorem sort_key {α κ : Type} [DecidableEq α] {c : κ → κ → Int} (hc : POrd c) (hz : ∀ a b, c a b = 0 → a = b) (key : α → κ) {f : α → α → Option Int} (hf : ∀ a b, f a b = some (c (key a) (key b))) {l m : List α} (hl : l.length ≤ 1073741824) (hn : l.Nodup)
  (hk : ∀ a ∈ l, ∀ b ∈ l, key a = key b → a = b) (hm : m.Pairwise fun a b => c (key a) (key b) < 0) (he : ∀ x, x ∈ l ↔ x ∈ m) : sortF f l = some m := by
 have hcmp : ∀ a b, cmpLt f a b = decide (c (key a) (key b) < 0) := fun a b => by simp [cmpLt, hf]
 have hL : LtOn (cmpLt f) l := by
  refine ⟨fun x _ y _ h => ?_, fun x _ y _ z _ h1 h2 => ?_, fun x hx y hy h1 h2 => ?_⟩
  ·rw [hcmp] at h ⊢
   have := hc.neg (key x) (key y)
   simp at h ⊢; omega
  ·rw [hcmp] at h1 h2 ⊢
   simp at h1 h2 ⊢
   exact hc.ltl h1 (by omega)
  ·rw [hcmp] at h1 h2
   have := hc.neg (key x) (key y)
   simp at h1 h2
   exact hk x hx y hy (hz _ _ (by omega))
 rw [sortF_of (lawB_of hL fun x _ y _ => by rw [hf]; rfl) hl]
 congr 1
 have p := Z3o (cmpLt f) l
 refine Zc8 (R := fun a b => c (key a) (key b) < 0) (fun a => by rw [hc.refl]; omega) (fun h1 h2 => hc.ltl h1 (by omega)) ?_ hm fun x => by rw [p.mem_iff, he]
 have hs := Z48 hL
 have hnd : (isort (cmpLt f) l).Nodup := p.nodup_iff.2 hn
 exact (List.Pairwise.and hs hnd).imp_of_mem fun {x y} hx hy h => by
  have h1 := h.1
  rw [hcmp] at h1
  have := hc.neg (key x) (key y)
  simp at h1
  have : ¬ c (key x) (key y) = 0 := fun e => h.2 (hk x (p.mem_iff.1 hx) y (p.mem_iff.1 hy) (hz _ _ e))
  omega
end Go.AM
namespace Go.AM.TopZ
open Go Go.AM
theorem F69_val (K : Nat) (a b : Str) : F69 K a b = some (cS a b) := by
 simp only [F69, F110, beq_self_eq_true, Bool.not_true, Option.bind_some, Bool.false_eq_true, if_false]
 rw [← cS_slt]
 split
 ·rfl
 ·split <;> rfl
theorem F98_val (K : Nat) (a b : Zd) : F98 K a b = some (cS a.Name b.Name) := by
 rw [F98, F69_val, Option.bind_some]
theorem Zb1 (K : Nat) (c : List Zl → Option (Int × Zb)) (r : Int × Zb) (all : List Zl) (ha : all.length ≤ 1000000) (h : ∀ l, l.Perm all → c l = some r) :
  ∀ (k : Nat) (rem : List (Zq × Zl)) (acc : List Zl), (acc ++ rem.map (·.2)).Perm all → rem.length < k → Z8h K c k rem acc = some r
 | k + 1, rem, acc, hp, hk => by
  rw [Z8h]
  refine ndNext_of (fun e => ?_) fun pre x post e => ?_
  ·subst e
   exact h acc (by simpa using hp)
  ·subst e
   have hlen := hp.length_eq
   simp at hlen hk
   rw [if_pos (by simp; omega)]
   refine Zb1 K c r all ha h k (pre ++ post) (acc ++ [x.2]) ?_ (by simp; omega)
   refine List.Perm.trans ?_ hp
   simp only [List.map_append, List.map_cons, List.append_assoc]
   exact List.Perm.append_left acc (by simpa using (show (x.2 :: (pre.map (·.2) ++ post.map (·.2))).Perm (pre.map (·.2) ++ x.2 :: post.map (·.2)) from List.perm_middle.symm))
theorem Zbd (K : Nat) (c : List Zd → Option (Int × Zb)) (r : Int × Zb) (all : List Zd) (ha : all.length ≤ 1000000) (h : ∀ l, l.Perm all → c l = some r) :
  ∀ (k : Nat) (rem : List (Str × Zd)) (acc : List Zd), (acc ++ rem.map (·.2)).Perm all → rem.length < k → Zc1 K c k rem acc = some r
 | k + 1, rem, acc, hp, hk => by
  rw [Zc1]
  refine ndNext_of (fun e => ?_) fun pre x post e => ?_
  ·subst e
   exact h acc (by simpa using hp)
  ·subst e
   have hlen := hp.length_eq
   simp at hlen hk
   rw [if_pos (by simp; omega)]
   refine Zbd K c r all ha h k (pre ++ post) (acc ++ [x.2]) ?_ (by simp; omega)
   refine List.Perm.trans ?_ hp
   simp only [List.map_append, List.map_cons, List.append_assoc]
   exact List.Perm.append_left acc (by simpa using (show (x.2 :: (pre.map (·.2) ++ post.map (·.2))).Perm (pre.map (·.2) ++ x.2 :: post.map (·.2)) from List.perm_middle.symm))
theorem F52_val (K : Nat) {svc : List (Str × Zd)} {calls : List (Zq × Zl)} {S : List Zd} {C : List Zl} (h1 : svc.length ≤ 256) (h2 : calls.length ≤ 1000) (hK : 1000 < K)
  (hS : ∀ l, l.Perm (svc.map (·.2)) → sortF (fun a b => F98 K a b) l = some S) (hC : ∀ l, l.Perm (calls.map (·.2)) → sortF (fun a b => F100 K a b) l = some C) : F52 K false svc calls = some (0, ⟨S, C⟩) := by
 rw [F52, if_neg (by simp; omega), if_neg (by simp)]
 refine Zbd K _ _ (svc.map (·.2)) (by simp; omega) (fun l hl => ?_) K svc [] (by simp) (by omega)
 rw [F52_c7]
 refine Zb1 K _ _ (calls.map (·.2)) (by simp; omega) (fun l' hl' => ?_) K calls [] (by simp) (by omega)
 rw [Zag, hS l hl, Option.bind_some, hC l' hl', Option.bind_some]
theorem eqS (a b : Zd) : ((a.Name == b.Name) && ((a.Spans == b.Spans) && ((a.Errors == b.Errors) && ((a.Roots == b.Roots) && true)))) = decide (a = b) := by
 obtain ⟨a1, a2, a3, a4⟩ := a
 obtain ⟨b1, b2, b3, b4⟩ := b
 rw [Bool.eq_iff_iff]
 simp
theorem eqC (a b : Zl) : ((a.Caller == b.Caller) && ((a.Callee == b.Callee) && ((a.Count == b.Count) && ((a.Errors == b.Errors) && ((a.Time == b.Time) && true))))) = decide (a = b) := by
 obtain ⟨a1, a2, a3, a4, a5⟩ := a
 obtain ⟨b1, b2, b3, b4, b5⟩ := b
 rw [Bool.eq_iff_iff]
 simp
theorem Zca (K : Nat) (m m' : Zb) (c : Option Bool) (hl : m.Calls.length ≤ 1000000) : ∀ (a b p q : List Zl) (k : Nat), m.Calls = p ++ a → m'.Calls = q ++ b → p.length = q.length → a.length = b.length → a.length < k → Z9s K m m' c k (p.length : Int) = if a = b then c else some false
 | [], b, p, q, k + 1, h1, h2, h3, h4, _ => by
  have : b = [] := List.length_eq_zero_iff.1 h4.symm
  subst this
  rw [Z9s, if_neg (atEnd h1)]; simp
 | x :: a, [], p, q, k + 1, _, _, _, h4, _ => by simp at h4
 | x :: a, y :: b, p, q, k + 1, h1, h2, h3, h4, hk => by
  obtain ⟨m1, m2, m3, m4⟩ := atMid h1 Z4
  obtain ⟨r1, r2, r3, r4⟩ := atMid h2 Z4
  obtain ⟨n1, n2⟩ := next p x h1 (by omega)
  rw [← h3] at r2 r3
  rw [Z9s, if_pos m1, if_pos m2, if_pos r2, m3, r3, eqC]
  by_cases hxy : x = y
  ·rw [if_neg (by simp [hxy]), n1, Zca K m m' c hl a b (p ++ [x]) (q ++ [y]) k n2 (by simp [h2]) (by simp; omega) (by simpa using h4) (by simpa using hk)]
   simp [hxy]
  ·rw [if_pos (by simp [hxy])]
   simp [hxy]
theorem Zbt (K : Nat) (m m' : Zb) (c : Option Bool) (hl : m.Services.length ≤ 1000000) : ∀ (a b p q : List Zd) (k : Nat), m.Services = p ++ a → m'.Services = q ++ b → p.length = q.length → a.length = b.length → a.length < k → Zb0 K m m' c k (p.length : Int) = if a = b then c else some false
 | [], b, p, q, k + 1, h1, h2, h3, h4, _ => by
  have : b = [] := List.length_eq_zero_iff.1 h4.symm
  subst this
  rw [Zb0, if_neg (atEnd h1)]; simp
 | x :: a, [], p, q, k + 1, _, _, _, h4, _ => by simp at h4
 | x :: a, y :: b, p, q, k + 1, h1, h2, h3, h4, hk => by
  obtain ⟨m1, m2, m3, m4⟩ := atMid h1 Z7
  obtain ⟨r1, r2, r3, r4⟩ := atMid h2 Z7
  obtain ⟨n1, n2⟩ := next p x h1 (by omega)
  rw [← h3] at r2 r3
  rw [Zb0, if_pos m1, if_pos m2, if_pos r2, m3, r3, eqS]
  by_cases hxy : x = y
  ·rw [if_neg (by simp [hxy]), n1, Zbt K m m' c hl a b (p ++ [x]) (q ++ [y]) k n2 (by simp [h2]) (by simp; omega) (by simpa using h4) (by simpa using hk)]
   simp [hxy]
  ·rw [if_pos (by simp [hxy])]
   simp [hxy]
theorem F19_val (K : Nat) {m m' : Zb} (h1 : m.Services.length ≤ 1000) (h2 : m.Calls.length ≤ 1000) (hK : 1000 < K) : F19 K m m' = some (decide (m = m')) := by
 rw [F19]
 by_cases e1 : m.Services.length = m'.Services.length
 ·rw [if_neg (by simp; omega)]
  by_cases e2 : m.Calls.length = m'.Calls.length
  ·rw [if_neg (by simp; omega)]
   have a1 := Zbt K m m' (Zbl K m m') (by omega) m.Services m'.Services [] [] K rfl rfl rfl e1 (by omega)
   have a2 := Zca K m m' (Zbq K) (by omega) m.Calls m'.Calls [] [] K rfl rfl rfl e2 (by omega)
   simp only [List.length_nil, Int.cast_ofNat_Int] at a1 a2
   rw [a1, Zbl, a2, Zbq]
   obtain ⟨s, c⟩ := m
   obtain ⟨s', c'⟩ := m'
   simp only [Zb.mk.injEq]
   by_cases f1 : s = s' <;> by_cases f2 : c = c' <;> simp [f1, f2]
  ·rw [if_pos (by simp; omega)]
   have : ¬ m = m' := fun h => e2 (by rw [h])
   simp [this]
 ·rw [if_pos (by simp; omega)]
  have : ¬ m = m' := fun h => e1 (by rw [h])
  simp [this]
end Go.AM.TopZ
namespace Go.AM
open Go
theorem Z6x {α κ : Type} {c : κ → κ → Int} (hc : POrd c) (hz : ∀ a b, c a b = 0 → a = b) (key : α → κ) {A B : List α} {x : α} (hs : (A ++ B).Pairwise fun a b => c (key a) (key b) < 0) (hA : ∀ y ∈ A, c (key y) (key x) < 0) (hB : ∀ y, B.head? = some y → ¬ c (key y) (key x) < 0) {B' : List α}
  (h' : (∃ y, B = y :: B' ∧ key y = key x) ∨ (B' = B ∧ ∀ y, B.head? = some y → key y ≠ key x)) :
  (A ++ x :: B').Pairwise (fun a b => c (key a) (key b) < 0) ∧ ∀ t, t ∈ A ++ x :: B' ↔ t = x ∨ t ∈ A ++ B ∧ key t ≠ key x := by
 obtain ⟨s1, s2, s3⟩ := List.pairwise_append.1 hs
 have irr : ∀ k, ¬ c k k < 0 := fun k => by rw [hc.refl]; omega
 have hxB : ∀ y ∈ B', c (key x) (key y) < 0 := by
  rcases h' with ⟨z, rfl, hz'⟩ | ⟨rfl, hne⟩
  ·intro y hy
   rw [← hz']
   exact (List.pairwise_cons.1 s2).1 y hy
  ·cases B' with
   | nil => simp
   | cons z B =>
    have h1 := hB z rfl
    have h2 := hne z rfl
    have h3 : c (key x) (key z) < 0 := by
     have := hc.neg (key x) (key z)
     have : ¬ c (key z) (key x) = 0 := fun e => h2 (hz _ _ e)
     omega
    intro y hy
    rcases List.mem_cons.1 hy with rfl | hy
    ·exact h3
    ·exact hc.ltl h3 (by have := (List.pairwise_cons.1 s2).1 y hy; omega)
 have sub : ∀ y, y ∈ B' → y ∈ B := by
  rcases h' with ⟨z, rfl, _⟩ | ⟨rfl, _⟩
  ·intro y hy; simp [hy]
  ·exact fun y hy => hy
 have sB' : B'.Pairwise fun a b => c (key a) (key b) < 0 := by
  rcases h' with ⟨z, rfl, _⟩ | ⟨rfl, _⟩
  ·exact (List.pairwise_cons.1 s2).2
  ·exact s2
 refine ⟨List.pairwise_append.2 ⟨s1, List.pairwise_cons.2 ⟨hxB, sB'⟩, fun a ha b hb => ?_⟩, fun t => ?_⟩
 ·rcases List.mem_cons.1 hb with rfl | hb
  ·exact hA a ha
  ·exact s3 a ha b (sub b hb)
 ·have neA : ∀ y ∈ A, key y ≠ key x := fun y hy e => by have := hA y hy; rw [e] at this; exact irr _ this
  have neB : ∀ y ∈ B', key y ≠ key x := fun y hy e => by have := hxB y hy; rw [e] at this; exact irr _ this
  simp only [List.mem_append, List.mem_cons]
  constructor
  ·rintro (h | h | h)
   ·exact .inr ⟨.inl h, neA t h⟩
   ·exact .inl h
   ·exact .inr ⟨.inr (sub t h), neB t h⟩
  ·rintro (h | ⟨h | h, hne⟩)
   ·exact .inr (.inl h)
   ·exact .inl h
   ·rcases h' with ⟨z, rfl, hz'⟩ | ⟨rfl, _⟩
    ·rcases List.mem_cons.1 h with rfl | h
     ·exact absurd hz' hne
     ·exact .inr (.inr h)
    ·exact .inr (.inr h)
end Go.AM
namespace Go.AM.TopZ
open Go Go.AM
theorem slt_c (a b : Str) : slt a b = decide (cS a b < 0) := by
 rw [← cS_slt]
 by_cases h : slt a b = true
 ·rw [if_pos h, h]; rfl
 ·rw [if_neg h]
  have : slt a b = false := by simpa using h
  rw [this]
  split <;> rfl
theorem F31_val (K : Nat) (m : Zb) (x : Str) (hl : m.Services.length ≤ 1000) (hK : 1000 < K) : ∃ s, F31 K m x = some s ∧ s.Name = x ∧ (s ∈ m.Services ∨ s = ⟨x, 0, 0, 0⟩ ∧ ∀ t ∈ m.Services, t.Name ≠ x) := by
 have all : ∀ (rest pre : List Zd) (k : Nat), m.Services = pre ++ rest → rest.length < k → (∀ t ∈ pre, t.Name ≠ x) → ∃ s, Zaa K m x (Zbx K x) k (pre.length : Int) = some s ∧ s.Name = x ∧ (s ∈ m.Services ∨ s = ⟨x, 0, 0, 0⟩ ∧ ∀ t ∈ m.Services, t.Name ≠ x) := by
  intro rest
  induction rest with
  | nil =>
   intro pre k h hk hp
   obtain ⟨k, rfl⟩ : ∃ q, k = q + 1 := ⟨k - 1, by omega⟩
   exact ⟨⟨x, 0, 0, 0⟩, by rw [Zaa, if_neg (atEnd h), Zbx], rfl, .inr ⟨rfl, by rw [h]; simpa using hp⟩⟩
  | cons y rest ih =>
   intro pre k h hk hp
   obtain ⟨k, rfl⟩ : ∃ q, k = q + 1 := ⟨k - 1, by omega⟩
   obtain ⟨m1, m2, m3, m4⟩ := atMid h Z7
   obtain ⟨n1, n2⟩ := next pre y h (by omega)
   rw [Zaa, if_pos m1, if_pos m2, if_pos m2, m3, n1]
   by_cases e : y.Name = x
   ·exact ⟨y, by rw [if_pos (by simp [e])], e, .inl (by rw [h]; simp)⟩
   ·rw [if_neg (by simp [e])]
    exact ih (pre ++ [y]) k n2 (by simpa using hk) fun t ht => by
     rcases List.mem_append.1 ht with ht | ht
     ·exact hp t ht
     ·simp at ht; subst ht; exact e
 exact all m.Services [] K rfl (by omega) (by simp)
def ordN (a b : Zd) : Prop := cS a.Name b.Name < 0
theorem F53_val (K : Nat) (S : List Zd) (cs : List Zl) (x : Zd) (hs : S.Pairwise ordN) (hl : S.length ≤ 1000) (hK : 1000 < K) :
  ∃ S', F53 K ⟨S, cs⟩ x = some ⟨S', cs⟩ ∧ S'.Pairwise ordN ∧ (∀ t, t ∈ S' ↔ t = x ∨ t ∈ S ∧ t.Name ≠ x.Name) ∧ S'.length ≤ S.length + 1 := by
 have find : ∀ (cc : Int → Option Zb) (rest pre : List Zd) (k : Nat), S = pre ++ rest → rest.length < k → (∀ y ∈ pre, cS y.Name x.Name < 0) →
   ∃ A B, S = A ++ B ∧ (∀ y ∈ A, cS y.Name x.Name < 0) ∧ (∀ y, B.head? = some y → ¬ cS y.Name x.Name < 0) ∧ Z95 K ⟨S, cs⟩ x cc k (pre.length : Int) = cc (A.length : Int) := by
  intro cc rest
  induction rest with
  | nil =>
   intro pre k h hk hp
   obtain ⟨k, rfl⟩ : ∃ q, k = q + 1 := ⟨k - 1, by omega⟩
   exact ⟨pre, [], h, hp, by simp, by rw [Z95, if_neg (atEnd h)]⟩
  | cons y rest ih =>
   intro pre k h hk hp
   obtain ⟨k, rfl⟩ : ∃ q, k = q + 1 := ⟨k - 1, by omega⟩
   obtain ⟨m1, m2, m3, m4⟩ := atMid h Z7
   obtain ⟨n1, n2⟩ := next pre y h (by omega)
   rw [Z95, if_pos m1, if_pos m2, m3, n1, slt_c]
   by_cases e : cS y.Name x.Name < 0
   ·rw [if_pos (by simpa using e)]
    exact ih (pre ++ [y]) k n2 (by simpa using hk) fun z hz => by
     rcases List.mem_append.1 hz with hz | hz
     ·exact hp z hz
     ·simp at hz; subst hz; exact e
   ·rw [if_neg (by simpa using e)]
    exact ⟨pre, y :: rest, h, hp, fun z hz => by simp at hz; subst hz; exact e, rfl⟩
 obtain ⟨A, B, rfl, e2, e3, e4⟩ := find (Zb5 K ⟨S, cs⟩ x) S [] K rfl (by omega) (by simp)
 have hlen : (A ++ B).length = A.length + B.length := by simp
 have fin : ∀ B' : List Zd, B'.length ≤ B.length → Z9z K (A.length : Int) ⟨A ++ B, cs⟩ x B' = some ⟨A ++ x :: B', cs⟩ := by
  intro B' hB'
  rw [Z9z]
  simp only [Int.toNat_natCast, List.take_left]
  rw [if_pos (by omega), if_pos (by simp; omega), if_pos (by simp; omega), if_pos (by simp; omega)]
  simp
 rw [F53]
 have e4' : Z95 K ⟨A ++ B, cs⟩ x (Zb5 K ⟨A ++ B, cs⟩ x) K 0 = _ := e4
 rw [e4', Zb5]
 simp only [Int.toNat_natCast, List.drop_left]
 rw [if_pos (by omega)]
 cases B with
 | nil =>
  obtain ⟨p1, p2⟩ := Z6x pordS (fun _ _ => Z5v) (fun s : Zd => s.Name) hs e2 e3 (B' := []) (.inr ⟨rfl, by simp⟩)
  refine ⟨A ++ [x], ?_, p1, p2, by simp⟩
  have := fin [] (by simp)
  rw [Z9z] at this
  rw [if_neg (by simp)]
  simpa using this
 | cons y B =>
  rw [if_pos (by simp <;> omega), if_pos (by simp <;> omega)]
  have hg : (y :: B).getD (0 : Int).toNat Z7 = y := rfl
  rw [hg]
  by_cases e : y.Name = x.Name
  ·obtain ⟨p1, p2⟩ := Z6x pordS (fun _ _ => Z5v) (fun s : Zd => s.Name) hs e2 e3 (B' := B) (.inl ⟨y, rfl, e⟩)
   refine ⟨A ++ x :: B, ?_, p1, p2, by simp <;> omega⟩
   rw [if_pos (by simp [e]), if_pos (by simp <;> omega)]
   exact fin B (by simp)
  ·obtain ⟨p1, p2⟩ := Z6x pordS (fun _ _ => Z5v) (fun s : Zd => s.Name) hs e2 e3 (B' := y :: B) (.inr ⟨rfl, fun z hz => by simp at hz; subst hz; exact e⟩)
   refine ⟨A ++ x :: y :: B, ?_, p1, p2, by simp <;> omega⟩
   rw [if_neg (by simp [e])]
   exact fin (y :: B) (by simp)
end Go.AM.TopZ
namespace Go.AM.TopZ
open Go Go.AM
def cP : Str × Str → Str × Str → Int := lexC [fun p q => cS p.1 q.1, fun p q => cS p.2 q.2]
theorem pordP : POrd cP := POrd.lexC fun c hc => by
 simp only [List.mem_cons, List.not_mem_nil, or_false] at hc
 rcases hc with rfl | rfl
 ·exact pordS.comap fun p : Str × Str => p.1
 ·exact pordS.comap fun p : Str × Str => p.2
theorem cP_zero {a b : Str × Str} (h : cP a b = 0) : a = b := by
 have := lexC_zero h
 have h1 := Z5v (this (fun p q => cS p.1 q.1) (by simp))
 have h2 := Z5v (this (fun p q => cS p.2 q.2) (by simp))
 exact Prod.ext h1 h2
theorem cP_lt (a b : Str × Str) : cP a b < 0 ↔ cS a.1 b.1 < 0 ∨ a.1 = b.1 ∧ cS a.2 b.2 < 0 := by
 unfold cP
 rw [Z55, Z55]
 have e0 : lexC ([] : List (Str × Str → Str × Str → Int)) a b = 0 := rfl
 have hz : cS a.1 b.1 = 0 ↔ a.1 = b.1 := ⟨Z5v, fun e => by rw [e]; exact pordS.refl _⟩
 rw [e0, ← hz]
 by_cases h : cS a.1 b.1 = 0
 ·rw [if_pos h]
  split <;> omega
 ·rw [if_neg h]; omega
theorem F71_val (K : Nat) (a b c d : Str) : F71 K a b c d = some (decide (cP (a, b) (c, d) < 0)) := by
 have h := cP_lt (a, b) (c, d)
 simp only at h
 rw [F71, slt_c, slt_c]
 by_cases h1 : cS a c < 0
 ·rw [if_pos (by simpa using h1), Z93, decide_eq_true (h.2 (.inl h1))]
 ·rw [if_neg (by simpa using h1)]
  by_cases h2 : a = c
  ·rw [if_pos (by simpa using h2), Z93]
   congr 1
   rw [decide_eq_decide, h]
   constructor
   ·exact fun e => .inr ⟨h2, e⟩
   ·rintro (e | e)
    ·exact absurd e h1
    ·exact e.2
  ·rw [if_neg (by simpa using h2), Z93, decide_eq_false]
   rw [h]
   rintro (e | e)
   ·exact h1 e
   ·exact h2 e.1
def Z3h (c : Zl) : Str × Str := (c.Caller, c.Callee)
def ordC (a b : Zl) : Prop := cP (Z3h a) (Z3h b) < 0
theorem F54_val (K : Nat) (m : Zb) (x y : Str) (hl : m.Calls.length ≤ 1000) (hK : 1000 < K) : ∃ s, F54 K m x y = some s := by
 have all : ∀ (rest pre : List Zl) (k : Nat), m.Calls = pre ++ rest → rest.length < k → ∃ s, Z7s K m x y (Za1 K x y) k (pre.length : Int) = some s := by
  intro rest
  induction rest with
  | nil =>
   intro pre k h hk
   obtain ⟨k, rfl⟩ : ∃ q, k = q + 1 := ⟨k - 1, by omega⟩
   exact ⟨_, by rw [Z7s, if_neg (atEnd h), Za1]⟩
  | cons z rest ih =>
   intro pre k h hk
   obtain ⟨k, rfl⟩ : ∃ q, k = q + 1 := ⟨k - 1, by omega⟩
   obtain ⟨m1, m2, m3, m4⟩ := atMid h Z4
   obtain ⟨n1, n2⟩ := next pre z h (by omega)
   have ih' := ih (pre ++ [z]) k n2 (by simpa using hk)
   rw [Z7s, if_pos m1, if_pos m2, if_pos m2, if_pos m2, m3]
   simp only [F54_j6, n1]
   split
   ·split
    ·exact ⟨_, rfl⟩
    ·exact ih'
   ·exact ih'
 exact all m.Calls [] K rfl (by omega)
theorem F55_val (K : Nat) (ss : List Zd) (S : List Zl) (x : Zl) (hs : S.Pairwise ordC) (hl : S.length ≤ 1000) (hK : 1000 < K) :
  ∃ S', F55 K ⟨ss, S⟩ x = some ⟨ss, S'⟩ ∧ S'.Pairwise ordC ∧ (∀ t, t ∈ S' ↔ t = x ∨ t ∈ S ∧ Z3h t ≠ Z3h x) ∧ S'.length ≤ S.length + 1 := by
 have find : ∀ (cc : Int → Option Zb) (rest pre : List Zl) (k : Nat), S = pre ++ rest → rest.length < k → (∀ y ∈ pre, cP (Z3h y) (Z3h x) < 0) →
   ∃ A B, S = A ++ B ∧ (∀ y ∈ A, cP (Z3h y) (Z3h x) < 0) ∧ (∀ y, B.head? = some y → ¬ cP (Z3h y) (Z3h x) < 0) ∧ Z90 K ⟨ss, S⟩ x cc k (pre.length : Int) = cc (A.length : Int) := by
  intro cc rest
  induction rest with
  | nil =>
   intro pre k h hk hp
   obtain ⟨k, rfl⟩ : ∃ q, k = q + 1 := ⟨k - 1, by omega⟩
   exact ⟨pre, [], h, hp, by simp, by rw [Z90, if_neg (atEnd h)]⟩
  | cons y rest ih =>
   intro pre k h hk hp
   obtain ⟨k, rfl⟩ : ∃ q, k = q + 1 := ⟨k - 1, by omega⟩
   obtain ⟨m1, m2, m3, m4⟩ := atMid h Z4
   obtain ⟨n1, n2⟩ := next pre y h (by omega)
   rw [Z90, if_pos m1, if_pos m2, if_pos m2, m3, n1, F71_val, Option.bind_some]
   by_cases e : cP (Z3h y) (Z3h x) < 0
   ·rw [if_pos (by simpa [Z3h] using e)]
    exact ih (pre ++ [y]) k n2 (by simpa using hk) fun z hz => by
     rcases List.mem_append.1 hz with hz | hz
     ·exact hp z hz
     ·simp at hz; subst hz; exact e
   ·rw [if_neg (by simpa [Z3h] using e)]
    exact ⟨pre, y :: rest, h, hp, fun z hz => by simp at hz; subst hz; exact e, rfl⟩
 obtain ⟨A, B, rfl, e2, e3, e4⟩ := find (Za2 K ⟨ss, S⟩ x) S [] K rfl (by omega) (by simp)
 have hlen : (A ++ B).length = A.length + B.length := by simp
 have fin : ∀ B' : List Zl, B'.length ≤ B.length → Z8f K (A.length : Int) ⟨ss, A ++ B⟩ x B' = some ⟨ss, A ++ x :: B'⟩ := by
  intro B' hB'
  rw [Z8f]
  simp only [Int.toNat_natCast, List.take_left]
  rw [if_pos (by omega), if_pos (by simp; omega), if_pos (by simp; omega), if_pos (by simp; omega)]
  simp
 rw [F55]
 have e4' : Z90 K ⟨ss, A ++ B⟩ x (Za2 K ⟨ss, A ++ B⟩ x) K 0 = _ := e4
 rw [e4', Za2]
 simp only [Int.toNat_natCast, List.drop_left]
 rw [if_pos (by omega)]
 cases B with
 | nil =>
  obtain ⟨p1, p2⟩ := Z6x pordP (fun _ _ => cP_zero) Z3h hs e2 e3 (B' := []) (.inr ⟨rfl, by simp⟩)
  refine ⟨A ++ [x], ?_, p1, p2, by simp⟩
  rw [if_neg (by simp), Z70, if_neg (by simp)]
  simp only [Int.toNat_natCast, List.drop_left]
  exact fin [] (by simp)
 | cons y B =>
  rw [if_pos (by simp <;> omega), if_pos (by simp <;> omega)]
  have hg : (y :: B).getD (0 : Int).toNat Z4 = y := rfl
  rw [hg]
  have same : Z3h y = Z3h x → ∃ S', Z70 K ⟨ss, A ++ y :: B⟩ (A.length : Int) x true = some ⟨ss, S'⟩ ∧ S'.Pairwise ordC ∧ (∀ t, t ∈ S' ↔ t = x ∨ t ∈ A ++ y :: B ∧ Z3h t ≠ Z3h x) ∧ S'.length ≤ (A ++ y :: B).length + 1 := fun e => by
   obtain ⟨p1, p2⟩ := Z6x pordP (fun _ _ => cP_zero) Z3h hs e2 e3 (B' := B) (.inl ⟨y, rfl, e⟩)
   refine ⟨A ++ x :: B, ?_, p1, p2, by simp <;> omega⟩
   rw [Z70, if_pos rfl]
   simp only [Int.toNat_natCast, List.drop_left]
   rw [if_pos (by simp <;> omega)]
   exact fin B (by simp)
  have other : Z3h y ≠ Z3h x → ∃ S', Z70 K ⟨ss, A ++ y :: B⟩ (A.length : Int) x false = some ⟨ss, S'⟩ ∧ S'.Pairwise ordC ∧ (∀ t, t ∈ S' ↔ t = x ∨ t ∈ A ++ y :: B ∧ Z3h t ≠ Z3h x) ∧ S'.length ≤ (A ++ y :: B).length + 1 := fun e => by
   obtain ⟨p1, p2⟩ := Z6x pordP (fun _ _ => cP_zero) Z3h hs e2 e3 (B' := y :: B) (.inr ⟨rfl, fun z hz => by simp at hz; subst hz; exact e⟩)
   refine ⟨A ++ x :: y :: B, ?_, p1, p2, by simp <;> omega⟩
   rw [Z70, if_neg (by simp)]
   simp only [Int.toNat_natCast, List.drop_left]
   exact fin (y :: B) (by simp)
  by_cases e1 : y.Caller = x.Caller
  ·rw [if_pos (by simpa using e1), if_pos (by simp <;> omega)]
   by_cases e2 : y.Callee = x.Callee
   ·rw [show (y.Callee == x.Callee) = true by simpa using e2]
    exact same (by unfold Z3h; rw [e1, e2])
   ·rw [show (y.Callee == x.Callee) = false by simpa using e2]
    exact other fun e => e2 (congrArg Prod.snd e)
  ·rw [if_neg (by simpa using e1)]
   exact other fun e => e1 (congrArg Prod.fst e)
end Go.AM.TopZ
namespace Go.AM.TopZ
open Go Go.AM
def kE (e : Zr) : List Int := [e.From, e.To]
def cE (a b : Zr) : Int := keyC (kE a) (kE b)
theorem kE_inj {a b : Zr} (h : kE a = kE b) : a = b := by
 obtain ⟨f, t⟩ := a
 obtain ⟨f', t'⟩ := b
 simp only [kE, List.cons.injEq, and_true] at h
 simp [h]
theorem cE_zero {a b : Zr} : cE a b = 0 ↔ a = b := (Za5 (by simp [kE])).trans ⟨kE_inj, fun h => by rw [h]⟩
theorem cordE : COrd cE := ⟨fun _ _ => keyC_neg _ _, fun _ _ => cE_zero, fun h k => keyC_ltrans (by simp [kE]) (by simp [kE]) h k⟩
theorem cE_lt {a b : Zr} : cE a b < 0 ↔ a.From < b.From ∨ a.From = b.From ∧ a.To < b.To := by
 have z1 := @Z5d a.From b.From
 have z2 := @sg_lt a.From b.From
 have z3 := @Z5d a.To b.To
 have z4 := @sg_lt a.To b.To
 simp only [cE, kE, keyC]
 by_cases e : sg a.From b.From = 0
 ·rw [if_pos e]
  by_cases e' : sg a.To b.To = 0
  ·rw [if_pos e']; omega
  ·rw [if_neg e']; omega
 ·rw [if_neg e]; omega
theorem eqE (a b : Zr) : ((a.From == b.From) && ((a.To == b.To) && true)) = decide (a = b) := by
 obtain ⟨f, t⟩ := a
 obtain ⟨f', t'⟩ := b
 rw [Bool.eq_iff_iff]
 simp
def inR (n : Int) (e : Zr) : Prop := 0 ≤ e.From ∧ e.From < n ∧ 0 ≤ e.To ∧ e.To < n
theorem Z5p (K : Nat) {n : Int} (hn : n ≤ 256) {a b : Zr} (ha : inR n a) (hb : inR n b) : cmpLt (fun a b => F118 K a b) a b = decide (cE a b < 0) := by
 obtain ⟨a1, a2, a3, a4⟩ := ha
 obtain ⟨b1, b2, b3, b4⟩ := hb
 have h := @cE_lt a b
 unfold cmpLt
 simp only [F118]
 by_cases e : a.From = b.From
 ·rw [if_neg (by simp [e]), wrapI (by omega) (by omega)]
  simp only [decide_eq_decide]
  omega
 ·rw [if_pos (by simp [e]), wrapI (by omega) (by omega)]
  simp only [decide_eq_decide]
  omega
theorem F118_some (K : Nat) (a b : Zr) : (F118 K a b).isSome = true := by
 unfold F118
 split <;> rfl
theorem sort_E (K : Nat) {n : Int} (hn : n ≤ 256) {l : List Zr} (hl : l.length ≤ 1073741824) (hr : ∀ e ∈ l, inR n e) :
  ∃ s, sortF (fun a b => F118 K a b) l = some s ∧ s.Perm l ∧ s.Pairwise (fun a b => ¬ cE b a < 0) := by
 have hL : LtOn (cmpLt fun a b => F118 K a b) l := by
  refine ⟨fun x hx y hy h => ?_, fun x hx y hy z hz h1 h2 => ?_, fun x hx y hy h1 h2 => ?_⟩
  ·rw [Z5p K hn (hr _ hx) (hr _ hy)] at h
   rw [Z5p K hn (hr _ hy) (hr _ hx), cordE.neg x y]
   simp at h ⊢; omega
  ·rw [Z5p K hn (hr _ hx) (hr _ hy)] at h1
   rw [Z5p K hn (hr _ hy) (hr _ hz)] at h2
   rw [Z5p K hn (hr _ hx) (hr _ hz)]
   simp at h1 h2 ⊢; exact cordE.trans h1 h2
  ·rw [Z5p K hn (hr _ hx) (hr _ hy)] at h1
   rw [Z5p K hn (hr _ hy) (hr _ hx), cordE.neg x y] at h2
   simp at h1 h2
   exact (cordE.zero x y).1 (by omega)
 refine ⟨_, sortF_of (lawB_of hL fun x _ y _ => F118_some K x y) hl, Z3o _ _, ?_⟩
 refine (Z48 hL).imp_of_mem fun {a b} ha hb hab => ?_
 have p := Z3o (cmpLt fun a b => F118 K a b) l
 rw [Z5p K hn (hr _ (p.mem_iff.1 hb)) (hr _ (p.mem_iff.1 ha))] at hab
 simpa using hab
theorem set_mid {α : Type} (A mid : List α) (x : α) (rest : List α) (y : α) : (A ++ mid ++ x :: rest).set A.length y = A ++ [y] ++ (mid ++ [x]).tail ++ rest := by
 cases mid with
 | nil => simp
 | cons m mid => simp
theorem Z69 (K i : Nat) (a0 : List Zr) (c : Int → List Zr → Option (List Zr)) (hl : a0.length ≤ 1073741824) :
  ∀ (rest A mid : List Zr) (x : Zr) (j k : Nat), A.length ≤ i + j - 1 → 1 ≤ j → i + j + rest.length = a0.length → A.length + mid.length = i + j - 1 → rest.length < k →
  ∃ tl, Z4f K (i : Int) a0 c k (A.length : Int) (j : Int) (A ++ mid ++ x :: rest) = c (((A ++ dd x rest).length : Nat) : Int) (A ++ dd x rest ++ tl) ∧ (A ++ dd x rest).length + tl.length = a0.length
 | [], A, mid, x, j, k + 1, h1, h2, h3, h4, _ => by
  refine ⟨mid ++ [x], ?_, by simp at h3 ⊢; simp [dd]; omega⟩
  rw [Z4f, if_pos (by simp at h3 ⊢; omega), if_neg (by simp at h3 ⊢; omega)]
  simp [dd]
 | y :: rest, A, mid, x, j, k + 1, h1, h2, h3, h4, hk => by
  have hlen : (A ++ mid ++ x :: y :: rest).length = a0.length := by simp at h3 ⊢; omega
  have h3' : i + j + rest.length + 1 = a0.length := by simp at h3; omega
  have gy : (A ++ mid ++ x :: y :: rest).getD ((0 + ((i : Nat) : Int).toNat) + ((j : Nat) : Int).toNat) Zj = y := by
   have : (0 + ((i : Nat) : Int).toNat) + ((j : Nat) : Int).toNat = (A ++ mid ++ [x]).length := by simp; omega
   rw [this, show A ++ mid ++ x :: y :: rest = (A ++ mid ++ [x]) ++ y :: rest by simp]
   exact getMid _ _ _
  have hw : IntKind.i64.wrap ((j : Int) - 1) = ((j - 1 : Nat) : Int) := by rw [wrapI (by omega) (by omega)]; omega
  have gx : (A ++ mid ++ x :: y :: rest).getD ((0 + ((i : Nat) : Int).toNat) + (((j - 1 : Nat)) : Int).toNat) Zj = x := by
   have : (0 + ((i : Nat) : Int).toNat) + ((j - 1 : Nat) : Int).toNat = (A ++ mid).length := by simp; omega
   rw [this]
   exact getMid _ _ _
  have hw2 : IntKind.i64.wrap ((j : Int) + 1) = ((j + 1 : Nat) : Int) := wrapS (by omega)
  have hw3 : IntKind.i64.wrap ((A.length : Int) + 1) = (((A ++ [y]).length : Nat) : Int) := by rw [wrapS (by omega)]; simp
  rw [Z4f, hw, gx, gy, hlen, if_pos (by omega), if_pos (by simp; omega), if_pos (by omega), if_pos (by omega), if_pos (by omega), if_pos (by omega), if_pos (by omega), if_pos (by omega), eqE]
  by_cases e : y = x
  ·subst e
   rw [if_neg (by simp), Z6m, hw2]
   obtain ⟨tl, t1, t2⟩ := Z69 K i a0 c hl rest A (mid ++ [y]) y (j + 1) k (by omega) (by omega) (by omega) (by simp; omega) (by simpa using hk)
   refine ⟨tl, ?_, by simpa [dd] using t2⟩
   rw [show A ++ mid ++ y :: y :: rest = A ++ (mid ++ [y]) ++ y :: rest by simp, t1]
   simp [dd]
  ·rw [if_pos (by simp [e]), if_pos (by omega), if_pos (by omega), if_pos (by omega), if_pos (by omega), if_pos (by omega), Z6m, hw2, hw3, Int.toNat_natCast, set_mid]
   obtain ⟨tl, t1, t2⟩ := Z69 K i a0 c hl rest (A ++ [y]) (mid ++ [x]).tail y (j + 1) k (by simp; omega) (by omega) (by omega) (by simp; omega) (by simpa using hk)
   refine ⟨tl, ?_, by simp only [dd, if_neg e]; simpa using t2⟩
   rw [t1]
   simp [dd, e]
theorem F119_c18_val (K : Nat) (A tl : List Zr) (_ : A.length + tl.length ≤ 1073741824) : Z4v K (A.length : Int) (A ++ tl) = some A := by
 rw [Z4v, if_pos (by simp; omega), if_pos (by simp; omega), if_pos (by simp; omega), if_pos (by simp; omega), if_pos (by simp)]
 simp
theorem Zal (K : Nat) (a0 : List Zr) (c : Option (List Zr)) (hc : c = some a0) (hl : a0.length ≤ 1073741824) (hK : a0.length < K) : ∀ (rest pre : List Zr) (x : Zr) (k : Nat), a0 = pre ++ x :: rest → rest.length < k →
  Z7c K a0 c k (((pre ++ [x]).length : Nat) : Int) = some (pre ++ x :: dd x rest)
 | [], pre, x, k + 1, h, _ => by
  rw [Z7c, if_neg (by subst h; simp), hc, h]; simp [dd]
 | y :: rest, pre, x, k + 1, h, hk => by
  have h' : a0 = (pre ++ [x]) ++ y :: rest := by simp [h]
  obtain ⟨m1, m2, m3, m4⟩ := atMid h' Zj
  obtain ⟨n1, n2⟩ := next (pre ++ [x]) y h' (by omega)
  have hw : IntKind.i64.wrap (((pre ++ [x]).length : Int) - 1) = ((pre.length : Nat) : Int) := by rw [wrapI (by omega) (by omega)]; simp
  obtain ⟨-, q2, q3, q4⟩ := atMid h Zj
  rw [Z7c, hw, m3, q3, if_pos m1, if_pos m2, if_pos (by omega), if_pos q2, if_pos (by omega), eqE]
  by_cases e : y = x
  ·subst e
   rw [if_pos (by simp), if_pos (by simp; omega), if_pos (by omega)]
   have hd : a0.length = pre.length + 1 + 1 + rest.length := by rw [h]; simp; omega
   obtain ⟨tl, t1, t2⟩ := Z69 K (pre ++ [y]).length a0 (Z4v K) hl rest (pre ++ [y]) [] y 1 K (by omega) (by omega) (by simp; omega) (by simp) (by omega)
   have : a0 = pre ++ [y] ++ [] ++ y :: rest := by rw [h]; simp
   rw [this] at t1 ⊢
   rw [show ((1 : Nat) : Int) = 1 from rfl] at t1
   rw [t1, F119_c18_val K _ _ (by omega)]
   simp [dd]
  ·rw [if_neg (by simp [e]), n1]
   have := Zal K a0 c hc hl hK rest (pre ++ [x]) y k h' (by simpa using hk)
   rw [this]
   simp [dd, e]
theorem F119_val (K : Nat) (l : List Zr) (hl : l.length ≤ 1073741824) (hK : l.length < K) : F119 K l = some (dedup l) := by
 rw [F119]
 by_cases h : decide ((l.length : Int) < 2) = true
 ·rw [if_pos h]
  simp at h
  match l, h with
  | [], _ => rfl
  | [x], _ => rfl
  | x :: y :: l, h => simp at h; omega
 ·rw [if_neg h]
  match l with
  | [] => simp at h
  | x :: rest =>
   have := Zal K (x :: rest) (Zaw K (x :: rest)) rfl hl hK rest [] x K rfl (by simp at hK; omega)
   simpa [dedup] using this
theorem F116_val (K : Nat) (l : List Zr) (hl : l.length ≤ 1073741824) : F116 K l = some l := by
 rw [F116, if_pos (by simpa using hl)]
theorem Zc5 (K : Nat) (l : List Zr) (n : Int) (c : Option (Z18 × Int)) (hl : l.length ≤ 1073741824) : ∀ (rest pre : List Zr) (k : Nat), l = pre ++ rest → rest.length < k →
  Z5t K l n c k (pre.length : Int) = if rest.all (fun e => decide (0 ≤ e.From ∧ e.From < n ∧ 0 ≤ e.To ∧ e.To < n)) = true then c else some (Z41, 10)
 | [], pre, k + 1, h, _ => by rw [Z5t, if_neg (atEnd h)]; simp
 | x :: rest, pre, k + 1, h, hk => by
  obtain ⟨m1, m2, m3, m4⟩ := atMid h Zj
  obtain ⟨n1, n2⟩ := next pre x h (by omega)
  have ih := Zc5 K l n c hl rest (pre ++ [x]) k n2 (by simpa using hk)
  rw [Z5t, if_pos m1, if_pos m2, m3]
  simp only [Z7g, n1, ih, List.all_cons, Bool.and_eq_true, decide_eq_true_eq, if_true]
  by_cases h1 : x.From < 0
  ·rw [if_pos h1, if_neg (by omega)]
  ·rw [if_neg h1]
   by_cases h2 : x.From ≥ n
   ·rw [if_pos h2, if_neg (by omega)]
   ·rw [if_neg h2]
    by_cases h3 : x.To < 0
    ·rw [if_pos h3, if_neg (by omega)]
    ·rw [if_neg h3]
     by_cases h4 : x.To ≥ n
     ·rw [if_pos h4, if_neg (by omega)]
     ·rw [if_neg h4]
      by_cases h5 : rest.all (fun e => decide (0 ≤ e.From ∧ e.From < n ∧ 0 ≤ e.To ∧ e.To < n)) = true
      ·rw [if_pos h5, if_pos ⟨by omega, h5⟩]
      ·rw [if_neg h5, if_neg fun h => h5 h.2]
theorem F77_set (K : Nat) {n : Int} (h0 : 0 ≤ n) (hn : n ≤ 256) {l : List Zr} (hl : l.length ≤ 1073741824) (hK : l.length < K) (hr : ∀ e ∈ l, inR n e)
  {m : List Zr} (hm : Strict cE m) (he : ∀ x, x ∈ l ↔ x ∈ m) : F77 K n l = some (⟨n, m⟩, 0) := by
 obtain ⟨s, s1, s2, s3⟩ := sort_E K hn hl hr
 have e := Zc5 K l n (Zav K l n) hl l [] K rfl hK
 have ha : l.all (fun e => decide (0 ≤ e.From ∧ e.From < n ∧ 0 ≤ e.To ∧ e.To < n)) = true := by
  rw [List.all_eq_true]; intro x hx; simpa [inR] using hr x hx
 rw [if_pos ha] at e
 have hd : dedup s = m := Z5k cordE (dedup_strict cordE s3) hm fun x => by rw [dedup_mem, s2.mem_iff, he]
 rw [F77, if_neg (by simp; omega), if_neg (by simp; omega)]
 simp only [List.length_nil, Int.cast_ofNat_Int] at e
 rw [e, Zav, F116_val K l hl, Option.bind_some, s1, Option.bind_some, F119_val K s (by rw [s2.length_eq]; omega) (by rw [s2.length_eq]; omega), Option.bind_some, hd]
end Go.AM.TopZ
