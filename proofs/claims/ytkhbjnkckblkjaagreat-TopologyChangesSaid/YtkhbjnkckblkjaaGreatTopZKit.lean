/- Service graphs: comparing, sorting, and what is made of the collected services and calls. -/
import Derived.Test.YtkhbjnkckblkjaaGreatTopZG0
import Derived.Test.YtkhbjnkckblkjaaGreatTopZG1
import Derived.Test.YtkhbjnkckblkjaaGreatPureOrd
import Derived.Test.YtkhbjnkckblkjaaGreatPureMap
import Derived.Test.YtkhbjnkckblkjaaGreatGraKit
namespace Go.AM
open Go
theorem rel_unique {α : Type} {R : α → α → Prop} (irr : ∀ a, ¬ R a a) (tr : ∀ {a b c}, R a b → R b c → R a c) : ∀ {l m : List α}, l.Pairwise R → m.Pairwise R → (∀ x, x ∈ l ↔ x ∈ m) → l = m
 | [], [], _, _, _ => rfl
 | [], y :: m, _, _, h => by have := (h y).2 (by simp); simp at this
 | x :: l, [], _, _, h => by have := (h x).1 (by simp); simp at this
 | x :: l, y :: m, hl, hm, he => by
  obtain ⟨l1, l2⟩ := List.pairwise_cons.1 hl
  obtain ⟨m1, m2⟩ := List.pairwise_cons.1 hm
  have hxy : x = y := by
   rcases List.mem_cons.1 ((he x).1 (by simp)) with e | e
   ·exact e
   ·rcases List.mem_cons.1 ((he y).2 (by simp)) with e' | e'
    ·exact e'.symm
    ·exact absurd (tr (l1 y e') (m1 x e)) (irr x)
  subst hxy
  rw [rel_unique irr tr l2 m2 fun z => ?_]
  constructor
  ·intro hz
   rcases List.mem_cons.1 ((he z).1 (by simp [hz])) with e | e
   ·subst e; exact absurd (l1 z hz) (irr z)
   ·exact e
  ·intro hz
   rcases List.mem_cons.1 ((he z).2 (by simp [hz])) with e | e
   ·subst e; exact absurd (m1 z hz) (irr z)
   ·exact e
theorem sort_key {α κ : Type} [DecidableEq α] {c : κ → κ → Int} (hc : POrd c) (hz : ∀ a b, c a b = 0 → a = b) (key : α → κ) {f : α → α → Option Int} (hf : ∀ a b, f a b = some (c (key a) (key b))) {l m : List α} (hl : l.length ≤ 1073741824) (hn : l.Nodup)
  (hk : ∀ a ∈ l, ∀ b ∈ l, key a = key b → a = b) (hm : m.Pairwise fun a b => c (key a) (key b) < 0) (he : ∀ x, x ∈ l ↔ x ∈ m) : sortF f l = some m := by
 have hcmp : ∀ a b, cmpLt f a b = decide (c (key a) (key b) < 0) := fun a b => by simp [cmpLt, hf]
 have hL : LtOn (cmpLt f) l := by
  refine ⟨fun x _ y _ h => ?_, fun x _ y _ z _ h1 h2 => ?_, fun x hx y hy h1 h2 => ?_⟩
  ·rw [hcmp] at h ⊢
   have := hc.neg (key x) (key y)
   simp at h ⊢; omega
  ·rw [hcmp] at h1 h2 ⊢
   simp at h1 h2 ⊢
   exact hc.ltl h1 (by omega)
  ·rw [hcmp] at h1 h2
   have := hc.neg (key x) (key y)
   simp at h1 h2
   exact hk x hx y hy (hz _ _ (by omega))
 rw [sortF_of (lawB_of hL fun x _ y _ => by rw [hf]; rfl) hl]
 congr 1
 have p := isort_perm (cmpLt f) l
 refine rel_unique (R := fun a b => c (key a) (key b) < 0) (fun a => by rw [hc.refl]; omega) (fun h1 h2 => hc.ltl h1 (by omega)) ?_ hm fun x => by rw [p.mem_iff, he]
 have hs := isort_sorted hL
 have hnd : (isort (cmpLt f) l).Nodup := p.nodup_iff.2 hn
 exact (List.Pairwise.and hs hnd).imp_of_mem fun {x y} hx hy h => by
  have h1 := h.1
  rw [hcmp] at h1
  have := hc.neg (key x) (key y)
  simp at h1
  have : ¬ c (key x) (key y) = 0 := fun e => h.2 (hk x (p.mem_iff.1 hx) y (p.mem_iff.1 hy) (hz _ _ e))
  omega
end Go.AM
namespace Go.AM.TopZ
open Go Go.AM
theorem F69_val (K : Nat) (a b : Str) : F69 K a b = some (cS a b) := by
 simp only [F69, F110, beq_self_eq_true, Bool.not_true, Option.bind_some, Bool.false_eq_true, if_false]
 rw [← cS_slt]
 split
 ·rfl
 ·split <;> rfl
theorem F98_val (K : Nat) (a b : Zc) : F98 K a b = some (cS a.Name b.Name) := by
 rw [F98, F69_val, Option.bind_some]
theorem F52_l11_val (K : Nat) (c : List Zl → Option (Int × Zd)) (r : Int × Zd) (all : List Zl) (ha : all.length ≤ 1000000) (h : ∀ l, l.Perm all → c l = some r) :
  ∀ (k : Nat) (rem : List (Zu × Zl)) (acc : List Zl), (acc ++ rem.map (·.2)).Perm all → rem.length < k → F52_l11 K c k rem acc = some r
 | k + 1, rem, acc, hp, hk => by
  rw [F52_l11]
  refine ndNext_of (fun e => ?_) fun pre x post e => ?_
  ·subst e
   exact h acc (by simpa using hp)
  ·subst e
   have hlen := hp.length_eq
   simp at hlen hk
   rw [if_pos (by simp; omega)]
   refine F52_l11_val K c r all ha h k (pre ++ post) (acc ++ [x.2]) ?_ (by simp; omega)
   refine List.Perm.trans ?_ hp
   simp only [List.map_append, List.map_cons, List.append_assoc]
   exact List.Perm.append_left acc (by simpa using (show (x.2 :: (pre.map (·.2) ++ post.map (·.2))).Perm (pre.map (·.2) ++ x.2 :: post.map (·.2)) from List.perm_middle.symm))
theorem F52_l5_val (K : Nat) (c : List Zc → Option (Int × Zd)) (r : Int × Zd) (all : List Zc) (ha : all.length ≤ 1000000) (h : ∀ l, l.Perm all → c l = some r) :
  ∀ (k : Nat) (rem : List (Str × Zc)) (acc : List Zc), (acc ++ rem.map (·.2)).Perm all → rem.length < k → F52_l5 K c k rem acc = some r
 | k + 1, rem, acc, hp, hk => by
  rw [F52_l5]
  refine ndNext_of (fun e => ?_) fun pre x post e => ?_
  ·subst e
   exact h acc (by simpa using hp)
  ·subst e
   have hlen := hp.length_eq
   simp at hlen hk
   rw [if_pos (by simp; omega)]
   refine F52_l5_val K c r all ha h k (pre ++ post) (acc ++ [x.2]) ?_ (by simp; omega)
   refine List.Perm.trans ?_ hp
   simp only [List.map_append, List.map_cons, List.append_assoc]
   exact List.Perm.append_left acc (by simpa using (show (x.2 :: (pre.map (·.2) ++ post.map (·.2))).Perm (pre.map (·.2) ++ x.2 :: post.map (·.2)) from List.perm_middle.symm))
theorem F52_val (K : Nat) {svc : List (Str × Zc)} {calls : List (Zu × Zl)} {S : List Zc} {C : List Zl} (h1 : svc.length ≤ 256) (h2 : calls.length ≤ 1000) (hK : 1000 < K)
  (hS : ∀ l, l.Perm (svc.map (·.2)) → sortF (fun a b => F98 K a b) l = some S) (hC : ∀ l, l.Perm (calls.map (·.2)) → sortF (fun a b => F100 K a b) l = some C) : F52 K false svc calls = some (0, ⟨S, C⟩) := by
 rw [F52, if_neg (by simp; omega), if_neg (by simp)]
 refine F52_l5_val K _ _ (svc.map (·.2)) (by simp; omega) (fun l hl => ?_) K svc [] (by simp) (by omega)
 rw [F52_c7]
 refine F52_l11_val K _ _ (calls.map (·.2)) (by simp; omega) (fun l' hl' => ?_) K calls [] (by simp) (by omega)
 rw [F52_c13, hS l hl, Option.bind_some, hC l' hl', Option.bind_some]
theorem eqS (a b : Zc) : ((a.Name == b.Name) && ((a.Spans == b.Spans) && ((a.Errors == b.Errors) && ((a.Roots == b.Roots) && true)))) = decide (a = b) := by
 obtain ⟨a1, a2, a3, a4⟩ := a
 obtain ⟨b1, b2, b3, b4⟩ := b
 rw [Bool.eq_iff_iff]
 simp
theorem eqC (a b : Zl) : ((a.Caller == b.Caller) && ((a.Callee == b.Callee) && ((a.Count == b.Count) && ((a.Errors == b.Errors) && ((a.Time == b.Time) && true))))) = decide (a = b) := by
 obtain ⟨a1, a2, a3, a4, a5⟩ := a
 obtain ⟨b1, b2, b3, b4, b5⟩ := b
 rw [Bool.eq_iff_iff]
 simp
theorem F19_l6_val (K : Nat) (m m' : Zd) (c : Option Bool) (hl : m.Calls.length ≤ 1000000) : ∀ (a b p q : List Zl) (k : Nat), m.Calls = p ++ a → m'.Calls = q ++ b → p.length = q.length → a.length = b.length → a.length < k → F19_l6 K m m' c k (p.length : Int) = if a = b then c else some false
 | [], b, p, q, k + 1, h1, h2, h3, h4, _ => by
  have : b = [] := List.length_eq_zero_iff.1 h4.symm
  subst this
  rw [F19_l6, if_neg (atEnd h1)]; simp
 | x :: a, [], p, q, k + 1, _, _, _, h4, _ => by simp at h4
 | x :: a, y :: b, p, q, k + 1, h1, h2, h3, h4, hk => by
  obtain ⟨m1, m2, m3, m4⟩ := atMid h1 Zk
  obtain ⟨r1, r2, r3, r4⟩ := atMid h2 Zk
  obtain ⟨n1, n2⟩ := next p x h1 (by omega)
  rw [← h3] at r2 r3
  rw [F19_l6, if_pos m1, if_pos m2, if_pos r2, m3, r3, eqC]
  by_cases hxy : x = y
  ·rw [if_neg (by simp [hxy]), n1, F19_l6_val K m m' c hl a b (p ++ [x]) (q ++ [y]) k n2 (by simp [h2]) (by simp; omega) (by simpa using h4) (by simpa using hk)]
   simp [hxy]
  ·rw [if_pos (by simp [hxy])]
   simp [hxy]
theorem F19_l2_val (K : Nat) (m m' : Zd) (c : Option Bool) (hl : m.Services.length ≤ 1000000) : ∀ (a b p q : List Zc) (k : Nat), m.Services = p ++ a → m'.Services = q ++ b → p.length = q.length → a.length = b.length → a.length < k → F19_l2 K m m' c k (p.length : Int) = if a = b then c else some false
 | [], b, p, q, k + 1, h1, h2, h3, h4, _ => by
  have : b = [] := List.length_eq_zero_iff.1 h4.symm
  subst this
  rw [F19_l2, if_neg (atEnd h1)]; simp
 | x :: a, [], p, q, k + 1, _, _, _, h4, _ => by simp at h4
 | x :: a, y :: b, p, q, k + 1, h1, h2, h3, h4, hk => by
  obtain ⟨m1, m2, m3, m4⟩ := atMid h1 Zr
  obtain ⟨r1, r2, r3, r4⟩ := atMid h2 Zr
  obtain ⟨n1, n2⟩ := next p x h1 (by omega)
  rw [← h3] at r2 r3
  rw [F19_l2, if_pos m1, if_pos m2, if_pos r2, m3, r3, eqS]
  by_cases hxy : x = y
  ·rw [if_neg (by simp [hxy]), n1, F19_l2_val K m m' c hl a b (p ++ [x]) (q ++ [y]) k n2 (by simp [h2]) (by simp; omega) (by simpa using h4) (by simpa using hk)]
   simp [hxy]
  ·rw [if_pos (by simp [hxy])]
   simp [hxy]
theorem F19_val (K : Nat) {m m' : Zd} (h1 : m.Services.length ≤ 1000) (h2 : m.Calls.length ≤ 1000) (hK : 1000 < K) : F19 K m m' = some (decide (m = m')) := by
 rw [F19]
 by_cases e1 : m.Services.length = m'.Services.length
 ·rw [if_neg (by simp; omega)]
  by_cases e2 : m.Calls.length = m'.Calls.length
  ·rw [if_neg (by simp; omega)]
   have a1 := F19_l2_val K m m' (F19_c3 K m m') (by omega) m.Services m'.Services [] [] K rfl rfl rfl e1 (by omega)
   have a2 := F19_l6_val K m m' (F19_c7 K) (by omega) m.Calls m'.Calls [] [] K rfl rfl rfl e2 (by omega)
   simp only [List.length_nil, Int.cast_ofNat_Int] at a1 a2
   rw [a1, F19_c3, a2, F19_c7]
   obtain ⟨s, c⟩ := m
   obtain ⟨s', c'⟩ := m'
   simp only [Zd.mk.injEq]
   by_cases f1 : s = s' <;> by_cases f2 : c = c' <;> simp [f1, f2]
  ·rw [if_pos (by simp; omega)]
   have : ¬ m = m' := fun h => e2 (by rw [h])
   simp [this]
 ·rw [if_pos (by simp; omega)]
  have : ¬ m = m' := fun h => e1 (by rw [h])
  simp [this]
end Go.AM.TopZ
