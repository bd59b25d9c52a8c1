/- Sums by keys, as a sorted list and as a map. -/
import Derived.Test.YtkhbjnkckblkjaaGreatPureMap
namespace Go.AM
open Go
section
variable {α κ : Type} [DecidableEq κ]
def sm (f : α → κ) (g : α → Int) (L : List α) (k : κ) : Int := ((L.filter fun x => decide (f x = k)).map g).sum
theorem sm_nil (f : α → κ) (g : α → Int) (k : κ) : sm f g [] k = 0 := rfl
theorem sm_append (f : α → κ) (g : α → Int) (L M : List α) (k : κ) : sm f g (L ++ M) k = sm f g L k + sm f g M k := by
 simp [sm, List.filter_append, List.sum_append]
theorem sm_cons (f : α → κ) (g : α → Int) (x : α) (L : List α) (k : κ) : sm f g (x :: L) k = (if f x = k then g x else 0) + sm f g L k := by
 unfold sm
 rw [List.filter_cons]
 by_cases h : f x = k
 ·rw [if_pos (by simpa using h), if_pos h]; simp
 ·rw [if_neg (by simpa using h), if_neg h]; simp
theorem sm_one (f : α → κ) (g : α → Int) (x : α) (k : κ) : sm f g [x] k = if f x = k then g x else 0 := by
 rw [sm_cons, sm_nil, Int.add_zero]
theorem sm_none {f : α → κ} {g : α → Int} {L : List α} {k : κ} (h : ∀ x ∈ L, f x ≠ k) : sm f g L k = 0 := by
 unfold sm
 rw [List.filter_eq_nil_iff.2 fun x hx => by simpa using h x hx]
 rfl
theorem sm_bound {f : α → κ} {g : α → Int} {B : Int} : ∀ {L : List α} (_ : ∀ x ∈ L, 0 ≤ g x ∧ g x ≤ B) (k : κ), 0 ≤ sm f g L k ∧ sm f g L k ≤ L.length * B
 | [], _, k => by simp [sm_nil]
 | x :: L, h, k => by
  have h1 := h x (by simp)
  have h2 := sm_bound (f := f) (fun y hy => h y (by simp [hy])) k (L := L)
  have e : ((x :: L).length : Int) * B = L.length * B + B := by simp [Int.add_mul]
  rw [sm_cons, e]
  split <;> omega
theorem nodup_len' {β : Type} [DecidableEq β] : ∀ {l m : List β}, l.Nodup → (∀ x ∈ l, x ∈ m) → l.length ≤ m.length
 | [], m, _, _ => by simp
 | a :: l, m, hn, hs => by
  rw [List.nodup_cons] at hn
  have ha := hs a (by simp)
  have := nodup_len' (m := m.erase a) hn.2 fun x hx => by
   have hne : x ≠ a := fun e => hn.1 (by rw [← e]; exact hx)
   exact (List.mem_erase_of_ne hne).2 (hs x (by simp [hx]))
  rw [List.length_erase_of_mem ha] at this
  have := List.length_pos_of_mem ha
  simp; omega
structure Kd (α κ : Type) where
 f : α → κ
 g1 : α → Int
 g2 : α → Int
 g3 : α → Int
 mk3 : κ → Int → Int → Int → α
 f_mk : ∀ k a b c, f (mk3 k a b c) = k
 g1_mk : ∀ k a b c, g1 (mk3 k a b c) = a
 g2_mk : ∀ k a b c, g2 (mk3 k a b c) = b
 g3_mk : ∀ k a b c, g3 (mk3 k a b c) = c
variable (D : Kd α κ)
def Kd.tot (L : List α) (k : κ) : α := D.mk3 k (sm D.f D.g1 L k) (sm D.f D.g2 L k) (sm D.f D.g3 L k)
def Kd.Is (c : κ → κ → Int) (L S : List α) : Prop := S.Pairwise (fun a b => c (D.f a) (D.f b) < 0) ∧ ∀ t, t ∈ S ↔ (∃ x ∈ L, D.f x = D.f t) ∧ t = D.tot L (D.f t)
def Kd.Map (L : List α) (v : List (κ × α)) : Prop := (v.map (·.1)).Nodup ∧ ∀ kv, kv ∈ v ↔ (∃ x ∈ L, D.f x = kv.1) ∧ kv.2 = D.tot L kv.1
variable {D} {c : κ → κ → Int}
theorem sort_unique {R : α → α → Prop} (asy : ∀ a b, R a b → ¬ R b a) : ∀ {l m : List α}, l.Pairwise R → m.Pairwise R → (∀ x, x ∈ l ↔ x ∈ m) → l = m
 | [], [], _, _, _ => rfl
 | [], b :: m, _, _, h => by have := (h b).2 (by simp); simp at this
 | a :: l, [], _, _, h => by have := (h a).1 (by simp); simp at this
 | a :: l, b :: m, h1, h2, h => by
  obtain ⟨a1, a2⟩ := List.pairwise_cons.1 h1
  obtain ⟨b1, b2⟩ := List.pairwise_cons.1 h2
  have irr : ∀ x, ¬ R x x := fun x hx => asy x x hx hx
  have e : a = b := by
   rcases List.mem_cons.1 ((h a).1 (by simp)) with e | e
   ·exact e
   ·rcases List.mem_cons.1 ((h b).2 (by simp)) with e' | e'
    ·exact e'.symm
    ·exact absurd (a1 b e') (asy _ _ (b1 a e))
  subst e
  rw [sort_unique asy a2 b2 fun x => ?_]
  constructor
  ·intro hx
   rcases List.mem_cons.1 ((h x).1 (by simp [hx])) with e | e
   ·subst e; exact absurd (a1 x hx) (irr x)
   ·exact e
  ·intro hx
   rcases List.mem_cons.1 ((h x).2 (by simp [hx])) with e | e
   ·subst e; exact absurd (b1 x hx) (irr x)
   ·exact e
theorem Kd.tot_f (L : List α) (k : κ) : D.f (D.tot L k) = k := D.f_mk _ _ _ _
theorem Kd.tot_congr {L M : List α} {k : κ} (h1 : sm D.f D.g1 L k = sm D.f D.g1 M k) (h2 : sm D.f D.g2 L k = sm D.f D.g2 M k) (h3 : sm D.f D.g3 L k = sm D.f D.g3 M k) : D.tot L k = D.tot M k := by
 unfold Kd.tot
 rw [h1, h2, h3]
theorem Kd.tot_other {L : List α} {x : α} {k : κ} (h : D.f x ≠ k) : D.tot (L ++ [x]) k = D.tot L k := by
 apply Kd.tot_congr <;> rw [sm_append, sm_one, if_neg h, Int.add_zero]
theorem Kd.tot_next (L : List α) (x : α) : D.tot (L ++ [x]) (D.f x) = D.mk3 (D.f x) (sm D.f D.g1 L (D.f x) + D.g1 x) (sm D.f D.g2 L (D.f x) + D.g2 x) (sm D.f D.g3 L (D.f x) + D.g3 x) := by
 unfold Kd.tot
 simp only [sm_append, sm_one, if_true]
theorem Kd.Is.nil : D.Is c [] [] := ⟨.nil, fun t => by simp⟩
theorem Kd.Map.nil : D.Map [] [] := ⟨by simp, fun t => by simp⟩
theorem Kd.Is.put {L S S' : List α} (h : D.Is c L S) (x : α) (hs : S'.Pairwise (fun a b => c (D.f a) (D.f b) < 0)) (hm : ∀ t, t ∈ S' ↔ t = D.tot (L ++ [x]) (D.f x) ∨ t ∈ S ∧ D.f t ≠ D.f x) : D.Is c (L ++ [x]) S' := by
 refine ⟨hs, fun t => ?_⟩
 rw [hm, h.2]
 by_cases e : D.f t = D.f x
 ·constructor
  ·rintro (rfl | ⟨_, e'⟩)
   ·exact ⟨⟨x, by simp, e.symm⟩, by rw [Kd.tot_f]⟩
   ·exact absurd e e'
  ·rintro ⟨_, e2⟩
   left; rw [e2, e]
 ·have e' : D.f x ≠ D.f t := fun h => e h.symm
  rw [Kd.tot_other e']
  constructor
  ·rintro (e2 | ⟨⟨⟨y, y1, y2⟩, e2⟩, _⟩)
   ·exact absurd (by rw [e2, Kd.tot_f]) e
   ·exact ⟨⟨y, by simp [y1], y2⟩, e2⟩
  ·rintro ⟨⟨y, y1, y2⟩, e2⟩
   rcases List.mem_append.1 y1 with y1 | y1
   ·exact .inr ⟨⟨⟨y, y1, y2⟩, e2⟩, e⟩
   ·simp at y1; subst y1; exact absurd y2 e'
theorem Kd.Is.look {L S : List α} (h : D.Is c L S) {k : κ} {o : α} (h2 : D.f o = k) (h3 : o ∈ S ∨ o = D.mk3 k 0 0 0 ∧ ∀ t ∈ S, D.f t ≠ k) : o = D.tot L k := by
 rcases h3 with h3 | ⟨h3, h4⟩
 ·have := ((h.2 o).1 h3).2
  rwa [h2] at this
 ·have hno : ∀ x ∈ L, D.f x ≠ k := fun x hx e => h4 (D.tot L k) ((h.2 _).2 ⟨⟨x, hx, by rw [Kd.tot_f, e]⟩, by rw [Kd.tot_f]⟩) (Kd.tot_f _ _)
  rw [h3]
  unfold Kd.tot
  rw [sm_none hno, sm_none hno, sm_none hno]
theorem mput_spec {ν : Type} {eq : κ → κ → Bool} (he : LawEq eq) (a : κ) (v : ν) : ∀ {l : List (κ × ν)}, (l.map (·.1)).Nodup → ((mput eq a v l).map (·.1)).Nodup ∧ (∀ kv, kv ∈ mput eq a v l ↔ kv = (a, v) ∨ kv ∈ l ∧ kv.1 ≠ a) ∧ (mput eq a v l).length ≤ l.length + 1
 | [], _ => by simp [mput_nil]
 | kv :: l, hn => by
  rw [List.map_cons, List.nodup_cons] at hn
  obtain ⟨q1, q2, q3⟩ := mput_spec he a v hn.2
  rw [mput_cons]
  by_cases e : a = kv.1
  ·rw [if_pos ((he _ _).2 e)]
   refine ⟨by rw [List.map_cons, List.nodup_cons]; exact ⟨by rw [e]; exact hn.1, hn.2⟩, fun x => ?_, by simp⟩
   rw [List.mem_cons, List.mem_cons]
   constructor
   ·rintro (h | h)
    ·exact .inl h
    ·refine .inr ⟨.inr h, fun e2 => hn.1 ?_⟩
     rw [← e, ← e2]
     exact List.mem_map.2 ⟨x, h, rfl⟩
   ·rintro (h | ⟨h | h, h2⟩)
    ·exact .inl h
    ·subst h; exact absurd e.symm h2
    ·exact .inr h
  ·rw [if_neg (fun h => e ((he _ _).1 h))]
   refine ⟨?_, fun x => ?_, by simp; omega⟩
   ·rw [List.map_cons, List.nodup_cons]
    refine ⟨fun h => ?_, q1⟩
    obtain ⟨x, x1, x2⟩ := List.mem_map.1 h
    rcases (q2 x).1 x1 with x1 | ⟨x1, _⟩
    ·subst x1; exact e x2
    ·exact hn.1 (List.mem_map.2 ⟨x, x1, x2⟩)
   ·rw [List.mem_cons, List.mem_cons, q2]
    constructor
    ·rintro (h | h | ⟨h, h2⟩)
     ·subst h; exact .inr ⟨.inl rfl, fun h => e h.symm⟩
     ·exact .inl h
     ·exact .inr ⟨.inr h, h2⟩
    ·rintro (h | ⟨h | h, h2⟩)
     ·exact .inr (.inl h)
     ·exact .inl h
     ·exact .inr (.inr ⟨h, h2⟩)
theorem mget_spec {ν : Type} {eq : κ → κ → Bool} (he : LawEq eq) (x : κ) : ∀ {l : List (κ × ν)}, (l.map (·.1)).Nodup → (∃ v, mget eq x l = some v ∧ (x, v) ∈ l) ∨ (mget eq x l = none ∧ ∀ kv ∈ l, kv.1 ≠ x)
 | [], _ => .inr ⟨mget_nil x, by simp⟩
 | kv :: l, hn => by
  rw [List.map_cons, List.nodup_cons] at hn
  rw [mget_cons]
  by_cases e : x = kv.1
  ·rw [if_pos ((he _ _).2 e)]
   exact .inl ⟨kv.2, rfl, by rw [e]; simp⟩
  ·rw [if_neg (fun h => e ((he _ _).1 h))]
   rcases mget_spec he x hn.2 with ⟨v, v1, v2⟩ | ⟨h1, h2⟩
   ·exact .inl ⟨v, v1, by simp [v2]⟩
   ·refine .inr ⟨h1, fun y hy => ?_⟩
    rcases List.mem_cons.1 hy with rfl | hy
    ·exact fun h => e h.symm
    ·exact h2 y hy
theorem Kd.Map.put {eq : κ → κ → Bool} (he : LawEq eq) {L : List α} {v : List (κ × α)} (h : D.Map L v) (x : α) : D.Map (L ++ [x]) (mput eq (D.f x) (D.tot (L ++ [x]) (D.f x)) v) := by
 obtain ⟨q1, q2, _⟩ := mput_spec he (D.f x) (D.tot (L ++ [x]) (D.f x)) h.1
 refine ⟨q1, fun kv => ?_⟩
 rw [q2, h.2]
 by_cases e : kv.1 = D.f x
 ·constructor
  ·rintro (rfl | ⟨_, e'⟩)
   ·exact ⟨⟨x, by simp, rfl⟩, rfl⟩
   ·exact absurd e e'
  ·rintro ⟨_, e2⟩
   left
   exact Prod.ext e (by rw [e2, e])
 ·have e' : D.f x ≠ kv.1 := fun h => e h.symm
  rw [Kd.tot_other e']
  constructor
  ·rintro (e2 | ⟨⟨⟨y, y1, y2⟩, e2⟩, _⟩)
   ·exact absurd (by rw [e2]) e
   ·exact ⟨⟨y, by simp [y1], y2⟩, e2⟩
  ·rintro ⟨⟨y, y1, y2⟩, e2⟩
   rcases List.mem_append.1 y1 with y1 | y1
   ·exact .inr ⟨⟨⟨y, y1, y2⟩, e2⟩, e⟩
   ·simp at y1; subst y1; exact absurd y2 e'
theorem Kd.Map.get {eq : κ → κ → Bool} (he : LawEq eq) {L : List α} {v : List (κ × α)} (h : D.Map L v) (k : κ) (z : α) (z1 : D.g1 z = 0) (z2 : D.g2 z = 0) (z3 : D.g3 z = 0) :
  D.g1 ((mget eq k v).getD z) = sm D.f D.g1 L k ∧ D.g2 ((mget eq k v).getD z) = sm D.f D.g2 L k ∧ D.g3 ((mget eq k v).getD z) = sm D.f D.g3 L k := by
 rcases mget_spec he k h.1 with ⟨t, t1, t2⟩ | ⟨h1, h2⟩
 ·have := ((h.2 _).1 t2).2
  simp only at this
  rw [t1, Option.getD_some, this]
  exact ⟨D.g1_mk _ _ _ _, D.g2_mk _ _ _ _, D.g3_mk _ _ _ _⟩
 ·have hno : ∀ x ∈ L, D.f x ≠ k := fun x hx e => h2 (k, D.tot L k) ((h.2 _).2 ⟨⟨x, hx, e⟩, rfl⟩) rfl
  rw [h1, Option.getD_none, z1, z2, z3, sm_none hno, sm_none hno, sm_none hno]
  exact ⟨rfl, rfl, rfl⟩
theorem Kd.Map.nodup {L : List α} {v : List (κ × α)} (h : D.Map L v) : (v.map (·.2)).Nodup := by
 have : v.map (·.1) = (v.map (·.2)).map D.f := by
  rw [List.map_map]
  refine List.map_congr_left fun kv hkv => ?_
  have := ((h.2 kv).1 hkv).2
  simp only [Function.comp]
  rw [this, Kd.tot_f]
 have h1 := h.1
 rw [this] at h1
 unfold List.Nodup at h1 ⊢
 rw [List.pairwise_map] at h1
 exact h1.imp fun hne e => hne (by rw [e])
theorem Kd.Map.mem {L S : List α} {v : List (κ × α)} (h : D.Map L v) (hS : D.Is c L S) (t : α) : t ∈ v.map (·.2) ↔ t ∈ S := by
 rw [hS.2, List.mem_map]
 constructor
 ·rintro ⟨kv, h1, rfl⟩
  obtain ⟨⟨x, x1, x2⟩, h3⟩ := (h.2 kv).1 h1
  have e : D.f kv.2 = kv.1 := by rw [h3, Kd.tot_f]
  exact ⟨⟨x, x1, by rw [e, x2]⟩, by rw [e]; exact h3⟩
 ·rintro ⟨⟨x, x1, x2⟩, h3⟩
  exact ⟨(D.f t, t), (h.2 _).2 ⟨⟨x, x1, x2⟩, h3⟩, rfl⟩
theorem Kd.Map.len {L : List α} {v : List (κ × α)} (h : D.Map L v) : v.length ≤ L.length := by
 have := nodup_len' (l := v.map (·.1)) (m := L.map D.f) h.1 fun x hx => by
  obtain ⟨kv, h1, rfl⟩ := List.mem_map.1 hx
  obtain ⟨⟨y, y1, y2⟩, _⟩ := (h.2 kv).1 h1
  exact List.mem_map.2 ⟨y, y1, y2⟩
 simpa using this
theorem Kd.Is.len {L S : List α} (h : D.Is c L S) (hc : POrd c) : S.length ≤ L.length := by
 have := nodup_len' (l := S.map D.f) (m := L.map D.f) (by
  unfold List.Nodup
  rw [List.pairwise_map]
  exact h.1.imp fun {a b} hab e => by
   rw [e, hc.refl] at hab
   omega) fun x hx => by
  obtain ⟨t, h1, rfl⟩ := List.mem_map.1 hx
  obtain ⟨⟨y, y1, y2⟩, _⟩ := (h.2 t).1 h1
  exact List.mem_map.2 ⟨y, y1, y2⟩
 simpa using this
theorem Kd.Is.sm {L S : List α} (h : D.Is c L S) (hc : POrd c) (k : κ) : Go.AM.sm D.f D.g1 S k = Go.AM.sm D.f D.g1 L k ∧ Go.AM.sm D.f D.g2 S k = Go.AM.sm D.f D.g2 L k ∧ Go.AM.sm D.f D.g3 S k = Go.AM.sm D.f D.g3 L k := by
 by_cases hk : ∃ x ∈ L, D.f x = k
 ·have hmem : D.tot L k ∈ S := (h.2 _).2 ⟨by rw [Kd.tot_f]; exact hk, by rw [Kd.tot_f]⟩
  have e : (S.filter fun x => decide (D.f x = k)) = [D.tot L k] := by
   refine sort_unique (R := fun a b => c (D.f a) (D.f b) < 0) (fun a b hab hba => by have := hc.neg (D.f a) (D.f b); omega) (h.1.filter _) (by simp) fun x => ?_
   rw [List.mem_filter, List.mem_singleton, decide_eq_true_eq]
   constructor
   ·rintro ⟨x1, x2⟩
    have := ((h.2 x).1 x1).2
    rwa [x2] at this
   ·rintro rfl
    exact ⟨hmem, Kd.tot_f _ _⟩
  unfold Go.AM.sm
  rw [e]
  simp only [List.map_cons, List.map_nil, List.sum_cons, List.sum_nil, Int.add_zero]
  exact ⟨D.g1_mk _ _ _ _, D.g2_mk _ _ _ _, D.g3_mk _ _ _ _⟩
 ·have h1 : ∀ x ∈ L, D.f x ≠ k := fun x hx e => hk ⟨x, hx, e⟩
  have h2 : ∀ x ∈ S, D.f x ≠ k := fun x hx e => by
   obtain ⟨⟨y, y1, y2⟩, _⟩ := (h.2 x).1 hx
   exact hk ⟨y, y1, by rw [y2, e]⟩
  exact ⟨by rw [sm_none h1, sm_none h2], by rw [sm_none h1, sm_none h2], by rw [sm_none h1, sm_none h2]⟩
theorem Kd.Is.congr {L M S : List α} (h : D.Is c L S) (hk : ∀ k, (∃ x ∈ L, D.f x = k) ↔ ∃ x ∈ M, D.f x = k) (h1 : ∀ k, Go.AM.sm D.f D.g1 L k = Go.AM.sm D.f D.g1 M k) (h2 : ∀ k, Go.AM.sm D.f D.g2 L k = Go.AM.sm D.f D.g2 M k) (h3 : ∀ k, Go.AM.sm D.f D.g3 L k = Go.AM.sm D.f D.g3 M k) : D.Is c M S :=
 ⟨h.1, fun t => by rw [h.2, hk, Kd.tot_congr (h1 _) (h2 _) (h3 _)]⟩
end
end Go.AM
