/- Next: the first notification from a slot on. -/
import Derived.Test.YtmdglfmfefmpkaaNotiG1
import Derived.Test.YtmdglfmfefmpkaaNotiG5
import Derived.Test.YtmdglfmfefmpkaaNotiG13
import Derived.Test.YtmdglfmfefmpkaaNotiG22
import Derived.Test.YtmdglfmfefmpkaaNotiMod
import Derived.Test.YtmdglfmfefmpkaaNotiEv3
namespace Go.AM.Noti
open Go Go.AM
set_option maxRecDepth 100000
def Best (D : Nf → Prop) (b : Nf) (f : Bool) : Prop := (f = false → b = Zi ∧ ∀ n, ¬ D n) ∧ (f = true → D b ∧ ∀ n, D n → ¬ cN n b < 0)
theorem Best.congr {D D' : Nf → Prop} {b : Nf} {f : Bool} (h : Best D b f) (e : ∀ n, D' n ↔ D n) : Best D' b f := by
 obtain ⟨h1, h2⟩ := h
 exact ⟨fun q => ⟨(h1 q).1, fun n hn => (h1 q).2 n ((e n).1 hn)⟩, fun q => ⟨(e b).2 (h2 q).1, fun n hn => (h2 q).2 n ((e n).1 hn)⟩⟩
theorem F34_y43_val (K : Nat) (hK : 10 < K) (n b : Nf) (f : Bool) (h : n.At < 1048576) : F34_y43 K n 0 b f = some (if f = false ∨ cN n b < 0 then (1, n, true) else (1, b, f)) := by
 rw [F34_y43, if_pos rfl, if_pos (decide_eq_true h)]
 cases f with
 | false => simp [F34_j37, F34_j40]
 | true =>
  rw [if_neg (by simp), F54_val K n b hK, Option.bind_some, F34_j37, F34_j40, F34_j40]
  by_cases c : cN n b < 0 <;> simp [c]
theorem feed_next (K : Nat) (hK : 10 < K) (fr : Int) : ∀ (l : List Nf) (D : Nf → Prop) (b : Nf) (f : Bool), Str' l → (∀ n ∈ l, n.At < 1048576) → Best D b f → ∃ r, feed fr (asF3 (F34_y43 K)) l (b, f) = some r ∧ r.1 ≤ 1 ∧ Best (fun n => D n ∨ n ∈ l ∧ fr ≤ n.At) r.2.1 r.2.2
 | [], D, b, f, _, _, hB => ⟨_, rfl, Nat.zero_le _, hB.congr fun n => by simp⟩
 | n :: l, D, b, f, hs, h, hB => by
  obtain ⟨s1, s2⟩ := List.pairwise_cons.1 hs
  rw [feed]
  by_cases c : n.At < fr
  ·rw [if_pos c]
   obtain ⟨r, r1, r2, r3⟩ := feed_next K hK fr l D b f s2 (fun m hm => h m (by simp [hm])) hB
   refine ⟨r, r1, r2, r3.congr fun m => ?_⟩
   rw [List.mem_cons]
   constructor
   ·rintro (a | ⟨rfl | a, d⟩)
    ·exact .inl a
    ·omega
    ·exact .inr ⟨a, d⟩
   ·rintro (a | ⟨a, d⟩)
    ·exact .inl a
    ·exact .inr ⟨.inr a, d⟩
  ·rw [if_neg c]
   simp only [asF3]
   rw [F34_y43_val K hK n b f (h n (by simp)), Option.bind_some]
   have hmin : ∀ m ∈ n :: l, ¬ cN m n < 0 := fun m hm => by
    rcases List.mem_cons.1 hm with rfl | hm
    ·rw [pordN.refl]; omega
    ·have := s1 m hm
     have := pordN.neg n m
     omega
   by_cases q : f = false ∨ cN n b < 0
   ·rw [if_pos q, if_neg (by simp)]
    refine ⟨_, rfl, Nat.le_refl _, ⟨fun e => (by cases e), fun _ => ⟨.inr ⟨by simp, by show fr ≤ n.At; omega⟩, fun m hm => ?_⟩⟩⟩
    show ¬ cN m n < 0
    rcases hm with hm | ⟨hm, -⟩
    ·intro hc
     rcases q with q | q
     ·exact (hB.1 q).2 m hm
     ·cases hf : f with
      | false => exact (hB.1 hf).2 m hm
      | true => exact (hB.2 hf).2 m hm (pordN.ltl hc (by omega))
    ·exact hmin m hm
   ·rw [if_neg q, if_neg (by simp)]
    have hf : f = true := by cases f <;> simp_all
    have hq : ¬ cN n b < 0 := fun e => q (.inr e)
    refine ⟨_, rfl, Nat.le_refl _, ⟨fun e => absurd (hf.symm.trans e) (by simp), fun _ => ⟨.inl (hB.2 hf).1, fun m hm => ?_⟩⟩⟩
    show ¬ cN m b < 0
    rcases hm with hm | ⟨hm, -⟩
    ·exact (hB.2 hf).2 m hm
    ·intro hc
     rcases List.mem_cons.1 hm with rfl | hm
     ·exact hq hc
     ·exact hq (pordN.ltl (s1 m hm) (by omega))
theorem F34_l20_val (K : Nat) {x : Ze} (hx : Short x) (hK : 10000000 < K) (fr : Int) (hfr : fr ≤ 1048576) (gs : List Str) (gi : Nat) (g : Str) (hg : gs.getD gi [] = g) (c : Nf → Bool → Option (Nf × Bool × Int)) (l : List Z4) (hl : l.length ≤ 1000000) (hb : ∀ e ∈ l, e ∈ epi x g) : ∀ (rest pre : List Z4) (D : Nf → Prop) (b : Nf) (f : Bool) (k : Nat), l = pre ++ rest → rest.length < k → Best D b f →
  ∃ b' f', F34_l20 K l x gs (gi : Int) fr c k (pre.length : Int) b f = c b' f' ∧ Best (fun n => D n ∨ ∃ e ∈ rest, n ∈ evs x g e ∧ fr ≤ n.At) b' f'
 | [], pre, D, b, f, k + 1, h, _, hB => ⟨b, f, by rw [F34_l20, if_neg (atEnd h)], hB.congr fun n => by simp⟩
 | e :: rest, pre, D, b, f, k + 1, h, hk, hB => by
  obtain ⟨m1, m2, m3, m4⟩ := atMid h Z10
  obtain ⟨n1, n2⟩ := next pre e h (by omega)
  have he := hb e (by rw [h]; simp)
  have hE := epi_EB hx.val.lim he
  have h5 : e.To ≤ 127 := by
   obtain ⟨-, f, f1, f2⟩ := epi_in hx.val.lim he
   have := hx.to f f1
   omega
  obtain ⟨r, r1, r2, r3⟩ := feed_next K (by omega) fr (evs x g e) D b f (evs_strict hx.val g hE) (fun n hn => by have := (evs_at hx.val hE hn).2.1; omega) hB
  obtain ⟨b', f', q1, q2⟩ := F34_l20_val K hx hK fr hfr gs gi g hg c l hl hb rest (pre ++ [e]) _ r.2.1 r.2.2 k n2 (by simpa using hk) r3
  refine ⟨b', f', ?_, q2.congr fun n => ?_⟩
  ·rw [F34_l20, if_pos m1, if_pos m2, m3, Int.toNat_natCast, hg, F52, Option.bind_some]
   change (Option.bind (F75_i3 K (F34_y43 K) 0 b f x g e fr) _) = _
   rw [F75_i3_val K hx.val g hE fr hfr _ hK, r1, Option.bind_some, if_pos r2]
   have hj : F34_j31 K (F34_l20 K l x gs (gi : Int) fr c k) (pre.length : Int) r.2.1 r.2.2 = c b' f' := by rw [F34_j31, n1, q1]
   rw [hj]
   split <;> rfl
  ·simp only [List.mem_cons]
   constructor
   ·rintro (a | ⟨e', rfl | a, d⟩)
    ·exact .inl (.inl a)
    ·exact .inl (.inr d)
    ·exact .inr ⟨e', a, d⟩
   ·rintro ((a | a) | ⟨e', a, d⟩)
    ·exact .inl a
    ·exact .inr ⟨e, .inl rfl, a⟩
    ·exact .inr ⟨e', .inr a, d⟩
theorem F34_l8_val (K : Nat) {x : Ze} (hx : Short x) (hK : 10000000 < K) (fr : Int) (hfr : fr ≤ 1048576) (c : Nf → Bool → Option (Nf × Bool × Int)) (gs : List Str) (hl : gs.length ≤ 1000000) : ∀ (rest pre : List Str) (D : Nf → Prop) (b : Nf) (f : Bool) (k : Nat), gs = pre ++ rest → rest.length < k → Best D b f →
  ∃ b' f', F34_l8 K gs x fr c k (pre.length : Int) b f = c b' f' ∧ Best (fun n => D n ∨ ∃ g ∈ rest, ∃ e ∈ epi x g, n ∈ evs x g e ∧ fr ≤ n.At) b' f'
 | [], pre, D, b, f, k + 1, h, _, hB => ⟨b, f, by rw [F34_l8, if_neg (atEnd h)], hB.congr fun n => by simp⟩
 | g :: rest, pre, D, b, f, k + 1, h, hk, hB => by
  obtain ⟨m1, m2, m3, m4⟩ := atMid h ([] : Str)
  obtain ⟨n1, n2⟩ := next pre g h (by omega)
  have he := (epi_spec hx.val.lim g).2.2
  obtain ⟨b1, f1, p1, p2⟩ := F34_l20_val K hx hK fr hfr gs pre.length g (by rw [Int.toNat_natCast] at m3; exact m3) (F34_c23 K (F34_l8 K gs x fr c k) (pre.length : Int)) (epi x g) (by omega) (fun e he => he) (epi x g) [] D b f K rfl (by omega) hB
  rw [show ((([] : List Z4).length : Nat) : Int) = 0 from rfl] at p1
  obtain ⟨b', f', q1, q2⟩ := F34_l8_val K hx hK fr hfr c gs hl rest (pre ++ [g]) _ b1 f1 k n2 (by simpa using hk) p2
  refine ⟨b', f', by rw [F34_l8, if_pos m1, if_pos m2, m3, F23_val K hx.val.lim g (by omega), Option.bind_some, p1, F34_c23, n1, q1], q2.congr fun n => ?_⟩
  simp only [List.mem_cons]
  constructor
  ·rintro (a | ⟨g', rfl | a, d⟩)
   ·exact .inl (.inl a)
   ·exact .inl (.inr d)
   ·exact .inr ⟨g', a, d⟩
  ·rintro ((a | a) | ⟨g', a, d⟩)
   ·exact .inl a
   ·exact .inr ⟨g, .inl rfl, a⟩
   ·exact .inr ⟨g', .inr a, d⟩
theorem F34_val (K : Nat) {x : Ze} (hx : Short x) (hK : 10000000 < K) (fr : Int) (hfr : 0 ≤ fr ∧ fr ≤ 1048576) : ∃ b f, F34 K x fr = some (b, f, 0) ∧ Best (fun n => n ∈ Lg x 1048576 ∧ fr ≤ n.At) b f := by
 have hg := hx.n
 have hf1 := hx.val.f1
 obtain ⟨b, f, p1, p2⟩ := F34_l8_val K hx hK fr hfr.2 (F34_c11 K) (grp x) (by omega) (grp x) [] (fun _ => False) Zi false K rfl (by omega) ⟨fun _ => ⟨rfl, fun n h => h⟩, fun h => by cases h⟩
 rw [show ((([] : List Str).length : Nat) : Int) = 0 from rfl] at p1
 refine ⟨b, f, ?_, p2.congr fun n => ?_⟩
 ·rw [F34, F51_val K hx.val fr (by omega), Option.bind_some, if_pos hfr, if_neg (by simp), F17_val K (by omega) (by omega), Option.bind_some, p1]
  rfl
 ·rw [Lg_mem hx.val]
  unfold Tells
  constructor
  ·rintro ⟨⟨a1, a2, e, a3, a4⟩, a5⟩
   exact .inr ⟨n.Group, a1, e, a3, a4, a5⟩
  ·rintro (a | ⟨g, a1, e, a2, a3, a4⟩)
   ·exact a.elim
   ·have hE := epi_EB hx.val.lim a2
    obtain ⟨q1, q2, q3⟩ := evs_at hx.val hE a3
    obtain ⟨-, f, f1, f2⟩ := epi_in hx.val.lim a2
    have := hx.to f f1
    rw [q3]
    exact ⟨⟨a1, by omega, e, a2, a3⟩, a4⟩
theorem F34_bad (K : Nat) {x : Ze} (hx : Val x) (fr : Int) (hu : ¬ (0 ≤ fr ∧ fr ≤ 1048576)) (hK : 10000000 < K) : F34 K x fr = some (Zi, false, 32) := by
 rw [F34, F51_val K hx fr (by omega), Option.bind_some, if_neg hu, if_pos (by simp)]
theorem F10_l16_val (K : Nat) (l : List Nf) (hl : l.length ≤ 1000000) (fr : Int) (c : Int → Option Bool) : ∀ (rest pre : List Nf) (k : Nat), l = pre ++ rest → rest.length < k → (∀ n ∈ pre, n.At < fr) →
  ∃ A B : List Nf, l = A ++ B ∧ F10_l16 K l fr c k (pre.length : Int) = c (A.length : Int) ∧ (∀ n ∈ A, n.At < fr) ∧ ∀ n t, B = n :: t → fr ≤ n.At
 | [], pre, k + 1, h, _, hp => ⟨pre, [], h, by rw [F10_l16, if_neg (atEnd h)], hp, fun n t e => by cases e⟩
 | n :: rest, pre, k + 1, h, hk, hp => by
  obtain ⟨m1, m2, m3, m4⟩ := atMid h Zi
  obtain ⟨n1, n2⟩ := next pre n h (by omega)
  rw [F10_l16, if_pos m1, if_pos m2, m3]
  by_cases c1 : n.At < fr
  ·rw [if_pos (decide_eq_true c1), n1]
   exact F10_l16_val K l hl fr c rest (pre ++ [n]) k n2 (by simpa using hk) fun m hm => by
    rcases List.mem_append.1 hm with hm | hm
    ·exact hp m hm
    ·simp at hm; rw [hm]; exact c1
  ·rw [if_neg (by simpa using c1)]
   exact ⟨pre, n :: rest, h, rfl, hp, fun m t e => by injection e with e1 e2; rw [← e1]; omega⟩
theorem pureNext (d : Z15) (a : Int) (h : ok25 d) (_ : ok3 a) : ∃ K, F10 K d a = some true := by
 obtain ⟨K, hK, hk⟩ := known_any
 refine ⟨K, ?_⟩
 obtain ⟨x, e1, hx⟩ := F14_val K d h (by omega)
 have hs := hx.short
 have hz : F32 K Zi Zi = some true := by
  rw [F32_val K _ _ (by show 0 ≤ _; omega) (by show 0 < _; omega)]; simp
 rw [F10, hk, Option.bind_some, if_neg (by simp), e1, Option.bind_some]
 by_cases c : 0 ≤ a ∧ a ≤ 1048576
 ·obtain ⟨b, f, p1, p2⟩ := F34_val K hs hK a c
  have hlen := Lg_short hs 1048576
  obtain ⟨A, B, q1, q2, q3, q4⟩ := F10_l16_val K (Lg x 1048576) (by omega) a (F10_c18 K (Lg x 1048576) (b, f, 0)) (Lg x 1048576) [] K rfl (by omega) (by simp)
  rw [show ((([] : List Nf).length : Nat) : Int) = 0 from rfl] at q2
  rw [p1, Option.bind_some, F28_val, Option.bind_some, decide_eq_true c, if_neg (by simp), F30_val K hs (by omega), Option.bind_some, q2, F10_c18]
  have hst := Lg_strict hs.val 1048576
  cases B with
  | nil =>
   have hf : f = false := by
    cases hf : f with
    | false => rfl
    | true =>
     obtain ⟨g1, g2⟩ := (p2.2 hf).1
     rw [q1, List.append_nil] at g1
     have := q3 b g1
     omega
   obtain ⟨g1, -⟩ := p2.1 hf
   rw [if_pos (by rw [q1]; simp), hf, g1, if_pos (by simp), if_pos (by simp), hz]
   rfl
  | cons n t =>
   have hn := q4 n t rfl
   have hm : n ∈ Lg x 1048576 := by rw [q1]; simp
   have hf : f = true := by
    cases hf : f with
    | true => rfl
    | false => exact absurd ⟨hm, hn⟩ ((p2.1 hf).2 n)
   obtain ⟨⟨g1, g2⟩, g3⟩ := p2.2 hf
   have hbn : b = n := by
    have g4 := g3 n ⟨hm, hn⟩
    rw [q1, List.mem_append, List.mem_cons] at g1
    rcases g1 with g1 | g1 | g1
    ·have := q3 b g1; omega
    ·exact g1
    ·rw [q1] at hst
     exact absurd ((List.pairwise_cons.1 (List.pairwise_append.1 hst).2.1).1 b g1) g4
   have hget : (Lg x 1048576).getD ((A.length : Nat) : Int).toNat Zi = n := by
    rw [q1]; exact getMid' _ _ _
   have hrl := Lg_rules hs.val n hm
   rw [if_neg (by rw [q1]; simp; omega), hf, if_pos rfl, if_pos (by simp), if_pos (by rw [q1]; simp; omega), hget, hbn, F32_val K n n hrl (by omega), Option.bind_some]
   simp [F10_j25]
 ·rw [F34_bad K hs.val a c hK, Option.bind_some, F28_val, Option.bind_some, decide_eq_false c, if_pos (by simp), if_pos (by simp), if_pos (by simp), hz]
  rfl
end Go.AM.Noti
