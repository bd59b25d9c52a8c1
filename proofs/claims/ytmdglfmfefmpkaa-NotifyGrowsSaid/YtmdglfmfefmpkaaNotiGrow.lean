/- The log grows; it is told when a group is active. -/
import Derived.Test.YtmdglfmfefmpkaaNotiG17
import Derived.Test.YtmdglfmfefmpkaaNotiCong
namespace Go.AM.Noti
open Go Go.AM
set_option maxRecDepth 100000
theorem strict_split (c : Int) : ∀ {l : List Nf}, Str' l → l = l.filter (fun n => decide (n.At < c)) ++ l.filter fun n => !decide (n.At < c)
 | [], _ => rfl
 | n :: l, h => by
  obtain ⟨h1, h2⟩ := List.pairwise_cons.1 h
  have ih := strict_split c h2
  by_cases q : n.At < c
  ·rw [List.filter_cons_of_pos (by simpa using q), List.filter_cons_of_neg (by simpa using q), List.cons_append, ← ih]
  ·have h3 : ∀ m ∈ n :: l, ¬ m.At < c := fun m hm => by
    rcases List.mem_cons.1 hm with rfl | hm
    ·exact q
    ·have := cN_le (h1 m hm); omega
   rw [List.filter_eq_nil_iff.2 (fun m hm => by simpa using h3 m hm), List.filter_eq_self.2 (fun m hm => by simpa using h3 m hm), List.nil_append]
theorem Lg_grows {x : Ze} (hx : Val x) {a b : Int} (h : a ≤ b) : Lg x a = (Lg x b).filter fun n => decide (n.At < a) :=
 strict_eq (Lg_strict hx a) ((Lg_strict hx b).filter _) fun n => by
  rw [List.mem_filter, Lg_mem hx, Lg_mem hx]
  unfold Tells
  simp only [decide_eq_true_eq]
  constructor
  ·rintro ⟨p, q, r⟩; exact ⟨⟨p, by omega, r⟩, q⟩
  ·rintro ⟨⟨p, q, r⟩, s⟩; exact ⟨p, s, r⟩
theorem rul_ne {x : Ze} {g : Str} {n : Int} {f : Zo} (h : f ∈ ofG x g) (h' : effB x f n = true) : 0 < (rul x g n).length := by
 have : f.Rule ∈ rul x g n := setOf_mem.2 (List.mem_map.2 ⟨f, List.mem_filter.2 ⟨h, h'⟩, rfl⟩)
 exact List.length_pos_of_mem this
theorem tells_act {x : Ze} (hx : Val x) {un : Int} {n : Nf} (h : Tells x un n) : (inS (epi x n.Group) n.At = true ∧ n.Kind ≠ 3 ∧ 0 < n.Rules.length) ∨ (inS (epi x n.Group) n.At = false ∧ n.Kind = 3 ∧ n.Rules.length = 0) := by
 have hr := tells_rules hx h
 obtain ⟨-, -, e, he, hn⟩ := h
 obtain ⟨p1, p2, p3, -⟩ := epi_mem hx.lim he
 rcases evs_mem.1 hn with hn | ⟨m, hm, hn⟩
 ·have hF := evp_mem hx hn
  have := fin_le x n.Group e
  have h3 : n.Kind ≠ 3 := by rcases hF.kind with q | q <;> omega
  obtain ⟨f, f1, f2⟩ := p2 n.At hF.lo (by have := hF.hi; omega)
  refine .inl ⟨?_, h3, ?_⟩
  ·rw [(epi_spec hx.lim n.Group).2.1, List.any_eq_true]
   exact ⟨f, f1, f2⟩
  ·rw [hr, if_neg h3]; exact rul_ne f1 f2
 ·have k1 : n.Kind = 3 := by rw [hn]
  have k2 : n.At = e.To := by rw [hn]
  refine .inr ⟨by rw [k2]; exact p3, k1, ?_⟩
  rw [hr, if_pos k1]; rfl
theorem F5_l12_val (K : Nat) {x : Ze} (hx : Val x) (l m : List Nf) (z z' a b : Int) (hl : m.length ≤ 1000000) (hK : 200000 < K) (wa : IntKind.i64.wrap (if b < a then b else a) = if b < a then b else a) (wb : IntKind.i64.wrap (if b > a then b else a) = if b > a then b else a)
  (h1 : ∀ n ∈ m, Tells x (if b > a then b else a) n) (h2 : ∀ (pre rest : List Nf) (n : Nf), m = pre ++ n :: rest → (pre.length < l.length ↔ n.At < if b < a then b else a)) : ∀ (rest pre : List Nf) (k : Nat), m = pre ++ rest → rest.length < k →
  F5_l12 K (m, z) x (l, z') b a (F5_c13 K) k (pre.length : Int) = some true
 | [], pre, k + 1, h, _ => by rw [F5_l12, if_neg (atEnd h)]; rfl
 | n :: rest, pre, k + 1, h, hk => by
  obtain ⟨m1, m2, m3, m4⟩ := atMid h Zi
  obtain ⟨n1, n2⟩ := next pre n h (by omega)
  have ih := F5_l12_val K hx l m z z' a b hl hK wa wb h1 h2 rest (pre ++ [n]) k n2 (by simpa using hk)
  have hT := h1 n (by rw [h]; simp)
  have hP := h2 pre rest n h
  have e3 := epi_spec hx.lim n.Group
  have ha := tells_act hx hT
  have hu := hT.2.1
  rw [F5_l12, if_pos m1, if_pos m2]
  simp only [m3]
  rw [F24_val K hx.lim _ hK, Option.bind_some, if_pos m2, F31_val K _ _ e3.1 (by omega) (by omega), Option.bind_some, if_pos m2, wa, wb, if_neg (by
   rw [bne_iff_ne, ne_eq, Decidable.not_not, decide_eq_decide]
   have : ((pre.length : Int) < (l.length : Int)) ↔ pre.length < l.length := by omega
   rw [this]; exact hP), if_pos m2, if_neg (by rw [decide_eq_true_eq]; omega), if_pos m2]
  rcases ha with ⟨a1, a2, a3⟩ | ⟨a1, a2, a3⟩
  ·rw [a1, if_neg (by simp [a2]), if_pos m2, F5_j23, decide_eq_true (by omega : (n.Rules.length : Int) > 0), if_neg (by simp), n1, ih]
  ·rw [a1, if_neg (by simp [a2]), if_pos m2, F5_j23, decide_eq_false (by omega : ¬ (n.Rules.length : Int) > 0), if_neg (by simp), n1, ih]
theorem pureGrows (d : Z15) (a b : Int) (h : ok25 d) (ha : ok5 a) (hb : ok5 b) : ∃ K, F5 K d a b = some true := by
 obtain ⟨K, hK, hk⟩ := known_any
 refine ⟨K, ?_⟩
 obtain ⟨x, e1, hx⟩ := F14_val K d h (by omega)
 have hs := hx.short
 obtain ⟨a1, a2⟩ := u8_of ha
 obtain ⟨b1, b2⟩ := u8_of hb
 have r1 : 0 ≤ (if b < a then b else a) ∧ (if b < a then b else a) ≤ 255 ∧ (if b < a then b else a) ≤ if b > a then b else a := by split <;> split <;> omega
 have r2 : 0 ≤ (if b > a then b else a) ∧ (if b > a then b else a) ≤ 255 := by split <;> omega
 have wa : IntKind.i64.wrap (if b < a then b else a) = if b < a then b else a := wrapI (by omega) (by omega)
 have wb : IntKind.i64.wrap (if b > a then b else a) = if b > a then b else a := wrapI (by omega) (by omega)
 have hm := Lg_short hs (if b > a then b else a)
 have hl := Lg_short hs (if b < a then b else a)
 have g := Lg_grows hs.val r1.2.2
 have sp := strict_split (if b < a then b else a) (Lg_strict hs.val (if b > a then b else a))
 rw [← g] at sp
 have hle : (Lg x (if b < a then b else a)).length ≤ (Lg x (if b > a then b else a)).length := by rw [g]; exact List.length_filter_le ..
 have htake : (Lg x (if b > a then b else a)).take ((Lg x (if b < a then b else a)).length : Int).toNat = Lg x (if b < a then b else a) := by
  rw [Int.toNat_natCast]
  conv => lhs; rw [sp]
  rw [List.take_left]
 have h2 : ∀ (pre rest : List Nf) (n : Nf), Lg x (if b > a then b else a) = pre ++ n :: rest → (pre.length < (Lg x (if b < a then b else a)).length ↔ n.At < if b < a then b else a) := fun pre rest n hp => by
  have hn : (Lg x (if b > a then b else a))[pre.length]? = some n := by rw [hp]; simp
  rw [sp] at hn
  constructor
  ·intro c
   rw [List.getElem?_append_left c] at hn
   have := List.mem_of_getElem? hn
   exact ((Lg_mem hs.val).1 this).2.1
  ·intro c
   rcases Nat.lt_or_ge pre.length (Lg x (if b < a then b else a)).length with q | q
   ·exact q
   ·rw [List.getElem?_append_right q] at hn
    have := (List.mem_filter.1 (List.mem_of_getElem? hn)).2
    simp at this
    omega
 have h3 := F5_l12_val K hs.val (Lg x (if b < a then b else a)) (Lg x (if b > a then b else a)) 0 0 a b (by omega) (by omega) wa wb (fun n hn => (Lg_mem hs.val).1 hn) h2 (Lg x (if b > a then b else a)) [] K rfl (by omega)
 rw [show ((([] : List Nf).length : Nat) : Int) = 0 from rfl] at h3
 rw [F5, hk, Option.bind_some, if_neg (by simp), e1, Option.bind_some, wa, wb, F27_short K hs _ (by omega) (by omega), Option.bind_some, F27_short K hs _ (by omega) (by omega), Option.bind_some, if_neg (by simp), if_neg (by simp), if_neg (by simp; omega), if_pos (by simp; omega)]
 simp only [htake]
 rw [F29_Lg K (by omega) hs, Option.bind_some, F5_j10, if_neg (by simp)]
 exact h3
end Go.AM.Noti
