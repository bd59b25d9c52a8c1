/- Plain lemmas for this law. -/
import Derived.Test.YtkhbjnkckblkjaaGreatPlain0
import Derived.Test.YtkhbjnkckblkjaaGreatTopZOk
import Derived.OpenShut
import Derived.KernelRfl
namespace Go.AM.TopZ
open Go Go.AM
def eg (p : Nat × Nat) : Zr := ⟨p.1, p.2⟩
def rowP (n : Nat) (E : Nat → Nat → Bool) (i : Nat) : List (Nat × Nat) := (sel n (E i)).map fun j => (i, j)
def prs (m n : Nat) (E : Nat → Nat → Bool) : List (Nat × Nat) := (List.range m).flatMap (rowP n E)
def el (n : Nat) (E : Nat → Nat → Bool) : List Zr := (prs n n E).map eg
theorem prs_mem {m n : Nat} {E : Nat → Nat → Bool} {p : Nat × Nat} : p ∈ prs m n E ↔ p.1 < m ∧ p.2 < n ∧ E p.1 p.2 = true := by
 obtain ⟨a, b⟩ := p
 simp only [prs, rowP, List.mem_flatMap, List.mem_map, List.mem_range, Z5e, Prod.mk.injEq]
 constructor
 ·rintro ⟨i, h1, j, ⟨h2, h3⟩, rfl, rfl⟩; exact ⟨h1, h2, h3⟩
 ·rintro ⟨h1, h2, h3⟩; exact ⟨a, h1, b, ⟨h2, h3⟩, rfl, rfl⟩
theorem el_mem {n : Nat} {E : Nat → Nat → Bool} {x : Zr} : x ∈ el n E ↔ ∃ i j, i < n ∧ j < n ∧ E i j = true ∧ x = ⟨(i : Int), (j : Int)⟩ := by
 simp only [el, List.mem_map, prs_mem]
 constructor
 ·rintro ⟨⟨i, j⟩, ⟨h1, h2, h3⟩, rfl⟩; exact ⟨i, j, h1, h2, h3, rfl⟩
 ·rintro ⟨i, j, h1, h2, h3, rfl⟩; exact ⟨(i, j), ⟨h1, h2, h3⟩, rfl⟩
theorem Zc2 (m n : Nat) (E : Nat → Nat → Bool) : (prs m n E).Pairwise fun p q => p.1 < q.1 ∨ p.1 = q.1 ∧ p.2 < q.2 := by
 unfold prs
 rw [List.pairwise_flatMap]
 refine ⟨fun i _ => ?_, List.pairwise_lt_range.imp fun {a b} hab x hx y hy => ?_⟩
 ·unfold rowP
  rw [List.pairwise_map]
  exact (Z6v n (E i)).imp fun h => .inr ⟨rfl, h⟩
 ·simp only [rowP, List.mem_map] at hx hy
  obtain ⟨_, _, rfl⟩ := hx
  obtain ⟨_, _, rfl⟩ := hy
  exact .inl hab
theorem el_strict (n : Nat) (E : Nat → Nat → Bool) : Strict cE (el n E) := by
 unfold Strict el
 rw [List.pairwise_map]
 refine (Zc2 n n E).imp fun {p q} h => ?_
 rw [cE_lt]
 simp only [eg]
 omega
theorem prs_len (m n : Nat) (E : Nat → Nat → Bool) : (prs m n E).length ≤ m * n := by
 induction m with
 | zero => simp [prs]
 | succ m ih =>
  have h1 := Z8n n (E m)
  simp only [prs, List.range_succ, List.flatMap_append, List.length_append] at ih ⊢
  simp only [List.flatMap_cons, List.flatMap_nil, rowP, List.append_nil, List.length_map]
  rw [Nat.succ_mul]
  omega
theorem el_len {n : Nat} (E : Nat → Nat → Bool) (hn : n ≤ 9) : (el n E).length ≤ 81 := by
 have h := prs_len n n E
 have h2 : n * n ≤ 9 * 9 := Nat.mul_le_mul hn hn
 simp [el]; omega
theorem el_inR {n : Nat} {E : Nat → Nat → Bool} : ∀ e ∈ el n E, inR (n : Int) e := by
 intro e he
 obtain ⟨i, j, h1, h2, h3, rfl⟩ := el_mem.1 he
 simp [inR]; omega
def outs (l : List Zr) (a : Int) : List Int := (l.filter fun e => e.From == a).map (·.To)
def ins (l : List Zr) (a : Int) : List Int := (l.filter fun e => e.To == a).map (·.From)
theorem outs_el {n : Nat} (E : Nat → Nat → Bool) {a : Nat} (ha : a < n) : outs (el n E) (a : Int) = nl (sel n (E a)) := by
 have : outs (el n E) (a : Int) = nl (((prs n n E).filter fun p => p.1 == a).map (·.2)) := by
  unfold outs el nl
  rw [List.filter_map, List.map_map, List.map_map]
  have : ((fun e : Zr => e.From == (a : Int)) ∘ eg) = fun p => p.1 == a := by
   funext p
   simp only [Function.comp, eg, Bool.beq_eq_decide_eq]
   rw [decide_eq_decide]; omega
  rw [this]; rfl
 rw [this]
 congr 1
 refine sel_eq ?_ fun x => ?_
 ·rw [List.pairwise_map]
  refine ((Zc2 n n E).filter _).imp_of_mem fun {p q} hp hq h => ?_
  have h1 := (List.mem_filter.1 hp).2
  have h2 := (List.mem_filter.1 hq).2
  simp at h1 h2
  omega
 ·simp only [List.mem_map, List.mem_filter, prs_mem, beq_iff_eq]
  constructor
  ·rintro ⟨⟨i, j⟩, ⟨⟨h1, h2, h3⟩, h4⟩, rfl⟩
   simp only at h2 h3 h4
   subst h4; exact ⟨h2, h3⟩
  ·rintro ⟨h1, h2⟩; exact ⟨(a, x), ⟨⟨ha, h1, h2⟩, rfl⟩, rfl⟩
end Go.AM.TopZ
namespace Go.AM.TopZ
open Go Go.AM
def swE (e : Zr) : Zr := ⟨e.To, e.From⟩
theorem F114_val (K : Nat) {n : Nat} (E : Nat → Nat → Bool) (hn : n ≤ 9) (hK : 100 < K) : F114 K ⟨(n : Int), el n E⟩ = some ⟨(n : Int), el n fun a b => E b a⟩ := by
 have hl := el_len E hn
 have hmem : ∀ x, x ∈ (el n E).map swE ↔ x ∈ el n fun a b => E b a := by
  intro x
  simp only [List.mem_map, el_mem]
  constructor
  ·rintro ⟨y, ⟨i, j, h1, h2, h3, rfl⟩, rfl⟩; exact ⟨j, i, h2, h1, h3, rfl⟩
  ·rintro ⟨i, j, h1, h2, h3, rfl⟩; exact ⟨_, ⟨j, i, h2, h1, h3, rfl⟩, rfl⟩
 have all : ∀ (rest pre : List Zr) (k : Nat), el n E = pre ++ rest → rest.length < k → Z78 K ⟨(n : Int), el n E⟩ (Z7a K ⟨(n : Int), el n E⟩) k (pre.length : Int) (pre.map swE) = Z7a K ⟨(n : Int), el n E⟩ ((el n E).map swE) := by
  intro rest
  induction rest with
  | nil =>
   intro pre k h hk
   obtain ⟨k, rfl⟩ : ∃ k', k = k' + 1 := ⟨k - 1, by omega⟩
   rw [Z78, if_neg (atEnd h), h, List.append_nil]
  | cons x rest ih =>
   intro pre k h hk
   obtain ⟨k, rfl⟩ : ∃ k', k = k' + 1 := ⟨k - 1, by omega⟩
   obtain ⟨m1, m2, m3, m4⟩ := atMid h Zj
   obtain ⟨n1, n2⟩ := next pre x h (by omega)
   have ih' := ih (pre ++ [x]) k n2 (by simpa using hk)
   rw [Z78, if_pos m1, if_pos m2, m3, if_pos (by simp; omega), n1]
   simpa [swE] using ih'
 rw [F114, if_pos (by simp; omega)]
 refine (all (el n E) [] K rfl (by omega)).trans ?_
 have e := F77_set K (n := (n : Int)) (by omega) (by omega) (l := (el n E).map swE) (by simp; omega) (by simp; omega) (fun e he => el_inR e ((hmem e).1 he)) (el_strict n _) hmem
 rw [Z7a]
 simp only
 rw [e, Option.bind_some]
theorem F113_val (K : Nat) {n : Nat} {l : List Zr} (hn : n ≤ 1000) (hl : l.length ≤ 1000000) (hK : l.length < K) (hr : ∀ e ∈ l, inR (n : Int) e) : F113 K ⟨(n : Int), l⟩ = some (mk n fun a => outs l (a : Int)) := by
 have all : ∀ (rest pre : List Zr) (k : Nat), l = pre ++ rest → rest.length < k → Z7e K ⟨(n : Int), l⟩ (Z8r K) k (pre.length : Int) (mk n fun a => outs pre (a : Int)) = some (mk n fun a => outs l (a : Int)) := by
  intro rest
  induction rest with
  | nil =>
   intro pre k h hk
   obtain ⟨k, rfl⟩ : ∃ k', k = k' + 1 := ⟨k - 1, by omega⟩
   rw [Z7e, if_neg (atEnd h), Z8r, h, List.append_nil]
  | cons x rest ih =>
   intro pre k h hk
   obtain ⟨k, rfl⟩ : ∃ k', k = k' + 1 := ⟨k - 1, by omega⟩
   obtain ⟨m1, m2, m3, m4⟩ := atMid h Zj
   obtain ⟨n1, n2⟩ := next pre x h (by omega)
   have hx := hr x (by rw [h]; simp)
   obtain ⟨f, hf⟩ : ∃ f : Nat, x.From = (f : Int) ∧ f < n := ⟨x.From.toNat, by obtain ⟨a, b, _, _⟩ := hx; omega⟩
   have hlen : (outs pre (f : Int)).length ≤ pre.length := by simp only [outs, List.length_map]; exact List.length_filter_le _ _
   have ih' := ih (pre ++ [x]) k n2 (by simpa using hk)
   rw [Z7e, if_pos m1, if_pos m2, m3, hf.1, Int.toNat_natCast, mk_len, if_pos (by omega), if_pos hf.2, if_pos hf.2, Z94 hf.2, if_pos (by simp; omega), List.length_set, mk_len, if_pos (by omega), if_pos hf.2, mk_set, n1]
   refine Eq.trans ?_ ih'
   congr 1
   refine mk_ext fun a _ => ?_
   simp only [outs, List.filter_append, List.map_append, List.filter_cons, List.filter_nil, hf.1]
   by_cases e : a = f
   ·subst e; simp
   ·have : ¬ (f : Int) = (a : Int) := by omega
    simp [e, this]
 rw [F113, if_pos (by simp; omega)]
 have := all l [] K rfl hK
 simp only [Int.toNat_natCast, mk_rep]
 simpa [outs] using this
theorem F113_el (K : Nat) {n : Nat} (E : Nat → Nat → Bool) (hn : n ≤ 9) (hK : 100 < K) : F113 K ⟨(n : Int), el n E⟩ = some (mk n fun a => nl (sel n (E a))) := by
 have hl := el_len E hn
 rw [F113_val K (by omega) (by omega) (by omega) el_inR]
 congr 1
 exact mk_ext fun a ha => outs_el E ha
end Go.AM.TopZ
namespace Go.AM.TopZ
open Go Go.AM
def lt (i : Nat) : Str := [UInt8.ofNat (97 + i)]
structure Wf (m : Zb) : Prop where
 so : m.Services.Pairwise ordN
 nm : ∀ s ∈ m.Services, ∃ i, i < 6 ∧ s.Name = lt i
 co : m.Calls.Pairwise ordC
 cs : ∀ c ∈ m.Calls, c.Caller ≠ c.Callee ∧ (∃ s ∈ m.Services, s.Name = c.Caller) ∧ ∃ s ∈ m.Services, s.Name = c.Callee
theorem Wf.len {m : Zb} (h : Wf m) : m.Services.length ≤ 6 := by
 have hn : (m.Services.map (·.Name)).Nodup := by
  unfold List.Nodup
  rw [List.pairwise_map]
  exact h.so.imp fun {a b} hab e => by
   unfold ordN at hab
   rw [e, pordS.refl] at hab
   omega
 have := Z64 (m := (List.range 6).map lt) hn fun x hx => by
  obtain ⟨s, hs, rfl⟩ := List.mem_map.1 hx
  obtain ⟨i, hi, e⟩ := h.nm s hs
  exact List.mem_map.2 ⟨i, List.mem_range.2 hi, e.symm⟩
 simpa using this
theorem Wf.lenC {m : Zb} (h : Wf m) : m.Calls.length ≤ 36 := by
 have hn : (m.Calls.map Z3h).Nodup := by
  unfold List.Nodup
  rw [List.pairwise_map]
  exact h.co.imp fun {a b} hab e => by
   unfold ordC at hab
   rw [e, pordP.refl] at hab
   omega
 have := Z64 (m := (List.range 6).flatMap fun i => (List.range 6).map fun j => (lt i, lt j)) hn fun x hx => by
  obtain ⟨c, hc, rfl⟩ := List.mem_map.1 hx
  obtain ⟨_, ⟨s, hs, e1⟩, t, ht, e2⟩ := h.cs c hc
  obtain ⟨i, hi, f1⟩ := h.nm s hs
  obtain ⟨j, hj, f2⟩ := h.nm t ht
  refine List.mem_flatMap.2 ⟨i, List.mem_range.2 hi, List.mem_map.2 ⟨j, List.mem_range.2 hj, ?_⟩⟩
  unfold Z3h
  rw [← e1, ← e2, f1, f2]
 rw [List.length_map] at this
 exact Nat.le_trans this (by decide)
def Few (b : Int) (m : Zb) : Prop := ∀ t ∈ m.Services, 1 ≤ t.Spans ∧ t.Spans ≤ b
theorem F60_val (K : Nat) (hK : 1000 < K) {m : Zb} (h : Wf m) (s : Zd) {i : Nat} (hi : i < 6) (hs : s.Name = lt i) (cs : List Zl)
  (hc : cs = [] ∨ ∃ c, cs = [c] ∧ c.Caller ≠ c.Callee ∧ (c.Callee = lt i) ∧ ∃ t ∈ m.Services, t.Name = c.Caller) :
  ∃ m', F60 K m ⟨[s], cs⟩ = some m' ∧ Wf m' ∧ (∃ t ∈ m'.Services, t.Name = lt i) ∧ ∀ b, 0 ≤ b → b ≤ 10000 → 1 ≤ s.Spans → s.Spans ≤ 8 → Few b m → Few (b + 8) m' := by
 obtain ⟨K', rfl⟩ : ∃ K', K = K' + 2 := ⟨K - 2, by omega⟩
 obtain ⟨S, C⟩ := m
 have hl := h.len
 have hlC := h.lenC
 simp only at hl hlC
 have w : IntKind.i64.wrap ((0 : Int) + 1) = 1 := wrapI (by omega) (by omega)
 obtain ⟨o, o1, o2, o3⟩ := F31_val (K' + 2) ⟨S, C⟩ s.Name (by simp only; omega) hK
 obtain ⟨S', s1, s2, s3, s4⟩ := F53_val (K' + 2) S C ⟨s.Name, IntKind.i64.wrap (o.Spans + s.Spans), IntKind.i64.wrap (o.Errors + s.Errors), IntKind.i64.wrap (o.Roots + s.Roots)⟩ h.so (by omega) hK
 simp only at s3
 have keep : ∀ t ∈ S, ∃ t' ∈ S', t'.Name = t.Name := fun t ht => by
  by_cases e : t.Name = s.Name
  ·exact ⟨_, (s3 _).2 (.inl rfl), e.symm⟩
  ·exact ⟨t, (s3 t).2 (.inr ⟨ht, e⟩), rfl⟩
 have few : ∀ b, 0 ≤ b → b ≤ 10000 → 1 ≤ s.Spans → s.Spans ≤ 8 → Few b ⟨S, C⟩ → ∀ C', Few (b + 8) ⟨S', C'⟩ := fun b b0 b1 u1 u2 hb C' t ht => by
  rcases (s3 t).1 ht with rfl | ⟨ht, _⟩
  ·simp only
   have : 0 ≤ o.Spans ∧ o.Spans ≤ b := by
    rcases o3 with o3 | ⟨rfl, _⟩
    ·have := hb o o3
     omega
    ·exact ⟨by simp, by simpa using b0⟩
   rw [wrapI (by omega) (by omega)]
   omega
  ·have := hb t ht
   omega
 have has : ∃ t ∈ S', t.Name = lt i := ⟨_, (s3 _).2 (.inl rfl), hs⟩
 have hnm : ∀ t ∈ S', ∃ j, j < 6 ∧ t.Name = lt j := fun t ht => by
  rcases (s3 t).1 ht with rfl | ⟨ht, _⟩
  ·exact ⟨i, hi, hs⟩
  ·exact h.nm t ht
 have hcs : ∀ c ∈ C, c.Caller ≠ c.Callee ∧ (∃ s ∈ S', s.Name = c.Caller) ∧ ∃ s ∈ S', s.Name = c.Callee := fun c hc' => by
  obtain ⟨a, ⟨t, ht, e1⟩, u, hu, e2⟩ := h.cs c hc'
  obtain ⟨t', q1, q2⟩ := keep t ht
  obtain ⟨u', r1, r2⟩ := keep u hu
  exact ⟨a, ⟨t', q1, by rw [q2, e1]⟩, u', r1, by rw [r2, e2]⟩
 have run : F60 (K' + 2) ⟨S, C⟩ ⟨[s], cs⟩ = Zcd (K' + 2) ⟨[s], cs⟩ ⟨S', C⟩ := by
  have e : (([s] : List Zd).getD (0 : Int).toNat Z7) = s := rfl
  rw [F60, Zb8, if_pos (by simp), if_pos (by simp)]
  simp only [e]
  rw [o1, Option.bind_some, if_pos (by simp), s1, Option.bind_some, w, Zb8, if_neg (by simp)]
 rw [run, Zcd]
 rcases hc with rfl | ⟨c, rfl, c1, c2, t, t1, t2⟩
 ·exact ⟨⟨S', C⟩, by rw [Za3, if_neg (by simp), Z8y], ⟨s2, hnm, h.co, hcs⟩, has, fun b b0 b1 u1 u2 hb => few b b0 b1 u1 u2 hb C⟩
 ·obtain ⟨d, d1⟩ := F54_val (K' + 2) ⟨S', C⟩ c.Caller c.Callee (by simp only; omega) hK
  obtain ⟨C', p1, p2, p3, p4⟩ := F55_val (K' + 2) S' C ⟨c.Caller, c.Callee, IntKind.i64.wrap (d.Count + c.Count), IntKind.i64.wrap (d.Errors + c.Errors), IntKind.i64.wrap (d.Time + c.Time)⟩ h.co (by omega) hK
  refine ⟨⟨S', C'⟩, ?_, ⟨s2, hnm, p2, fun x hx => ?_⟩, has, fun b b0 b1 u1 u2 hb => few b b0 b1 u1 u2 hb C'⟩
  ·have e : (([c] : List Zl).getD (0 : Int).toNat Z4) = c := rfl
   rw [Za3, if_pos (by simp), if_pos (by simp), if_pos (by simp)]
   simp only [e]
   rw [d1, Option.bind_some, if_pos (by simp), p1, Option.bind_some, w, Za3, if_neg (by simp), Z8y]
  ·rcases (p3 x).1 hx with rfl | ⟨hx, _⟩
   ·obtain ⟨t', q1, q2⟩ := keep t t1
    obtain ⟨u, u1, u2⟩ := has
    exact ⟨c1, ⟨t', q1, by rw [q2, t2]⟩, u, u1, by rw [u2, c2]⟩
   ·exact hcs x hx
theorem wrap8' {n : Int} (h : 0 ≤ n) (h' : n ≤ 255) : IntKind.u8.wrap n = n := by
 simp only [IntKind.wrap, IntKind.signed, IntKind.bits]
 simp
 omega
theorem lt_code {x : Int} (hx : ok5 x) : ∃ i, i < 6 ∧ (List.map (fun n : Int => UInt8.ofNat n.toNat) [(IntKind.u8.wrap (97 + (x.tmod 6)))]) = lt i := by
 have h := (bounds_u8 hx : 0 ≤ x ∧ x ≤ 255)
 refine ⟨(x % 6).toNat, by omega, ?_⟩
 rw [Int.tmod_eq_emod_of_nonneg h.1, wrap8' (by omega) (by omega)]
 have : (97 + x % 6).toNat = 97 + (x % 6).toNat := by omega
 simp only [List.map_cons, List.map_nil, this]
 rfl
theorem F22_val (K : Nat) (hK : 1000 < K) (l : List Z1l) (hl : ∀ x ∈ l, ok5 x.From ∧ ok5 x.To ∧ ok5 x.Count) : ∃ m, F22 K l = some m ∧ Wf m ∧ Few 1000 m := by
 have all : ∀ (r i k : Nat) (m : Zb), i + r = 12 → r < k → Wf m → Few (16 * i) m → ∃ m', Z6z K l (Z7p K) k (i : Int) m = some m' ∧ Wf m' ∧ Few 1000 m' := by
  intro r
  induction r with
  | zero =>
   intro i k m h hk hm hf
   obtain ⟨k, rfl⟩ : ∃ q, k = q + 1 := ⟨k - 1, by omega⟩
   refine ⟨m, ?_, hm, fun t ht => by have := hf t ht; omega⟩
   rw [Z6z]
   split
   ·rw [if_neg (by simp; omega), Z7p]
   ·rw [Z7p]
  | succ r ih =>
   intro i k m h hk hm hf
   obtain ⟨k, rfl⟩ : ∃ q, k = q + 1 := ⟨k - 1, by omega⟩
   by_cases hil : i < l.length
   ·have w : IntKind.i64.wrap ((i : Int) + 1) = ((i + 1 : Nat) : Int) := wrapS (by omega)
    have hx := hl (l.getD i Z8) (by
     simp only [List.getD, List.getElem?_eq_getElem hil, Option.getD_some]
     exact List.getElem_mem hil)
    obtain ⟨a, ha, ea⟩ := lt_code hx.1
    obtain ⟨b, hb, eb⟩ := lt_code hx.2.1
    have hcnt := (bounds_u8 hx.2.2 : 0 ≤ (l.getD i Z8).Count ∧ (l.getD i Z8).Count ≤ 255)
    have hsp : 1 ≤ IntKind.i64.wrap (1 + IntKind.i64.wrap ((l.getD i Z8).Count.tmod 8)) ∧ IntKind.i64.wrap (1 + IntKind.i64.wrap ((l.getD i Z8).Count.tmod 8)) ≤ 8 := by
     rw [Int.tmod_eq_emod_of_nonneg hcnt.1, wrapI (n := (l.getD i Z8).Count % 8) (by omega) (by omega), wrapI (by omega) (by omega)]
     omega
    rw [Z6z, if_pos (by simpa using hil), if_pos (by simp; omega), if_pos (by omega), if_pos (by omega), if_pos (by omega)]
    simp only [Int.toNat_natCast, ea, eb]
    obtain ⟨m1, q1, q2, q3, q4⟩ := F60_val K hK hm ⟨lt a, IntKind.i64.wrap (1 + IntKind.i64.wrap ((l.getD i Z8).Count.tmod 8)), 0, IntKind.i64.wrap (1 + IntKind.i64.wrap ((l.getD i Z8).Count.tmod 8))⟩ ha rfl [] (.inl rfl)
    rw [q1, Option.bind_some]
    have f1 := q4 (16 * (i : Int)) (by omega) (by omega) hsp.1 hsp.2 hf
    by_cases e : lt a = lt b
    ·rw [if_neg (by simp [e]), Z8e, w]
     exact ih (i + 1) k m1 (by omega) (by omega) q2 fun t ht => by have := f1 t ht; omega
    ·obtain ⟨m2, p1, p2, _, p4⟩ := F60_val K hK q2 ⟨lt b, IntKind.i64.wrap (1 + IntKind.i64.wrap ((l.getD i Z8).Count.tmod 8)), 0, 0⟩ hb rfl [⟨lt a, lt b, IntKind.i64.wrap (1 + IntKind.i64.wrap ((l.getD i Z8).Count.tmod 8)), IntKind.i64.wrap ((IntKind.i64.wrap (1 + IntKind.i64.wrap ((l.getD i Z8).Count.tmod 8))).tdiv 3), IntKind.i64.wrap (7 * IntKind.i64.wrap (1 + IntKind.i64.wrap ((l.getD i Z8).Count.tmod 8)))⟩] (.inr ⟨_, rfl, e, rfl, q3⟩)
     have f2 := p4 (16 * (i : Int) + 8) (by omega) (by omega) hsp.1 hsp.2 f1
     rw [if_pos (by simp [e]), p1, Option.bind_some, Z8e, w]
     exact ih (i + 1) k m2 (by omega) (by omega) p2 fun t ht => by have := f2 t ht; omega
   ·refine ⟨m, ?_, hm, fun t ht => by have := hf t ht; omega⟩
    rw [Z6z, if_neg (by simpa using hil), Z7p]
 exact all 12 0 K Z1z rfl (by omega) ⟨by simp [Z1z], by simp [Z1z], by simp [Z1z], by simp [Z1z]⟩ (fun t ht => by simp [Z1z] at ht)
end Go.AM.TopZ
namespace Go.AM.TopZ
open Go Go.AM
theorem half_code {a b : Nat} (ha : a ≤ 1000) (hb : b ≤ 1000) : (IntKind.i64.wrap ((IntKind.u64.wrap (IntKind.i64.wrap ((a : Int) + (b : Int)))).fdiv (2 ^ (min (1 : Int).toNat IntKind.u64.bits)))) = (((a + b) / 2 : Nat) : Int) := by
 have e1 : (2 : Int) ^ (min (1 : Int).toNat IntKind.u64.bits) = 2 := by decide
 have e2 : IntKind.u64.wrap ((a : Int) + (b : Int)) = (a : Int) + (b : Int) := by
  simp only [IntKind.wrap, IntKind.signed, IntKind.bits]
  simp
  omega
 rw [e1, wrapI (n := (a : Int) + (b : Int)) (by omega) (by omega), e2, Int.fdiv_eq_ediv_of_nonneg _ (by omega), wrapI (by omega) (by omega)]
 omega
theorem F103_val (K : Nat) (s : Zd) (x : Str) : F103 K s x = some (cS s.Name x) := by
 rw [F103, F69_val, Option.bind_some]
theorem F102_gen (K : Nat) (hK : 1000 < K) {S : List Zd} (hl : S.length ≤ 300) {x : Str} {i : Nat} (hi : i ≤ S.length) (cmp : ∀ j, j < S.length → (cS (S.getD j Z7).Name x < 0 ↔ j < i)) : F102 K S x = Z52 K S x (i : Int) := by
 have loop : ∀ (r lo hi' k : Nat), hi' = lo + r → r < k → lo ≤ i → i ≤ hi' → hi' ≤ S.length → Z5j K S x (Z52 K S x) k (lo : Int) (hi' : Int) = Z52 K S x (i : Int) := by
  intro r
  induction r using Nat.strongRecOn with
  | _ r ih =>
   intro lo hi' k h hk h1 h2 h3
   obtain ⟨k, rfl⟩ : ∃ q, k = q + 1 := ⟨k - 1, by omega⟩
   by_cases e : r = 0
   ·have : lo = i := by omega
    subst this
    rw [Z5j, if_neg (by simp; omega)]
   ·have hm : (lo + hi') / 2 < S.length := by omega
    have w : IntKind.i64.wrap ((((lo + hi') / 2 : Nat) : Int) + 1) = (((lo + hi') / 2 + 1 : Nat) : Int) := wrapS (by omega)
    rw [Z5j, half_code (by omega) (by omega), if_pos (by simp; omega), if_pos (by omega), if_pos (by omega), Int.toNat_natCast, F103_val, Option.bind_some]
    by_cases e2 : cS (S.getD ((lo + hi') / 2) Z7).Name x < 0
    ·have := (cmp _ hm).1 e2
     rw [if_pos (by simpa using e2), Z6q, w]
     exact ih (hi' - ((lo + hi') / 2 + 1)) (by omega) _ _ k (by omega) (by omega) (by omega) h2 h3
    ·have : ¬ (lo + hi') / 2 < i := fun h => e2 ((cmp _ hm).2 h)
     rw [if_neg (by simpa using e2), Z6q]
     exact ih ((lo + hi') / 2 - lo) (by omega) _ _ k (by omega) (by omega) h1 (by omega) (by omega)
 have := loop S.length 0 S.length K (by omega) (by omega) (by omega) (by omega) (by omega)
 rw [F102]
 exact this
theorem F102_val (K : Nat) (hK : 1000 < K) {S : List Zd} (hs : S.Pairwise ordN) (hl : S.length ≤ 300) {i : Nat} (hi : i < S.length) {x : Str} (hx : (S.getD i Z7).Name = x) : F102 K S x = some ((i : Int), true) := by
 have get : ∀ j, (hj : j < S.length) → S.getD j Z7 = S[j] := fun j hj => by simp [List.getD, hj]
 have cmp : ∀ j, j < S.length → (cS (S.getD j Z7).Name x < 0 ↔ j < i) := fun j hj => by
  rw [← hx, get j hj, get i hi]
  rcases Nat.lt_trichotomy j i with h | h | h
  ·have := List.pairwise_iff_getElem.1 hs j i hj hi h
   exact ⟨fun _ => h, fun _ => this⟩
  ·subst h
   rw [pordS.refl]; omega
  ·have := List.pairwise_iff_getElem.1 hs i j hi hj h
   have h2 := pordS.neg S[i].Name S[j].Name
   unfold ordN at this
   omega
 rw [F102_gen K hK hl (by omega) cmp, Z52, if_pos (by simpa using hi), if_pos (by omega), Int.toNat_natCast, F103_val, Option.bind_some, hx, pordS.refl]
 rfl
theorem below_split {S : List Zd} (hs : S.Pairwise ordN) (x : Str) : ∃ i, i ≤ S.length ∧ ∀ j, j < S.length → (cS (S.getD j Z7).Name x < 0 ↔ j < i) := by
 induction S with
 | nil => exact ⟨0, by simp, fun j hj => by simp at hj⟩
 | cons s S ih =>
  obtain ⟨h1, h2⟩ := List.pairwise_cons.1 hs
  obtain ⟨i, i1, i2⟩ := ih h2
  by_cases e : cS s.Name x < 0
  ·refine ⟨i + 1, by simp; omega, fun j hj => ?_⟩
   cases j with
   | zero => simpa using e
   | succ j =>
    have := i2 j (by simpa using hj)
    simpa using this
  ·refine ⟨0, by simp, fun j hj => ?_⟩
   cases j with
   | zero => simpa using e
   | succ j =>
    simp only [List.getD_cons_succ, Nat.not_lt_zero, iff_false]
    intro h
    have hj' : j < S.length := by simpa using hj
    have hg : S.getD j Z7 = S[j] := by simp [List.getD, hj']
    rw [hg] at h
    have := h1 _ (List.getElem_mem hj')
    exact e (pordS.ltl this (Int.le_of_lt h))
theorem F102_none (K : Nat) (hK : 1000 < K) {S : List Zd} (hs : S.Pairwise ordN) (hl : S.length ≤ 300) {x : Str} (hx : ∀ s ∈ S, s.Name ≠ x) : ∃ b, F102 K S x = some (b, false) := by
 obtain ⟨i, i1, i2⟩ := below_split hs x
 rw [F102_gen K hK hl i1 i2, Z52]
 by_cases e : i < S.length
 ·refine ⟨(i : Int), ?_⟩
  have hg : S.getD i Z7 = S[i] := by simp [List.getD, e]
  rw [if_pos (by simpa using e), if_pos (by omega), Int.toNat_natCast, F103_val, Option.bind_some, hg]
  have : cS S[i].Name x ≠ 0 := fun h => hx _ (List.getElem_mem e) (Z5v h)
  simp [this]
 ·exact ⟨(i : Int), by rw [if_neg (by simpa using e)]⟩
theorem Zb2 (K : Nat) (hK : 1000 < K) {m : Zb} (h : Wf m) {i : Nat} (hi : i < m.Services.length) {x : Str} (hx : (m.Services.getD i Z7).Name = x) : F58 K m x = some ((i : Int), true) := by
 have := h.len
 rw [F58, F102_val K hK h.so (by omega) hi hx, Option.bind_some]
theorem F58_none (K : Nat) (hK : 1000 < K) {m : Zb} (h : Wf m) {x : Str} (hx : ∀ s ∈ m.Services, s.Name ≠ x) : ∃ b, F58 K m x = some (b, false) := by
 have := h.len
 obtain ⟨b, hb⟩ := F102_none K hK h.so (by omega) hx
 exact ⟨b, by rw [F58, hb, Option.bind_some]⟩
end Go.AM.TopZ
namespace Go.AM.TopZ
open Go Go.AM
def nmOf (m : Zb) (i : Nat) : Str := (m.Services.getD i Z7).Name
def pos (m : Zb) (x : Str) : Nat := m.Services.findIdx fun s => s.Name == x
theorem Z34 {m : Zb} {x : Str} (h : ∃ s ∈ m.Services, s.Name = x) : pos m x < m.Services.length ∧ nmOf m (pos m x) = x := by
 obtain ⟨s, h1, h2⟩ := h
 have hl : m.Services.findIdx (fun s => s.Name == x) < m.Services.length := List.findIdx_lt_length_of_exists ⟨s, h1, by simpa using h2⟩
 refine ⟨hl, ?_⟩
 have := List.findIdx_getElem (p := fun s : Zd => s.Name == x) (w := hl)
 unfold nmOf pos
 rw [show m.Services.getD (m.Services.findIdx fun s => s.Name == x) Z7 = m.Services[m.Services.findIdx fun s => s.Name == x] by simp [List.getD, hl]]
 simpa using this
theorem nm_lt {m : Zb} (h : Wf m) {i j : Nat} (hi : i < m.Services.length) (hj : j < m.Services.length) : cS (nmOf m i) (nmOf m j) < 0 ↔ i < j := by
 have get : ∀ j, (hj : j < m.Services.length) → m.Services.getD j Z7 = m.Services[j] := fun j hj => by simp [List.getD, hj]
 unfold nmOf
 rw [get j hj, get i hi]
 rcases Nat.lt_trichotomy i j with h' | h' | h'
 ·have := List.pairwise_iff_getElem.1 h.so i j hi hj h'
  exact ⟨fun _ => h', fun _ => this⟩
 ·subst h'
  rw [pordS.refl]; omega
 ·have := List.pairwise_iff_getElem.1 h.so j i hj hi h'
  have h2 := pordS.neg m.Services[j].Name m.Services[i].Name
  unfold ordN at this
  omega
theorem Zb6 {m : Zb} (h : Wf m) {i j : Nat} (hi : i < m.Services.length) (hj : j < m.Services.length) (e : nmOf m i = nmOf m j) : i = j := by
 have a := nm_lt h hi hj
 have b := nm_lt h hj hi
 rw [e, pordS.refl] at a b
 omega
def ed (m : Zb) (c : Zl) : Zr := ⟨(pos m c.Caller : Int), (pos m c.Callee : Int)⟩
theorem ed_strict {m : Zb} (h : Wf m) : Strict cE (m.Calls.map (ed m)) := by
 unfold Strict
 rw [List.pairwise_map]
 refine h.co.imp_of_mem fun {a b} ha hb hab => ?_
 obtain ⟨_, a1, a2⟩ := h.cs a ha
 obtain ⟨_, b1, b2⟩ := h.cs b hb
 obtain ⟨p1, p2⟩ := Z34 a1
 obtain ⟨q1, q2⟩ := Z34 a2
 obtain ⟨r1, r2⟩ := Z34 b1
 obtain ⟨s1, s2⟩ := Z34 b2
 have := (cP_lt (Z3h a) (Z3h b)).1 hab
 simp only [Z3h] at this
 rw [cE_lt]
 simp only [ed]
 rcases this with e | ⟨e, e'⟩
 ·rw [← p2, ← r2, nm_lt h p1 r1] at e
  omega
 ·rw [← q2, ← s2, nm_lt h q1 s1] at e'
  rw [e]
  omega
theorem F33_val (K : Nat) (hK : 1000 < K) {m : Zb} (h : Wf m) : F33 K m = some ⟨(m.Services.length : Int), m.Calls.map (ed m)⟩ := by
 have hl := h.len
 have hlC := h.lenC
 have hpos : ∀ x, (∃ s ∈ m.Services, s.Name = x) → F58 K m x = some ((pos m x : Int), true) := fun x hx => by
  obtain ⟨p1, p2⟩ := Z34 hx
  exact Zb2 K hK h p1 p2
 have loop : ∀ c (rest pre : List Zl) (k : Nat), m.Calls = pre ++ rest → rest.length < k → Zar K m c k (pre.length : Int) (pre.map (ed m)) = c (m.Calls.map (ed m)) := by
  intro c rest
  induction rest with
  | nil =>
   intro pre k h' hk
   obtain ⟨k, rfl⟩ : ∃ q, k = q + 1 := ⟨k - 1, by omega⟩
   rw [Zar, if_neg (atEnd h'), h', List.append_nil]
  | cons x rest ih =>
   intro pre k h' hk
   obtain ⟨k, rfl⟩ : ∃ q, k = q + 1 := ⟨k - 1, by omega⟩
   obtain ⟨m1, m2, m3, m4⟩ := atMid h' Z4
   obtain ⟨n1, n2⟩ := next pre x h' (by omega)
   obtain ⟨_, x1, x2⟩ := h.cs x (by rw [h']; simp)
   have ih' := ih (pre ++ [x]) k n2 (by simpa using hk)
   rw [Zar, if_pos m1, if_pos m2, m3, hpos _ x1, Option.bind_some, hpos _ x2, Option.bind_some, if_pos (by simp; omega), n1, ← ih']
   simp [ed]
 have hr : ∀ e ∈ m.Calls.map (ed m), inR (m.Services.length : Int) e := fun e he => by
  obtain ⟨c, hc, rfl⟩ := List.mem_map.1 he
  obtain ⟨_, x1, x2⟩ := h.cs c hc
  have p1 := (Z34 x1).1
  have p2 := (Z34 x2).1
  simp only [inR, ed]
  omega
 have := F77_set K (n := (m.Services.length : Int)) (by omega) (by omega) (l := m.Calls.map (ed m)) (by simp; omega) (by simp; omega) hr (ed_strict h) (fun _ => Iff.rfl)
 rw [F33]
 refine Eq.trans (loop (Zbi K m) m.Calls [] K rfl (by omega)) ?_
 rw [Zbi, this, Option.bind_some]
def calls (m : Zb) (i j : Nat) : Bool := m.Calls.any fun c => c.Caller == nmOf m i && c.Callee == nmOf m j
theorem ed_el {m : Zb} (h : Wf m) : m.Calls.map (ed m) = el m.Services.length (calls m) := by
 refine Z5k cordE (ed_strict h) (el_strict _ _) fun x => ?_
 rw [el_mem, List.mem_map]
 simp only [calls, List.any_eq_true, Bool.and_eq_true, beq_iff_eq]
 constructor
 ·rintro ⟨c, hc, rfl⟩
  obtain ⟨_, x1, x2⟩ := h.cs c hc
  obtain ⟨p1, p2⟩ := Z34 x1
  obtain ⟨q1, q2⟩ := Z34 x2
  exact ⟨_, _, p1, q1, ⟨c, hc, p2.symm, q2.symm⟩, rfl⟩
 ·rintro ⟨i, j, hi, hj, ⟨c, hc, e1, e2⟩, rfl⟩
  obtain ⟨_, x1, x2⟩ := h.cs c hc
  obtain ⟨p1, p2⟩ := Z34 x1
  obtain ⟨q1, q2⟩ := Z34 x2
  refine ⟨c, hc, ?_⟩
  have a := Zb6 h p1 hi (by rw [p2, e1])
  have b := Zb6 h q1 hj (by rw [q2, e2])
  simp only [ed, a, b]
end Go.AM.TopZ
namespace Go.AM.TopZ
open Go Go.AM
def upd {α : Type} (f : Nat → α) (i : Nat) (x : α) : Nat → α := fun j => if j = i then x else f j
theorem Z1m {α : Type} (f : Nat → α) (i : Nat) (x : α) : upd f i x i = x := by simp [upd]
theorem Z1k {α : Type} (f : Nat → α) {i j : Nat} (x : α) (h : j ≠ i) : upd f i x j = f j := by simp [upd, h]
theorem mk_upd {α : Type} (n : Nat) (f : Nat → α) (i : Nat) (x : α) : (mk n f).set i x = mk n (upd f i x) := mk_set n f i x
theorem sel_congr {n : Nat} {p q : Nat → Bool} (h : ∀ i, i < n → p i = q i) : sel n p = sel n q := by
 unfold sel
 exact List.filter_congr fun i hi => h i (List.mem_range.1 hi)
theorem sel_drop {n : Nat} {p q : Nat → Bool} {m : Nat} (hm : m < n) (hp : p m = true) (hq : q m = false) (hne : ∀ i, i ≠ m → p i = q i) : (sel n p).length = (sel n q).length + 1 := by
 induction n with
 | zero => omega
 | succ n ih =>
  rw [sel_succ, sel_succ]
  by_cases e : n = m
  ·subst e
   rw [if_pos hp, if_neg (by simp [hq]), sel_congr (q := q) fun i hi => hne i (by omega)]; simp
  ·have := ih (by omega)
   rw [hne n e]
   split <;> (try simp) <;> omega
def un (n : Nat) (out : Nat → Int) : Nat := (sel n fun v => decide (out v < 0)).length
theorem un_upd {n : Nat} {out : Nat → Int} {v : Nat} {d : Int} (hv : v < n) (h : out v < 0) (hd : 0 ≤ d) : un n out = un n (upd out v d) + 1 :=
 sel_drop hv (by simpa using h) (by simp [upd]; omega) fun i hi => by simp [upd, hi]
structure IsD (n : Nat) (E : Nat → Nat → Bool) (S : Nat → Bool) (out : Nat → Int) : Prop where
 lo : ∀ v, v < n → -1 ≤ out v
 zero : ∀ v, v < n → (S v = true ↔ out v = 0)
 pre : ∀ v, v < n → 0 < out v → ∃ u, u < n ∧ E u v = true ∧ out u + 1 = out v
 fw : ∀ u, u < n → 0 ≤ out u → ∀ v, v < n → E u v = true → 0 ≤ out v ∧ out v ≤ out u + 1
theorem IsD.congr {n : Nat} {E E' : Nat → Nat → Bool} {S S' : Nat → Bool} {a : Nat → Int} (ha : IsD n E S a) (hE : ∀ u, u < n → ∀ v, v < n → E u v = E' u v) (hS : ∀ v, v < n → S v = S' v) : IsD n E' S' a :=
 ⟨ha.lo, fun v hv => by rw [← hS v hv]; exact ha.zero v hv, fun v hv h => by
  obtain ⟨u, hu, h1, h2⟩ := ha.pre v hv h
  exact ⟨u, hu, by rw [← hE u hu v hv]; exact h1, h2⟩, fun u hu h v hv h1 => ha.fw u hu h v hv (by rw [hE u hu v hv]; exact h1)⟩
structure BF (n : Nat) (E : Nat → Nat → Bool) (S : Nat → Bool) (d : Int) (W : Nat → Prop) (out : Nat → Int) (q : List Nat) : Prop where
 d0 : 0 ≤ d
 lo : ∀ v, v < n → -1 ≤ out v
 up : ∀ v, v < n → out v + (un n out : Int) ≤ (n : Int)
 zero : ∀ v, v < n → (S v = true ↔ out v = 0)
 pre : ∀ v, v < n → 0 < out v → ∃ u, u < n ∧ E u v = true ∧ out u + 1 = out v
 qm : ∀ x ∈ q, x < n ∧ d ≤ out x
 so : q.Pairwise fun x y => out x ≤ out y
 near : ∀ v, v < n → out v ≤ d + 1
 dn : ∀ u, u < n → 0 ≤ out u → u ∈ q ∨ W u ∨ ∀ v, v < n → E u v = true → 0 ≤ out v ∧ out v ≤ out u + 1
theorem BF.add {n : Nat} {E : Nat → Nat → Bool} {S : Nat → Bool} {d : Int} {W : Nat → Prop} {out : Nat → Int} {q : List Nat} (h : BF n E S d W out q) {u v : Nat} (hu : u < n) (hv : v < n) (hE : E u v = true) (hd : out u = d) (ho : out v < 0) :
  BF n E S d W (upd out v (d + 1)) (q ++ [v]) := by
 have hd0 := h.d0
 have hun := un_upd (d := d + 1) hv ho (by omega)
 have hne : ∀ w, 0 ≤ out w → w ≠ v := fun w hw e => by subst e; omega
 refine ⟨hd0, fun w hw => ?_, fun w hw => ?_, fun w hw => ?_, fun w hw hp => ?_, fun x hx => ?_, ?_, fun w hw => ?_, fun w hw hp => ?_⟩
 ·by_cases e : w = v
  ·subst e; rw [Z1m]; omega
  ·rw [Z1k _ _ e]; exact h.lo w hw
 ·by_cases e : w = v
  ·subst e
   have := h.up u hu
   rw [Z1m]; omega
  ·have := h.up w hw
   rw [Z1k _ _ e]; omega
 ·by_cases e : w = v
  ·subst e
   rw [Z1m, h.zero w hw]; omega
  ·rw [Z1k _ _ e]; exact h.zero w hw
 ·by_cases e : w = v
  ·subst e
   refine ⟨u, hu, hE, ?_⟩
   rw [Z1m, Z1k _ _ (hne u (by omega)), hd]
  ·rw [Z1k _ _ e] at hp ⊢
   obtain ⟨u', h1, h2, h3⟩ := h.pre w hw hp
   exact ⟨u', h1, h2, by rw [Z1k _ _ (hne u' (by omega))]; exact h3⟩
 ·rcases List.mem_append.1 hx with hx | hx
  ·have := h.qm x hx
   rw [Z1k _ _ (hne x (by omega))]; exact this
  ·simp at hx
   subst hx
   rw [Z1m]; exact ⟨hv, by omega⟩
 ·refine List.pairwise_append.2 ⟨h.so.imp_of_mem fun {x y} hx hy hxy => ?_, by simp, fun x hx y hy => ?_⟩
  ·have a := h.qm x hx
   have b := h.qm y hy
   rw [Z1k _ _ (hne x (by omega)), Z1k _ _ (hne y (by omega))]; exact hxy
  ·simp at hy
   subst hy
   have a := h.qm x hx
   rw [Z1m, Z1k _ _ (hne x (by omega))]
   exact h.near x a.1
 ·by_cases e : w = v
  ·subst e; rw [Z1m]; omega
  ·rw [Z1k _ _ e]; exact h.near w hw
 ·by_cases e : w = v
  ·subst e; exact .inl (by simp)
  ·rw [Z1k _ _ e] at hp ⊢
   rcases h.dn w hw hp with h1 | h1 | h1
   ·exact .inl (by simp [h1])
   ·exact .inr (.inl h1)
   ·refine .inr (.inr fun x hx hx' => ?_)
    have := h1 x hx hx'
    rw [Z1k _ _ (hne x (by omega))]; exact this
theorem BF.fin {n : Nat} {E : Nat → Nat → Bool} {S : Nat → Bool} {d : Int} {out : Nat → Int} (h : BF n E S d (fun _ => False) out []) : IsD n E S out :=
 ⟨h.lo, h.zero, h.pre, fun u hu h0 => by
  rcases h.dn u hu h0 with h1 | h1 | h1
  ·simp at h1
  ·exact h1.elim
  ·exact h1⟩
def offE (E : Nat → Nat → Bool) (f : Int) : Nat → Nat → Bool := fun u v => E u v && (decide ((u : Int) ≠ f) && decide ((v : Int) ≠ f))
def offS (S : Nat → Bool) (f : Int) : Nat → Bool := fun v => S v && decide ((v : Int) ≠ f)
def adj (n : Nat) (E : Nat → Nat → Bool) : List (List Int) := mk n fun a => nl (sel n (E a))
theorem Z7d (l : List Nat) (i : Nat) : (nl l).getD i 0 = ((l.getD i 0 : Nat) : Int) := by
 simp only [nl, List.getD, List.getElem?_map]
 cases l[i]? <;> rfl
theorem nl_app (l m : List Nat) : nl (l ++ m) = nl l ++ nl m := by simp [nl]
theorem F112_l31_val (K : Nat) {n : Nat} (hn : n ≤ 1000) (E : Nat → Nat → Bool) (S : Nat → Bool) (f : Int) (u : Nat) (r : List Nat) (hu : u < n) (hf : (u : Int) ≠ f) (d : Int) (c : List Int → List Int → Option (List Int)) :
  ∀ (rest pre : List Nat) (k : Nat) (out : Nat → Int) (q : List Nat), sel n (E u) = pre ++ rest → rest.length < k → BF n (offE E f) S d (fun w => w = u) out q → out u = d → (∀ v ∈ pre, (v : Int) ≠ f → 0 ≤ out v) → q.length ≤ 1000000 - rest.length →
  ∃ out' q', Z3q K (adj n E) (nl (u :: r)) f c k (pre.length : Int) (mk n out) (nl q) = c (mk n out') (nl q') ∧ BF n (offE E f) S d (fun _ => False) out' q' ∧ q'.length + un n out' = q.length + un n out ∧ q'.length ≤ 1000000 ∧ ∀ x ∈ q', d ≤ out' x := by
 have hrow : (adj n E).getD ((nl (u :: r)).getD (0 : Int).toNat 0).toNat [] = nl (sel n (E u)) := by
  simp only [Z7d, show ((0 : Int).toNat) = 0 from rfl, List.getD_cons_zero, Int.toNat_natCast, adj]
  exact Z94 hu _
 have hu0 : (nl (u :: r)).getD (0 : Int).toNat 0 = (u : Int) := by simp [nl]
 intro rest
 induction rest with
 | nil =>
  intro pre k out q h hk hb hd hp hq
  obtain ⟨k, rfl⟩ : ∃ k', k = k' + 1 := ⟨k - 1, by omega⟩
  refine ⟨out, q, ?_, ⟨hb.d0, hb.lo, hb.up, hb.zero, hb.pre, hb.qm, hb.so, hb.near, fun w hw h0 => ?_⟩, rfl, by simpa using hq, fun x hx => (hb.qm x hx).2⟩
  ·rw [Z3q, hrow, nl_len, if_neg (by rw [h]; simp)]
  ·rcases hb.dn w hw h0 with h1 | h1 | h1
   ·exact .inl h1
   ·subst h1
    refine .inr (.inr fun v hv hE => ?_)
    simp only [offE, Bool.and_eq_true, decide_eq_true_eq] at hE
    have hm : v ∈ pre := by
     have : v ∈ sel n (E w) := Z5e.2 ⟨hv, hE.1⟩
     rw [h] at this; simpa using this
    have := hp v hm hE.2.2
    have := hb.near v hv
    omega
   ·exact .inr (.inr h1)
 | cons v rest ih =>
  intro pre k out q h hk hb hd hp hq
  obtain ⟨k, rfl⟩ : ∃ k', k = k' + 1 := ⟨k - 1, by omega⟩
  have hv : v < n ∧ E u v = true := Z5e.1 (by rw [h]; simp)
  have hlen : (sel n (E u)).length = pre.length + rest.length + 1 := by rw [h]; simp; omega
  have hle := Z8n n (E u)
  have hget : (nl (sel n (E u))).getD ((pre.length : Int)).toNat 0 = (v : Int) := by
   rw [Z7d, h, Int.toNat_natCast, getMid]
  obtain ⟨n1, n2⟩ := next pre v h (by omega)
  have w : IntKind.i64.wrap ((pre.length : Int) + 1) = (((pre ++ [v]).length : Nat) : Int) := n1
  have hk' : rest.length < k := by simpa using hk
  simp at hq
  rw [Z3q, hrow, hu0, nl_len, hget, mk_len, Int.toNat_natCast, Int.toNat_natCast, Z94 hv.1, Z94 hu, if_pos (by simp; omega), if_pos (by omega)]
  by_cases hvf : (v : Int) = f
  ·rw [if_neg (by simpa using hvf), Z5o, w]
   exact ih (pre ++ [v]) k out q n2 hk' hb hd (fun x hx hxf => by
    rcases List.mem_append.1 hx with hx | hx
    ·exact hp x hx hxf
    ·simp at hx; subst hx; exact absurd hvf hxf) (by omega)
  ·rw [if_pos (by simpa using hvf), if_pos (by omega), if_pos hv.1]
   by_cases ho : out v < 0
   ·have hup := hb.up u hu
    have hb' := hb.add hu hv.1 (by simp [offE, hv.2, hf, hvf]) hd ho
    have hun := un_upd (d := d + 1) hv.1 ho (by have := hb.d0; omega)
    rw [if_pos (by simpa using ho), if_pos (by omega), if_pos hu, if_pos (by omega), if_pos hv.1, if_pos (by simp; omega), Z6g, Z5o, w, mk_upd, hd, wrapI (by have := hb.d0; omega) (by omega)]
    obtain ⟨out', q', r1, r2, r3, r4, r5⟩ := ih (pre ++ [v]) k (upd out v (d + 1)) (q ++ [v]) n2 hk' hb' (by rw [Z1k _ _ (fun e => by subst e; have := hb.d0; omega)]; exact hd) (fun x hx hxf => by
     rcases List.mem_append.1 hx with hx | hx
     ·have := hp x hx hxf
      rw [Z1k _ _ (fun e => by subst e; omega)]; exact this
     ·simp at hx; subst hx; rw [Z1m]; have := hb.d0; omega) (by simp; omega)
    refine ⟨out', q', ?_, r2, by rw [r3]; simp; omega, r4, r5⟩
    rw [← r1, nl_app]; rfl
   ·rw [if_neg (by simpa using ho), Z6g, Z5o, w]
    exact ih (pre ++ [v]) k out q n2 hk' hb hd (fun x hx hxf => by
     rcases List.mem_append.1 hx with hx | hx
     ·exact hp x hx hxf
     ·simp at hx; subst hx; omega) (by omega)
theorem F112_l18_val (K : Nat) {n : Nat} (hn : n ≤ 1000) (hK : 2 * n < K) (E : Nat → Nat → Bool) (S : Nat → Bool) (f : Int) (hS : ∀ v, v < n → S v = true → (v : Int) ≠ f) :
  ∀ (m k : Nat) (out : Nat → Int) (q : List Nat) (d : Int), q.length + un n out ≤ m → m < k → m ≤ n → BF n (offE E f) S d (fun _ => False) out q →
  ∃ out', Z3g K (adj n E) f (Z3k K) k (mk n out) (nl q) = some (mk n out') ∧ IsD n (offE E f) S out' := by
 intro m
 induction m with
 | zero =>
  intro k out q d hm hk hmn hb
  obtain ⟨k, rfl⟩ : ∃ k', k = k' + 1 := ⟨k - 1, by omega⟩
  have : q = [] := List.length_eq_zero_iff.1 (by omega)
  subst this
  exact ⟨out, by rw [Z3g, if_neg (by simp [nl]), Z3k], hb.fin⟩
 | succ m ih =>
  intro k out q d hm hk hmn hb
  obtain ⟨k, rfl⟩ : ∃ k', k = k' + 1 := ⟨k - 1, by omega⟩
  cases q with
  | nil => exact ⟨out, by rw [Z3g, if_neg (by simp [nl]), Z3k], hb.fin⟩
  | cons u r =>
   have hu := hb.qm u (by simp)
   have hd0 := hb.d0
   simp at hm
   have hnf : (u : Int) ≠ f := by
    by_cases h0 : out u = 0
    ·exact hS u hu.1 ((hb.zero u hu.1).2 h0)
    ·obtain ⟨x, _, h2, _⟩ := hb.pre u hu.1 (by omega)
     simp only [offE, Bool.and_eq_true, decide_eq_true_eq] at h2
     exact h2.2.2
   have hso := List.pairwise_cons.1 hb.so
   have hb1 : BF n (offE E f) S (out u) (fun w => w = u) out r := by
    refine ⟨by omega, hb.lo, hb.up, hb.zero, hb.pre, fun x hx => ⟨(hb.qm x (by simp [hx])).1, hso.1 x hx⟩, hso.2, fun v hv => by have := hb.near v hv; omega, fun w hw h0 => ?_⟩
    rcases hb.dn w hw h0 with h1 | h1 | h1
    ·rcases List.mem_cons.1 h1 with h1 | h1
     ·exact .inr (.inl h1)
     ·exact .inl h1
    ·exact h1.elim
    ·exact .inr (.inr h1)
   have hsl := Z8n n (E u)
   obtain ⟨out', q', r1, r2, r3, r4, r5⟩ := F112_l31_val K hn E S f u r hu.1 hnf (out u) (Z4w K (Z3g K (adj n E) f (Z3k K) k)) (sel n (E u)) [] K out r rfl (by omega) hb1 rfl (by simp) (by omega)
   have hcut : ((nl (u :: r)).drop (0 + (1 : Int).toNat)).take (((nl (u :: r)).length : Int).toNat - (1 : Int).toNat) = nl r := by
    simp only [nl_len, List.length_cons, Int.toNat_natCast, show ((1 : Int).toNat) = 1 from rfl, Nat.add_sub_cancel, Nat.zero_add]
    simp only [nl, List.map_cons, List.drop_succ_cons, List.drop_zero]
    exact List.take_of_length_le (by simp)
   have hu0 : (nl (u :: r)).getD (0 : Int).toNat 0 = (u : Int) := by simp [nl]
   have hal : (adj n E).length = n := mk_len _ _
   obtain ⟨out'', e1, e2⟩ := ih k out' q' (out u) (by omega) (by omega) (by omega) r2
   refine ⟨out'', ?_, e2⟩
   rw [Z3g, if_pos (by simp; try omega), if_pos (by simp; try omega), if_pos (by simp), if_pos (by simp; try omega), if_pos (by simp; try omega), hu0, hal, if_pos (by omega), if_pos (by simp; try omega), hcut]
   simp only [List.length_nil, Int.cast_ofNat_Int] at r1
   rw [r1, Z4w, e1]
theorem F112_l11_val (K : Nat) {n : Nat} (hn : n ≤ 1000) (S : List Nat) (f : Int) (hS : ∀ v ∈ S, v < n) (hSl : S.length ≤ 1000) (c : List Int → List Int → Option (List Int)) :
  ∀ (rest pre : List Nat) (k : Nat) (q : List Nat) (out : Nat → Int), S = pre ++ rest → rest.length < k → (∀ v, v < n → out v = if v ∈ pre ∧ (v : Int) ≠ f then 0 else Int.negSucc 0) → (∀ x ∈ q, x < n ∧ out x = 0) → (∀ v, v < n → out v = 0 → v ∈ q) → q.length + un n out = n →
  ∃ out' q', Z3j K (nl S) f c k (pre.length : Int) (mk n out) (nl q) = c (mk n out') (nl q') ∧ (∀ v, v < n → out' v = if v ∈ S ∧ (v : Int) ≠ f then 0 else Int.negSucc 0) ∧ (∀ x ∈ q', x < n ∧ out' x = 0) ∧ (∀ v, v < n → out' v = 0 → v ∈ q') ∧ q'.length + un n out' = n := by
 intro rest
 induction rest with
 | nil =>
  intro pre k q out h hk ho h1 h2 h3
  obtain ⟨k, rfl⟩ : ∃ k', k = k' + 1 := ⟨k - 1, by omega⟩
  have : S = pre := by simpa using h
  subst this
  refine ⟨out, q, ?_, ho, h1, h2, h3⟩
  rw [Z3j, nl_len, if_neg (by simp)]
 | cons v rest ih =>
  intro pre k q out h hk ho h1 h2 h3
  obtain ⟨k, rfl⟩ : ∃ k', k = k' + 1 := ⟨k - 1, by omega⟩
  have hv : v < n := hS v (by rw [h]; simp)
  have hlen : S.length = pre.length + rest.length + 1 := by rw [h]; simp; omega
  have hget : (nl S).getD ((pre.length : Int)).toNat 0 = (v : Int) := by rw [Z7d, h, Int.toNat_natCast, getMid]
  obtain ⟨n1, n2⟩ := next pre v h (by omega)
  have w : IntKind.i64.wrap ((pre.length : Int) + 1) = (((pre ++ [v]).length : Nat) : Int) := n1
  have hk' : rest.length < k := by simpa using hk
  rw [Z3j, nl_len, hget, mk_len, Int.toNat_natCast, Z94 hv, if_pos (by simp; omega), if_pos (by omega)]
  by_cases hvf : (v : Int) = f
  ·rw [if_neg (by simpa using hvf), Z5l, w]
   exact ih (pre ++ [v]) k q out n2 hk' (fun x hx => by
    rw [ho x hx]
    have : (x ∈ pre ∧ (x : Int) ≠ f) ↔ (x ∈ pre ++ [v] ∧ (x : Int) ≠ f) := by
     simp only [List.mem_append, List.mem_singleton]
     constructor
     ·rintro ⟨a, b⟩; exact ⟨.inl a, b⟩
     ·rintro ⟨a | a, b⟩
      ·exact ⟨a, b⟩
      ·subst a; exact absurd hvf b
    simp only [this]) h1 h2 h3
  ·rw [if_pos (by simpa using hvf), if_pos (by omega), if_pos hv]
   by_cases hp : v ∈ pre
   ·have h0 : out v = 0 := by rw [ho v hv, if_pos ⟨hp, hvf⟩]
    rw [if_neg (by rw [h0]; simp), Z6j, Z5l, w]
    exact ih (pre ++ [v]) k q out n2 hk' (fun x hx => by
     rw [ho x hx]
     have : (x ∈ pre ∧ (x : Int) ≠ f) ↔ (x ∈ pre ++ [v] ∧ (x : Int) ≠ f) := by
      simp only [List.mem_append, List.mem_singleton]
      constructor
      ·rintro ⟨a, b⟩; exact ⟨.inl a, b⟩
      ·rintro ⟨a | a, b⟩
       ·exact ⟨a, b⟩
       ·subst a; exact ⟨hp, b⟩
     simp only [this]) h1 h2 h3
   ·have h0 : out v = Int.negSucc 0 := by rw [ho v hv, if_neg (fun e => hp e.1)]
    have hun := un_upd (n := n) (out := out) (d := 0) hv (by rw [h0]; decide) (by omega)
    rw [if_pos (by rw [h0]; decide), if_pos (by omega), if_pos hv, if_pos (by simp; omega), Z6j, Z5l, w, mk_upd]
    have := ih (pre ++ [v]) k (q ++ [v]) (upd out v 0) n2 hk' (fun x hx => by
     by_cases e : x = v
     ·subst e; rw [Z1m]; simp [hvf]
     ·rw [Z1k _ _ e, ho x hx]
      simp [e]) (fun x hx => by
     rcases List.mem_append.1 hx with hx | hx
     ·have := h1 x hx
      rw [Z1k _ _ (fun e => by subst e; rw [h0] at this; exact absurd this.2 (by decide))]; exact this
     ·simp at hx; subst hx; exact ⟨hv, Z1m _ _ _⟩) (fun x hx hx0 => by
     by_cases e : x = v
     ·subst e; simp
     ·rw [Z1k _ _ e] at hx0
      simp [h2 x hx hx0]) (by simp; omega)
    rw [nl_app] at this
    exact this
theorem F112_val (K : Nat) {n : Nat} (hn : n ≤ 1000) (hK : 3000 < K) (E : Nat → Nat → Bool) (S : List Nat) (f : Int) (hS : ∀ v ∈ S, v < n) (hSl : S.length ≤ 1000) :
  ∃ out, F112 K (adj n E) (nl S) f = some (mk n out) ∧ IsD n (offE E f) (offS (fun v => decide (v ∈ S)) f) out := by
 have hal : (adj n E).length = n := mk_len _ _
 have hinit : ∀ c, Z5s K (adj n E) c K 0 (List.replicate ((n : Nat) : Int).toNat (0 : Int)) = c (mk n fun _ => Int.negSucc 0) := by
  intro c
  refine (forLoopF (fun k i s => Z5s K (adj n E) c k i s) c n (fun i => mk n fun a => if a < i then Int.negSucc 0 else 0) K _ (by simp [mk_rep]) (by omega) ?_ ?_).trans ?_
  ·intro k i hi
   simp only [Z5s, mk_len, hal, List.length_replicate, Int.toNat_natCast]
   rw [if_pos (by simpa using hi), if_pos (by omega), if_pos hi, wrapS (by omega), mk_set]
   congr 1
   refine mk_ext fun a _ => ?_
   by_cases e : a = i
   ·subst e; simp
   ·have : (a < i) ↔ (a < i + 1) := by omega
    simp [e, this]
  ·intro k; simp [Z5s, hal]
  ·congr 1
   exact mk_ext fun a ha => by simp [ha]
 have hun : un n (fun _ => Int.negSucc 0) = n := by
  unfold un
  have : sel n (fun _ => decide (Int.negSucc 0 < 0)) = List.range n := by
   unfold sel
   rw [List.filter_eq_self]
   intro a _; decide
  rw [this, List.length_range]
 obtain ⟨out, q, e1, e2, e3, e4, e5⟩ := F112_l11_val K hn S f hS hSl (Z45 K (adj n E) f) S [] K [] (fun _ => Int.negSucc 0) rfl (by omega) (fun v _ => by simp) (by simp) (fun v _ h => absurd h (by decide)) (by simpa using hun)
 have hb : BF n (offE E f) (offS (fun v => decide (v ∈ S)) f) 0 (fun _ => False) out q := by
  refine ⟨by omega, fun v hv => ?_, fun v hv => ?_, fun v hv => ?_, fun v hv h => ?_, fun x hx => ?_, ?_, fun v hv => ?_, fun u hu h0 => .inl (e4 u hu ?_)⟩
  ·rw [e2 v hv]; split <;> decide
  ·have h1 : un n out ≤ n := Z8n _ _
   have : out v ≤ 0 := by rw [e2 v hv]; split <;> decide
   omega
  ·rw [e2 v hv]
   simp only [offS, Bool.and_eq_true, decide_eq_true_eq]
   split
   ·next h => exact ⟨fun _ => rfl, fun _ => h⟩
   ·next h => exact ⟨fun h' => absurd h' h, fun h' => absurd h' (by decide)⟩
  ·rw [e2 v hv] at h
   split at h
   ·omega
   ·exact absurd h (by decide)
  ·have := e3 x hx
   exact ⟨this.1, by omega⟩
  ·exact List.pairwise_iff_getElem.2 fun i j hi hj _ => by
    have a := (e3 _ (List.getElem_mem hi)).2
    have b := (e3 _ (List.getElem_mem hj)).2
    omega
  ·rw [e2 v hv]; split <;> decide
  ·rw [e2 u hu] at h0 ⊢
   split
   ·rfl
   ·next h => rw [if_neg h] at h0; exact absurd h0 (by decide)
 obtain ⟨out', r1, r2⟩ := F112_l18_val K hn (by omega) E _ f (fun v _ h => by simp only [offS, Bool.and_eq_true, decide_eq_true_eq] at h; exact h.2) n K out q 0 (by omega) (by omega) (by omega) hb
 refine ⟨out', ?_, r2⟩
 rw [F112, hal, if_pos (by omega), hinit, Zb3]
 simp only [List.length_nil, Int.cast_ofNat_Int] at e1
 have e1' : Z3j K (nl S) f (Z45 K (adj n E) f) K 0 (mk n fun _ => Int.negSucc 0) [] = Z45 K (adj n E) f (mk n out) (nl q) := e1
 rw [e1', Z45, r1]
end Go.AM.TopZ
namespace Go.AM.TopZ
open Go Go.AM
structure LD (n : Nat) (E : Nat → Nat → Bool) (s : Nat) (d i k : Nat) (out : Nat → Int) : Prop where
 lo : ∀ v, v < n → -1 ≤ out v
 up : ∀ v, v < n → out v ≤ (d : Int) + 1
 zero : ∀ v, v < n → (v = s ↔ out v = 0)
 pre : ∀ v, v < n → 0 < out v → ∃ u, u < n ∧ E u v = true ∧ out u + 1 = out v
 fw : ∀ u, u < n → 0 ≤ out u → (out u < (d : Int) ∨ out u = (d : Int) ∧ u < i) → ∀ v, v < n → E u v = true → 0 ≤ out v ∧ out v ≤ out u + 1
 fk : i < n → out i = (d : Int) → ∀ v, v < n → v < k → E i v = true → 0 ≤ out v ∧ out v ≤ (d : Int) + 1
theorem LD.add {n : Nat} {E : Nat → Nat → Bool} {s d i k : Nat} {out : Nat → Int} (h : LD n E s d i k out) (hi : i < n) (hk : k < n) (hd : out i = (d : Int)) (ho : out k < 0) (hE : E i k = true) : LD n E s d i (k + 1) (upd out k ((d : Int) + 1)) := by
 have hne : ∀ w, 0 ≤ out w → w ≠ k := fun w hw e => by subst e; omega
 refine ⟨fun w hw => ?_, fun w hw => ?_, fun w hw => ?_, fun w hw hp => ?_, fun u hu h0 hc v hv hE' => ?_, fun _ hd' v hv hvk hE' => ?_⟩
 ·by_cases e : w = k
  ·subst e; rw [Z1m]; omega
  ·rw [Z1k _ _ e]; exact h.lo w hw
 ·by_cases e : w = k
  ·subst e; rw [Z1m]; omega
  ·rw [Z1k _ _ e]; exact h.up w hw
 ·by_cases e : w = k
  ·subst e
   rw [Z1m, h.zero w hw]; omega
  ·rw [Z1k _ _ e]; exact h.zero w hw
 ·by_cases e : w = k
  ·subst e
   exact ⟨i, hi, hE, by rw [Z1m, Z1k _ _ (hne i (by omega)), hd]⟩
  ·rw [Z1k _ _ e] at hp ⊢
   obtain ⟨u', h1, h2, h3⟩ := h.pre w hw hp
   exact ⟨u', h1, h2, by rw [Z1k _ _ (hne u' (by omega))]; exact h3⟩
 ·by_cases e : u = k
  ·subst e
   rw [Z1m] at hc
   omega
  ·rw [Z1k _ _ e] at h0 hc ⊢
   have := h.fw u hu h0 hc v hv hE'
   rw [Z1k _ _ (hne v (by omega))]; exact this
 ·by_cases e : v = k
  ·subst e; rw [Z1m]; omega
  ·have := h.fk hi hd v hv (by omega) hE'
   rw [Z1k _ _ e]; exact this
theorem LD.next {n : Nat} {E : Nat → Nat → Bool} {s d i : Nat} {out : Nat → Int} (h : LD n E s d i n out) : LD n E s d (i + 1) 0 out :=
 ⟨h.lo, h.up, h.zero, h.pre, fun u hu h0 hc v hv hE => by
  rcases hc with hc | ⟨hc, hc'⟩
  ·exact h.fw u hu h0 (.inl hc) v hv hE
  ·by_cases e : u = i
   ·subst e
    have := h.fk hu hc v hv hv hE
    rw [hc]; exact this
   ·exact h.fw u hu h0 (.inr ⟨hc, by omega⟩) v hv hE, fun _ _ v _ hk => by omega⟩
theorem LD.round {n : Nat} {E : Nat → Nat → Bool} {s d : Nat} {out : Nat → Int} (h : LD n E s d n 0 out) : LD n E s (d + 1) 0 0 out :=
 ⟨h.lo, fun v hv => by have := h.up v hv; omega, h.zero, h.pre, fun u hu h0 hc v hv hE => by
  rcases hc with hc | ⟨_, hc'⟩
  ·exact h.fw u hu h0 (by omega) v hv hE
  ·omega, fun _ _ v _ hk => by omega⟩
theorem far {n : Nat} {E : Nat → Nat → Bool} {out : Nat → Int} (hp : ∀ v, v < n → 0 < out v → ∃ u, u < n ∧ E u v = true ∧ out u + 1 = out v) : ∀ v, v < n → out v < (n : Int) := by
 have all : ∀ (k v : Nat), v < n → out v = (k : Int) → ∀ j, j ≤ k → ∃ u, u < n ∧ out u = (j : Int) := by
  intro k
  induction k with
  | zero => intro v hv h j hj; exact ⟨v, hv, by rw [h]; omega⟩
  | succ k ih =>
   intro v hv h j hj
   by_cases e : j = k + 1
   ·exact ⟨v, hv, by rw [h, e]⟩
   ·obtain ⟨u, h1, _, h3⟩ := hp v hv (by omega)
    exact ih u h1 (by omega) j (by omega)
 intro v hv
 by_cases h0 : out v < 0
 ·omega
 ·have h1 := all (out v).toNat v hv (by omega)
  have h2 := Z64 (l := nl (List.range ((out v).toNat + 1))) (m := mk n out) (by
   unfold nl
   refine List.Pairwise.map (R := fun a b => a ≠ b) _ (fun a b h => by omega) List.nodup_range) (fun x hx => by
   simp only [nl, List.mem_map, List.mem_range] at hx
   obtain ⟨j, hj, rfl⟩ := hx
   obtain ⟨u, hu, hu'⟩ := h1 j (by omega)
   exact mk_mem.2 ⟨u, hu, hu'⟩)
  simp at h2
  omega
theorem IsD.far {n : Nat} {E : Nat → Nat → Bool} {S : Nat → Bool} {out : Nat → Int} (h : IsD n E S out) : ∀ v, v < n → out v < (n : Int) := TopZ.far h.pre
end Go.AM.TopZ
namespace Go.AM.TopZ
open Go Go.AM
set_option maxRecDepth 100000
def kWeb : Str := [119, 101, 98]
def kApi : Str := [97, 112, 105]
theorem build_run (K : Nat) (c : Bool → List (Str × Zd) → List (Zq × Zl) → Option (Int × Zb)) :
  Z67 (K + 1000) [(⟨9, 2, [(⟨9, 1, 0, 0, 1, 1, [119, 101, 98], [], [111], 0, 30, false, [], []⟩ : Zn), (⟨9, 2, 1, 0, 1, 1, [97, 112, 105], [], [111], 0, 10, true, [], []⟩ : Zn), (⟨9, 3, 2, 0, 1, 1, [97, 112, 105], [], [111], 0, 5, false, [], []⟩ : Zn)]⟩ : Zz)] c (K + 1000) 0 false [] [] =
  c false [(kWeb, ⟨kWeb, 2, 0, 2⟩), (kApi, ⟨kApi, 4, 2, 0⟩)] [(⟨kWeb, kApi⟩, ⟨kWeb, kApi, 2, 2, 20⟩)] := by kernel_rfl
theorem sortC1 (K : Nat) : sortF (fun a b => F100 (K + 1000) a b) [(⟨kWeb, kApi, 2, 2, 20⟩ : Zl)] = some [⟨kWeb, kApi, 2, 2, 20⟩] := by kernel_rfl
theorem known_ok (K : Nat) : F11 (K + 1001) = some true := by
 have h12 := F52_val (K + 1 + 1000) (svc := [(kWeb, ⟨kWeb, 2, 0, 2⟩), (kApi, ⟨kApi, 4, 2, 0⟩)]) (calls := [(⟨kWeb, kApi⟩, ⟨kWeb, kApi, 2, 2, 20⟩)]) (S := [⟨kApi, 4, 2, 0⟩, ⟨kWeb, 2, 0, 2⟩]) (C := [⟨kWeb, kApi, 2, 2, 20⟩]) (by simp) (by simp) (by omega)
  (fun l hl => by
   have hm : ∀ x, x ∈ l ↔ x = ⟨kWeb, 2, 0, 2⟩ ∨ x = ⟨kApi, 4, 2, 0⟩ := fun x => by rw [hl.mem_iff]; simp
   refine sort_key pordS (fun _ _ => Z5v) (·.Name) (fun a b => F98_val _ a b) (by rw [hl.length_eq]; simp) (hl.nodup_iff.2 (by simp [kWeb, kApi])) ?_ ?_ fun x => ?_
   ·intro a ha b hb
    rcases (hm a).1 ha with rfl | rfl <;> rcases (hm b).1 hb with rfl | rfl <;> simp [kWeb, kApi]
   ·simp only [List.pairwise_cons, List.mem_singleton, forall_eq, List.not_mem_nil, false_implies, implies_true, List.Pairwise.nil, and_true]
    decide
   ·rw [hm]; simp only [List.mem_cons, List.not_mem_nil, or_false]; exact Or.comm)
  (fun l hl => by
   have : l = [⟨kWeb, kApi, 2, 2, 20⟩] := List.perm_singleton.1 hl
   rw [this]
   exact sortC1 (K + 1))
 rw [F11, F17, F46, Option.bind_some, show K + 1001 = K + 1 + 1000 by omega, build_run, Z4n, h12, Option.bind_some, Option.bind_some, if_pos (by simp), F19_val _ (by simp) (by simp) (by omega), Option.bind_some]
 simp [kWeb, kApi]
end Go.AM.TopZ
namespace Go.AM.TopZ
open Go Go.AM
inductive Rt (n : Nat) (E : Nat → Nat → Bool) (s : Nat) : Nat → Prop
 | refl : s < n → Rt n E s s
 | step {u v : Nat} : Rt n E s u → v < n → E u v = true → Rt n E s v
theorem Rt.lt {n : Nat} {E : Nat → Nat → Bool} {s v : Nat} (h : Rt n E s v) : v < n := by
 cases h with
 | refl h => exact h
 | step _ h _ => exact h
theorem IsD.reach {n : Nat} {E : Nat → Nat → Bool} {S : Nat → Bool} {out : Nat → Int} (h : IsD n E S out) {v : Nat} (hv : v < n) : 0 ≤ out v ↔ ∃ s, s < n ∧ S s = true ∧ Rt n E s v := by
 constructor
 ·have all : ∀ (k v : Nat), v < n → out v = (k : Int) → ∃ s, s < n ∧ S s = true ∧ Rt n E s v := by
   intro k
   induction k with
   | zero => intro v hv h0; exact ⟨v, hv, (h.zero v hv).2 (by omega), .refl hv⟩
   | succ k ih =>
    intro v hv h0
    obtain ⟨u, h1, h2, h3⟩ := h.pre v hv (by omega)
    obtain ⟨s, s1, s2, s3⟩ := ih u h1 (by omega)
    exact ⟨s, s1, s2, .step s3 hv h2⟩
  intro h0
  exact all (out v).toNat v hv (by omega)
 ·rintro ⟨s, s1, s2, s3⟩
  clear hv
  induction s3 with
  | refl _ => rw [(h.zero s s1).1 s2]; omega
  | step hr hv hE ih => exact (h.fw _ hr.lt ih _ hv hE).1
theorem F111_val (K : Nat) (n : Int) (l : List Zr) (x : Int) : F111 K ⟨n, l⟩ x = some (decide (0 ≤ x ∧ x < n)) := by
 rw [F111]
 by_cases h : x ≥ 0
 ·rw [if_pos (by simpa using h)]
  simp; omega
 ·rw [if_neg (by simpa using h)]
  simp; omega
theorem adj_eq (n : Nat) (E : Nat → Nat → Bool) : (mk n fun a => nl (sel n (E a))) = adj n E := rfl
theorem F112_free (K : Nat) {n : Nat} (hn : n ≤ 1000) (hK : 3000 < K) (E : Nat → Nat → Bool) (S : List Nat) (hS : ∀ v ∈ S, v < n) (hSl : S.length ≤ 1000) :
  ∃ out, F112 K (adj n E) (nl S) (Int.negSucc 0) = some (mk n out) ∧ IsD n E (fun v => decide (v ∈ S)) out := by
 obtain ⟨out, h1, h2⟩ := F112_val K hn hK E S (Int.negSucc 0) hS hSl
 refine ⟨out, h1, h2.congr (fun u _ v _ => ?_) fun v _ => ?_⟩
 ·simp [offE]
 ·simp [offS]
end Go.AM.TopZ
namespace Go.AM.TopZ
open Go Go.AM
theorem sel_head {n : Nat} {p : Nat → Bool} {i : Nat} (hi : i < n) (hp : p i = true) (hn : ∀ j, j < i → p j = false) (z : Nat) : (sel n p).headD z = i := by
 have hm : i ∈ sel n p := Z5e.2 ⟨hi, hp⟩
 have hs := Z6v n p
 cases h : sel n p with
 | nil => rw [h] at hm; simp at hm
 | cons x l =>
  rw [h] at hm hs
  have hx : x ∈ sel n p := by rw [h]; simp
  have hpx := (Z5e.1 hx).2
  simp only [List.headD_cons]
  rcases List.mem_cons.1 hm with e | e
  ·exact e.symm
  ·have h1 := (List.pairwise_cons.1 hs).1 i e
   have := hn x h1
   rw [hpx] at this; cases this
def nearer (E : Nat → Nat → Bool) (d : Nat → Int) (a : Nat) : Nat → Bool := fun m => E a m && decide (d m = d a - 1)
def nx (n : Nat) (E : Nat → Nat → Bool) (d : Nat → Int) (a : Nat) : Nat := (sel n (nearer E d a)).headD a
def wk (n : Nat) (E : Nat → Nat → Bool) (d : Nat → Int) : Nat → Nat → List Nat
 | 0, a => [a]
 | k + 1, a => a :: wk n E d k (nx n E d a)
theorem wk_len (n : Nat) (E : Nat → Nat → Bool) (d : Nat → Int) : ∀ k a, (wk n E d k a).length = k + 1
 | 0, _ => rfl
 | k + 1, a => by simp [wk, wk_len n E d k]
theorem first_of {n : Nat} {p : Nat → Bool} (h : ∃ m, m < n ∧ p m = true) : ∃ m, m < n ∧ p m = true ∧ ∀ j, j < m → p j = false := by
 obtain ⟨m, hm, hp⟩ := h
 induction m using Nat.strongRecOn with
 | _ m ih =>
  by_cases e : ∃ j, j < m ∧ p j = true
  ·obtain ⟨j, h1, h2⟩ := e
   exact ih j h1 (by omega) h2
  ·refine ⟨m, hm, hp, fun j hj => ?_⟩
   cases hj' : p j with
   | false => rfl
   | true => exact absurd ⟨j, hj, hj'⟩ e
structure To (n : Nat) (E : Nat → Nat → Bool) (t : Nat) (d : Nat → Int) : Prop where
 isd : IsD n (fun a b => E b a) (fun v => decide (v = t)) d
theorem To.nx {n : Nat} {E : Nat → Nat → Bool} {t : Nat} {d : Nat → Int} (h : To n E t d) {a : Nat} (ha : a < n) (h0 : 0 < d a) : ∃ m, m < n ∧ nearer E d a m = true ∧ (∀ j, j < m → nearer E d a j = false) ∧ nx n E d a = m := by
 obtain ⟨u, hu, h1, h2⟩ := h.isd.pre a ha h0
 obtain ⟨m, m1, m2, m3⟩ := first_of (p := nearer E d a) ⟨u, hu, by simp only [nearer, h1, Bool.true_and, decide_eq_true_eq]; omega⟩
 exact ⟨m, m1, m2, m3, sel_head m1 m2 m3 a⟩
theorem F115_l11_val (K : Nat) {n : Nat} (hn : n ≤ 1000) (E : Nat → Nat → Bool) (d : Nat → Int) (hd : ∀ v, v < n → -1 ≤ d v ∧ d v ≤ 1000) (pre : List Nat) (a : Nat) (ha : a < n) (c : List Int → Option (List Int)) (hpl : pre.length ≤ 100000) (m : Nat) (hm : m < n)
  (m2 : nearer E d a m = true) (m3 : ∀ j, j < m → nearer E d a j = false) : ∀ (rest p : List Nat) (k : Nat), sel n (E a) = p ++ rest → rest.length < k → (∀ x ∈ p, x < m) →
  Z6s K (adj n E) (nl (pre ++ [a])) (mk n d) (d a + ((pre ++ [a]).length : Int)) c k (p.length : Int) = c (nl (pre ++ [a] ++ [m])) := by
 have hlast : (nl (pre ++ [a])).getD (IntKind.i64.wrap (((nl (pre ++ [a])).length : Int) - 1)).toNat 0 = (a : Int) := by
  rw [nl_len, wrapI (by simp <;> omega) (by simp <;> omega)]
  have : (((pre ++ [a]).length : Int) - 1).toNat = pre.length := by simp
  rw [this, Z7d, show pre ++ [a] = pre ++ a :: [] from rfl, getMid]
 have hrow : (adj n E).getD ((a : Int)).toNat [] = nl (sel n (E a)) := by rw [Int.toNat_natCast]; exact Z94 ha _
 have hda := hd a ha
 have hmn := m2
 simp only [nearer, Bool.and_eq_true, decide_eq_true_eq] at hmn
 intro rest
 induction rest with
 | nil =>
  intro p k h hk hp
  have : m ∈ sel n (E a) := Z5e.2 ⟨hm, hmn.1⟩
  rw [h] at this
  have := hp m (by simpa using this)
  omega
 | cons x rest ih =>
  intro p k h hk hp
  obtain ⟨k, rfl⟩ : ∃ k', k = k' + 1 := ⟨k - 1, by omega⟩
  have hx : x < n ∧ E a x = true := Z5e.1 (by rw [h]; simp)
  have hlen : (sel n (E a)).length = p.length + rest.length + 1 := by rw [h]; simp; omega
  have hle := Z8n n (E a)
  have hget : (nl (sel n (E a))).getD ((p.length : Int)).toNat 0 = (x : Int) := by rw [Z7d, h, Int.toNat_natCast, getMid]
  obtain ⟨n1, n2⟩ := next p x h (by omega)
  have hxm : x ≤ m := by
   have : m ∈ sel n (E a) := Z5e.2 ⟨hm, hmn.1⟩
   rw [h] at this
   rcases List.mem_append.1 this with e | e
   ·have := hp m e; omega
   ·rcases List.mem_cons.1 e with e | e
    ·omega
    ·have hs := Z6v n (E a)
     rw [h] at hs
     have := (List.pairwise_cons.1 (List.pairwise_append.1 hs).2.1).1 m e
     omega
  rw [Z6s, hlast, hrow, nl_len, hget, mk_len, Int.toNat_natCast, Z94 hx.1, nl_len, if_pos (by simp <;> omega), if_pos (by omega), if_pos (by omega)]
  have hw : IntKind.i64.wrap (IntKind.i64.wrap (d a + ((pre ++ [a]).length : Int) - ((pre ++ [a]).length : Int)) - 1) = d a - 1 := by
   rw [wrapI (n := d a + ((pre ++ [a]).length : Int) - ((pre ++ [a]).length : Int)) (by omega) (by omega), wrapI (by omega) (by omega)]; omega
  rw [hw]
  by_cases e : x = m
  ·subst e
   rw [if_pos (by simpa using hmn.2), if_pos (by simp <;> omega), nl_app (pre ++ [a]) [x]]
   rfl
  ·have hne : ¬ d x = d a - 1 := by
    intro e'
    have := m3 x (by omega)
    simp [nearer, hx.2, e'] at this
   rw [if_neg (by simpa using hne), n1]
   exact ih (p ++ [x]) k n2 (by simpa using hk) fun y hy => by
    rcases List.mem_append.1 hy with hy | hy
    ·exact hp y hy
    ·simp at hy; subst hy; omega
theorem F115_l2_val (K : Nat) {n : Nat} (hn : n ≤ 1000) (hK : n < K) (E : Nat → Nat → Bool) (t : Nat) (d : Nat → Int) (h : To n E t d) (hd : ∀ v, v < n → -1 ≤ d v ∧ d v ≤ 1000) (c : List Int → Option (List Int)) (steps : Int) :
  ∀ (j a : Nat) (pre : List Nat) (k : Nat), a < n → d a = (j : Int) → pre.length + j ≤ 100000 → steps = d a + ((pre ++ [a]).length : Int) → j < k →
  Z51 K steps (adj n E) (mk n d) c k (nl (pre ++ [a])) = c (nl (pre ++ wk n E d j a)) := by
 intro j
 induction j with
 | zero =>
  intro a pre k ha hda hpl hst hk
  obtain ⟨k, rfl⟩ : ∃ k', k = k' + 1 := ⟨k - 1, by omega⟩
  rw [Z51, nl_len, if_neg (by simp only [decide_eq_true_eq]; omega)]
  rfl
 | succ j ih =>
  intro a pre k ha hda hpl hst hk
  obtain ⟨k, rfl⟩ : ∃ k', k = k' + 1 := ⟨k - 1, by omega⟩
  obtain ⟨m, m1, m2, m3, m4⟩ := h.nx ha (by omega)
  have hlast : (nl (pre ++ [a])).getD (IntKind.i64.wrap (((nl (pre ++ [a])).length : Int) - 1)).toNat 0 = (a : Int) := by
   rw [nl_len, wrapI (by simp <;> omega) (by simp <;> omega)]
   have : (((pre ++ [a]).length : Int) - 1).toNat = pre.length := by simp
   rw [this, Z7d, show pre ++ [a] = pre ++ a :: [] from rfl, getMid]
  have hal : (adj n E).length = n := mk_len _ _
  have hsl := Z8n n (E a)
  have hin := F115_l11_val K hn E d hd pre a ha (Z6u K (Z51 K steps (adj n E) (mk n d) c k)) (by omega) m m1 m2 m3 (sel n (E a)) [] K rfl (by omega) (by simp)
  rw [← hst] at hin
  have hmn := m2
  simp only [nearer, Bool.and_eq_true, decide_eq_true_eq] at hmn
  rw [Z51, hlast, nl_len, wrapI (by simp <;> omega) (by simp <;> omega), hal, if_pos (by simp only [decide_eq_true_eq]; omega), if_pos (by simp <;> omega), if_pos (by simp <;> omega), if_pos (by omega)]
  refine hin.trans ?_
  rw [Z6u]
  have := ih m (pre ++ [a]) k m1 (by omega) (by simp <;> omega) (by rw [hst]; simp; omega) (by omega)
  rw [this, wk, m4]; simp
theorem To.bd {n : Nat} {E : Nat → Nat → Bool} {t : Nat} {d : Nat → Int} (h : To n E t d) (hn : n ≤ 1000) : ∀ v, v < n → -1 ≤ d v ∧ d v ≤ 1000 := fun v hv => ⟨h.isd.lo v hv, by have := h.isd.far v hv; omega⟩
theorem F115_val (K : Nat) {n : Nat} (hn : n ≤ 1000) (hK : 3000 < K) (E : Nat → Nat → Bool) (t : Nat) (d : Nat → Int) (h : To n E t d) (a : Nat) (ha : a < n) (h0 : 0 ≤ d a) (st : Int) (hst : st = d a + 1) :
  F115 K (adj n E) (mk n d) (a : Int) st = some (nl (wk n E d (d a).toNat a)) := by
 have hda := h.bd hn a ha
 have := F115_l2_val K hn (by omega) E t d h (h.bd hn) (Z7k K) st (d a).toNat a [] K ha (by omega) (by simp <;> omega) (by rw [hst]; simp) (by omega)
 rw [F115]
 exact this
theorem back_val (K : Nat) {n : Nat} (hn : n ≤ 9) (hK : 3000 < K) (E : Nat → Nat → Bool) (t : Nat) (ht : t < n) : ∃ d, F112 K (adj n fun a b => E b a) [(t : Int)] (Int.negSucc 0) = some (mk n d) ∧ To n E t d := by
 obtain ⟨out, h1, h2⟩ := F112_free K (n := n) (by omega) hK (fun a b => E b a) [t] (by simpa using ht) (by simp)
 exact ⟨out, h1, ⟨h2.congr (fun _ _ _ _ => rfl) fun v _ => by simp⟩⟩
end Go.AM.TopZ
namespace Go.AM.TopZ
open Go Go.AM
inductive Tc (n : Nat) (E : Nat → Nat → Bool) (s : Nat) : Nat → Prop
 | one {v : Nat} : s < n → v < n → E s v = true → Tc n E s v
 | step {u v : Nat} : Tc n E s u → v < n → E u v = true → Tc n E s v
theorem Tc.lt {n : Nat} {E : Nat → Nat → Bool} {s v : Nat} (h : Tc n E s v) : s < n ∧ v < n := by
 induction h with
 | one h1 h2 _ => exact ⟨h1, h2⟩
 | step _ h _ ih => exact ⟨ih.1, h⟩
theorem Tc.trans {n : Nat} {E : Nat → Nat → Bool} {a b c : Nat} (h : Tc n E a b) (k : Tc n E b c) : Tc n E a c := by
 induction k with
 | one _ h2 h3 => exact .step h h2 h3
 | step _ h2 h3 ih => exact .step ih h2 h3
theorem Tc.mono {n : Nat} {E F : Nat → Nat → Bool} (h : ∀ a b, a < n → b < n → E a b = true → Tc n F a b) {a b : Nat} (k : Tc n E a b) : Tc n F a b := by
 induction k with
 | one h1 h2 h3 => exact h _ _ h1 h2 h3
 | step k h2 h3 ih => exact ih.trans (h _ _ k.lt.2 h2 h3)
def IsC (n : Nat) (E C : Nat → Nat → Bool) : Prop := ∀ a, a < n → ∀ b, b < n → (C a b = true ↔ Tc n E a b)
theorem IsC.eq {n : Nat} {E C D : Nat → Nat → Bool} (h : IsC n E C) (k : IsC n E D) : ∀ a, a < n → ∀ b, b < n → C a b = D a b := fun a ha b hb => by
 rw [Bool.eq_iff_iff, h a ha b hb, k a ha b hb]
end Go.AM.TopZ
namespace Go.AM.TopZ
open Go Go.AM
def left (n : Nat) (done : Nat → Bool) : Nat := (sel n fun i => !done i).length
end Go.AM.TopZ
namespace Go.AM.TopZ
open Go Go.AM
end Go.AM.TopZ
namespace Go.AM.TopZ
open Go Go.AM
theorem Rt.trans {n : Nat} {E : Nat → Nat → Bool} {a b c : Nat} (h : Rt n E a b) (k : Rt n E b c) : Rt n E a c := by
 induction k with
 | refl _ => exact h
 | step _ h2 h3 ih => exact .step ih h2 h3
theorem Rt.ltl {n : Nat} {E : Nat → Nat → Bool} {a b : Nat} (h : Rt n E a b) : a < n := by
 induction h with
 | refl h => exact h
 | step _ _ _ ih => exact ih
open Classical in
noncomputable def scc (n : Nat) (E : Nat → Nat → Bool) (a : Nat) : List Nat := sel n fun b => decide (Rt n E a b ∧ Rt n E b a)
def unN (n : Nat) (N : Nat → Nat) : Nat := (sel n fun v => decide (N v = 0)).length
structure TI (n : Nat) (E : Nat → Nat → Bool) (G : Nat → Prop) (c : Nat) (N : Nat → Nat) (st : List Nat) (out : List (List Int)) : Prop where
 cn : c + unN n N = n
 nb : ∀ v, v < n → N v ≤ c
 sm : ∀ x ∈ st, x < n ∧ N x ≠ 0
 so : st.Pairwise fun x y => N x < N y
 gs : ∀ g, G g → g ∈ st
 bl : ∀ v, v < n → N v ≠ 0 → ¬ G v → ∀ w, w < n → E v w = true → N w ≠ 0
 i4 : ∀ x ∈ st, ∃ g, G g ∧ N g ≤ N x ∧ Rt n E x g
 i5 : ∀ g, G g → ∀ x ∈ st, N g ≤ N x → Rt n E g x
 em : ∀ v, v < n → N v ≠ 0 → v ∉ st → ∀ w, w < n → E v w = true → N w ≠ 0 ∧ w ∉ st
 ou : ∀ C ∈ out, ∃ a, a < n ∧ N a ≠ 0 ∧ a ∉ st ∧ C = nl (scc n E a)
 oi : ∀ v, v < n → N v ≠ 0 → v ∉ st → nl (scc n E v) ∈ out
 od : out.Nodup
structure TP (n : Nat) (E : Nat → Nat → Bool) (G : Nat → Prop) (c : Nat) (N L : Nat → Nat) (st : List Nat) (x : Nat) (c' : Nat) (N' L' : Nat → Nat) (st' : List Nat) (out' : List (List Int)) : Prop where
 inv : TI n E G c' N' st' out'
 mono : ∀ v, v < n → N v ≠ 0 → N' v = N v ∧ L' v = L v
 newn : ∀ v, v < n → N v = 0 → N' v ≠ 0 → c < N' v
 xv : N' x ≠ 0
 ext : ∃ s, st' = st ++ s ∧ (∀ u ∈ s, N u = 0) ∧ ∀ u ∈ s, ∀ w ∈ st, E u w = true → L' x ≤ N w
 lo : L' x = N' x ∨ ∃ y ∈ st', N' y = L' x ∧ Rt n E x y
structure TL (n : Nat) (E : Nat → Nat → Bool) (G : Nat → Prop) (c : Nat) (N L : Nat → Nat) (st : List Nat) (x : Nat) (pre : List Nat) (c' : Nat) (N' L' : Nat → Nat) (st' : List Nat) (out' : List (List Int)) : Prop where
 inv : TI n E (fun g => G g ∨ g = x) c' N' st' out'
 mono : ∀ v, v < n → N v ≠ 0 → N' v = N v ∧ L' v = L v
 newn : ∀ v, v < n → N v = 0 → N' v ≠ 0 → c < N' v
 ext : ∃ s, st' = st ++ x :: s ∧ (∀ u ∈ x :: s, N u = 0) ∧ (∀ u ∈ s, ∀ w ∈ st, E u w = true → L' x ≤ N w) ∧ ∀ w ∈ pre, w ∈ st → L' x ≤ N w
 pv : ∀ w ∈ pre, N' w ≠ 0
 nx : N' x = c + 1
 lx : L' x ≤ c + 1
 lo : ∃ y ∈ st', N' y = L' x ∧ Rt n E x y
theorem un_upd2 {n : Nat} {N : Nat → Nat} {x d : Nat} (hx : x < n) (h : N x = 0) (hd : d ≠ 0) : unN n N = unN n (upd N x d) + 1 :=
 sel_drop hx (by simp [h]) (by simp [upd, hd]) fun i hi => by simp [upd, hi]
theorem TI.start {n : Nat} {E : Nat → Nat → Bool} {G : Nat → Prop} {c : Nat} {N L : Nat → Nat} {st : List Nat} {out : List (List Int)} (h : TI n E G c N st out) {x : Nat} (hx : x < n) (h0 : N x = 0) (hG : ∀ g, G g → Rt n E g x) :
  TL n E G c N L st x [] (c + 1) (upd N x (c + 1)) (upd L x (c + 1)) (st ++ [x]) out := by
 have hxs : x ∉ st := fun hm => (h.sm x hm).2 h0
 have hsx : ∀ y ∈ st, y ≠ x := fun y hy e => hxs (e ▸ hy)
 have keep : ∀ v, v ≠ x → upd N x (c + 1) v = N v := fun v hv => Z1k _ _ hv
 refine ⟨⟨?_, fun v hv => ?_, fun y hy => ?_, ?_, fun g hg => ?_, fun v hv hN hb w hw hE => ?_, fun y hy => ?_, fun g hg y hy hle => ?_, fun v hv hN hns w hw hE => ?_, fun C hC => ?_, fun v hv hN hns => ?_, h.od⟩, fun v _ hN => ?_, fun v hv hN hN' => ?_, ?_, by simp, Z1m _ _ _, by rw [Z1m]; omega, ?_⟩
 ·have := un_upd2 (d := c + 1) hx h0 (by omega)
  have := h.cn
  omega
 ·by_cases e : v = x
  ·subst e; rw [Z1m]; omega
  ·rw [keep v e]; have := h.nb v hv; omega
 ·rcases List.mem_append.1 hy with hy | hy
  ·rw [keep y (hsx y hy)]; exact h.sm y hy
  ·simp at hy; subst hy; rw [Z1m]; exact ⟨hx, by omega⟩
 ·refine List.pairwise_append.2 ⟨h.so.imp_of_mem fun {a b} ha hb hab => ?_, by simp, fun a ha b hb => ?_⟩
  ·rw [keep a (hsx a ha), keep b (hsx b hb)]; exact hab
  ·simp at hb; subst hb
   rw [keep a (hsx a ha), Z1m]
   have := h.nb a (h.sm a ha).1; omega
 ·rcases hg with hg | rfl
  ·exact List.mem_append.2 (.inl (h.gs g hg))
  ·simp
 ·have hvx : v ≠ x := fun e => hb (.inr e)
  rw [keep v hvx] at hN
  have := h.bl v hv hN (fun hg => hb (.inl hg)) w hw hE
  by_cases e : w = x
  ·subst e; rw [Z1m]; omega
  ·rw [keep w e]; exact this
 ·rcases List.mem_append.1 hy with hy | hy
  ·obtain ⟨g, g1, g2, g3⟩ := h.i4 y hy
   exact ⟨g, .inl g1, by rw [keep y (hsx y hy), keep g (hsx g (h.gs g g1))]; exact g2, g3⟩
  ·simp at hy; subst hy
   exact ⟨y, .inr rfl, Nat.le_refl _, .refl hx⟩
 ·rcases List.mem_append.1 hy with hy' | hy'
  ·rcases hg with hg | hg
   ·rw [keep y (hsx y hy'), keep g (hsx g (h.gs g hg))] at hle
    exact h.i5 g hg y hy' hle
   ·rw [hg, Z1m, keep y (hsx y hy')] at hle
    have := h.nb y (h.sm y hy').1
    omega
  ·simp at hy'; subst hy'
   rcases hg with hg | rfl
   ·exact hG g hg
   ·exact .refl hx
 ·have hv1 : v ∉ st ∧ v ≠ x := by simpa using hns
  rw [keep v hv1.2] at hN
  have := h.em v hv hN hv1.1 w hw hE
  by_cases e : w = x
  ·subst e; exact absurd h0 this.1
  ·rw [keep w e]; exact ⟨this.1, by simp [this.2, e]⟩
 ·obtain ⟨a, a1, a2, a3, a4⟩ := h.ou C hC
  have : a ≠ x := fun e => by subst e; exact a2 h0
  exact ⟨a, a1, by rw [keep a this]; exact a2, by simp [a3, this], a4⟩
 ·have hv1 : v ∉ st ∧ v ≠ x := by simpa using hns
  rw [keep v hv1.2] at hN
  exact h.oi v hv hN hv1.1
 ·have : v ≠ x := fun e => by subst e; exact hN h0
  exact ⟨Z1k _ _ this, Z1k _ _ this⟩
 ·by_cases e : v = x
  ·subst e; rw [Z1m]; omega
  ·rw [keep v e] at hN'; exact absurd hN hN'
 ·exact ⟨[], rfl, by simpa using h0, by simp, by simp⟩
 ·exact ⟨x, by simp, by rw [Z1m, Z1m], .refl hx⟩
theorem TL.call {n : Nat} {E : Nat → Nat → Bool} {G : Nat → Prop} {c : Nat} {N L : Nat → Nat} {st : List Nat} {x : Nat} {pre : List Nat} {c1 : Nat} {N1 L1 : Nat → Nat} {st1 : List Nat} {out0 out1 : List (List Int)} (h0 : TI n E G c N st out0) (hx : x < n) (hx0 : N x = 0)
  (h : TL n E G c N L st x pre c1 N1 L1 st1 out1) {m : Nat} (hm : m < n) (hE : E x m = true) (hm0 : N1 m = 0) (hpre : ∀ w ∈ pre, w < n) {c2 : Nat} {N2 L2 : Nat → Nat} {st2 : List Nat} {out2 : List (List Int)} (p : TP n E (fun g => G g ∨ g = x) c1 N1 L1 st1 m c2 N2 L2 st2 out2) :
  TL n E G c N L st x (pre ++ [m]) c2 N2 (upd L2 x (if L2 m < L2 x then L2 m else L2 x)) st2 out2 := by
 have hNx1 : N1 x ≠ 0 := by rw [h.nx]; omega
 obtain ⟨px, plx⟩ := p.mono x hx hNx1
 have hcc : c < c1 := by have := h.inv.nb x hx; rw [h.nx] at this; omega
 have hne : ∀ v, N v ≠ 0 → v ≠ x := fun v hv e => by subst e; exact hv hx0
 have hN1 : ∀ v, v < n → N v ≠ 0 → N1 v ≠ 0 := fun v hv hN => by rw [(h.mono v hv hN).1]; exact hN
 obtain ⟨s, s1, s2, s3, s4⟩ := h.ext
 obtain ⟨t, t1, t2, t3⟩ := p.ext
 have lnew : upd L2 x (if L2 m < L2 x then L2 m else L2 x) x = if L2 m < L2 x then L2 m else L2 x := Z1m _ _ _
 have lle : upd L2 x (if L2 m < L2 x then L2 m else L2 x) x ≤ L1 x := by rw [lnew, plx]; split <;> omega
 refine ⟨p.inv, fun v hv hN => ?_, fun v hv hN hN' => ?_, ⟨s ++ t, by rw [t1, s1]; simp, fun u hu => ?_, fun u hu w hw hEu => ?_, fun w hw hws => ?_⟩, fun w hw => ?_, by rw [px, h.nx], Nat.le_trans lle h.lx, ?_⟩
 ·obtain ⟨a1, a2⟩ := h.mono v hv hN
  obtain ⟨b1, b2⟩ := p.mono v hv (hN1 v hv hN)
  exact ⟨by rw [b1, a1], by rw [Z1k _ _ (hne v hN), b2, a2]⟩
 ·by_cases e : N1 v = 0
  ·have := p.newn v hv e hN'; omega
  ·rw [(p.mono v hv e).1]; exact h.newn v hv hN e
 ·have hu' : u ∈ x :: s ∨ u ∈ t := by simpa [or_assoc] using hu
  rcases hu' with hu | hu
  ·exact s2 u hu
  ·apply Classical.byContradiction
   intro hN
   have hun : u < n := (p.inv.sm u (by rw [t1]; simp [hu])).1
   exact hN1 u hun hN (t2 u hu)
 ·rcases List.mem_append.1 hu with hu | hu
  ·exact Nat.le_trans lle (s3 u hu w hw hEu)
  ·have hw1 : w ∈ st1 := by rw [s1]; simp [hw]
   have := t3 u hu w hw1 hEu
   have hwn := h0.sm w hw
   rw [(h.mono w hwn.1 hwn.2).1] at this
   rw [lnew]
   split <;> omega
 ·rcases List.mem_append.1 hw with hw | hw
  ·exact Nat.le_trans lle (s4 w hw hws)
  ·simp at hw; subst hw
   have := h0.sm w hws
   exact absurd hm0 (hN1 w this.1 this.2)
 ·rcases List.mem_append.1 hw with hw | hw
  ·have := h.pv w hw
   rw [(p.mono w (hpre w hw) this).1]; exact this
  ·simp at hw; subst hw; exact p.xv
 ·rw [lnew]
  split
  ·next hlt =>
   rcases p.lo with e | ⟨y, y1, y2, y3⟩
   ·have := p.newn m hm hm0 p.xv
    rw [plx] at hlt
    have := h.lx
    omega
   ·exact ⟨y, y1, y2, (Rt.step (.refl hx) hm hE).trans y3⟩
  ·obtain ⟨y, y1, y2, y3⟩ := h.lo
   have hy := h.inv.sm y y1
   exact ⟨y, by rw [t1]; simp [y1], by rw [(p.mono y hy.1 hy.2).1, plx]; exact y2, y3⟩
theorem TL.off {n : Nat} {E : Nat → Nat → Bool} {G : Nat → Prop} {c : Nat} {N L : Nat → Nat} {st : List Nat} {x : Nat} {pre : List Nat} {c1 : Nat} {N1 L1 : Nat → Nat} {st1 : List Nat} {out1 : List (List Int)}
  (h : TL n E G c N L st x pre c1 N1 L1 st1 out1) {m : Nat} (hm0 : N1 m ≠ 0) (hms : m ∉ st1) : TL n E G c N L st x (pre ++ [m]) c1 N1 L1 st1 out1 := by
 obtain ⟨s, s1, s2, s3, s4⟩ := h.ext
 refine ⟨h.inv, h.mono, h.newn, ⟨s, s1, s2, s3, fun w hw hws => ?_⟩, fun w hw => ?_, h.nx, h.lx, h.lo⟩
 ·rcases List.mem_append.1 hw with hw | hw
  ·exact s4 w hw hws
  ·simp at hw; subst hw
   exact absurd (by rw [s1]; simp [hws]) hms
 ·rcases List.mem_append.1 hw with hw | hw
  ·exact h.pv w hw
  ·simp at hw; subst hw; exact hm0
end Go.AM.TopZ
namespace Go.AM.TopZ
open Go Go.AM
def ni (n : Nat) (N : Nat → Nat) : List Int := mk n fun v => ((N v : Nat) : Int)
def onT (n : Nat) (st : List Nat) : List Bool := mk n fun v => decide (v ∈ st)
def tup (n : Nat) (E : Nat → Nat → Bool) (c : Nat) (N L : Nat → Nat) (st : List Nat) (out : List (List Int)) : Int × List (List Int) × List Int × List Int × List Int × List Bool × List (List Int) :=
 ((c : Int), adj n E, ni n N, ni n L, nl st, onT n st, out)
end Go.AM.TopZ
namespace Go.AM.TopZ
open Go Go.AM
structure Best (n : Nat) (E : Nat → Nat → Bool) (i : Nat) (d : Nat → Int) (m : Nat) : Prop where
 lt : m < n
 e : E i m = true
 d0 : 0 ≤ d m
 min : ∀ x, x < n → E i x = true → 0 ≤ d x → d m ≤ d x
 first : ∀ x, x < m → E i x = true → 0 ≤ d x → d m < d x
end Go.AM.TopZ
namespace Go.AM.TopZ
open Go Go.AM
noncomputable def rep (n : Nat) (E : Nat → Nat → Bool) (v : Nat) : Nat := (scc n E v).headD v
end Go.AM.TopZ
namespace Go.AM.TopZ
open Go Go.AM
theorem F75_val (K : Nat) (hK : 1000 < K) (m : Zb) (l : List Nat) (hl : l.length ≤ 100) (hm : ∀ i ∈ l, i < m.Services.length) : F75 K m (nl l) = some (l.map (nmOf m)) := by
 have all : ∀ (rest pre : List Nat) (k : Nat), l = pre ++ rest → rest.length < k → Zah K (nl l) m (Zba K) k (pre.length : Int) (pre.map (nmOf m)) = some (l.map (nmOf m)) := by
  intro rest
  induction rest with
  | nil =>
   intro pre k h hk
   obtain ⟨k, rfl⟩ : ∃ q, k = q + 1 := ⟨k - 1, by omega⟩
   rw [Zah, nl_len, if_neg (by rw [h]; simp), Zba, h, List.append_nil]
  | cons x rest ih =>
   intro pre k h hk
   obtain ⟨k, rfl⟩ : ∃ q, k = q + 1 := ⟨k - 1, by omega⟩
   have hx := hm x (by rw [h]; simp)
   have hlen : l.length = pre.length + rest.length + 1 := by rw [h]; simp; omega
   have hget : (nl l).getD ((pre.length : Int)).toNat 0 = (x : Int) := by rw [Z7d, h, Int.toNat_natCast, getMid]
   obtain ⟨n1, n2⟩ := next pre x h (by omega)
   rw [Zah, hget, nl_len, Int.toNat_natCast, if_pos (by simp only [decide_eq_true_eq]; omega), if_pos (by omega), if_pos (by omega), if_pos (by simp; omega), n1, ← ih (pre ++ [x]) k n2 (by simpa using hk)]
   simp [nmOf]
 exact all l [] K rfl (by omega)
end Go.AM.TopZ
namespace Go.AM.TopZ
open Go Go.AM
theorem F38_val (K : Nat) (hK : 1000 < K) (l : List Str) (hl : l.length ≤ 1000) (x : Str) : F38 K l x = some (decide (x ∈ l)) := by
 have all : ∀ (rest pre : List Str) (k : Nat), l = pre ++ rest → rest.length < k → Zat K l x (Zck K) k (pre.length : Int) = some (decide (x ∈ rest)) := by
  intro rest
  induction rest with
  | nil =>
   intro pre k h hk
   obtain ⟨k, rfl⟩ : ∃ q, k = q + 1 := ⟨k - 1, by omega⟩
   rw [Zat, if_neg (atEnd h), Zck]; simp
  | cons y rest ih =>
   intro pre k h hk
   obtain ⟨k, rfl⟩ : ∃ q, k = q + 1 := ⟨k - 1, by omega⟩
   obtain ⟨m1, m2, m3, m4⟩ := atMid h ([] : Str)
   obtain ⟨n1, n2⟩ := next pre y h (by omega)
   rw [Zat, if_pos m1, if_pos m2, m3, n1, ih (pre ++ [y]) k n2 (by simpa using hk)]
   by_cases e : y = x
   ·rw [if_pos (by simpa using e)]; simp [e]
   ·rw [if_neg (by simpa using e)]
    have : ¬ x = y := fun h => e h.symm
    simp [this]
 exact all l [] K rfl (by omega)
end Go.AM.TopZ
namespace Go.AM.TopZ
open Go Go.AM
end Go.AM.TopZ
namespace Go.AM.TopZ
open Go Go.AM
end Go.AM.TopZ
namespace Go.AM.TopZ
open Go Go.AM
theorem F32_same (K : Nat) (hK : 1000 < K) (l : List Str) (hl : l.length ≤ 900) : F32 K l l = some true := by
 rw [F32, if_neg (by simp)]
 have := forLoopX (fun k i (_ : Unit) => Za7 K l l (Zcg K) k i) l.length (fun _ _ => True) (fun r => r = true)
  (fun k i s hi _ _ => .inr ⟨(), trivial, by
   have w : IntKind.i64.wrap ((i : Int) + 1) = ((i + 1 : Nat) : Int) := wrapS (by omega)
   rw [Za7, if_pos (by simpa using hi), if_pos (by omega), if_pos (by omega), if_neg (by simp), w]⟩)
  (fun k s _ => ⟨true, by rw [Za7, if_neg (by simp), Zcg], rfl⟩) l.length 0 () K (by omega) trivial (by omega)
 obtain ⟨r, h1, h2⟩ := this
 subst h2
 exact h1
end Go.AM.TopZ
namespace Go.AM.TopZ
open Go Go.AM
end Go.AM.TopZ
namespace Go.AM.TopZ
open Go Go.AM
def en (w : List Nat) : Nat := w.getLast?.getD 0
theorem Z7t (w : List Nat) (v : Nat) : en (w ++ [v]) = v := by simp [en]
theorem Zae (a : Nat) {w : List Nat} (h : w ≠ []) : en (a :: w) = en w := by
 cases w with
 | nil => exact absurd rfl h
 | cons b w => simp [en, List.getLast?_cons_cons]
inductive Wk (n : Nat) (E : Nat → Nat → Bool) (a : Nat) : List Nat → Prop
 | one : a < n → Wk n E a [a]
 | step {w : List Nat} {v : Nat} : Wk n E a w → E (en w) v = true → v < n → Wk n E a (w ++ [v])
section
variable {n : Nat} {E : Nat → Nat → Bool} {a : Nat}
theorem Wk.ne {w : List Nat} (h : Wk n E a w) : w ≠ [] := by cases h <;> simp
theorem Wk.mem_lt {w : List Nat} (h : Wk n E a w) : ∀ v ∈ w, v < n := by
 induction h with
 | one h => intro v hv; simp at hv; subst hv; exact h
 | step _ _ h2 ih =>
  intro x hx
  rcases List.mem_append.1 hx with hx | hx
  ·exact ih x hx
  ·simp at hx; subst hx; exact h2
theorem en_mem {w : List Nat} (h : w ≠ []) : en w ∈ w := by
 unfold en
 rw [List.getLast?_eq_some_getLast h]
 exact List.getLast_mem h
theorem Wk.en_lt {w : List Nat} (h : Wk n E a w) : en w < n := h.mem_lt _ (en_mem h.ne)
theorem Wk.pre {w : List Nat} (h : Wk n E a w) : ∀ v ∈ w, ∃ w', Wk n E a w' ∧ en w' = v ∧ w'.length ≤ w.length := by
 induction h with
 | one h => intro v hv; simp at hv; subst hv; exact ⟨_, .one h, rfl, Nat.le_refl _⟩
 | step h1 h2 h3 ih =>
  intro x hx
  rcases List.mem_append.1 hx with hx | hx
  ·obtain ⟨w', p1, p2, p3⟩ := ih x hx
   exact ⟨w', p1, p2, by simp; omega⟩
  ·simp at hx; subst hx
   exact ⟨_, .step h1 h2 h3, Z7t _ _, Nat.le_refl _⟩
theorem Wk.cons {m : Nat} {q : List Nat} (ha : a < n) (he : E a m = true) (h : Wk n E m q) : Wk n E a (a :: q) := by
 induction h with
 | one h => exact .step (w := [a]) (.one ha) he h
 | step h1 h2 h3 ih =>
  rename_i w v
  have : a :: (w ++ [v]) = (a :: w) ++ [v] := rfl
  rw [this]
  exact .step ih (by rw [Zae a h1.ne]; exact h2) h3
theorem Wk.uncons {q : List Nat} (h : Wk n E a q) : q = [a] ∨ ∃ m q', q = a :: q' ∧ E a m = true ∧ m < n ∧ Wk n E m q' := by
 induction h with
 | one _ => exact .inl rfl
 | step h1 h2 h3 ih =>
  rename_i w v
  rcases ih with rfl | ⟨m, q', rfl, e1, e2, e3⟩
  ·exact .inr ⟨v, [v], rfl, h2, h3, .one h3⟩
  ·refine .inr ⟨m, q' ++ [v], rfl, e1, e2, .step e3 ?_ h3⟩
   rw [Zae a e3.ne] at h2
   exact h2
end
def LL : List Nat → List Nat → Prop
 | a :: l, b :: m => a < b ∨ a = b ∧ LL l m
 | _, _ => False
theorem LL.irrefl : ∀ l, ¬ LL l l
 | [], h => h
 | a :: l, h => by
  rcases h with h | ⟨_, h⟩
  ·omega
  ·exact LL.irrefl l h
theorem LL.trans : ∀ {l m k : List Nat}, LL l m → LL m k → LL l k
 | a :: l, b :: m, c :: k, h1, h2 => by
  rcases h1 with h1 | ⟨e1, h1⟩ <;> rcases h2 with h2 | ⟨e2, h2⟩
  ·exact .inl (by omega)
  ·exact .inl (by omega)
  ·exact .inl (by omega)
  ·exact .inr ⟨by omega, LL.trans h1 h2⟩
theorem LL.app : ∀ {l m : List Nat}, LL l m → ∀ x y, LL (l ++ x) (m ++ y)
 | a :: l, b :: m, h, x, y => by
  rcases h with h | ⟨e, h⟩
  ·exact .inl h
  ·exact .inr ⟨e, LL.app h x y⟩
theorem LL.tail : ∀ (l : List Nat) {x y : Nat}, x < y → LL (l ++ [x]) (l ++ [y])
 | [], _, _, h => .inl h
 | _ :: l, _, _, h => .inr ⟨rfl, LL.tail l h⟩
def Le (l m : List Nat) : Prop := l = m ∨ LL l m
theorem Le.trans {l m k : List Nat} (h1 : Le l m) (h2 : Le m k) : Le l k := by
 rcases h1 with rfl | h1
 ·exact h2
 ·rcases h2 with rfl | h2
  ·exact .inr h1
  ·exact .inr (h1.trans h2)
theorem Le.anti {l m : List Nat} (h1 : Le l m) (h2 : Le m l) : l = m := by
 rcases h1 with h1 | h1
 ·exact h1
 ·rcases h2 with h2 | h2
  ·exact h2.symm
  ·exact absurd (h1.trans h2) (LL.irrefl l)
theorem Le.app {l m : List Nat} (h : Le l m) (v : Nat) : Le (l ++ [v]) (m ++ [v]) := by
 rcases h with rfl | h
 ·exact .inl rfl
 ·exact .inr (h.app _ _)
section
variable {n : Nat} {E : Nat → Nat → Bool} {t : Nat} {d : Nat → Int}
theorem To.walk (h : To n E t d) : ∀ (k : Nat) {a : Nat} {q : List Nat}, q.length = k → Wk n E a q → en q = t → 0 ≤ d a ∧ d a + 1 ≤ q.length := by
 intro k
 induction k with
 | zero =>
  intro a q hk hq
  exact absurd (List.length_eq_zero_iff.1 hk) hq.ne
 | succ k ih =>
  intro a q hk hq he
  have ha : a < n := by
   rcases hq.uncons with rfl | ⟨m, q', rfl, _⟩
   ·exact hq.mem_lt _ (by simp)
   ·exact hq.mem_lt _ (by simp)
  rcases hq.uncons with rfl | ⟨m, q', rfl, e1, e2, e3⟩
  ·have : a = t := he
   have h0 := (h.isd.zero a ha).1 (by simpa using this)
   simp; omega
  ·rw [Zae a e3.ne] at he
   obtain ⟨h1, h2⟩ := ih (by simpa using hk) e3 he
   have h3 := h.isd.fw m e2 h1 a ha e1
   simp; omega
theorem To.step (h : To n E t d) {a : Nat} (ha : a < n) {k : Nat} (hd : d a = ((k + 1 : Nat) : Int)) : E a (Go.AM.TopZ.nx n E d a) = true ∧ Go.AM.TopZ.nx n E d a < n ∧ d (Go.AM.TopZ.nx n E d a) = (k : Int) ∧ ∀ m, m < n → E a m = true → d m = (k : Int) → Go.AM.TopZ.nx n E d a ≤ m := by
 obtain ⟨m, m1, m2, m3, m4⟩ := h.nx ha (by omega)
 rw [m4]
 simp only [nearer, Bool.and_eq_true, decide_eq_true_eq] at m2
 refine ⟨m2.1, m1, by omega, fun j hj e1 e2 => ?_⟩
 apply Nat.le_of_not_lt
 intro hlt
 have := m3 j hlt
 simp only [nearer, e1, Bool.true_and, decide_eq_false_iff_not] at this
 omega
theorem To.wk (h : To n E t d) : ∀ (k : Nat) {a : Nat}, a < n → d a = (k : Int) → Wk n E a (Go.AM.TopZ.wk n E d k a) ∧ en (Go.AM.TopZ.wk n E d k a) = t
 | 0, a, ha, hd => by
  have : a = t := by simpa using (h.isd.zero a ha).2 (by omega)
  exact ⟨.one ha, this⟩
 | k + 1, a, ha, hd => by
  obtain ⟨s1, s2, s3, _⟩ := h.step ha hd
  obtain ⟨i1, i2⟩ := To.wk h k s2 s3
  exact ⟨.cons ha s1 i1, by rw [Go.AM.TopZ.wk, Zae a i1.ne]; exact i2⟩
theorem To.wk_least (h : To n E t d) : ∀ (k : Nat) {a : Nat} {q : List Nat}, a < n → d a = (k : Int) → Wk n E a q → en q = t → q.length = k + 1 → Le (Go.AM.TopZ.wk n E d k a) q
 | 0, a, q, ha, hd, hq, he, hl => by
  rcases hq.uncons with rfl | ⟨m, q', rfl, e1, e2, e3⟩
  ·exact .inl rfl
  ·exact absurd (by simpa using hl) e3.ne
 | k + 1, a, q, ha, hd, hq, he, hl => by
  obtain ⟨s1, s2, s3, s4⟩ := h.step ha hd
  rcases hq.uncons with rfl | ⟨m, q', rfl, e1, e2, e3⟩
  ·simp at hl
  ·rw [Zae a e3.ne] at he
   have hl' : q'.length = k + 1 := by simpa using hl
   obtain ⟨h1, h2⟩ := h.walk _ rfl e3 he
   have h3 := h.isd.fw m e2 h1 a ha e1
   have hm : d m = (k : Int) := by omega
   have hle := s4 m e2 e1 hm
   rw [Go.AM.TopZ.wk]
   by_cases e : Go.AM.TopZ.nx n E d a = m
   ·have ih := To.wk_least h k s2 s3 (q := q') (by rw [e]; exact e3) he hl'
    rcases ih with ih | ih
    ·exact .inl (by rw [ih])
    ·exact .inr (.inr ⟨rfl, ih⟩)
   ·refine .inr (.inr ⟨rfl, ?_⟩)
    have hq' : ∃ r, q' = m :: r := by
     rcases e3.uncons with rfl | ⟨m', r, rfl, _⟩
     ·exact ⟨[], rfl⟩
     ·exact ⟨r, rfl⟩
    obtain ⟨r, rfl⟩ := hq'
    have hw : ∃ r', Go.AM.TopZ.wk n E d k (Go.AM.TopZ.nx n E d a) = Go.AM.TopZ.nx n E d a :: r' := by
     cases k <;> exact ⟨_, rfl⟩
    obtain ⟨r', hr'⟩ := hw
    rw [hr']
    exact .inl (by omega)
end
end Go.AM.TopZ
namespace Go.AM.TopZ
open Go Go.AM
def nn (m : Zb) (W : List (List Nat)) : List (List Str) := W.map fun w => w.map (nmOf m)
theorem Z57 (m : Zb) (W : List (List Nat)) : (nn m W).length = W.length := by simp [nn]
theorem nn_get (m : Zb) {W : List (List Nat)} {i : Nat} (h : i < W.length) : (nn m W).getD i [] = W[i].map (nmOf m) := by simp [nn, List.getD, h]
theorem last_get (m : Zb) {w : List Nat} (h : w ≠ []) (hl : w.length ≤ 1000) : (0 : Int) ≤ IntKind.i64.wrap ((((w.map (nmOf m)).length : Nat) : Int) - 1) ∧ IntKind.i64.wrap ((((w.map (nmOf m)).length : Nat) : Int) - 1) < (w.map (nmOf m)).length ∧ (w.map (nmOf m)).getD (IntKind.i64.wrap ((((w.map (nmOf m)).length : Nat) : Int) - 1)).toNat [] = nmOf m (en w) := by
 have hp := List.length_pos_iff.2 h
 rw [List.length_map, wrapI (by omega) (by omega)]
 refine ⟨by omega, by omega, ?_⟩
 have e : ((w.length : Int) - 1).toNat = w.length - 1 := by omega
 rw [e]
 have hg : w.getLast? = some w[w.length - 1] := by rw [List.getLast?_eq_getElem?]; simp [show w.length - 1 < w.length by omega]
 unfold en
 rw [hg]
 simp [List.getD, show w.length - 1 < w.length by omega]
section
variable {m : Zb}
theorem mem_nm (h : Wf m) {w : List Nat} (hw : ∀ v ∈ w, v < m.Services.length) {v : Nat} (hv : v < m.Services.length) : nmOf m v ∈ w.map (nmOf m) ↔ v ∈ w := by
 rw [List.mem_map]
 constructor
 ·rintro ⟨u, u1, u2⟩
  rwa [← Zb6 h (hw u u1) hv u2]
 ·exact fun hx => ⟨v, hx, rfl⟩
def Okw (n : Nat) (W : List (List Nat)) : Prop := W.length ≤ 10 ∧ ∀ w ∈ W, w ≠ [] ∧ w.length ≤ 50 ∧ ∀ v ∈ w, v < n
theorem F76_val (K : Nat) (hK : 1000 < K) (h : Wf m) {W M : List (List Nat)} (hW : Okw m.Services.length W) (hM : Okw m.Services.length M) {v : Nat} (hv : v < m.Services.length) : ∃ b, F76 K (nn m W) (nn m M) (nmOf m v) = some b ∧ (b = true ↔ (∃ w ∈ W, v ∈ w) ∨ ∃ x ∈ M, en x = v) := by
 have l6 : ∀ (rest pre : List (List Nat)) (k : Nat), M = pre ++ rest → rest.length < k → ∃ b, Z9p K (nn m M) (nmOf m v) (Zc3 K) k (pre.length : Int) = some b ∧ (b = true ↔ ∃ x ∈ rest, en x = v) := by
  intro rest
  induction rest with
  | nil =>
   intro pre k hp hk
   obtain ⟨k, rfl⟩ : ∃ q, k = q + 1 := ⟨k - 1, by omega⟩
   exact ⟨false, by rw [Z9p, Z57, if_neg (by rw [hp]; simp), Zc3], by simp⟩
  | cons x rest ih =>
   intro pre k hp hk
   obtain ⟨k, rfl⟩ : ∃ q, k = q + 1 := ⟨k - 1, by omega⟩
   have hx := hM.2 x (by rw [hp]; simp)
   have hlen : M.length = pre.length + rest.length + 1 := by rw [hp]; simp; omega
   have hlt : pre.length < M.length := by omega
   have hMl := hM.1
   have hg : (nn m M).getD ((pre.length : Int)).toNat [] = x.map (nmOf m) := by
    rw [Int.toNat_natCast, nn_get m hlt]
    congr 1
    subst hp; simp
   obtain ⟨g1, g2, g3⟩ := last_get m hx.1 (by omega)
   obtain ⟨n1, n2⟩ := next pre x hp (by omega)
   obtain ⟨b, b1, b2⟩ := ih (pre ++ [x]) k n2 (by simpa using hk)
   have c1 : (decide ((pre.length : Int) < ((nn m M).length : Int)) = true) = True := eq_true (by rw [Z57]; simpa using hlt)
   have c2 : ((0 : Int) ≤ (pre.length : Int) ∧ (pre.length : Int) < ((nn m M).length : Int)) = True := eq_true (by rw [Z57]; omega)
   simp only [Z9p, c1, c2, if_true, hg, g3, n1]
   rw [if_pos ⟨g1, g2⟩]
   have hen : en x < m.Services.length := hx.2.2 _ (en_mem hx.1)
   by_cases e : en x = v
   ·exact ⟨true, by rw [if_pos (by simp [e])], by simp [e]⟩
   ·refine ⟨b, ?_, ?_⟩
    ·rw [if_neg (by simpa using fun e2 => e (Zb6 h hen hv e2)), b1]
    ·rw [b2]; simp [e]
 have l2 : ∀ (rest pre : List (List Nat)) (k : Nat), W = pre ++ rest → rest.length < k → ∃ b, Zb4 K (nn m W) (nmOf m v) (Zbz K (nn m M) (nmOf m v)) k (pre.length : Int) = some b ∧ (b = true ↔ (∃ w ∈ rest, v ∈ w) ∨ ∃ x ∈ M, en x = v) := by
  intro rest
  induction rest with
  | nil =>
   intro pre k hp hk
   obtain ⟨k, rfl⟩ : ∃ q, k = q + 1 := ⟨k - 1, by omega⟩
   obtain ⟨b, b1, b2⟩ := l6 M [] K rfl (by have := hM.1; omega)
   exact ⟨b, by rw [Zb4, Z57, if_neg (by rw [hp]; simp), Zbz]; exact b1, by rw [b2]; simp⟩
  | cons x rest ih =>
   intro pre k hp hk
   obtain ⟨k, rfl⟩ : ∃ q, k = q + 1 := ⟨k - 1, by omega⟩
   have hx := hW.2 x (by rw [hp]; simp)
   have hlen : W.length = pre.length + rest.length + 1 := by rw [hp]; simp; omega
   have hlt : pre.length < W.length := by omega
   have hWl := hW.1
   have hg : (nn m W).getD ((pre.length : Int)).toNat [] = x.map (nmOf m) := by
    rw [Int.toNat_natCast, nn_get m hlt]
    congr 1
    subst hp; simp
   obtain ⟨n1, n2⟩ := next pre x hp (by omega)
   obtain ⟨b, b1, b2⟩ := ih (pre ++ [x]) k n2 (by simpa using hk)
   have c1 : (decide ((pre.length : Int) < ((nn m W).length : Int)) = true) = True := eq_true (by rw [Z57]; simpa using hlt)
   have c2 : ((0 : Int) ≤ (pre.length : Int) ∧ (pre.length : Int) < ((nn m W).length : Int)) = True := eq_true (by rw [Z57]; omega)
   have hf : F38 K (x.map (nmOf m)) (nmOf m v) = some (decide (v ∈ x)) := by
    rw [F38_val K hK _ (by rw [List.length_map]; omega)]
    congr 1
    rw [decide_eq_decide]
    exact mem_nm h hx.2.2 hv
   simp only [Zb4, c1, c2, if_true, hg, hf, n1, Option.bind_some]
   by_cases e : v ∈ x
   ·exact ⟨true, by rw [if_pos (by simpa using e)], by simp [e]⟩
   ·refine ⟨b, by rw [if_neg (by simpa using e), b1], ?_⟩
    rw [b2]; simp [e]
 obtain ⟨b, b1, b2⟩ := l2 W [] K rfl (by have := hW.1; omega)
 exact ⟨b, by rw [F76]; exact b1, b2⟩
structure Inv2 (n : Nat) (W : List (List Nat)) (R : List Nat → Nat → Prop) (M : List (List Nat)) : Prop where
 m1 : ∀ x ∈ M, ∃ w v, x = w ++ [v] ∧ R w v
 m2 : M.Pairwise LL
 m3 : ∀ w v, R w v → (∀ q ∈ W, v ∉ q) → ∃ x ∈ M, en x = v ∧ Le x (w ++ [v])
 m4 : (M.map en).Nodup
 m5 : ∀ w v, R w v → v < n
theorem Inv2.len {n : Nat} {W M : List (List Nat)} {R : List Nat → Nat → Prop} (h : Inv2 n W R M) : M.length ≤ n := by
 have := Z64 (l := M.map en) (m := List.range n) h.m4 fun x hx => by
  obtain ⟨y, y1, rfl⟩ := List.mem_map.1 hx
  obtain ⟨w, v, rfl, r⟩ := h.m1 y y1
  rw [Z7t]
  exact List.mem_range.2 (h.m5 w v r)
 simpa using this
theorem Inv2.congr {n : Nat} {W M : List (List Nat)} {R R' : List Nat → Nat → Prop} (h : Inv2 n W R M) (e : ∀ w v, R w v ↔ R' w v) : Inv2 n W R' M :=
 ⟨fun x hx => by obtain ⟨w, v, h1, h2⟩ := h.m1 x hx; exact ⟨w, v, h1, (e _ _).1 h2⟩, h.m2, fun w v r => h.m3 w v ((e _ _).2 r), h.m4, fun w v r => h.m5 w v ((e _ _).2 r)⟩
theorem Inv2.next {n : Nat} {W M : List (List Nat)} {R : List Nat → Nat → Prop} (h : Inv2 n W R M) {w : List Nat} {v : Nat} (hv : v < n) (hLL : ∀ w' v', R w' v' → LL (w' ++ [v']) (w ++ [v])) {b : Bool} (hb : b = true ↔ (∃ q ∈ W, v ∈ q) ∨ ∃ x ∈ M, en x = v) :
  Inv2 n W (fun w' v' => R w' v' ∨ w' = w ∧ v' = v) (if b = true then M else M ++ [w ++ [v]]) := by
 have m5 : ∀ w' v', (R w' v' ∨ w' = w ∧ v' = v) → v' < n := fun w' v' r => by
  rcases r with r | ⟨_, rfl⟩
  ·exact h.m5 _ _ r
  ·exact hv
 by_cases e : b = true
 ·rw [if_pos e]
  refine ⟨fun x hx => ?_, h.m2, fun w' v' r hno => ?_, h.m4, m5⟩
  ·obtain ⟨w', v', h1, h2⟩ := h.m1 x hx
   exact ⟨w', v', h1, .inl h2⟩
  ·rcases r with r | ⟨rfl, rfl⟩
   ·exact h.m3 _ _ r hno
   ·rcases hb.1 e with ⟨q, q1, q2⟩ | ⟨x, x1, x2⟩
    ·exact absurd q2 (hno q q1)
    ·obtain ⟨w'', v'', rfl, r⟩ := h.m1 x x1
     rw [Z7t] at x2
     subst x2
     exact ⟨_, x1, Z7t _ _, .inr (hLL _ _ r)⟩
 ·rw [if_neg e]
  have hne : ¬ ∃ x ∈ M, en x = v := fun hx => e (hb.2 (.inr hx))
  refine ⟨fun x hx => ?_, ?_, fun w' v' r hno => ?_, ?_, m5⟩
  ·rcases List.mem_append.1 hx with hx | hx
   ·obtain ⟨w', v', h1, h2⟩ := h.m1 x hx
    exact ⟨w', v', h1, .inl h2⟩
   ·simp at hx
    exact ⟨w, v, hx, .inr ⟨rfl, rfl⟩⟩
  ·refine List.pairwise_append.2 ⟨h.m2, by simp, fun x hx y hy => ?_⟩
   simp at hy; subst hy
   obtain ⟨w', v', rfl, r⟩ := h.m1 x hx
   exact hLL _ _ r
  ·rcases r with r | ⟨rfl, rfl⟩
   ·obtain ⟨x, x1, x2⟩ := h.m3 _ _ r hno
    exact ⟨x, by simp [x1], x2⟩
   ·exact ⟨_, by simp, Z7t _ _, .inl rfl⟩
  ·rw [List.map_append, List.nodup_append]
   refine ⟨h.m4, by simp, fun x hx y hy e2 => ?_⟩
   simp [Z7t] at hy
   obtain ⟨z, z1, z2⟩ := List.mem_map.1 hx
   exact hne ⟨z, z1, by omega⟩
def Rc (m : Zb) (pre : List (List Nat)) (w : List Nat) (prec : List Zl) (w' : List Nat) (v : Nat) : Prop :=
 (w' ∈ pre ∧ v < m.Services.length ∧ calls m (en w') v = true) ∨ (w' = w ∧ v < m.Services.length ∧ ∃ c ∈ prec, c.Caller = nmOf m (en w) ∧ c.Callee = nmOf m v)
theorem F30_l23_val (K : Nat) (hK : 1000 < K) (h : Wf m) {W pre rest0 : List (List Nat)} {w : List Nat} (hW : Okw m.Services.length W) (hl : ∀ q ∈ W, q.length ≤ 20) (hWs : W.Pairwise LL) (hsp : W = pre ++ w :: rest0) (c : List (List Str) → Option (List Str × Bool)) :
  ∀ (rest prec : List Zl) (k : Nat) (M : List (List Nat)), m.Calls = prec ++ rest → rest.length < k → Inv2 m.Services.length W (Rc m pre w prec) M → ∃ M', Z39 K m (nn m W) (pre.length : Int) c k (prec.length : Int) (nn m M) = c (nn m M') ∧ Inv2 m.Services.length W (Rc m pre w m.Calls) M' := by
 have hn := h.len
 have hwW : w ∈ W := by rw [hsp]; simp
 have hok := hW.2 w hwW
 have hpl : pre.length < W.length := by rw [hsp]; simp
 have hWl := hW.1
 have hgw : (nn m W).getD ((pre.length : Int)).toNat [] = w.map (nmOf m) := by
  rw [Int.toNat_natCast, nn_get m hpl]
  congr 1
  subst hsp; simp
 obtain ⟨g1, g2, g3⟩ := last_get m hok.1 (by omega)
 have hen : en w < m.Services.length := hok.2.2 _ (en_mem hok.1)
 have hpre : ∀ q ∈ pre, LL q w := fun q hq => by
  rw [hsp] at hWs
  exact (List.pairwise_append.1 hWs).2.2 q hq w (by simp)
 intro rest
 induction rest with
 | nil =>
  intro prec k M hp hk hI
  obtain ⟨k, rfl⟩ : ∃ q, k = q + 1 := ⟨k - 1, by omega⟩
  have e : m.Calls = prec := by simpa using hp
  exact ⟨M, by rw [Z39, if_neg (atEnd hp)], by rw [e]; exact hI⟩
 | cons x rest ih =>
  intro prec k M hp hk hI
  obtain ⟨k, rfl⟩ : ∃ q, k = q + 1 := ⟨k - 1, by omega⟩
  obtain ⟨m1, m2, m3, m4⟩ := atMid hp Z4
  have hlC := h.lenC
  obtain ⟨n1, n2⟩ := next prec x hp (by omega)
  have hxm : x ∈ m.Calls := by rw [hp]; simp
  obtain ⟨_, x1, x2⟩ := h.cs x hxm
  obtain ⟨q1, q2⟩ := Z34 x2
  generalize pos m x.Callee = v at q1 q2
  have hMl := hI.len
  have hMok : Okw m.Services.length M := ⟨by omega, fun y hy => by
   obtain ⟨w', v', rfl, r⟩ := hI.m1 y hy
   have hw' : w' ∈ W := by
    rcases r with ⟨r, _⟩ | ⟨r, _⟩
    ·rw [hsp]; simp [r]
    ·rw [r]; exact hwW
   have := hW.2 w' hw'
   have h2 := hl w' hw'
   refine ⟨by simp, by simp; omega, fun u hu => ?_⟩
   rcases List.mem_append.1 hu with hu | hu
   ·exact this.2.2 u hu
   ·simp at hu; subst hu; exact hI.m5 _ _ r⟩
  have i1 : (decide ((prec.length : Int) < (m.Calls.length : Int)) = true) = True := eq_true m1
  have i2 : ((0 : Int) ≤ (prec.length : Int) ∧ (prec.length : Int) < (m.Calls.length : Int)) = True := eq_true m2
  have i3 : ((0 : Int) ≤ (pre.length : Int) ∧ (pre.length : Int) < (((nn m W).length : Nat) : Int)) = True := eq_true (by rw [Z57]; omega)
  have i4 : (((pre.length : Int)).toNat < (nn m W).length) = True := eq_true (by rw [Z57]; simpa using hpl)
  by_cases e : x.Caller = nmOf m (en w)
  ·obtain ⟨b, b1, b2⟩ := F76_val K hK h hW hMok q1
   rw [q2] at b1
   have hI' := hI.next (w := w) (v := v) q1 (fun w' v' r => by
    rcases r with ⟨r, _⟩ | ⟨rfl, r2, y, y1, y2, y3⟩
    ·exact (hpre w' r).app _ _
    ·refine LL.tail _ ?_
     have hco := h.co
     rw [hp] at hco
     have hlt := (List.pairwise_append.1 hco).2.2 y y1 x (by simp)
     have hlt := (cP_lt (Z3h y) (Z3h x)).1 hlt
     simp only [Z3h] at hlt
     rw [y2, e, pordS.refl] at hlt
     rcases hlt with hlt | ⟨_, hlt⟩
     ·omega
     ·rw [y3, ← q2] at hlt
      exact (nm_lt h r2 q1).1 hlt) b2
   have hI'' : Inv2 m.Services.length W (Rc m pre w (prec ++ [x])) (if b = true then M else M ++ [w ++ [v]]) := hI'.congr fun w' v' => by
    unfold Rc
    constructor
    ·rintro ((r | ⟨rfl, r, y, y1, y2⟩) | ⟨rfl, rfl⟩)
     ·exact .inl r
     ·exact .inr ⟨rfl, r, y, by simp [y1], y2⟩
     ·exact .inr ⟨rfl, q1, x, by simp, e, q2.symm⟩
    ·rintro (r | ⟨rfl, r, y, y1, y2, y3⟩)
     ·exact .inl (.inl r)
     ·rcases List.mem_append.1 y1 with y1 | y1
      ·exact .inl (.inr ⟨rfl, r, y, y1, y2, y3⟩)
      ·simp at y1; subst y1
       exact .inr ⟨rfl, Zb6 h r q1 (by rw [q2, y3])⟩
   obtain ⟨M', r1, r2⟩ := ih (prec ++ [x]) k _ n2 (by simpa using hk) hI''
   refine ⟨M', ?_, r2⟩
   rw [← r1]
   simp only [Z39, i1, i2, i3, i4, if_true, m3, hgw, g3, b1, Option.bind_some, Zai, Z79, n1]
   rw [if_pos (by simpa using e)]
   cases b with
   | true => rw [if_neg (by simp)]; rfl
   | false =>
    rw [if_pos (by simp), if_pos (by simp only [List.length_nil, List.length_map]; omega), if_pos (by simp only [List.length_cons, List.length_nil, List.length_map]; omega), if_pos (by rw [Z57]; simp only [List.length_cons, List.length_nil]; omega)]
    rw [if_neg (by simp)]
    congr 1
    simp [nn, q2]
  ·have hI'' : Inv2 m.Services.length W (Rc m pre w (prec ++ [x])) M := hI.congr fun w' v' => by
    unfold Rc
    constructor
    ·rintro (r | ⟨rfl, r, y, y1, y2⟩)
     ·exact .inl r
     ·exact .inr ⟨rfl, r, y, by simp [y1], y2⟩
    ·rintro (r | ⟨rfl, r, y, y1, y2, y3⟩)
     ·exact .inl r
     ·rcases List.mem_append.1 y1 with y1 | y1
      ·exact .inr ⟨rfl, r, y, y1, y2, y3⟩
      ·simp at y1; subst y1; exact absurd y2 e
   obtain ⟨M', r1, r2⟩ := ih (prec ++ [x]) k _ n2 (by simpa using hk) hI''
   refine ⟨M', ?_, r2⟩
   rw [← r1]
   simp only [Z39, i1, i2, if_true, m3, hgw, g3, Z79, n1]
   rw [if_neg (by simpa using e)]
end
end Go.AM.TopZ
namespace Go.AM.TopZ
open Go Go.AM
section
variable {m : Zb}
def Rp (m : Zb) (pre : List (List Nat)) (w' : List Nat) (v : Nat) : Prop := w' ∈ pre ∧ v < m.Services.length ∧ calls m (en w') v = true
theorem F30_l9_val (K : Nat) (hK : 1000 < K) (h : Wf m) {W : List (List Nat)} (hW : Okw m.Services.length W) (hl : ∀ q ∈ W, q.length ≤ 20) (hWs : W.Pairwise LL) (y : Str) (c : List (List Str) → Option (List Str × Bool)) :
  ∀ (rest pre : List (List Nat)) (k : Nat) (M : List (List Nat)), W = pre ++ rest → rest.length < k → (∀ w ∈ pre, nmOf m (en w) ≠ y) → Inv2 m.Services.length W (Rp m pre) M →
   (∃ A w B, W = A ++ w :: B ∧ nmOf m (en w) = y ∧ (∀ w' ∈ A, nmOf m (en w') ≠ y) ∧ Z35 K (nn m W) y m c k (pre.length : Int) (nn m M) = some (w.map (nmOf m), true)) ∨
   ((∀ w ∈ W, nmOf m (en w) ≠ y) ∧ ∃ M', Z35 K (nn m W) y m c k (pre.length : Int) (nn m M) = c (nn m M') ∧ Inv2 m.Services.length W (Rp m W) M') := by
 intro rest
 induction rest with
 | nil =>
  intro pre k M hp hk hno hI
  obtain ⟨k, rfl⟩ : ∃ q, k = q + 1 := ⟨k - 1, by omega⟩
  have e : W = pre := by simpa using hp
  subst e
  exact .inr ⟨hno, M, by rw [Z35, Z57, if_neg (by simp)], hI⟩
 | cons w rest ih =>
  intro pre k M hp hk hno hI
  obtain ⟨k, rfl⟩ : ∃ q, k = q + 1 := ⟨k - 1, by omega⟩
  have hwW : w ∈ W := by rw [hp]; simp
  have hok := hW.2 w hwW
  have hpl : pre.length < W.length := by rw [hp]; simp
  have hWl := hW.1
  have hgw : (nn m W).getD ((pre.length : Int)).toNat [] = w.map (nmOf m) := by
   rw [Int.toNat_natCast, nn_get m hpl]
   congr 1
   subst hp; simp
  obtain ⟨g1, g2, g3⟩ := last_get m hok.1 (by omega)
  obtain ⟨n1, n2⟩ := next pre w hp (by omega)
  have i1 : (decide ((pre.length : Int) < ((nn m W).length : Int)) = true) = True := eq_true (by rw [Z57]; simpa using hpl)
  have i3 : ((0 : Int) ≤ (pre.length : Int) ∧ (pre.length : Int) < (((nn m W).length : Nat) : Int)) = True := eq_true (by rw [Z57]; omega)
  have i4 : (((pre.length : Int)).toNat < (nn m W).length) = True := eq_true (by rw [Z57]; simpa using hpl)
  have e0 : Z35 K (nn m W) y m c (k + 1) (pre.length : Int) (nn m M) = if nmOf m (en w) = y then some (w.map (nmOf m), true) else Z39 K m (nn m W) (pre.length : Int) (Z4y K (Z35 K (nn m W) y m c k) (pre.length : Int)) K 0 (nn m M) := by
   simp only [Z35, i1, i3, i4, if_true, hgw, g3]
   rw [if_pos ⟨g1, g2⟩]
   by_cases e : nmOf m (en w) = y
   ·rw [if_pos (by simpa using e), if_pos e]
   ·rw [if_neg (by simpa using e), if_neg e]
  by_cases e : nmOf m (en w) = y
  ·exact .inl ⟨pre, w, rest, hp, e, hno, by rw [e0, if_pos e]⟩
  ·rw [if_neg e] at e0
   have hI0 : Inv2 m.Services.length W (Rc m pre w []) M := hI.congr fun w' v' => by
    unfold Rc Rp
    simp
   obtain ⟨M1, r1, r2⟩ := F30_l23_val K hK h hW hl hWs hp (Z4y K (Z35 K (nn m W) y m c k) (pre.length : Int)) m.Calls [] K M rfl (by have := h.lenC; omega) hI0
   have hI1 : Inv2 m.Services.length W (Rp m (pre ++ [w])) M1 := r2.congr fun w' v' => by
    unfold Rc Rp
    have hc : ∀ v, calls m (en w) v = true ↔ ∃ c ∈ m.Calls, c.Caller = nmOf m (en w) ∧ c.Callee = nmOf m v := fun v => by
     simp only [calls, List.any_eq_true, Bool.and_eq_true, beq_iff_eq]
    constructor
    ·rintro (⟨a1, a2, a3⟩ | ⟨rfl, a2, a3⟩)
     ·exact ⟨by simp [a1], a2, a3⟩
     ·exact ⟨by simp, a2, (hc _).2 a3⟩
    ·rintro ⟨a1, a2, a3⟩
     rcases List.mem_append.1 a1 with a1 | a1
     ·exact .inl ⟨a1, a2, a3⟩
     ·simp at a1; subst a1
      exact .inr ⟨rfl, a2, (hc _).1 a3⟩
   have ih' := ih (pre ++ [w]) k M1 n2 (by simpa using hk) (fun q hq => by
    rcases List.mem_append.1 hq with hq | hq
    ·exact hno q hq
    ·simp at hq; subst hq; exact e) hI1
   have e1 : Z35 K (nn m W) y m c (k + 1) (pre.length : Int) (nn m M) = Z35 K (nn m W) y m c k ((pre ++ [w]).length : Int) (nn m M1) := by
    rw [e0]
    refine Eq.trans r1 ?_
    rw [Z4y, n1]
   rw [e1]
   exact ih'
structure Lev (n : Nat) (E : Nat → Nat → Bool) (a k : Nat) (W : List (List Nat)) : Prop where
 w1 : ∀ w ∈ W, Wk n E a w ∧ w.length = k + 1
 w2 : W.Pairwise LL
 w3 : ∀ q, Wk n E a q → q.length = k + 1 → (∀ q', Wk n E a q' → en q' = en q → k + 1 ≤ q'.length) → ∃ w ∈ W, en w = en q ∧ Le w q
 w4 : W.length ≤ 10
theorem Lev.next {n : Nat} (hn : n ≤ 9) (hm : m.Services.length = n) {a k : Nat} {W M : List (List Nat)} (h : Lev n (calls m) a k W) (hI : Inv2 n W (Rp m W) M) : Lev n (calls m) a (k + 1) M := by
 subst hm
 refine ⟨fun x hx => ?_, hI.m2, fun q hq hl hmin => ?_, by have := hI.len; omega⟩
 ·obtain ⟨w, v, rfl, r1, r2, r3⟩ := hI.m1 x hx
  obtain ⟨p1, p2⟩ := h.w1 w r1
  exact ⟨.step p1 r3 r2, by simp [p2]⟩
 ·cases hq with
  | one h1 => simp at hl
  | step h1 h2 h3 =>
   rename_i q0 v
   have hl0 : q0.length = k + 1 := by simpa using hl
   rw [Z7t] at hmin
   obtain ⟨w0, p1, p2, p3⟩ := h.w3 q0 h1 hl0 fun q' hq' e => by
    have := hmin _ (.step hq' (by rw [e]; exact h2) h3) (Z7t _ _)
    simp at this; omega
   obtain ⟨x, x1, x2, x3⟩ := hI.m3 w0 v ⟨p1, h3, by rw [p2]; exact h2⟩ fun w hw hv => by
    obtain ⟨w', s1, s2, s3⟩ := (h.w1 w hw).1.pre v hv
    have := hmin w' s1 s2
    have := (h.w1 w hw).2
    omega
   exact ⟨x, x1, by rw [x2, Z7t], x3.trans (p3.app v)⟩
theorem F30_val (K : Nat) (hK : 3100 < K) (h : Wf m) {a : Nat} (ha : a < m.Services.length) (y : Str) :
  ∃ r, F30 K m (nmOf m a) y = some r ∧ ((r.2 = true ∧ ∃ w, r.1 = w.map (nmOf m) ∧ Wk m.Services.length (calls m) a w ∧ nmOf m (en w) = y ∧ (∀ q, Wk m.Services.length (calls m) a q → en q = en w → w.length ≤ q.length) ∧ (∀ q, Wk m.Services.length (calls m) a q → en q = en w → q.length = w.length → Le w q)) ∨
   (r = ([], false) ∧ ∀ q, Wk m.Services.length (calls m) a q → nmOf m (en q) = y → m.Services.length + 1 < q.length)) := by
 have hn := h.len
 have l3 : ∀ (r k f : Nat) (W : List (List Nat)), k + r = m.Services.length + 1 → r < f → Lev m.Services.length (calls m) a k W → (∀ q, Wk m.Services.length (calls m) a q → nmOf m (en q) = y → k + 1 ≤ q.length) →
   ∃ r, Z3i K m y (Z3r K) f (k : Int) (nn m W) = some r ∧ ((r.2 = true ∧ ∃ w, r.1 = w.map (nmOf m) ∧ Wk m.Services.length (calls m) a w ∧ nmOf m (en w) = y ∧ (∀ q, Wk m.Services.length (calls m) a q → en q = en w → w.length ≤ q.length) ∧ (∀ q, Wk m.Services.length (calls m) a q → en q = en w → q.length = w.length → Le w q)) ∨
   (r = ([], false) ∧ ∀ q, Wk m.Services.length (calls m) a q → nmOf m (en q) = y → m.Services.length + 1 < q.length)) := by
  intro r
  induction r with
  | zero =>
   intro k f W hk hf hL hN
   obtain ⟨f, rfl⟩ : ∃ q, f = q + 1 := ⟨f - 1, by omega⟩
   refine ⟨([], false), by rw [Z3i, if_neg (by simp; omega), Z3r], .inr ⟨rfl, fun q hq e => by have := hN q hq e; omega⟩⟩
  | succ r ih =>
   intro k f W hk hf hL hN
   obtain ⟨f, rfl⟩ : ∃ q, f = q + 1 := ⟨f - 1, by omega⟩
   have w : IntKind.i64.wrap ((k : Int) + 1) = ((k + 1 : Nat) : Int) := wrapS (by omega)
   have hW : Okw m.Services.length W := ⟨hL.w4, fun q hq => by
    obtain ⟨p1, p2⟩ := hL.w1 q hq
    exact ⟨p1.ne, by omega, p1.mem_lt⟩⟩
   have e0 : Z3i K m y (Z3r K) (f + 1) (k : Int) (nn m W) = Z35 K (nn m W) y m (Z3m K (Z3i K m y (Z3r K) f) (k : Int)) K 0 [] := by
    rw [Z3i, if_pos (by simp; omega)]
   have r9 := F30_l9_val K (by omega) h hW (fun q hq => by have := (hL.w1 q hq).2; omega) hL.w2 y (Z3m K (Z3i K m y (Z3r K) f) (k : Int)) W [] K [] rfl (by have := hL.w4; omega) (by simp) ⟨by simp, .nil, fun w v ⟨r, _⟩ => by simp at r, by simp, fun w v ⟨r, _⟩ => by simp at r⟩
   rcases r9 with ⟨A, w0, B, hs, hy, hA, run⟩ | ⟨hno, M, run, hI⟩
   ·have hw0 : w0 ∈ W := by rw [hs]; simp
    obtain ⟨p1, p2⟩ := hL.w1 w0 hw0
    have en_eq : ∀ q, Wk m.Services.length (calls m) a q → en q = en w0 → k + 1 ≤ q.length := fun q hq e => hN q hq (by rw [e, hy])
    refine ⟨_, e0.trans run, .inl ⟨rfl, w0, rfl, p1, hy, fun q hq e => by rw [p2]; exact en_eq q hq e, fun q hq e hl => ?_⟩⟩
    obtain ⟨w1, q1, q2, q3⟩ := hL.w3 q hq (by omega) fun q' hq' e' => en_eq q' hq' (by rw [e', e])
    have hw1 : nmOf m (en w1) = y := by rw [q2, e, hy]
    rw [hs] at q1
    rcases List.mem_append.1 q1 with q1 | q1
    ·exact absurd hw1 (hA w1 q1)
    ·rcases List.mem_cons.1 q1 with rfl | q1
     ·exact q3
     ·have h2 := hL.w2
      rw [hs] at h2
      have := (List.pairwise_cons.1 (List.pairwise_append.1 h2).2.1).1 w1 q1
      exact Le.trans (.inr this) q3
   ·have hN' : ∀ q, Wk m.Services.length (calls m) a q → nmOf m (en q) = y → k + 1 + 1 ≤ q.length := fun q hq e => by
     have h1 := hN q hq e
     by_cases e2 : q.length = k + 1
     ·obtain ⟨w1, q1, q2, _⟩ := hL.w3 q hq e2 fun q' hq' e' => hN q' hq' (by rw [e', e])
      exact absurd (by rw [q2, e]) (hno w1 q1)
     ·omega
    obtain ⟨r, s1, s2⟩ := ih (k + 1) f M (by omega) (by omega) (hL.next (by omega) rfl hI) hN'
    refine ⟨r, ?_, s2⟩
    rw [e0]
    refine Eq.trans run ?_
    rw [Z3m, w, s1]
 have start : Lev m.Services.length (calls m) a 0 [[a]] := ⟨fun w hw => by simp at hw; subst hw; exact ⟨.one ha, rfl⟩, by simp, fun q hq hl _ => by
  cases hq with
  | one _ => exact ⟨[a], by simp, rfl, .inl rfl⟩
  | step h1 _ _ =>
   have := List.length_pos_iff.2 h1.ne
   simp at hl
   exact absurd hl h1.ne, by simp⟩
 obtain ⟨r, r1, r2⟩ := l3 (m.Services.length + 1) 0 K [[a]] (by omega) (by omega) start fun q hq _ => by
  have := List.length_pos_iff.2 hq.ne
  omega
 exact ⟨r, by rw [F30]; exact r1, r2⟩
theorem F30_none (K : Nat) (hK : 3100 < K) (h : Wf m) {x : Str} (hx : ∀ s ∈ m.Services, s.Name ≠ x) (y : Str) : ∃ r, F30 K m x y = some r := by
 have hn := h.len
 have hlC := h.lenC
 have w0 : IntKind.i64.wrap ((0 : Int) + 1) = 1 := wrapI (by omega) (by omega)
 have w1 : IntKind.i64.wrap ((([x] : List Str).length : Int) - 1) = 0 := wrapI (n := 0) (by omega) (by omega)
 have empty : ∀ (r k f : Nat), k + r = m.Services.length + 1 → r < f → Z3i K m y (Z3r K) f (k : Int) [] = some ([], false) := by
  intro r
  induction r with
  | zero =>
   intro k f hk hf
   obtain ⟨f, rfl⟩ : ∃ q, f = q + 1 := ⟨f - 1, by omega⟩
   rw [Z3i, if_neg (by simp; omega), Z3r]
  | succ r ih =>
   intro k f hk hf
   obtain ⟨f, rfl⟩ : ∃ q, f = q + 1 := ⟨f - 1, by omega⟩
   obtain ⟨K', hK'⟩ : ∃ q, K = q + 1 := ⟨K - 1, by omega⟩
   have w : IntKind.i64.wrap ((k : Int) + 1) = ((k + 1 : Nat) : Int) := wrapS (by omega)
   have l9 : ∀ c, Z35 K ([] : List (List Str)) y m c K 0 [] = c [] := fun c => by
    conv => lhs; arg 6; rw [hK']
    rw [Z35, if_neg (by simp)]
   rw [Z3i, if_pos (by simp; omega), l9, Z3m, w]
   exact ih (k + 1) f (by omega) (by omega)
 obtain ⟨K', hK'⟩ : ∃ q, K = q + 2 := ⟨K - 2, by omega⟩
 have l23 : ∀ c, Z39 K m [[x]] 0 c K 0 [] = c [] := fun c => by
  obtain ⟨s, h1, h2⟩ := forLoop0 (fun k i (s : List (List Str)) => Z39 K m [[x]] 0 c k i s) c m.Calls.length (fun _ s => s = []) K [] rfl (by omega)
   (fun k i s hi e => ⟨[], rfl, by
    subst e
    have w : IntKind.i64.wrap ((i : Int) + 1) = ((i + 1 : Nat) : Int) := wrapS (by omega)
    have hg : m.Calls.getD i Z4 = m.Calls[i] := by simp [List.getD, hi]
    obtain ⟨_, ⟨t, t1, t2⟩, _⟩ := h.cs _ (List.getElem_mem hi)
    have hne : ¬ m.Calls[i].Caller = x := fun e => hx t t1 (by rw [t2, e])
    have hl : ([[x]].getD (0 : Int).toNat ([] : List Str)) = [x] := rfl
    have hl2 : [x].getD (0 : Int).toNat ([] : Str) = x := rfl
    rw [Z39, if_pos (by simpa using hi), if_pos (by omega), Int.toNat_natCast, hg, hl, w1, hl2, if_neg (by simpa using hne), Z79, w]⟩)
   (fun k s e => by rw [Z39, if_neg (by simp)])
  rw [h1] at h2
  exact h2
 have l9 : ∀ c, (∃ r, Z35 K [[x]] y m c K 0 [] = some r) ∨ Z35 K [[x]] y m c K 0 [] = c [] := fun c => by
  have hl : ([[x]].getD (0 : Int).toNat ([] : List Str)) = [x] := rfl
  have hl2 : [x].getD (0 : Int).toNat ([] : Str) = x := rfl
  conv => lhs; rhs; ext r; lhs; arg 6; rw [hK']
  conv => rhs; lhs; arg 6; rw [hK']
  rw [Z35, if_pos (by simp), if_pos (by simp), if_pos (by simp), if_pos (by simp), if_pos (by simp), hl, w1, if_pos (by simp), hl2]
  by_cases e : x = y
  ·rw [if_pos (by simpa using e), if_pos (by simp), if_pos (by simp)]
   exact .inl ⟨_, rfl⟩
  ·rw [if_neg (by simpa using e)]
   right
   rw [l23, Z4y, w0, Z35, if_neg (by simp)]
 have step : F30 K m x y = Z35 K [[x]] y m (Z3m K (Z3i K m y (Z3r K) (K' + 1)) 0) K 0 [] := by
  rw [F30]
  conv => lhs; arg 5; rw [hK']
  rw [Z3i, if_pos (by simp)]
 rw [step]
 rcases l9 (Z3m K (Z3i K m y (Z3r K) (K' + 1)) 0) with h1 | h1
 ·exact h1
 ·rw [h1, Z3m, w0]
  exact ⟨_, empty m.Services.length 1 (K' + 1) (by omega) (by omega)⟩
end
end Go.AM.TopZ
namespace Go.AM.TopZ
open Go Go.AM
theorem F74_val (K : Nat) (hK : 3100 < K) {n : Nat} (hn : n ≤ 9) (E : Nat → Nat → Bool) {a t : Nat} (ha : a < n) (ht : t < n) :
  ∃ d, To n E t d ∧ F74 K ⟨(n : Int), el n E⟩ (a : Int) (t : Int) = some (if d a < 0 then ([], 22) else (nl (wk n E d (d a).toNat a), 0)) := by
 obtain ⟨d, d1, d2⟩ := back_val K hn (by omega) E t ht
 have hda := d2.bd (by omega) a ha
 refine ⟨d, d2, ?_⟩
 rw [F74, F111_val, Option.bind_some, if_neg (by simp <;> omega), F111_val, Option.bind_some, if_neg (by simp <;> omega), F114_val _ E hn (by omega), Option.bind_some, F113_el _ _ hn (by omega), Option.bind_some, adj_eq n fun a b => E b a, d1, Option.bind_some, mk_len, if_pos (by omega), Int.toNat_natCast, Z94 ha]
 by_cases h0 : d a < 0
 ·rw [if_pos (by simpa using h0), if_pos h0]
 ·rw [if_neg (by simpa using h0), if_neg h0, F113_el _ E hn (by omega), Option.bind_some, if_pos (by omega), wrapI (by omega) (by omega), adj_eq, F115_val K (by omega) (by omega) E t d d2 a ha (by omega) _ rfl, Option.bind_some]
theorem both_val (K : Nat) (hK : 3100 < K) {m : Zb} (h : Wf m) {a t : Nat} (ha : a < m.Services.length) (ht : t < m.Services.length) :
  (∃ w : List Str, w.length ≤ 900 ∧ F29 K m (nmOf m a) (nmOf m t) = some (w, 0) ∧ F30 K m (nmOf m a) (nmOf m t) = some (w, true)) ∨
  (F29 K m (nmOf m a) (nmOf m t) = some ([], 22) ∧ F30 K m (nmOf m a) (nmOf m t) = some ([], false)) := by
 have hl := h.len
 obtain ⟨d, d2, e74⟩ := F74_val K hK (n := m.Services.length) (by omega) (calls m) ha ht
 have hb := d2.bd (by omega) a ha
 have hfar := d2.isd.far a ha
 have e29 : F29 K m (nmOf m a) (nmOf m t) = if d a < 0 then some ([], 22) else (F75 K m (nl (wk m.Services.length (calls m) d (d a).toNat a))).bind fun v10 => some (v10, 0) := by
  rw [F29, Zb2 K (by omega) h ha (x := nmOf m a) rfl, Option.bind_some, Zb2 K (by omega) h ht (x := nmOf m t) rfl, Option.bind_some, if_neg (by simp), if_neg (by simp), F33_val K (by omega) h, Option.bind_some, ed_el h, e74, Option.bind_some]
  by_cases h0 : d a < 0
  ·rw [if_pos h0, if_pos (by simp), if_pos h0]
  ·rw [if_neg h0, if_neg (by simp), if_neg h0]
 obtain ⟨r, r1, r2⟩ := F30_val K hK h ha (nmOf m t)
 by_cases h0 : d a < 0
 ·right
  rw [e29, if_pos h0]
  refine ⟨rfl, ?_⟩
  rcases r2 with ⟨_, w, _, w2, w3, _⟩ | ⟨rfl, _⟩
  ·have := Zb6 h w2.en_lt ht w3
   have := (d2.walk _ rfl w2 this).1
   omega
  ·exact r1
 ·left
  have hk : d a = ((d a).toNat : Int) := by omega
  obtain ⟨k1, k2⟩ := d2.wk (d a).toNat ha hk
  have hwl := wk_len m.Services.length (calls m) d (d a).toNat a
  have hlen : (wk m.Services.length (calls m) d (d a).toNat a).length ≤ 100 := by rw [hwl]; omega
  refine ⟨(wk m.Services.length (calls m) d (d a).toNat a).map (nmOf m), by rw [List.length_map]; omega, ?_, ?_⟩
  ·rw [e29, if_neg h0, F75_val K (by omega) m _ hlen k1.mem_lt, Option.bind_some]
  ·rcases r2 with ⟨e, w, w1, w2, w3, w4, w5⟩ | ⟨_, hno⟩
   ·have hen := Zb6 h w2.en_lt ht w3
    have l1 := w4 _ k1 (by rw [k2, hen])
    have l2 := (d2.walk _ rfl w2 hen).2
    have hl' : w.length = (d a).toNat + 1 := by omega
    have le1 := w5 _ k1 (by rw [k2, hen]) (by omega)
    have le2 := d2.wk_least (d a).toNat ha hk w2 hen hl'
    have := le1.anti le2
    rw [r1, ← this]
    obtain ⟨r3, r4⟩ := r
    simp only at e w1
    rw [e, w1]
   ·have := hno _ k1 (by rw [k2])
    omega
theorem F7_val (K : Nat) (hK : 3100 < K) {m : Zb} (h : Wf m) (hf : Few 1000 m) (x y : Str) : ∃ p q r u, F28 K m x y = some p ∧ F29 K m x y = some q ∧ F30 K m x y = some r ∧ F31 K m x = some u ∧
  (if (u.Spans == 0) = true then Z96 K p q r 10 else (F31 K m y).bind fun v22 => if (v22.Spans == 0) = true then Z60 K p q r 10 else if (!r.2) = true then Z60 K p q r 22 else Z60 K p q r 0) = some true := by
 have hl := h.len
 have e28 : ∀ (w : List Str) (e : Int), w.length ≤ 900 → F29 K m x y = some (w, e) → F28 K m x y = some (if 0 > (w.length : Int) - 1 then 0 else (w.length : Int) - 1, e) := fun w e hw h29 => by
  rw [F28, h29, Option.bind_some]
  simp only
  rw [wrapI (by omega) (by omega)]
 have err : ∀ (e : Int) (r : List Str × Bool), e ≠ 0 → Z96 K (0, e) ([], e) r e = some true := fun e r he => by
  rw [Z96, if_pos (by simpa using he), if_pos (by simp), if_pos (by simp), if_pos (by simp), Zau]
  simp
 obtain ⟨sx, s1, s2, s3⟩ := F31_val K m x (by omega) (by omega)
 obtain ⟨sy, t1, t2, t3⟩ := F31_val K m y (by omega) (by omega)
 have spans : ∀ {z : Str} {s : Zd}, s.Name = z → (s ∈ m.Services ∨ s = ⟨z, 0, 0, 0⟩ ∧ ∀ t ∈ m.Services, t.Name ≠ z) → ((∃ t ∈ m.Services, t.Name = z) → 1 ≤ s.Spans) ∧ ((¬ ∃ t ∈ m.Services, t.Name = z) → s.Spans = 0) := fun {z s} e o => by
  constructor
  ·rintro ⟨t, u1, u2⟩
   rcases o with o | ⟨_, o⟩
   ·exact (hf s o).1
   ·exact absurd u2 (o t u1)
  ·intro hno
   rcases o with o | ⟨o, _⟩
   ·exact absurd ⟨s, o, e⟩ hno
   ·rw [o]
 have sx' := spans s2 s3
 have sy' := spans t2 t3
 by_cases hx : ∃ s ∈ m.Services, s.Name = x
 ·have nx := sx'.1 hx
  obtain ⟨i1, i2⟩ := Z34 hx
  by_cases hy : ∃ s ∈ m.Services, s.Name = y
  ·have ny := sy'.1 hy
   obtain ⟨k1, k2⟩ := Z34 hy
   have hb := both_val K hK h i1 k1
   rw [i2, k2] at hb
   rcases hb with ⟨w, w0', w1, w2⟩ | ⟨w1, w2⟩
   ·refine ⟨_, _, _, _, e28 w 0 w0' w1, w1, w2, s1, ?_⟩
    have hp : 1 ≤ w.length ∨ w.length = 0 := by omega
    rw [if_neg (by simp; omega), t1, Option.bind_some, if_neg (by simp; omega), if_neg (by simp), Z60, Z96, if_neg (by simp)]
    have hw1 : 1 ≤ w.length := by
     obtain ⟨r, r1, r2⟩ := F30_val K hK h i1 y
     rw [i2, w2] at r1
     injection r1 with r1
     subst r1
     rcases r2 with ⟨_, q, q1, q2, _⟩ | ⟨q1, _⟩
     ·simp only at q1
      rw [q1, List.length_map]
      exact List.length_pos_iff.2 q2.ne
     ·simp at q1
    have wr : IntKind.i64.wrap ((w.length : Int) - 1) = (w.length : Int) - 1 := wrapI (by omega) (by omega)
    rw [if_neg (by omega : ¬ (0 : Int) > (w.length : Int) - 1), wr, if_pos (by simp), F32_same K (by omega) w w0', Option.bind_some, if_pos rfl, if_pos (by simp), Za6]
    simp
   ·refine ⟨_, _, _, _, e28 [] 22 (by simp) w1, w1, w2, s1, ?_⟩
    rw [if_neg (by simp; omega), t1, Option.bind_some, if_neg (by simp; omega), if_pos (by simp), Z60]
    exact err 22 _ (by omega)
  ·have ny := sy'.2 hy
   obtain ⟨b, hb⟩ := F58_none K (by omega) h (x := y) fun s hs e => hy ⟨s, hs, e⟩
   have e29 : F29 K m x y = some ([], 10) := by
    rw [F29, Zb2 K (by omega) h i1 (x := x) i2, Option.bind_some, hb, Option.bind_some, if_neg (by simp), if_pos (by simp)]
   obtain ⟨r, r1, _⟩ := F30_val K hK h i1 y
   rw [i2] at r1
   refine ⟨_, _, r, _, e28 [] 10 (by simp) e29, e29, r1, s1, ?_⟩
   rw [if_neg (by simp; omega), t1, Option.bind_some, if_pos (by simp [ny]), Z60]
   exact err 10 _ (by omega)
 ·have nx := sx'.2 hx
  have hx' : ∀ s ∈ m.Services, s.Name ≠ x := fun s hs e => hx ⟨s, hs, e⟩
  obtain ⟨b, hb⟩ := F58_none K (by omega) h hx'
  have hy58 : ∃ p, F58 K m y = some p := by
   by_cases hy : ∃ s ∈ m.Services, s.Name = y
   ·obtain ⟨k1, k2⟩ := Z34 hy
    exact ⟨_, Zb2 K (by omega) h k1 (x := y) k2⟩
   ·obtain ⟨b, hb⟩ := F58_none K (by omega) h (x := y) fun s hs e => hy ⟨s, hs, e⟩
    exact ⟨_, hb⟩
  obtain ⟨p, hp⟩ := hy58
  have e29 : F29 K m x y = some ([], 10) := by
   rw [F29, hb, Option.bind_some, hp, Option.bind_some, if_pos (by simp)]
  obtain ⟨r, r1⟩ := F30_none K hK h hx' y
  refine ⟨_, _, r, _, e28 [] 10 (by simp) e29, e29, r1, s1, ?_⟩
  rw [if_pos (by simp [nx])]
  exact err 10 _ (by omega)
theorem purePaths (l : List Z1l) (a b : Int) (hl : ok58 l) (_ : ok5 a) (_ : ok5 b) : ∃ K, F7 K l a b = some true := by
 refine ⟨4001, ?_⟩
 obtain ⟨m, m1, m2, m3⟩ := F22_val 4001 (by omega) l fun x hx => ⟨(hl.2 x hx).1, (hl.2 x hx).2.1, (hl.2 x hx).2.2.1⟩
 rw [F7, known_ok 3000, Option.bind_some, if_neg (by simp), m1, Option.bind_some]
 generalize (List.map (fun n : Int => UInt8.ofNat n.toNat) [(IntKind.u8.wrap (97 + (a.tmod 7)))]) = x
 generalize (List.map (fun n : Int => UInt8.ofNat n.toNat) [(IntKind.u8.wrap (97 + (b.tmod 7)))]) = y
 obtain ⟨p, q, r, u, h1, h2, h3, h4, h5⟩ := F7_val 4001 (by omega) m2 m3 x y
 rw [h1, Option.bind_some, h2, Option.bind_some, h3, Option.bind_some, h4, Option.bind_some]
 exact h5
end Go.AM.TopZ
