/- The small functions of package graph. -/
import Derived.Test.YtcfcnnkaiboddaaGraBase
import Derived.OpenShut
namespace Go.AM.Gra
open Go Go.AM
theorem ok5_le {n : Int} (h : ok5 n) : 0 ≤ n ∧ n ≤ 255 := bounds_u8 h
theorem F14_val (K : Nat) (p : Z11) (hp : ok24 p) (hK : 1000 < K) : ∃ n E, n ≤ 9 ∧ F14 K p = some (tb n n E) := by
  obtain ⟨h1, -, ⟨-, h3⟩, -⟩ := hp
  have hc := ok5_le h1
  obtain ⟨n, hn⟩ : ∃ n : Nat, IntKind.i64.wrap (p.Count.tmod 10) = (n : Int) ∧ n ≤ 9 := by
    refine ⟨(p.Count.tmod 10).toNat, ?_⟩
    have h4 : p.Count.tmod 10 = p.Count % 10 := Int.tmod_eq_emod_of_nonneg hc.1
    rw [wrapI (by omega) (by omega)]
    omega
  have hel : ∀ i, i < p.Edges.length → ∀ x, (x = (p.Edges.getD i Zk).e0 ∨ x = (p.Edges.getD i Zk).e1) → 0 < n → ∃ a : Nat, (IntKind.i64.wrap x).tmod (n : Int) = (a : Int) ∧ a < n := by
    intro i hi x hx h0
    have hm : p.Edges.getD i Zk ∈ p.Edges := by
      simp only [List.getD, List.getElem?_eq_getElem hi, Option.getD_some]
      exact List.getElem_mem hi
    obtain ⟨o1, o2, -⟩ := h3 _ hm
    have hx' : 0 ≤ x ∧ x ≤ 255 := by
      rcases hx with rfl | rfl
      · exact ok5_le o1
      · exact ok5_le o2
    rw [wrapI (by omega) (by omega), Int.tmod_eq_emod_of_nonneg hx'.1]
    have m1 := Int.emod_nonneg x (b := (n : Int)) (by omega)
    have m2 := Int.emod_lt_of_pos x (b := (n : Int)) (by omega)
    exact ⟨(x % (n : Int)).toNat, by omega, by omega⟩
  refine ⟨n, ?_⟩
  suffices h : ∃ r, F14 K p = some r ∧ ∃ E, r = tb n n E by
    obtain ⟨r, e1, E, rfl⟩ := h
    exact ⟨E, hn.2, e1⟩
  rw [F14, hn.1, F25_val K (by omega) (by omega), Option.bind_some]
  have stop : ∀ b i v, (∃ E, v = tb n n E) → ∃ r, F14_j11 K i p v b (F14_c7 K) false = some r ∧ ∃ E, r = tb n n E := by
    intro b i v hv
    exact ⟨v, by rw [F14_j11, if_neg (by simp), F14_c7], hv⟩
  have all : ∀ (m i k : Nat) (v : List (List Bool)), i + m = 40 → (∃ E, v = tb n n E) → m < k → ∃ r, F14_l5 K p (F14_c7 K) k (i : Int) v = some r ∧ ∃ E, r = tb n n E := by
    intro m
    induction m with
    | zero =>
      intro i k v hi hv hk
      obtain ⟨k, rfl⟩ : ∃ k', k = k' + 1 := ⟨k - 1, by omega⟩
      rw [F14_l5]
      split
      · rw [if_neg (by simp; omega)]; exact stop _ _ v hv
      · exact stop _ _ v hv
    | succ m ih =>
      intro i k v hi hv hk
      obtain ⟨k, rfl⟩ : ∃ k', k = k' + 1 := ⟨k - 1, by omega⟩
      rw [F14_l5]
      split
      next hlt =>
        have hlt' : i < p.Edges.length := by simpa using hlt
        rw [if_pos (by simp; omega), hn.1]
        by_cases h0 : 0 < n
        · obtain ⟨E, rfl⟩ := hv
          obtain ⟨a, a1, a2⟩ := hel i hlt' _ (.inl rfl) h0
          obtain ⟨b, b1, b2⟩ := hel i hlt' _ (.inr rfl) h0
          have ih' := fun v hv => ih (i + 1) k v (by omega) hv (by omega)
          have w : IntKind.i64.wrap ((i : Int) + 1) = ((i + 1 : Nat) : Int) := wrapS (by omega)
          rw [F14_j11, if_pos (by simpa using h0), if_pos (by omega), if_pos (by omega), hn.1, if_pos (by omega), if_pos (by omega), if_pos (by omega), if_pos (by omega)]
          simp only [show ((0 : Int).toNat) = 0 from rfl, show ((1 : Int).toNat) = 1 from rfl, List.getD_cons_zero, List.getD_cons_succ, Int.toNat_natCast, a1, b1, tb_len, F14_j27, F14_j13, w, tb_row a2, mk_len]
          simp only [Int.ofNat_lt, a2, b2, Int.natCast_nonneg, if_true, true_and]
          have hset : ∀ (f : Nat → Nat → Bool) (y : Bool), ∃ E, (tb n n f).set a ((mk n (f a)).set b y) = tb n n E := fun f y => ⟨_, by rw [← tb_row (f := f) a2 []]; exact tb_set f b a2 [] y⟩
          split
          · exact ih' _ (hset _ _)
          · split
            · exact ih' _ (hset _ _)
            · exact ih' _ ⟨E, rfl⟩
        · have : decide ((n : Int) > 0) = false := by simp; omega
          rw [this]; exact stop _ _ v hv
      next => exact stop _ _ v hv
  exact all 40 0 K _ rfl ⟨_, rfl⟩ (by omega)
def swE (e : Z7) : Z7 := ⟨e.To, e.From⟩
theorem F30_val (K : Nat) {n : Nat} (E : Nat → Nat → Bool) (hn : n ≤ 9) (hK : 100 < K) : F30 K ⟨(n : Int), el n E⟩ = some ⟨(n : Int), el n fun a b => E b a⟩ := by
  have hl := el_len E hn
  have hmem : ∀ x, x ∈ (el n E).map swE ↔ x ∈ el n fun a b => E b a := by
    intro x
    simp only [List.mem_map, el_mem]
    constructor
    · rintro ⟨y, ⟨i, j, h1, h2, h3, rfl⟩, rfl⟩; exact ⟨j, i, h2, h1, h3, rfl⟩
    · rintro ⟨i, j, h1, h2, h3, rfl⟩; exact ⟨_, ⟨j, i, h2, h1, h3, rfl⟩, rfl⟩
  have all : ∀ (rest pre : List Z7) (k : Nat), el n E = pre ++ rest → rest.length < k → F30_l4 K ⟨(n : Int), el n E⟩ (F30_c6 K ⟨(n : Int), el n E⟩) k (pre.length : Int) (pre.map swE) = F30_c6 K ⟨(n : Int), el n E⟩ ((el n E).map swE) := by
    intro rest
    induction rest with
    | nil =>
      intro pre k h hk
      obtain ⟨k, rfl⟩ : ∃ k', k = k' + 1 := ⟨k - 1, by omega⟩
      rw [F30_l4, if_neg (atEnd h), h, List.append_nil]
    | cons x rest ih =>
      intro pre k h hk
      obtain ⟨k, rfl⟩ : ∃ k', k = k' + 1 := ⟨k - 1, by omega⟩
      obtain ⟨m1, m2, m3, m4⟩ := atMid h Z2
      obtain ⟨n1, n2⟩ := next pre x h (by omega)
      have ih' := ih (pre ++ [x]) k n2 (by simpa using hk)
      rw [F30_l4, if_pos m1, if_pos m2, m3, if_pos (by simp; omega), n1]
      simpa [swE] using ih'
  rw [F30, if_pos (by simp; omega)]
  refine (all (el n E) [] K rfl (by omega)).trans ?_
  have e := F35_set K (n := (n : Int)) (by omega) (by omega) (l := (el n E).map swE) (by simp; omega) (by simp; omega) (fun e he => el_inR e ((hmem e).1 he)) (el_strict n _) hmem
  rw [F30_c6]
  simp only
  rw [e, Option.bind_some]
theorem F47_val (K : Nat) {n : Nat} {l : List Z7} (hn : n ≤ 1000) (hl : l.length ≤ 1000000) (hK : l.length < K) (hr : ∀ e ∈ l, inR (n : Int) e) : F47 K ⟨(n : Int), l⟩ = some (mk n fun a => outs l (a : Int)) := by
  have all : ∀ (rest pre : List Z7) (k : Nat), l = pre ++ rest → rest.length < k → F47_l4 K ⟨(n : Int), l⟩ (F47_c6 K) k (pre.length : Int) (mk n fun a => outs pre (a : Int)) = some (mk n fun a => outs l (a : Int)) := by
    intro rest
    induction rest with
    | nil =>
      intro pre k h hk
      obtain ⟨k, rfl⟩ : ∃ k', k = k' + 1 := ⟨k - 1, by omega⟩
      rw [F47_l4, if_neg (atEnd h), F47_c6, h, List.append_nil]
    | cons x rest ih =>
      intro pre k h hk
      obtain ⟨k, rfl⟩ : ∃ k', k = k' + 1 := ⟨k - 1, by omega⟩
      obtain ⟨m1, m2, m3, m4⟩ := atMid h Z2
      obtain ⟨n1, n2⟩ := next pre x h (by omega)
      have hx := hr x (by rw [h]; simp)
      obtain ⟨f, hf⟩ : ∃ f : Nat, x.From = (f : Int) ∧ f < n := ⟨x.From.toNat, by obtain ⟨a, b, _, _⟩ := hx; omega⟩
      have hlen : (outs pre (f : Int)).length ≤ pre.length := by simp only [outs, List.length_map]; exact List.length_filter_le _ _
      have ih' := ih (pre ++ [x]) k n2 (by simpa using hk)
      rw [F47_l4, if_pos m1, if_pos m2, m3, hf.1, Int.toNat_natCast, mk_len, if_pos (by omega), if_pos hf.2, if_pos hf.2, mk_get hf.2, if_pos (by simp; omega), List.length_set, mk_len, if_pos (by omega), if_pos hf.2, mk_set, n1]
      refine Eq.trans ?_ ih'
      congr 1
      refine mk_ext fun a _ => ?_
      simp only [outs, List.filter_append, List.map_append, List.filter_cons, List.filter_nil, hf.1]
      by_cases e : a = f
      · subst e; simp
      · have : ¬ (f : Int) = (a : Int) := by omega
        simp [e, this]
  rw [F47, if_pos (by simp; omega)]
  have := all l [] K rfl hK
  simp only [Int.toNat_natCast, mk_rep]
  simpa [outs] using this
theorem F47_el (K : Nat) {n : Nat} (E : Nat → Nat → Bool) (hn : n ≤ 9) (hK : 100 < K) : F47 K ⟨(n : Int), el n E⟩ = some (mk n fun a => nl (sel n (E a))) := by
  have hl := el_len E hn
  rw [F47_val K (by omega) (by omega) (by omega) el_inR]
  congr 1
  exact mk_ext fun a ha => outs_el E ha
end Go.AM.Gra
