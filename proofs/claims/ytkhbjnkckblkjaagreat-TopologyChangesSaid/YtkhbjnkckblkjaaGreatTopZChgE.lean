/- Changes: the windows' traces, what is built of them. -/
import Derived.Test.YtkhbjnkckblkjaaGreatTopZG2
import Derived.Test.YtkhbjnkckblkjaaGreatTopZG3
import Derived.Test.YtkhbjnkckblkjaaGreatTopZChgD
import Derived.Test.YtkhbjnkckblkjaaGreatGraKit
namespace Go.AM.TopZ
open Go Go.AM
theorem sortI_nl {n : Nat} {l : List Nat} (hn : l.Nodup) (hl : ∀ x ∈ l, x < n) (hn' : n ≤ 1000) : sortI (nl l) = some (nl (sel n fun i => decide (i ∈ l))) := by
 have hlen : l.length ≤ n := by
  have := nodup_len (m := List.range n) hn fun x hx => List.mem_range.2 (hl x hx)
  simpa using this
 have e : Nat.ble (nl l).length 1073741824 = true := Nat.ble_eq_true_of_le (by simp; omega)
 unfold sortI
 rw [e]
 simp only [cond_true]
 congr 1
 have p := isort_perm (fun x y : Int => decide (x < y)) (nl l)
 have hL : LtOn (fun x y : Int => decide (x < y)) (nl l) := ⟨fun x _ y _ h => by simp at h ⊢; omega, fun x _ y _ z _ h1 h2 => by simp at h1 h2 ⊢; omega, fun x _ y _ h1 h2 => by simp at h1 h2; omega⟩
 have hs := isort_sorted hL
 obtain ⟨m, hm⟩ : ∃ m, isort (fun x y : Int => decide (x < y)) (nl l) = nl m := ⟨(isort (fun x y : Int => decide (x < y)) (nl l)).map Int.toNat, by
  unfold nl
  rw [List.map_map]
  refine (List.map_id _).symm.trans (List.map_congr_left fun x hx => ?_)
  obtain ⟨i, _, rfl⟩ := List.mem_map.1 (p.mem_iff.1 hx)
  simp⟩
 unfold srtI
 rw [hm] at p hs ⊢
 have hmem : ∀ x : Nat, x ∈ m ↔ x ∈ l := fun x => by
  have h1 : ∀ k : List Nat, (x : Int) ∈ nl k ↔ x ∈ k := fun k => by
   simp only [nl, List.mem_map]
   exact ⟨fun ⟨y, hy, e⟩ => by
   have : y = x := by omega
   subst this
   exact hy, fun h => ⟨x, h, rfl⟩⟩
  rw [← h1 m, ← h1 l, p.mem_iff]
 have hmn : m.Nodup := by
  have h1 : (nl l).Nodup := by unfold nl; exact List.Pairwise.map (R := fun a b => a ≠ b) _ (fun a b h => by omega) hn
  have h2 : (nl m).Nodup := p.nodup_iff.2 h1
  unfold nl at h2
  exact (List.pairwise_map.1 h2).imp fun {a b} h e => h (by rw [e])
 congr 1
 refine sel_eq ?_ fun x => ?_
 ·have h3 : m.Pairwise (fun a b => ¬ b < a) := by
   unfold Sorted nl at hs
   exact (List.pairwise_map.1 hs).imp fun {a b} h => by simp at h; omega
  exact (h3.and hmn).imp fun {a b} h => by
   have := h.2
   have := h.1
   omega
 ·rw [hmem, decide_eq_true_eq]
  exact ⟨fun h => ⟨hl x h, h⟩, fun h => h.2⟩
def idx (f z : Int) (x : Zo) : Int := (slotOf x - f) / z
def win (f z : Int) (l : List Zo) (n : Int) : List Zo := l.filter fun x => decide (idx f z x = n)
theorem win_snoc (f z : Int) (l : List Zo) (x : Zo) (n : Int) : win f z (l ++ [x]) n = win f z l n ++ (if idx f z x = n then [x] else []) := by
 unfold win
 rw [List.filter_append]
 by_cases e : idx f z x = n <;> simp [e]
def Wm (f z : Int) (l : List Zo) (v : List (Int × List Zo)) : Prop := (v.map (·.1)).Nodup ∧ ∀ kv, kv ∈ v ↔ kv.2 = win f z l kv.1 ∧ kv.2 ≠ []
theorem Wm.get {f z : Int} {l : List Zo} {v : List (Int × List Zo)} (h : Wm f z l v) (n : Int) : (mget q_i64 n v).getD [] = win f z l n := by
 rcases mget_spec lawI n h.1 with ⟨u, h1, h2⟩ | ⟨h1, h2⟩
 ·rw [h1]; exact ((h.2 _).1 h2).1
 ·rw [h1]
  by_cases e : win f z l n = []
  ·rw [e]; rfl
  ·exact absurd rfl (h2 (n, win f z l n) ((h.2 _).2 ⟨rfl, e⟩))
theorem Wm.put {f z : Int} {l : List Zo} {v : List (Int × List Zo)} (h : Wm f z l v) (x : Zo) : Wm f z (l ++ [x]) (mput q_i64 (idx f z x) (win f z l (idx f z x) ++ [x]) v) := by
 obtain ⟨q1, q2, _⟩ := mput_spec lawI (idx f z x) (win f z l (idx f z x) ++ [x]) h.1
 refine ⟨q1, fun kv => ?_⟩
 rw [q2, h.2, win_snoc]
 obtain ⟨k, w⟩ := kv
 simp only
 constructor
 ·rintro (e | ⟨⟨e1, e2⟩, e3⟩)
  ·injection e with e1 e2
   subst e1; subst e2
   exact ⟨by rw [if_pos rfl], by simp⟩
  ·exact ⟨by rw [e1, if_neg (fun e => e3 e.symm), List.append_nil], e2⟩
 ·rintro ⟨e1, e2⟩
  by_cases e : idx f z x = k
  ·rw [if_pos e] at e1; subst e; left; rw [e1]
  ·rw [if_neg e, List.append_nil] at e1
   exact .inr ⟨⟨e1, e2⟩, fun h => e h.symm⟩
theorem F40_l7_val (K : Nat) (l : List Zo) (hl : l.length ≤ 100) (a2 : Int) (f t z : Int) (hf : 0 ≤ f) (ht : t ≤ 1000000) (hz : (if 1048576 < a2 then 1048576 else a2) = z) (hz1 : 1 ≤ z) (hid : ∀ x ∈ l, 0 ≤ x.Id ∧ f ≤ slotOf x ∧ slotOf x < t) (c : List (Int × List Zo) → Option (List Chg × Int)) :
  ∀ (rest pre : List Zo) (k : Nat) (v : List (Int × List Zo)), l = pre ++ rest → rest.length < k → Wm f z pre v → ∃ v', Wm f z l v' ∧ F40_l7 K l a2 ⟨f, t⟩ c k (pre.length : Int) v = c v' := by
 intro rest
 induction rest with
 | nil =>
  intro pre k v h hk hv
  obtain ⟨k, rfl⟩ : ∃ q, k = q + 1 := ⟨k - 1, by omega⟩
  have e : l = pre := by simpa using h
  exact ⟨v, by rw [e]; exact hv, by rw [F40_l7, if_neg (atEnd h)]⟩
 | cons x rest ih =>
  intro pre k v h hk hv
  obtain ⟨k, rfl⟩ : ∃ q, k = q + 1 := ⟨k - 1, by omega⟩
  obtain ⟨m1, m2, m3, m4⟩ := atMid h Zq
  obtain ⟨n1, n2⟩ := next pre x h (by omega)
  have hpl : l.length = pre.length + rest.length + 1 := by rw [h]; simp; omega
  obtain ⟨g1, g2, g3⟩ := hid x (by rw [h]; simp)
  have ei : IntKind.i64.wrap ((IntKind.i64.wrap (slotOf x - f)).tdiv z) = idx f z x := by
   have w0 : IntKind.i64.wrap (slotOf x - f) = slotOf x - f := wrapI (by omega) (by omega)
   have h0 : 0 ≤ (slotOf x - f) / z := Int.ediv_nonneg (by omega) (by omega)
   have h1 : (slotOf x - f) / z ≤ slotOf x - f := Int.ediv_le_self _ (by omega)
   rw [w0, Int.tdiv_eq_ediv_of_nonneg (show 0 ≤ slotOf x - f by omega)]
   show IntKind.i64.wrap ((slotOf x - f) / z) = (slotOf x - f) / z
   generalize (slotOf x - f) / z = q at h0 h1
   exact wrapI (by omega) (by omega)
  have es : x.Id / 1048576 = slotOf x := rfl
  have em : mrow q_i64 (idx f z x) v = win f z pre (idx f z x) := hv.get _
  obtain ⟨v', r1, r2⟩ := ih (pre ++ [x]) k _ n2 (by simpa using hk) (hv.put x)
  refine ⟨v', r1, ?_⟩
  have hwl : (win f z pre (idx f z x)).length ≤ pre.length := List.length_filter_le _ _
  rw [F40_l7, if_pos m1, if_pos m2, m3, F16_val K g1, Option.bind_some, hz, es]
  simp only [ei, em]
  rw [if_pos (by omega), if_pos (by simp only [List.length_cons, List.length_nil]; omega), n1, r2]
def nums (f z : Int) (l : List Zo) : List Nat := sel 1000 fun i => decide (win f z l (i : Int) ≠ [])
theorem Wm.key {f z : Int} {l : List Zo} {v : List (Int × List Zo)} (h : Wm f z l v) (n : Int) : n ∈ v.map (·.1) ↔ win f z l n ≠ [] := by
 rw [List.mem_map]
 constructor
 ·rintro ⟨kv, k1, rfl⟩
  obtain ⟨e1, e2⟩ := (h.2 kv).1 k1
  rw [← e1]; exact e2
 ·intro e
  exact ⟨(n, win f z l n), (h.2 _).2 ⟨rfl, e⟩, rfl⟩
theorem win_in {f z : Int} {l : List Zo} {n : Int} (h : win f z l n ≠ []) : ∃ x ∈ l, idx f z x = n := by
 obtain ⟨x, hx⟩ := List.exists_mem_of_ne_nil _ h
 obtain ⟨h1, h2⟩ := List.mem_filter.1 hx
 exact ⟨x, h1, by simpa using h2⟩
theorem F84_val (K : Nat) {f z : Int} {l : List Zo} (hb : ∀ x ∈ l, 0 ≤ idx f z x ∧ idx f z x < 1000) {v : List (Int × List Zo)} (h : Wm f z l v) : F84 K v = some (nl (nums f z l)) := by
 have hlen : v.length ≤ 1000 := by
  have := nodup_len' (m := nl (List.range 1000)) h.1 fun n hn => by
   obtain ⟨x, x1, x2⟩ := win_in ((h.key n).1 hn)
   have := hb x x1
   refine List.mem_map.2 ⟨n.toNat, List.mem_range.2 (by omega), by omega⟩
  simpa using this
 rw [F84, if_pos (by omega)]
 refine ndPerm_of fun v' pv => ?_
 have pm := pv.map (fun e : Int × List Zo => e.1)
 have hmem : ∀ n : Int, n ∈ v'.map (fun e : Int × List Zo => e.1) ↔ win f z l n ≠ [] := fun n => by rw [pm.mem_iff]; exact h.key n
 have hnn : ∀ n ∈ v'.map (fun e : Int × List Zo => e.1), 0 ≤ n ∧ n < 1000 := fun n hn => by
  obtain ⟨x, x1, x2⟩ := win_in ((hmem n).1 hn)
  have := hb x x1
  omega
 obtain ⟨ks, e⟩ : ∃ ks : List Nat, v'.map (fun e : Int × List Zo => e.1) = nl ks := ⟨(v'.map (fun e : Int × List Zo => e.1)).map Int.toNat, by
  unfold nl
  rw [List.map_map]
  refine (List.map_id _).symm.trans (List.map_congr_left fun n hn => ?_)
  have := hnn n hn
  simp; omega⟩
 have hkm : ∀ i : Nat, i ∈ ks ↔ win f z l (i : Int) ≠ [] := fun i => by
  rw [← hmem, e]
  unfold nl
  constructor
  ·intro h
   exact List.mem_map.2 ⟨i, h, rfl⟩
  ·intro h
   obtain ⟨j, h1, h2⟩ := List.mem_map.1 h
   have : j = i := by omega
   rw [← this]; exact h1
 have hnd : ks.Nodup := by
  have h1 : (nl ks).Nodup := by rw [← e]; exact pm.nodup_iff.2 h.1
  unfold nl at h1
  unfold List.Nodup at h1 ⊢
  rw [List.pairwise_map] at h1
  exact h1.imp fun {a b} hab e => hab (by rw [e])
 rw [e, sortI_nl (n := 1000) hnd (fun i hi => by
  have := hnn (i : Int) ((hmem _).2 ((hkm i).1 hi))
  omega) (by omega), Option.bind_some]
 have en : (sel 1000 fun i => decide (i ∈ ks)) = nums f z l := by
  unfold nums sel
  exact List.filter_congr fun i _ => by rw [decide_eq_decide]; exact hkm i
 rw [en]
def Bm (M : Int → Zd) (pre : List Int) (v : List (Int × Zd)) (u : List (Int × Bool)) : Prop :=
 (∀ n, mget q_i64 n v = if n ∈ pre then some (M n) else none) ∧ ∀ n, (mget q_i64 n u).getD false = decide (n ∈ pre ∨ n - 1 ∈ pre)
theorem F40_l19_val (K : Nat) (f z : Int) (l : List Zo) {w : List (Int × List Zo)} (hw : Wm f z l w) (M : Int → Zd) (ks : List Int) (hks : ks.length ≤ 1000) (hk0 : ∀ n ∈ ks, 0 ≤ n ∧ n ≤ 1000) (hM : ∀ n ∈ ks, F17_i1 K (win f z l n) = some (M n, 0)) (c : List (Int × Zd) → List (Int × Bool) → Option (List Chg × Int)) :
  ∀ (rest pre : List Int) (k : Nat) (v : List (Int × Zd)) (u : List (Int × Bool)), ks = pre ++ rest → rest.length < k → Bm M pre v u → ∃ v' u', Bm M ks v' u' ∧ F40_l19 K ks w c k (pre.length : Int) v u = c v' u' := by
 intro rest
 induction rest with
 | nil =>
  intro pre k v u h hk hv
  obtain ⟨k, rfl⟩ : ∃ q, k = q + 1 := ⟨k - 1, by omega⟩
  have e : ks = pre := by simpa using h
  exact ⟨v, u, by rw [e]; exact hv, by rw [F40_l19, if_neg (atEnd h)]⟩
 | cons x rest ih =>
  intro pre k v u h hk hv
  obtain ⟨k, rfl⟩ : ∃ q, k = q + 1 := ⟨k - 1, by omega⟩
  obtain ⟨m1, m2, m3, m4⟩ := atMid h (0 : Int)
  obtain ⟨n1, n2⟩ := next pre x h (by omega)
  have hx : x ∈ ks := by rw [h]; simp
  have hx0 := hk0 x hx
  have w1 : IntKind.i64.wrap (x + 1) = x + 1 := wrapI (by omega) (by omega)
  have hq : ∀ a b : Int, (q_i64 a b = true) = (a = b) := fun a b => propext (lawI a b)
  obtain ⟨v', u', r1, r2⟩ := ih (pre ++ [x]) k (mput q_i64 x (M x) v) (mput q_i64 (x + 1) true (mput q_i64 x true u)) n2 (by simpa using hk) ⟨fun n => by
   rw [mget_mput lawI]
   by_cases e : n = x
   ·subst e; simp [hq]
   ·simp [hq, e, hv.1 n], fun n => by
   rw [mget_mput lawI, mget_mput lawI]
   by_cases e : n = x + 1
   ·subst e; simp [hq]
   ·by_cases e2 : n = x
    ·subst e2; simp [hq]
    ·have e3 : n - 1 ≠ x := by omega
     simp [hq, e, e2, e3, hv.2 n]⟩
  refine ⟨v', u', r1, ?_⟩
  rw [F40_l19, if_pos m1, if_pos m2, if_pos (by simpa using m4), m3, hw.get, hM x hx, Option.bind_some, if_neg (by simp), n1, w1, r2]
end Go.AM.TopZ
