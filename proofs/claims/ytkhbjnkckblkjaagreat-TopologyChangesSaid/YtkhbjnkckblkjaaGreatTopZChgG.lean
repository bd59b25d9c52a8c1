/- TopologyChanges: Changes returns the changes of the calls of neighbouring windows, or the first error. -/
import Derived.Test.YtkhbjnkckblkjaaGreatTopZG2
import Derived.Test.YtkhbjnkckblkjaaGreatTopZG3
import Derived.Test.YtkhbjnkckblkjaaGreatTopZG4
import Derived.Test.YtkhbjnkckblkjaaGreatTopZChgF
namespace Go.AM.TopZ
open Go Go.AM
def ok92 : A2_Int → Prop := fun x : A2_Int => ok5 x.e0 ∧ ok5 x.e1 ∧ True
theorem F41_same (K : Nat) (hK : 1000 < K) (l : List Chg) (hl : l.length ≤ 900) : F41 K l l = some true := by
 have all : ∀ (rest pre : List Chg) (k : Nat), l = pre ++ rest → rest.length < k → F41_l2 K l l (F41_c3 K) k (pre.length : Int) = some true := by
  intro rest
  induction rest with
  | nil =>
   intro pre k h hk
   obtain ⟨k, rfl⟩ : ∃ q, k = q + 1 := ⟨k - 1, by omega⟩
   rw [F41_l2, if_neg (atEnd h), F41_c3]
  | cons x rest ih =>
   intro pre k h hk
   obtain ⟨k, rfl⟩ : ∃ q, k = q + 1 := ⟨k - 1, by omega⟩
   obtain ⟨m1, m2, m3, m4⟩ := atMid h Z13
   obtain ⟨n1, n2⟩ := next pre x h (by omega)
   rw [F41_l2, if_pos m1, if_pos m2, if_pos m2, m3, if_neg (by simp), n1]
   exact ih (pre ++ [x]) k n2 (by simpa using hk)
 rw [F41, if_neg (by simp)]
 exact all l [] K rfl (by omega)
theorem main_is (K : Nat) (hK : 3000 < K) {l : List Zo} (hl : l.length ≤ 3) (hg : ∀ t ∈ l, Gt t) (hid : ∀ t ∈ l, 0 ≤ t.Id) (f t z : Int) (hf : 0 ≤ f) (hft : f < t) (ht : t ≤ 254) (hz : 1 ≤ z) :
  ∃ O : List Chg, F40 K l ⟨f, t⟩ z = some (O, 0) ∧ O.length ≤ 256 ∧ (t - f ≤ z → O = []) ∧ (z < t - f → F42 K l f t z = some O) := by
 obtain ⟨y, hy⟩ : ∃ y, (if 1048576 < z then 1048576 else z) = y := ⟨_, rfl⟩
 have hy1 : 1 ≤ y ∧ y ≤ 1048576 := by rw [← hy]; split <;> omega
 have hyb : t - f ≤ z → t - f ≤ y := fun h => by rw [← hy]; split <;> omega
 have hys : z < t - f → y = z := fun h => by rw [← hy, if_neg (by omega)]
 have r14 := F14_val K (by omega) (l := l) (by omega) (fun x hx => ⟨(hg x hx).len, (hg x hx).small, hid x hx⟩) f t
 obtain ⟨lw, hlw⟩ : ∃ lw, (l.filter fun x => decide (f ≤ slotOf x ∧ slotOf x < t)) = lw := ⟨_, rfl⟩
 rw [hlw] at r14
 have hwl : lw.length ≤ 3 := by rw [← hlw]; exact Nat.le_trans (List.length_filter_le _ _) hl
 have hwm : ∀ x ∈ lw, x ∈ l ∧ f ≤ slotOf x ∧ slotOf x < t := fun x hx => by
  rw [← hlw, List.mem_filter] at hx
  exact ⟨hx.1, by simpa using hx.2⟩
 have hwg : ∀ x ∈ lw, Gt x := fun x hx => hg x (hwm x hx).1
 have hb : ∀ x ∈ lw, 0 ≤ idx f y x ∧ idx f y x < 1000 := fun x hx => by
  obtain ⟨_, h1, h2⟩ := hwm x hx
  have h3 : 0 ≤ (slotOf x - f) / y := Int.ediv_nonneg (by omega) (by omega)
  have h4 : (slotOf x - f) / y ≤ slotOf x - f := Int.ediv_le_self _ (by omega)
  unfold idx
  omega
 obtain ⟨w, hw, r7⟩ := F40_l7_val K lw (by omega) z f t y hf (by omega) hy hy1.1 (fun x hx => ⟨hid x (hwm x hx).1, (hwm x hx).2⟩) (F40_c9 K z ⟨f, t⟩) lw [] K [] rfl (by omega) ⟨by simp, fun kv => by simp [win]⟩
 obtain ⟨M, hM⟩ := exM K hK f y hwl hwg
 obtain ⟨Q, hQ⟩ := exQ K hK f y hwl hwg fun n => (hM n).2.1
 have hkm : ∀ n : Int, n ∈ nl (nums f y lw) ↔ win f y lw n ≠ [] := fun n => by
  unfold nl nums
  rw [List.mem_map]
  constructor
  ·rintro ⟨i, h1, rfl⟩
   simpa using (sel_mem.1 h1).2
  ·intro h
   obtain ⟨x, x1, x2⟩ := win_in h
   have := hb x x1
   refine ⟨n.toNat, sel_mem.2 ⟨by omega, ?_⟩, by omega⟩
   rw [show ((n.toNat : Nat) : Int) = n by omega]
   simpa using h
 obtain ⟨ks, hks⟩ : ∃ ks, nl (nums f y lw) = ks := ⟨_, rfl⟩
 have r84 := F84_val K hb hw
 have hkl : ks.length ≤ 1000 := by rw [← hks, nl_len]; exact sel_len _ _
 rw [hks] at hkm r84
 obtain ⟨v, u, hB, r19⟩ := F40_l19_val K f y lw hw M ks hkl (fun n hn => by
  obtain ⟨x, x1, x2⟩ := win_in ((hkm n).1 hn)
  have := hb x x1
  omega) (fun n _ => (hM n).2.2) (F40_c22 K ⟨f, t⟩ z) ks [] K [] [] rfl (by omega) ⟨fun n => by simp [mget, mfind], fun n => by simp [mget, mfind]⟩
 have hem : ∀ n, n ∉ ks → M n = ⟨[], []⟩ := fun n hn => by
  have e : win f y lw n = [] := Classical.byContradiction fun h => hn ((hkm n).2 h)
  have := (hM n).2.1
  rw [e] at this
  exact this.empty
 have hv : ∀ n, (mget q_i64 n v).getD z_Ttopology_Map = M n := fun n => by
  rw [hB.1]
  by_cases e : n ∈ ks
  ·rw [if_pos e]; rfl
  ·rw [if_neg e, hem n e]; rfl
 have hne : ∀ n, ¬ (n ∈ ks ∨ n - 1 ∈ ks) → Q n = [] := fun n hn => by
  refine List.eq_nil_iff_forall_not_mem.2 fun k hk => ?_
  have h := ((hQ n).2.1 k).1 hk
  rw [hem n (fun h => hn (.inl h)), hem (n - 1) (fun h => hn (.inr h))] at h
  simp [xk] at h
 have hA := allC_len hwg
 have hlen : ∀ n, (chO f y Q n).length ≤ 256 := fun n => by
  cases n with
  | zero => simp [chO]
  | succ n =>
   have h1 := chO_len (f := f) (z := y) (Q := Q) (A := fun n => (allC (win f y lw n)).length) (fun n => (hQ n).1) n
   have h2 := cum_le f y n lw
   have h3 := cum_le f y (n + 1) lw
   omega
 have hd0 : 0 ≤ (t - f - 1) / y := Int.ediv_nonneg (by omega) (by omega)
 have hd1 : (t - f - 1) / y ≤ t - f - 1 := Int.ediv_le_self _ (by omega)
 obtain ⟨last, hlast⟩ : ∃ last : Nat, (last : Int) = (t - f - 1) / y := ⟨((t - f - 1) / y).toNat, by omega⟩
 have hll : last ≤ 254 := by omega
 have hle : ∀ n : Nat, n ≤ last ↔ f + n * y < t := fun n => by
  have h := Int.le_ediv_iff_mul_le (a := (n : Int)) (b := t - f - 1) (c := y) (by omega)
  rw [← hlast] at h
  constructor
  ·intro h2
   have := h.1 (by omega)
   omega
  ·intro h2
   have := h.2 (by omega)
   omega
 have hny : ∀ n : Nat, 0 ≤ (n : Int) * y := fun n => Int.mul_nonneg (by omega) (by omega)
 have w1 : IntKind.i64.wrap (t - f) = t - f := wrapI (by omega) (by omega)
 have w2 : IntKind.i64.wrap (t - f - 1) = t - f - 1 := wrapI (by omega) (by omega)
 have w3 : (t - f - 1).tdiv y = (last : Int) := by rw [Int.tdiv_eq_ediv_of_nonneg (by omega), hlast]
 have w4 : IntKind.i64.wrap (last : Int) = (last : Int) := wrapI (by omega) (by omega)
 have w5 : IntKind.i64.wrap ((last : Int) + 1) = (last : Int) + 1 := wrapI (by omega) (by omega)
 have r26 := F40_l26_val K f t z y hy last (by omega) (by rw [w1, w2, w3, w4, w5]) ks M Q v u hv hB.2 hne (fun n hn => by
  have h1 := (hle n).1 hn
  have h2 := hny n
  generalize (n : Int) * y = q at h1 h2
  rw [wrapI (n := q) (by omega) (by omega), wrapI (by omega) (by omega)]) (fun n => (hQ n).2.2.2) hlen (F40_c28 K) (last + 1) 0 K (by omega) (by omega)
 refine ⟨chO f y Q (last + 1), ?_, hlen _, fun h => ?_, fun h => ?_⟩
 ·rw [F40, if_neg (by simp; omega), if_neg (by simp; omega), F40_j2, if_neg (by simp; omega), if_neg (by simp; omega), r14, Option.bind_some]
  refine r7.trans ?_
  rw [F40_c9, if_pos (by rw [hy]; omega), F85, Option.bind_some, r84, Option.bind_some]
  refine r19.trans ?_
  rw [F40_c22]
  refine r26.trans ?_
  rw [F40_c28]
 ·have h2 := hyb h
  have h0 : last = 0 := by
   have : (t - f - 1) / y = 0 := Int.ediv_eq_zero_of_lt (by omega) (by omega)
   omega
  rw [h0]; simp [chO]
 ·have e := hys h
  subst e
  have h15 : ∀ n : Nat, n ≤ last → F15 K l (f + n * y) (if (IntKind.i64.wrap ((f + n * y) + y)) < t then (IntKind.i64.wrap ((f + n * y) + y)) else t) = some (win f y lw n) := fun n hn => by
   have h1 := (hle n).1 hn
   have h2 := hny n
   have w6 : IntKind.i64.wrap (f + n * y + y) = f + n * y + y := by
    generalize (n : Int) * y = q at h1 h2
    exact wrapI (by omega) (by omega)
   rw [w6, F15_val K (by omega) (by omega) hid]
   unfold win
   rw [← hlw, List.filter_filter]
   refine congrArg some (List.filter_congr fun x _ => ?_)
   have i1 := Int.le_ediv_iff_mul_le (a := (n : Int)) (b := slotOf x - f) (c := y) (by omega)
   have i2 := Int.le_ediv_iff_mul_le (a := (n : Int) + 1) (b := slotOf x - f) (c := y) (by omega)
   rw [Int.add_mul, Int.one_mul] at i2
   rw [← Bool.decide_and, decide_eq_decide]
   unfold idx
   generalize (slotOf x - f) / y = d at i1 i2
   generalize (n : Int) * y = q at h1 h2 i1 i2
   by_cases hc : f + q + y < t
   ·rw [if_pos hc]
    constructor
    ·rintro ⟨a1, a2⟩
     have b1 := i1.2 (by omega)
     have b2 : ¬ ((n : Int) + 1 ≤ d) := fun h => by have := i2.1 h; omega
     omega
    ·rintro ⟨a1, a2, a3⟩
     have b1 := i1.1 (by omega)
     have b2 : ¬ (q + y ≤ slotOf x - f) := fun h => by have := i2.2 h; omega
     omega
   ·rw [if_neg hc]
    constructor
    ·rintro ⟨a1, a2⟩
     have b1 := i1.2 (by omega)
     have b2 : ¬ ((n : Int) + 1 ≤ d) := fun h => by have := i2.1 h; omega
     omega
    ·rintro ⟨a1, a2, a3⟩
     have b1 := i1.1 (by omega)
     omega
  have h0 := h15 0 (by omega)
  have e0 : f + ((0 : Nat) : Int) * y = f := by simp
  rw [e0] at h0
  have r8 := F42_l8_val K l lw f t y hf (by omega) ⟨hy1.1, by omega⟩ last hle M Q h15 (fun n => (hM n).1) (fun n => (hQ n).2.2.1) hlen (F42_c10 K) last 1 K (by omega) (by omega) (by omega)
  have e1 : f + ((1 : Nat) : Int) * y = f + y := by simp
  have e2 : ((1 : Nat) : Int) - 1 = ((0 : Nat) : Int) := by simp
  have e3 : chO f y Q 1 = [] := by simp [chO]
  rw [e1, e2, e3] at r8
  have w7 : IntKind.i64.wrap (f + y) = f + y := wrapI (by omega) (by omega)
  rw [F42, h0, Option.bind_some, (hM _).1, Option.bind_some, w7]
  refine r8.trans ?_
  rw [F42_c10]
theorem pureChanges (s : Zy) (a : A2_Int) (z : Int) (h : ok27 s) (ha : ok92 a) (_ : ok3 z) : ∃ K, F9 K s a z = some true := by
 have hml : s.Trees.length ≤ 9223372036854775807 := Nat.le_trans h.1.1 (by decide)
 refine ⟨4001 + s.Trees.length, ?_⟩
 generalize hK : 4001 + s.Trees.length = K
 have k := known_ok' K (by omega)
 rw [F9, k, Option.bind_some, if_neg (by simp), Option.bind_some, F12_val K s hml (by omega), Option.bind_some]
 by_cases hs : Sh s
 ·have b0 := (bounds_u8 ha.1 : 0 ≤ a.e0 ∧ a.e0 ≤ 255)
  have b1 := (bounds_u8 ha.2.1 : 0 ≤ a.e1 ∧ a.e1 ≤ 255)
  have g0 : ([a.e0, a.e1] : List Int).getD (0 : Int).toNat 0 = a.e0 := rfl
  have g1 : ([a.e0, a.e1] : List Int).getD (1 : Int).toNat 0 = a.e1 := rfl
  have v0 : IntKind.i64.wrap a.e0 = a.e0 := wrapI (by omega) (by omega)
  have v1 : IntKind.i64.wrap a.e1 = a.e1 := wrapI (by omega) (by omega)
  have u0 : IntKind.i64.wrap (a.e0 - 1) = a.e0 - 1 := wrapI (by omega) (by omega)
  have u1 : IntKind.i64.wrap (a.e1 - 1) = a.e1 - 1 := wrapI (by omega) (by omega)
  rw [if_neg (by simp [hs]), F39_val K h hs (by omega), Option.bind_some, if_pos (by omega), if_pos (by omega), g0, g1, v0, v1, u0, u1]
  have hlen : (tracesOf s).length ≤ 3 := Nat.le_trans (tracesTo_len s _) hs.1
  have hmem : ∀ t ∈ tracesOf s, Gt t ∧ 0 ≤ t.Id := fun t ht => by
   obtain ⟨j, j1, j2, rfl⟩ := tracesTo_mem.1 ht
   refine ⟨gt_story h hs j1 rfl ⟨by show (1 : Int) ≤ 1; decide, by show (1 : Int) ≤ 8; decide⟩, ?_⟩
   show 0 ≤ tidOf s j
   unfold tidOf
   omega
  obtain ⟨f, hf⟩ : ∃ f, a.e0 - 1 = f := ⟨_, rfl⟩
  obtain ⟨t, ht⟩ : ∃ t, a.e1 - 1 = t := ⟨_, rfl⟩
  rw [hf, ht]
  by_cases c1 : f < 0
  ·rw [F40, if_pos (by simpa using c1), F40_j2, if_pos rfl, Option.bind_some, if_pos (by simpa using c1), if_pos (by simp)]
   rfl
  ·by_cases c2 : t ≤ f
   ·rw [F40, if_neg (by simpa using c1), if_pos (by simpa using c2), F40_j2, if_pos rfl, Option.bind_some, if_neg (by simpa using c1), if_pos (by simpa using c2), if_pos (by simp)]
    rfl
   ·by_cases c3 : z < 1
    ·rw [F40, if_neg (by simpa using c1), if_neg (by simpa using c2), F40_j2, if_neg (by simp; omega), if_pos (by simpa using c3), Option.bind_some, if_neg (by simpa using c1), if_neg (by simpa using c2), if_pos (by simpa using c3), if_pos (by simp)]
     rfl
    ·obtain ⟨O, r1, r2, r3, r4⟩ := main_is K (by omega) hlen (fun t ht => (hmem t ht).1) (fun t ht => (hmem t ht).2) f t z (by omega) (by omega) (by omega) (by omega)
     have w : IntKind.i64.wrap (t - f) = t - f := wrapI (by omega) (by omega)
     rw [r1, Option.bind_some, if_neg (by simpa using c1), if_neg (by simpa using c2), if_neg (by simpa using c3), w]
     by_cases c4 : t - f ≤ z
     ·rw [if_pos (by simpa using c4), r3 c4, if_pos (by simp)]
      rfl
     ·rw [if_neg (by simpa using c4), r4 (by omega), Option.bind_some, F41_same K (by omega) O (by omega), Option.bind_some, if_pos rfl]
      rfl
 ·rw [if_pos (by simp [hs])]
end Go.AM.TopZ
