/- The program's visit of a node does so. -/
import Derived.Test.YtkhbjnkckblkjaaGreatTopZTar
namespace Go.AM.TopZ
open Go Go.AM
def ni (n : Nat) (N : Nat → Nat) : List Int := mk n fun v => ((N v : Nat) : Int)
def onT (n : Nat) (st : List Nat) : List Bool := mk n fun v => decide (v ∈ st)
theorem ni_get {n : Nat} {N : Nat → Nat} {v : Nat} (h : v < n) (z : Int) : (ni n N).getD v z = ((N v : Nat) : Int) := mk_get h z
theorem ni_len {n : Nat} {N : Nat → Nat} : (ni n N).length = n := mk_len _ _
theorem onT_get {n : Nat} {st : List Nat} {v : Nat} (h : v < n) (z : Bool) : (onT n st).getD v z = decide (v ∈ st) := mk_get h z
theorem onT_len {n : Nat} {st : List Nat} : (onT n st).length = n := mk_len _ _
theorem adj_len {n : Nat} {E : Nat → Nat → Bool} : (adj n E).length = n := mk_len _ _
theorem adj_get {n : Nat} {E : Nat → Nat → Bool} {a : Nat} (h : a < n) : (adj n E).getD a [] = nl (sel n (E a)) := mk_get h _
theorem ni_set {n : Nat} {N : Nat → Nat} {x d : Nat} : (ni n N).set x (d : Int) = ni n (upd N x d) := by
 unfold ni
 rw [mk_set]
 exact mk_ext fun v _ => by by_cases e : v = x <;> simp [upd, e]
def tup (n : Nat) (E : Nat → Nat → Bool) (c : Nat) (N L : Nat → Nat) (st : List Nat) (out : List (List Int)) : Int × List (List Int) × List Int × List Int × List Int × List Bool × List (List Int) :=
 ((c : Int), adj n E, ni n N, ni n L, nl st, onT n st, out)
theorem F130_val (K : Nat) (st s : List Nat) (x : Nat) (hx : x ∉ st) (hl : (st ++ x :: s).length ≤ 1000) (hK : 1000 < K) : F130 K (nl (st ++ x :: s)) (x : Int) = some (st.length : Int) := by
 have all : ∀ (rest pre : List Nat) (k : Nat), st = pre ++ rest → rest.length < k → F130_l2 K (nl (st ++ x :: s)) (x : Int) (F130_c3 K) k (pre.length : Int) = some (st.length : Int) := by
  intro rest
  induction rest with
  | nil =>
   intro pre k h hk
   obtain ⟨k, rfl⟩ : ∃ q, k = q + 1 := ⟨k - 1, by omega⟩
   have : pre = st := by simpa using h.symm
   subst this
   have hget : (nl (pre ++ x :: s)).getD ((pre.length : Int)).toNat 0 = (x : Int) := by rw [nl_getD, Int.toNat_natCast, getMid]
   rw [F130_l2, hget, nl_len, if_pos (by simp; omega), if_pos (by simp; omega), if_pos (by simp)]
  | cons y rest ih =>
   intro pre k h hk
   obtain ⟨k, rfl⟩ : ∃ q, k = q + 1 := ⟨k - 1, by omega⟩
   have hyx : y ≠ x := fun e => hx (by rw [h, e]; simp)
   have hget : (nl (st ++ x :: s)).getD ((pre.length : Int)).toNat 0 = (y : Int) := by
    rw [nl_getD, h, Int.toNat_natCast, show pre ++ y :: rest ++ x :: s = pre ++ y :: (rest ++ x :: s) by simp, getMid]
   have hlen : st.length = pre.length + rest.length + 1 := by rw [h]; simp; omega
   have hlen2 : (st ++ x :: s).length = st.length + s.length + 1 := by simp; omega
   rw [F130_l2, hget, nl_len, if_pos (by simp only [decide_eq_true_eq]; omega), if_pos (by omega), if_neg (by simp; omega), show IntKind.i64.wrap ((pre.length : Int) + 1) = (((pre ++ [y]).length : Nat) : Int) by rw [wrapS (by omega)]; simp]
   exact ih (pre ++ [y]) k (by rw [h]; simp) (by simpa using hk)
 have hlen2 : (st ++ x :: s).length = st.length + s.length + 1 := by simp; omega
 exact all st [] K rfl (by omega)
theorem F129_l49_val (K : Nat) {n : Nat} (st l : List Nat) (hl : ∀ x ∈ l, x < n) (hll : l.length ≤ 1000) (c : List Bool → Option (Int × List (List Int) × List Int × List Int × List Int × List Bool × List (List Int))) (hK : 1000 < K) :
  F129_l49 K (nl l) c K 0 (onT n st) = c (mk n fun v => decide (v ∈ st) && !decide (v ∈ l)) := by
 have all : ∀ (rest pre : List Nat) (k : Nat), l = pre ++ rest → rest.length < k → F129_l49 K (nl l) c k (pre.length : Int) (mk n fun v => decide (v ∈ st) && !decide (v ∈ pre)) = c (mk n fun v => decide (v ∈ st) && !decide (v ∈ l)) := by
  intro rest
  induction rest with
  | nil =>
   intro pre k h hk
   obtain ⟨k, rfl⟩ : ∃ q, k = q + 1 := ⟨k - 1, by omega⟩
   rw [F129_l49, nl_len, if_neg (by rw [h]; simp), h, List.append_nil]
  | cons y rest ih =>
   intro pre k h hk
   obtain ⟨k, rfl⟩ : ∃ q, k = q + 1 := ⟨k - 1, by omega⟩
   have hy := hl y (by rw [h]; simp)
   have hlen : l.length = pre.length + rest.length + 1 := by rw [h]; simp; omega
   have hget : (nl l).getD ((pre.length : Int)).toNat 0 = (y : Int) := by rw [nl_getD, h, Int.toNat_natCast, getMid]
   obtain ⟨n1, n2⟩ := next pre y h (by omega)
   rw [F129_l49, hget, nl_len, mk_len, Int.toNat_natCast, Int.toNat_natCast, if_pos (by simp only [decide_eq_true_eq]; omega), if_pos (by omega), if_pos (by omega), if_pos (by omega), if_pos hy, n1, mk_set]
   refine Eq.trans ?_ (ih (pre ++ [y]) k n2 (by simpa using hk))
   congr 1
   refine mk_ext fun v _ => ?_
   by_cases e : v = y
   ·subst e; simp
   ·simp [e]
 have := all l [] K rfl (by omega)
 simpa [onT] using this
theorem F129_val {n : Nat} (hn : n ≤ 1000) (E : Nat → Nat → Bool) : ∀ (u : Nat) (k : Nat) (G : Nat → Prop) (c : Nat) (N L : Nat → Nat) (st : List Nat) (out : List (List Int)) (x : Nat), unN n N ≤ u → 3000 + u < k → TI n E G c N st out → x < n → N x = 0 → (∀ g, G g → Rt n E g x) →
  ∃ c' N' L' st' out', F129 k (x : Int) (c : Int) (adj n E) (ni n N) (ni n L) (nl st) (onT n st) out = some (tup n E c' N' L' st' out') ∧ TP n E G c N L st x c' N' L' st' out' := by
 intro u
 induction u with
 | zero =>
  intro k G c N L st out x hu _ _ hx hx0
  have : x ∈ sel n fun v => decide (N v = 0) := sel_mem.2 ⟨hx, by simpa using hx0⟩
  have := List.length_pos_of_mem this
  unfold unN at hu
  omega
 | succ u ih =>
  intro k G c N L st out x hu hk hI hx hx0 hG
  obtain ⟨K, rfl⟩ : ∃ q, k = q + 1 := ⟨k - 1, by omega⟩
  have stn : ∀ {G' : Nat → Prop} {c1 : Nat} {N1 : Nat → Nat} {st1 : List Nat} {out1 : List (List Int)}, TI n E G' c1 N1 st1 out1 → st1.length ≤ n ∧ out1.length ≤ n ∧ c1 ≤ n := fun {G' c1 N1 st1 out1} h => by
   refine ⟨?_, ?_, by have := h.cn; omega⟩
   ·have := nodup_len (l := st1) (m := List.range n) (h.so.imp fun {a b} hab e => by subst e; omega) fun y hy => List.mem_range.2 (h.sm y hy).1
    simpa using this
   ·have hm : ∀ C ∈ out1, C ∈ (List.range n).map fun a => nl (scc n E a) := fun C hC => by
     obtain ⟨a, a1, _, _, a4⟩ := h.ou C hC
     exact List.mem_map.2 ⟨a, List.mem_range.2 a1, a4.symm⟩
    have := nodup_len h.od hm
    simpa using this
  have hI' := stn hI
  have hL0 := hI.start (L := L) hx hx0 hG
  -- the neighbours
  have loop : ∀ cc, ∀ (rest pre : List Nat) (k : Nat) (c1 : Nat) (N1 L1 : Nat → Nat) (st1 : List Nat) (out1 : List (List Int)), sel n (E x) = pre ++ rest → rest.length < k → TL n E G c N L st x pre c1 N1 L1 st1 out1 →
    ∃ (c2 : Nat) (N2 L2 : Nat → Nat) (st2 : List Nat) (out2 : List (List Int)), F129_l24 K (adj n E) (x : Int) (F129 K) cc k (pre.length : Int) out1 (onT n st1) (nl st1) (ni n L1) (ni n N1) (c1 : Int) (adj n E) = cc out2 (onT n st2) (nl st2) (ni n L2) (ni n N2) (c2 : Int) (adj n E) ∧ TL n E G c N L st x (sel n (E x)) c2 N2 L2 st2 out2 := by
   intro cc rest
   induction rest with
   | nil =>
    intro pre k c1 N1 L1 st1 out1 h hk hT
    obtain ⟨k, rfl⟩ : ∃ q, k = q + 1 := ⟨k - 1, by omega⟩
    refine ⟨c1, N1, L1, st1, out1, ?_, by rw [h, List.append_nil]; exact hT⟩
    rw [F129_l24, Int.toNat_natCast, adj_get hx, nl_len, if_neg (by rw [h]; simp)]
   | cons m rest ihr =>
    intro pre k c1 N1 L1 st1 out1 h hk hT
    obtain ⟨k, rfl⟩ : ∃ q, k = q + 1 := ⟨k - 1, by omega⟩
    have hm : m < n ∧ E x m = true := sel_mem.1 (by rw [h]; simp)
    have hlen : (sel n (E x)).length = pre.length + rest.length + 1 := by rw [h]; simp; omega
    have hle := sel_len n (E x)
    have hget : (nl (sel n (E x))).getD pre.length 0 = (m : Int) := by rw [nl_getD, h, getMid]
    obtain ⟨n1, n2⟩ := next pre m h (by omega)
    have hk' : rest.length < k := by simpa using hk
    have hpre : ∀ w ∈ pre, w < n := fun w hw => (sel_mem.1 (by rw [h]; simp [hw])).1
    have w := n1
    simp only [F129_l24, Int.toNat_natCast, adj_get hx, nl_len, hget, ni_len, ni_get hm.1, onT_len, onT_get hm.1, ni_get hx, F129_j72, n1]
    rw [if_pos (by simp only [decide_eq_true_eq]; omega), if_pos (by omega), if_pos (by omega), if_pos hm.1]
    by_cases e0 : N1 m = 0
    ·have hun : unN n N1 < unN n N := un_lt (fun v hv hN => by rw [(hT.mono v hv hN).1]; exact hN) hx hx0 (by rw [hT.nx]; omega)
     obtain ⟨c2, N2, L2, st2, out2, q1, q2⟩ := ih K (fun g => G g ∨ g = x) c1 N1 L1 st1 out1 m (by omega) (by omega) hT.inv hm.1 e0 fun g hg => by
      have hgx : Rt n E g x := hg.elim (hG g) fun e => by subst e; exact .refl hx
      exact .step hgx hm.1 hm.2
     have hT2 := hT.call hI hx hx0 hm.1 hm.2 e0 hpre q2
     have hmin : (if ((L2 m : Nat) : Int) < ((L2 x : Nat) : Int) then ((L2 m : Nat) : Int) else ((L2 x : Nat) : Int)) = (((if L2 m < L2 x then L2 m else L2 x) : Nat) : Int) := by
      split
      ·rw [if_pos (by omega)]
      ·rw [if_neg (by omega)]
     rw [if_pos (by simp [e0]), q1, Option.bind_some]
     simp only [tup, ni_len, ni_get hm.1, ni_get hx, hmin, ni_set]
     rw [if_pos (by omega), if_pos hx, if_pos (by omega), if_pos hm.1, if_pos (by omega), if_pos hx]
     exact ihr (pre ++ [m]) k c2 N2 _ st2 out2 n2 hk' hT2
    ·rw [if_neg (by simp; omega), if_pos (by omega), if_pos hm.1]
     by_cases e1 : m ∈ st1
     ·have hT2 := hT.onst hI hx hx0 hm.1 hm.2 e1
      have hmin : (if ((N1 m : Nat) : Int) < ((L1 x : Nat) : Int) then ((N1 m : Nat) : Int) else ((L1 x : Nat) : Int)) = (((if N1 m < L1 x then N1 m else L1 x) : Nat) : Int) := by
       split
       ·rw [if_pos (by omega)]
       ·rw [if_neg (by omega)]
      rw [if_pos (by simpa using e1), if_pos (by omega), if_pos hx, if_pos (by omega), if_pos hm.1, if_pos (by omega), if_pos hx, hmin, ni_set]
      exact ihr (pre ++ [m]) k c1 N1 _ st1 out1 n2 hk' hT2
     ·rw [if_neg (by simpa using e1)]
      exact ihr (pre ++ [m]) k c1 N1 L1 st1 out1 n2 hk' (hT.off e0 e1)
  have hsl := sel_len n (E x)
  obtain ⟨c2, N2, L2, st2, out2, q1, q2⟩ := loop (F129_c32 K (x : Int)) (sel n (E x)) [] K (c + 1) (upd N x (c + 1)) (upd L x (c + 1)) (st ++ [x]) out rfl (by omega) hL0
  have hon : (onT n st).set x true = onT n (st ++ [x]) := by
   unfold onT
   rw [mk_set]
   exact mk_ext fun v _ => by by_cases e : v = x <;> simp [e]
  have hw : IntKind.i64.wrap ((c : Int) + 1) = ((c + 1 : Nat) : Int) := wrapS (by omega)
  have unf : F129 (K + 1) (x : Int) (c : Int) (adj n E) (ni n N) (ni n L) (nl st) (onT n st) out = F129_c32 K (x : Int) out2 (onT n st2) (nl st2) (ni n L2) (ni n N2) (c2 : Int) (adj n E) := by
   simp only [F129, ni_len, onT_len, adj_len, nl_len, Int.toNat_natCast, hw, ni_set, hon]
   rw [if_pos (by omega), if_pos hx, if_pos (by omega), if_pos hx, if_pos (by simp; omega), if_pos (by omega), if_pos hx, if_pos (by omega)]
   refine Eq.trans ?_ q1
   rw [nl_app]; rfl
  rw [unf]
  by_cases he : L2 x = N2 x
  ·obtain ⟨s, s1, s2, s3, s4⟩ := q2.ext
   obtain ⟨t1, t2, t3, t4⟩ := q2.tell hI hx he s1
   have hb2 := stn q2.inv
   refine ⟨c2, N2, L2, st, out2 ++ [nl (scc n E x)], ?_, t1⟩
   have hlen : st2.length = st.length + s.length + 1 := by rw [s1]; simp; omega
   have hcut : ((nl st2).drop (0 + st.length)).take ((nl st2).length - st.length) = nl (x :: s) := by
    rw [s1, nl_app, Nat.zero_add, show st.length = (nl st).length by simp, List.drop_left, List.take_of_length_le (by simp)]
   have hcut2 : ((nl st2).drop (0 + (0 : Int).toNat)).take (st.length - (0 : Int).toNat) = nl st := by
    rw [s1, nl_app]
    have : (0 : Int).toNat = 0 := rfl
    rw [this, Nat.zero_add, Nat.sub_zero, List.drop_zero, show st.length = (nl st).length by simp, List.take_left]
   have hso : sortI (nl (x :: s)) = some (nl (scc n E x)) := by
    rw [← t2]
    exact sortI_val t3 (fun y hy => (q2.inv.sm y (by rw [s1]; exact List.mem_append.2 (.inr hy))).1) hn
   have hoff : (mk n fun v => decide (v ∈ st2) && !decide (v ∈ x :: s)) = onT n st := by
    unfold onT
    refine mk_ext fun v _ => ?_
    rw [s1, Bool.eq_iff_iff]
    simp only [Bool.and_eq_true, decide_eq_true_eq, Bool.not_eq_true', decide_eq_false_iff_not, List.mem_append]
    constructor
    ·rintro ⟨a | a, b⟩
     ·exact a
     ·exact absurd a b
    ·intro a
     refine ⟨.inl a, fun hm => ?_⟩
     have hso := q2.inv.so
     rw [s1] at hso
     have := (List.pairwise_append.1 hso).2.2 v a v hm
     omega
   rw [F129_c32]
   simp only [Int.toNat_natCast, ni_len, ni_get hx]
   rw [if_pos (by omega), if_pos hx, if_pos (by omega), if_pos hx, if_neg (by simp [he])]
   have h50 : F130 K (nl st2) (x : Int) = some (st.length : Int) := by rw [s1]; exact F130_val K st s x t4 (by rw [← s1]; omega) (by omega)
   rw [h50, Option.bind_some]
   simp only [Int.toNat_natCast]
   rw [if_pos (by rw [nl_len]; omega), if_pos (by rw [nl_len]; omega), hcut, F131, if_pos (by simp; omega), Option.bind_some, if_pos (by rw [nl_len]; omega), if_pos (by rw [nl_len]; simp; omega), if_pos (by rw [nl_len]; simp; omega),
    F129_l49_val K st2 (x :: s) (fun y hy => (q2.inv.sm y (by rw [s1]; exact List.mem_append.2 (.inr hy))).1) (by simp; omega) _ (by omega), F129_c51, hso, Option.bind_some, if_pos (by simp; omega)]
   simp only [Int.toNat_natCast]
   rw [hcut2, hoff]
   rfl
  ·have hP := q2.stay hI he
   refine ⟨c2, N2, L2, st2, out2, ?_, hP⟩
   rw [F129_c32]
   simp only [Int.toNat_natCast, ni_len, ni_get hx]
   rw [if_pos (by omega), if_pos hx, if_pos (by omega), if_pos hx, if_pos (by simp; omega)]
   rfl
end Go.AM.TopZ
