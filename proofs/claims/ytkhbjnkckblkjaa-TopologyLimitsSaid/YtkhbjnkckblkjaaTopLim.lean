/- Merge of two service graphs: its limits. -/
import Derived.Test.YtkhbjnkckblkjaaTopLKnown
import Derived.Test.YtkhbjnkckblkjaaTopLOk
import Derived.OpenShut
namespace Go.AM.TopL
open Go Go.AM
def nm (i : Nat) : Str := [UInt8.ofNat (97 + i / 16), UInt8.ofNat (97 + i % 16)]
def sv (c : Nat → Nat) (i : Nat) : Z4 := ⟨nm i, (c i : Int), 0, 0⟩
theorem byte_lt {a b : Nat} (ha : a < 256) (hb : b < 256) : (UInt8.ofNat a < UInt8.ofNat b) ↔ a < b := by
  rw [UInt8.lt_iff_toNat_lt]
  simp only [UInt8.toNat_ofNat']
  omega
theorem byte_eq {a b : Nat} (ha : a < 256) (hb : b < 256) : (UInt8.ofNat a = UInt8.ofNat b) ↔ a = b := by
  rw [← UInt8.toNat_inj]
  simp only [UInt8.toNat_ofNat']
  omega
theorem nm_lt {i j : Nat} (hi : i < 320) (hj : j < 320) : slt (nm i) (nm j) = decide (i < j) := by
  have e : slt (nm i) (nm j) = (decide (UInt8.ofNat (97 + i / 16) < UInt8.ofNat (97 + j / 16)) || (UInt8.ofNat (97 + i / 16) == UInt8.ofNat (97 + j / 16) && (decide (UInt8.ofNat (97 + i % 16) < UInt8.ofNat (97 + j % 16)) || (UInt8.ofNat (97 + i % 16) == UInt8.ofNat (97 + j % 16) && slt [] [])))) := rfl
  rw [e, Bool.eq_iff_iff]
  simp only [Bool.or_eq_true, Bool.and_eq_true, decide_eq_true_eq, beq_iff_eq, byte_lt (a := 97 + i / 16) (b := 97 + j / 16) (by omega) (by omega), byte_eq (a := 97 + i / 16) (b := 97 + j / 16) (by omega) (by omega), byte_lt (a := 97 + i % 16) (b := 97 + j % 16) (by omega) (by omega), byte_eq (a := 97 + i % 16) (b := 97 + j % 16) (by omega) (by omega)]
  have : slt ([] : Str) [] = false := rfl
  rw [this]
  simp only [Bool.false_eq_true, and_false, or_false]
  omega
theorem nm_inj {i j : Nat} (hi : i < 320) (hj : j < 320) (h : nm i = nm j) : i = j := by
  have a := nm_lt hi hj
  have b := nm_lt hj hi
  rw [h] at a b
  have : slt (nm j) (nm j) = false := by rw [nm_lt hj hj]; simp
  rw [this] at a b
  have a' : ¬ i < j := by simpa using a.symm
  have b' : ¬ j < i := by simpa using b.symm
  omega
theorem nm_c {i j : Nat} (hi : i < 320) (hj : j < 320) (h : i < j) : cS (nm i) (nm j) < 0 := by
  rw [← cS_slt, nm_lt hi hj, if_pos (by simpa using h)]
  decide
def ent (c : Nat → Nat) (L : List Nat) : List (Str × Z4) := L.map fun i => (nm i, sv c i)
theorem ent_get (c : Nat → Nat) {x : Nat} (hx : x < 320) : ∀ (L : List Nat), (∀ i ∈ L, i < 320) → mget q_str (nm x) (ent c L) = if x ∈ L then some (sv c x) else none
  | [], _ => rfl
  | y :: L, h => by
    have ih := ent_get c hx L fun i hi => h i (by simp [hi])
    have hy := h y (by simp)
    unfold ent at ih ⊢
    rw [List.map_cons, mget_cons, ih]
    by_cases e : x = y
    · subst e; simp [q_str]
    · have : ¬ nm x = nm y := fun h => e (nm_inj hx hy h)
      simp [q_str, this, e]
theorem ent_put (c : Nat → Nat) {x : Nat} (hx : x < 320) (d : Nat) : ∀ (L : List Nat), (∀ i ∈ L, i < 320) → L.Nodup → mput q_str (nm x) (sv (fun _ => d) x) (ent c L) = ent (fun i => if i = x then d else c i) (if x ∈ L then L else L ++ [x])
  | [], _, _ => by simp [ent, mput_nil, sv]
  | y :: L, h, hn => by
    obtain ⟨n1, n2⟩ := List.nodup_cons.1 hn
    have ih := ent_put c hx d L (fun i hi => h i (by simp [hi])) n2
    have hy := h y (by simp)
    unfold ent at ih ⊢
    rw [List.map_cons, mput_cons]
    by_cases e : x = y
    · subst e
      rw [if_pos (by simp [q_str]), if_pos (by simp), List.map_cons]
      congr 1
      · simp [sv]
      · refine List.map_congr_left fun i hi => ?_
        have : i ≠ x := fun e => n1 (e ▸ hi)
        simp [sv, this]
    · have hne : ¬ nm x = nm y := fun h => e (nm_inj hx hy h)
      have hne' : ¬ y = x := fun h => e h.symm
      rw [if_neg (by simp [q_str, hne]), ih]
      by_cases hm : x ∈ L
      · rw [if_pos hm, if_pos (by simp [hm]), List.map_cons]
        simp [sv, hne']
      · rw [if_neg hm, if_neg (by simp [e, hm]), List.cons_append, List.map_cons]
        simp [sv, hne']
theorem F20_val (K : Nat) {a b : Int} (ha : 0 ≤ a) (hb : 0 ≤ b) (h : a + b ≤ 1152921504606846976) (o : Bool) (s : List (Str × Z4)) (c : List (Zi × Zh)) : F20 K a b o s c = some (a + b, o) := by
  rw [F20, wrapI (n := 1152921504606846976 - b) (by omega) (by omega), if_neg (by simp; omega), wrapI (by omega) (by omega)]
theorem F10_val (K : Nat) (c : Nat → Nat) {x : Nat} (hx : x < 320) (L : List Nat) (hL : ∀ i ∈ L, i < 320) (hn : L.Nodup) (hc : ∀ i, c i ≤ 1000) (h0 : x ∉ L → c x = 0) (o : Bool) (cs : List (Zi × Zh)) :
    F10 K ⟨nm x, 1, 0, 0⟩ o (ent c L) cs = some (o, ent (fun i => if i = x then c x + 1 else c i) (if x ∈ L then L else L ++ [x])) := by
  have hg : (mget q_str (nm x) (ent c L)).getD Z9 = ⟨(if x ∈ L then nm x else []), (c x : Int), 0, 0⟩ := by
    rw [ent_get c hx L hL]
    by_cases h : x ∈ L
    · simp [h, sv]
    · simp [h, Z9, h0 h]
  have hcx := hc x
  rw [F10]
  simp only [hg]
  rw [F20_val K (by omega) (by omega) (by omega), Option.bind_some, F20_val K (by omega) (by omega) (by omega), Option.bind_some, F20_val K (by omega) (by omega) (by omega), Option.bind_some]
  have e : (⟨nm x, (c x : Int) + 1, 0 + 0, 0 + 0⟩ : Z4) = sv (fun _ => c x + 1) x := by simp [sv]
  simp only [e]
  rw [ent_put c hx (c x + 1) L hL hn]
theorem F5_l21_val (K : Nat) (a0 a1 : Zc) (g : Nat) (m : Zc) (hm : [a0, a1].getD ((g : Int)).toNat Zn = m) (b : Nat) (n : Nat) (hb : b + n ≤ 320) (hs : m.Services = mk n fun i => ⟨nm (b + i), 1, 0, 0⟩) (cs : List (Zi × Zh)) (c : Bool → List (Str × Z4) → Option (Zc × Int)) (hK : 1000 < K)
    (c0 : Nat → Nat) (L0 : List Nat) (h0 : ∀ i ∈ L0, i < 320) (n0 : L0.Nodup) (hc0 : ∀ i, c0 i ≤ 1) (hz : ∀ i, i ∉ L0 → c0 i = 0) :
    ∃ L, L.Nodup ∧ (∀ i, i ∈ L ↔ i ∈ L0 ∨ b ≤ i ∧ i < b + n) ∧ F5_l21 K a0 a1 (g : Int) cs c K 0 false (ent c0 L0) = c false (ent (fun i => c0 i + if b ≤ i ∧ i < b + n then 1 else 0) L) := by
  rw [Int.toNat_natCast] at hm
  obtain ⟨⟨o, s⟩, ⟨L, rfl, rfl, h1, h2⟩, h3⟩ := forLoop0 (fun k j (s : Bool × List (Str × Z4)) => F5_l21 K a0 a1 (g : Int) cs c k j s.1 s.2) (fun s => c s.1 s.2) n
    (fun j s => ∃ L, s.1 = false ∧ s.2 = ent (fun i => c0 i + if b ≤ i ∧ i < b + j then 1 else 0) L ∧ L.Nodup ∧ ∀ i, i ∈ L ↔ i ∈ L0 ∨ b ≤ i ∧ i < b + j) K (false, ent c0 L0)
    ⟨L0, rfl, by simp only; congr 1; funext i; rw [if_neg (by omega)]; rfl, n0, fun i => ⟨.inl, fun h => h.elim id fun h => by omega⟩⟩ (by omega)
    (by
      rintro k j ⟨o, s⟩ hj ⟨L, rfl, rfl, h1, h2⟩
      have w : IntKind.i64.wrap ((j : Int) + 1) = ((j + 1 : Nat) : Int) := wrapS (by omega)
      simp only [F5_l21, hm, hs, mk_len, Int.toNat_natCast, mk_get hj]
      rw [if_pos (by simpa using hj), if_pos (by omega), F10_val K _ (by omega) L (fun i hi => by
          rcases (h2 i).1 hi with h | h
          · exact h0 i h
          · omega) h1 (fun i => by have := hc0 i; split <;> omega) (fun hx => by
          have : ¬ (b + j ∈ L0) := fun h => hx ((h2 _).2 (.inl h))
          rw [hz _ this, if_neg (by omega)]), Option.bind_some, w]
      refine ⟨_, ⟨if b + j ∈ L then L else L ++ [b + j], rfl, ?_, ?_, fun i => ?_⟩, rfl⟩
      · simp only
        congr 1
        funext i
        by_cases e : i = b + j
        · subst e; rw [if_pos rfl, if_neg (by omega), if_pos (by omega)]
        · rw [if_neg e]
          have : (b ≤ i ∧ i < b + j) ↔ (b ≤ i ∧ i < b + (j + 1)) := by omega
          simp only [this]
      · split
        · exact h1
        · next hx =>
          refine List.nodup_append.2 ⟨h1, by simp, fun y hy z hz => ?_⟩
          simp at hz; subst hz
          intro e; subst e; exact hx hy
      · by_cases hx : b + j ∈ L
        · rw [if_pos hx, h2]
          constructor
          · rintro (h | h)
            · exact .inl h
            · exact .inr (by omega)
          · rintro (h | h)
            · exact .inl h
            · by_cases e : i = b + j
              · subst e; exact (h2 _).1 hx
              · exact .inr (by omega)
        · rw [if_neg hx, List.mem_append, h2]
          simp only [List.mem_singleton]
          constructor
          · rintro ((h | h) | h)
            · exact .inl h
            · exact .inr (by omega)
            · exact .inr (by omega)
          · rintro (h | h)
            · exact .inl (.inl h)
            · by_cases e : i = b + j
              · exact .inr e
              · exact .inl (.inr (by omega)))
    (fun k s _ => by simp only [F5_l21, Int.toNat_natCast, hm, hs, mk_len]; rw [if_neg (by simp)])
  exact ⟨L, h1, h2, h3⟩
def grA (n b : Nat) : Zc := ⟨mk n fun i => ⟨nm (b + i), 1, 0, 0⟩, []⟩
def cnt (k b : Nat) (i : Nat) : Nat := (if i < k then 1 else 0) + (if b ≤ i ∧ i < b + k then 1 else 0)
def occ (k b : Nat) (i : Nat) : Bool := decide (i < k ∨ b ≤ i ∧ i < b + k)
theorem F5_run (K : Nat) (hK : 1000 < K) (k b : Nat) (hk : k ≤ 160) (hb : b + k ≤ 320) : ∃ L, L.Nodup ∧ (∀ i, i ∈ L ↔ occ k b i = true) ∧ F5 K (grA k 0) (grA k b) = F5_c11 K false (ent (cnt k b) L) [] := by
  obtain ⟨K', rfl⟩ : ∃ K', K = K' + 3 := ⟨K - 3, by omega⟩
  have calls : ∀ (g : Nat) (bb : Nat), [grA k 0, grA k b].getD ((g : Int)).toNat Zn = grA k bb → ∀ c s, F5_l29 (K' + 3) (grA k 0) (grA k b) (g : Int) s c (K' + 3) 0 false [] = c false [] := fun g bb h c s => by
    rw [F5_l29, h, if_neg (by simp [grA])]
  obtain ⟨L1, l1, l2, l3⟩ := F5_l21_val (K' + 3) (grA k 0) (grA k b) 0 (grA k 0) rfl 0 k (by omega) rfl [] (F5_c24 (K' + 3) (grA k 0) (grA k b) ((0 : Nat) : Int) (F5_l7 (K' + 3) (grA k 0) (grA k b) (F5_c11 (K' + 3)) (K' + 2)) []) hK (fun _ => 0) [] (by simp) (by simp) (by simp) (by simp)
  have hL1 : ∀ i, i ∈ L1 ↔ i < k := fun i => by rw [l2]; simp
  obtain ⟨L2, m1, m2, m3⟩ := F5_l21_val (K' + 3) (grA k 0) (grA k b) 1 (grA k b) rfl b k hb rfl [] (F5_c24 (K' + 3) (grA k 0) (grA k b) ((1 : Nat) : Int) (F5_l7 (K' + 3) (grA k 0) (grA k b) (F5_c11 (K' + 3)) (K' + 1)) []) hK (fun i => 0 + if 0 ≤ i ∧ i < 0 + k then 1 else 0) L1 (fun i hi => by have := (hL1 i).1 hi; omega) l1 (fun i => by split <;> omega) (fun i hi => by rw [if_neg (fun h => hi ((hL1 i).2 (by omega)))])
  refine ⟨L2, m1, fun i => ?_, ?_⟩
  · rw [m2, hL1]; simp [occ]
  · rw [F5, F9, Option.bind_some, F5_l7, if_pos (by simp), if_pos (by simp), if_pos (by simp)]
    have l3' : F5_l21 (K' + 3) (grA k 0) (grA k b) 0 [] (F5_c24 (K' + 3) (grA k 0) (grA k b) 0 (F5_l7 (K' + 3) (grA k 0) (grA k b) (F5_c11 (K' + 3)) (K' + 2)) []) (K' + 3) 0 false [] = _ := l3
    rw [l3', F5_c24, calls 0 0 rfl, F5_c32]
    have w1 : IntKind.i64.wrap (((0 : Nat) : Int) + 1) = ((1 : Nat) : Int) := wrapS (by omega)
    rw [w1, F5_l7, if_pos (by simp), if_pos (by simp), if_pos (by simp), m3, F5_c24, calls 1 b rfl, F5_c32]
    have w2 : IntKind.i64.wrap (((1 : Nat) : Int) + 1) = ((2 : Nat) : Int) := wrapS (by omega)
    rw [w2, F5_l7, if_neg (by simp)]
    congr 2
    funext i
    simp [cnt]
def inOrd (k b : Nat) : List Z4 := (sel 320 (occ k b)).map (sv (cnt k b))
theorem occ_lt {k b i : Nat} (hb : b + k ≤ 320) (h : occ k b i = true) : i < 320 := by
  simp [occ] at h; omega
end Go.AM.TopL
