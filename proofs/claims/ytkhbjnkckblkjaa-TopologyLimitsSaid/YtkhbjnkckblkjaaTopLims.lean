/- The law: Merge is ErrLimit above 256 services, ErrOverflow above MaxSum, and else what the definition says. -/
import Derived.Test.YtkhbjnkckblkjaaTopLim2
namespace Go.AM.TopL
open Go Go.AM
theorem occ_count (k b : Nat) {L : List Nat} (hn : L.Nodup) (hL : ∀ i, i ∈ L ↔ occ k b i = true) : L.length = k + min k b := by
  have key : ∀ M : List Nat, M.Nodup → (∀ i, i ∈ M ↔ occ k b i = true) → L.length = M.length := fun M h1 h2 =>
    Nat.le_antisymm (nodup_len hn fun x hx => (h2 x).2 ((hL x).1 hx)) (nodup_len h1 fun x hx => (hL x).2 ((h2 x).1 hx))
  by_cases h : b < k
  · rw [key (List.range (b + k)) List.nodup_range fun i => by simp [occ]; omega]
    simp; omega
  · rw [key (List.range k ++ (List.range k).map (b + ·)) ?_ fun i => ?_]
    · simp; omega
    · refine List.nodup_append.2 ⟨List.nodup_range, List.Pairwise.map (R := fun a b => a ≠ b) _ (fun a b h => by omega) List.nodup_range, fun x hx y hy => ?_⟩
      simp at hx hy
      obtain ⟨z, hz, rfl⟩ := hy
      omega
    · simp only [List.mem_append, List.mem_range, List.mem_map, occ, decide_eq_true_eq]
      constructor
      · rintro (h | ⟨z, hz, rfl⟩)
        · exact .inl h
        · exact .inr (by omega)
      · rintro (h | h)
        · exact .inl h
        · exact .inr ⟨i - b, by omega, by omega⟩
theorem F5_val (K : Nat) (hK : 1000 < K) (k b : Nat) (hk : k ≤ 160) (hb : b + k ≤ 320) : F5 K (grA k 0) (grA k b) = some (if 256 < k + min k b then (Zn, 6) else (⟨inOrd k b, []⟩, 0)) := by
  obtain ⟨L, l1, l2, l3⟩ := F5_run K hK k b hk hb
  have hc := occ_count k b l1 l2
  have hL : ∀ i ∈ L, i < 320 := fun i hi => occ_lt hb ((l2 i).1 hi)
  rw [l3, F5_c11]
  by_cases h : 256 < k + min k b
  · rw [F12_many K false (by simp [ent]; omega), Option.bind_some, if_pos h]
  · have h12 := F12_val K (svc := ent (cnt k b) L) (calls := []) (S := inOrd k b) (C := []) (by simp [ent]; omega) (by simp) hK
      (fun l hl => by
        have hvals : (ent (cnt k b) L).map (·.2) = L.map (sv (cnt k b)) := by simp [ent, Function.comp_def]
        rw [hvals] at hl
        have hm : ∀ x, x ∈ l ↔ ∃ i, i ∈ L ∧ sv (cnt k b) i = x := fun x => by rw [hl.mem_iff, List.mem_map]
        refine sort_key pordS (fun _ _ => cS_zero) (·.Name) (fun a b => F22_val _ a b) (by rw [hl.length_eq]; simp; omega) (hl.nodup_iff.2 ?_) ?_ ?_ fun x => ?_
        · exact List.Pairwise.map (R := fun a b => a ≠ b ∧ a ∈ L ∧ b ∈ L) _ (fun a b h e => h.1 (nm_inj (hL a h.2.1) (hL b h.2.2) (by simpa [sv] using congrArg (·.Name) e))) (l1.imp_of_mem fun {a b} ha hb h => ⟨h, ha, hb⟩)
        · intro a ha b hb h
          obtain ⟨i, hi, rfl⟩ := (hm a).1 ha
          obtain ⟨j, hj, rfl⟩ := (hm b).1 hb
          rw [nm_inj (hL i hi) (hL j hj) h]
        · unfold inOrd
          rw [List.pairwise_map]
          exact (sel_sorted 320 (occ k b)).imp_of_mem fun {i j} hi hj h => nm_c (sel_mem.1 hi).1 (sel_mem.1 hj).1 h
        · rw [hm]
          unfold inOrd
          rw [List.mem_map]
          constructor
          · rintro ⟨i, hi, rfl⟩; exact ⟨i, sel_mem.2 ⟨hL i hi, (l2 i).1 hi⟩, rfl⟩
          · rintro ⟨i, hi, rfl⟩; exact ⟨i, (l2 i).2 (sel_mem.1 hi).2, rfl⟩)
      (fun l hl => by
        have : l = [] := List.Perm.eq_nil (by simpa using hl)
        subst this
        exact sortC0 K)
    rw [h12, Option.bind_some, if_neg h]
def one (v : Int) : Zc := ⟨[⟨[97], v, 0, 0⟩], []⟩
theorem F20_over (K : Nat) {a b : Int} (_ : 0 ≤ a) (hb : 0 ≤ b) (h : ¬ a + b ≤ 1152921504606846976) (hb' : b ≤ 1000) (o : Bool) (s : List (Str × Z4)) (c : List (Zi × Zh)) : F20 K a b o s c = some (1152921504606846976, true) := by
  rw [F20, wrapI (n := 1152921504606846976 - b) (by omega) (by omega), if_pos (by simp; omega)]
theorem F10_new (K : Nat) {v : Int} (h0 : 0 ≤ v) (h1 : v ≤ 1152921504606846976) (cs : List (Zi × Zh)) : F10 K ⟨[97], v, 0, 0⟩ false [] cs = some (false, [([97], ⟨[97], v, 0, 0⟩)]) := by
  rw [F10]
  simp only [mget_nil, Option.getD_none, Z9]
  rw [F20_val K (by omega) h0 (by omega), Option.bind_some, F20_val K (by omega) (by omega) (by omega), Option.bind_some, F20_val K (by omega) (by omega) (by omega), Option.bind_some]
  simp [mput_nil]
theorem F10_more (K : Nat) {v w : Int} (h0 : 0 ≤ v) (hw : 0 ≤ w) (hw' : w ≤ 1000) (cs : List (Zi × Zh)) :
    F10 K ⟨[97], w, 0, 0⟩ false [([97], ⟨[97], v, 0, 0⟩)] cs = some (if v + w ≤ 1152921504606846976 then (false, [([97], ⟨[97], v + w, 0, 0⟩)]) else (true, [([97], ⟨[97], 1152921504606846976, 0, 0⟩)])) := by
  rw [F10]
  have hg : (mget q_str ([97] : Str) [(([97] : Str), (⟨[97], v, 0, 0⟩ : Z4))]).getD Z9 = ⟨[97], v, 0, 0⟩ := by
    rw [mget_cons, if_pos (by simp [q_str])]; rfl
  simp only [hg]
  by_cases h : v + w ≤ 1152921504606846976
  · rw [F20_val K h0 hw h, Option.bind_some, F20_val K (by omega) (by omega) (by omega), Option.bind_some, F20_val K (by omega) (by omega) (by omega), Option.bind_some, if_pos h, mput_cons, if_pos (by simp [q_str])]
    simp
  · rw [F20_over K h0 hw h hw', Option.bind_some, F20_val K (by omega) (by omega) (by omega), Option.bind_some, F20_val K (by omega) (by omega) (by omega), Option.bind_some, if_neg h, mput_cons, if_pos (by simp [q_str])]
    simp
theorem F5_one (K : Nat) (hK : 1000 < K) {v w : Int} (h0 : 0 ≤ v) (h1 : v ≤ 1152921504606846976) (hw : 0 ≤ w) (hw' : w ≤ 1000) : F5 K (one v) (one w) = some (if v + w ≤ 1152921504606846976 then (one (v + w), 0) else (Zn, 20)) := by
  obtain ⟨K', rfl⟩ : ∃ K', K = K' + 3 := ⟨K - 3, by omega⟩
  have w1 : IntKind.i64.wrap ((0 : Int) + 1) = 1 := wrapI (by omega) (by omega)
  have w2 : IntKind.i64.wrap ((1 : Int) + 1) = 2 := wrapI (by omega) (by omega)
  have calls : ∀ (g : Int) c o s, (g = 0 ∨ g = 1) → F5_l29 (K' + 3) (one v) (one w) g s c (K' + 3) 0 o [] = c o [] := fun g c o s hg => by
    rcases hg with rfl | rfl
    · rw [F5_l29, if_neg (by simp [one])]
    · rw [F5_l29, if_neg (by simp [one])]
  have first : ∀ c, F5_l21 (K' + 3) (one v) (one w) 0 [] c (K' + 3) 0 false [] = c false [([97], ⟨[97], v, 0, 0⟩)] := fun c => by
    rw [F5_l21, if_pos (by simp [one]), if_pos (by simp [one])]
    have e : (([one v, one w].getD (0 : Int).toNat Zn).Services.getD (0 : Int).toNat Z9) = ⟨[97], v, 0, 0⟩ := rfl
    rw [e, F10_new (K' + 3) h0 h1, Option.bind_some, w1, F5_l21, if_neg (by simp [one])]
  have second : ∀ c, F5_l21 (K' + 3) (one v) (one w) 1 [] c (K' + 3) 0 false [([97], ⟨[97], v, 0, 0⟩)] = if v + w ≤ 1152921504606846976 then c false [([97], ⟨[97], v + w, 0, 0⟩)] else c true [([97], ⟨[97], 1152921504606846976, 0, 0⟩)] := fun c => by
    rw [F5_l21, if_pos (by simp [one]), if_pos (by simp [one])]
    have e : (([one v, one w].getD (1 : Int).toNat Zn).Services.getD (0 : Int).toNat Z9) = ⟨[97], w, 0, 0⟩ := rfl
    rw [e, F10_more (K' + 3) h0 hw hw', Option.bind_some, w1, F5_l21, if_neg (by simp [one])]
    split <;> rfl
  rw [F5, F9, Option.bind_some, F5_l7, if_pos (by simp), if_pos (by simp), if_pos (by simp), first, F5_c24, calls 0 _ _ _ (.inl rfl), F5_c32, w1, F5_l7, if_pos (by simp), if_pos (by simp), if_pos (by simp), second]
  have rest : ∀ o s, F5_c24 (K' + 3) (one v) (one w) 1 (F5_l7 (K' + 3) (one v) (one w) (F5_c11 (K' + 3)) (K' + 1)) [] o s = F5_c11 (K' + 3) o s [] := fun o s => by
    rw [F5_c24, calls 1 _ _ _ (.inr rfl), F5_c32, w2, F5_l7, if_neg (by simp)]
  rw [rest, rest]
  by_cases h : v + w ≤ 1152921504606846976
  · rw [if_pos h, if_pos h, F5_c11]
    have h12 := F12_val (K' + 3) (svc := [([97], ⟨[97], v + w, 0, 0⟩)]) (calls := []) (S := [⟨[97], v + w, 0, 0⟩]) (C := []) (by simp) (by simp) hK
      (fun l hl => by
        have : l = [⟨[97], v + w, 0, 0⟩] := List.perm_singleton.1 hl
        subst this
        exact sort_key pordS (fun _ _ => cS_zero) (·.Name) (fun a b => F22_val _ a b) (by simp) (by simp) (by simp) (by simp) (fun _ => Iff.rfl))
      (fun l hl => by
        have : l = [] := List.Perm.eq_nil (by simpa using hl)
        subst this
        exact sortC0 _)
    rw [h12, Option.bind_some]; rfl
  · rw [if_neg h, if_neg h, F5_c11, F12_over _ (by simp), Option.bind_some]
theorem F7_one (K : Nat) (hK : 1000 < K) {v w : Int} (h0 : 0 ≤ v) (hw : 0 ≤ w) (h : v + w ≤ 1152921504606846976) : F7 K (one v) (one w) = some (one (v + w)) := by
  obtain ⟨K', rfl⟩ : ∃ K', K = K' + 3 := ⟨K - 3, by omega⟩
  have w1 : IntKind.i64.wrap ((0 : Int) + 1) = 1 := wrapI (by omega) (by omega)
  have e13 : F13 (K' + 3) (one v) [97] = some ⟨[97], v, 0, 0⟩ := by
    rw [F13, F13_l2, if_pos (by simp [one]), if_pos (by simp [one])]
    have e : ((one v).Services.getD (0 : Int).toNat Z9) = ⟨[97], v, 0, 0⟩ := rfl
    rw [e, if_pos (by simp), if_pos (by simp [one])]
  have e14 : F14 (K' + 3) (one v) ⟨[97], v + w, 0, 0⟩ = some (one (v + w)) := by
    rw [F14, F14_l2, if_pos (by simp [one]), if_pos (by simp [one])]
    have e : ((one v).Services.getD (0 : Int).toNat Z9) = ⟨[97], v, 0, 0⟩ := rfl
    have hs : slt ([97] : Str) [97] = false := by decide
    rw [e]
    simp only [hs]
    rw [if_neg (by simp), F14_c4, if_pos (by simp [one])]
    have e2 : ((one v).Services.drop (0 : Int).toNat) = [⟨[97], v, 0, 0⟩] := rfl
    rw [e2, if_pos (by simp), if_pos (by simp), if_pos (by simp), if_pos (by simp), F14_j9, if_pos (by simp [one]), if_pos (by simp), if_pos (by simp), if_pos (by simp)]
    simp [one]
  rw [F7, F7_l3, if_pos (by simp [one]), if_pos (by simp [one])]
  have e : ((one w).Services.getD (0 : Int).toNat Z9) = ⟨[97], w, 0, 0⟩ := rfl
  rw [e]
  simp only
  rw [e13, Option.bind_some, if_pos (by simp [one]), wrapI (n := v + w) (by omega) (by omega), wrapI (n := (0 : Int) + 0) (by omega) (by omega)]
  have e0 : (⟨[97], v + w, 0 + 0, 0 + 0⟩ : Z4) = ⟨[97], v + w, 0, 0⟩ := by simp
  rw [e0, e14, Option.bind_some, w1, F7_l3, if_neg (by simp [one]), F7_c5, F7_l9, if_neg (by simp [one]), F7_c11]
theorem ok5_le {n : Int} (h : ok5 n) : 0 ≤ n ∧ n ≤ 255 := bounds_u8 h
theorem wrap8 {n : Int} (h : 0 ≤ n) (h' : n ≤ 255) : IntKind.u8.wrap n = n := by
  simp only [IntKind.wrap, IntKind.signed, IntKind.bits]
  simp
  omega
theorem nm_code {i : Nat} (hi : i < 320) : (List.map (fun n : Int => UInt8.ofNat n.toNat) [(IntKind.u8.wrap (97 + (IntKind.u8.wrap (IntKind.i64.wrap ((i : Int).tdiv 16))))), (IntKind.u8.wrap (97 + (IntKind.u8.wrap ((i : Int).tmod 16))))]) = nm i := by
  have h1 : (i : Int).tdiv 16 = (i : Int) / 16 := Int.tdiv_eq_ediv_of_nonneg (by omega)
  have h2 : (i : Int).tmod 16 = (i : Int) % 16 := Int.tmod_eq_emod_of_nonneg (by omega)
  rw [h1, h2, wrapI (by omega) (by omega), wrap8 (n := (i : Int) / 16) (by omega) (by omega), wrap8 (n := (i : Int) % 16) (by omega) (by omega), wrap8 (by omega) (by omega), wrap8 (by omega) (by omega)]
  have e1 : (97 + (i : Int) / 16).toNat = 97 + i / 16 := by omega
  have e2 : (97 + (i : Int) % 16).toNat = 97 + i % 16 := by omega
  simp only [List.map_cons, List.map_nil, e1, e2]
  rfl
theorem pureLimits (n shift : Int) (o : A2_Int) (hn : ok5 n) (hs : ok5 shift) (ho : ok22 o) : ∃ K, F3 K n shift o = some true := by
  refine ⟨4000, ?_⟩
  have hn' := ok5_le hn
  have hs' := ok5_le hs
  have ho0 := ok5_le ho.1
  have ho1 := ok5_le ho.2.1
  obtain ⟨k, hk, hk1, hk2⟩ : ∃ k : Nat, IntKind.i64.wrap (100 + IntKind.i64.wrap (n.tmod 61)) = (k : Int) ∧ 100 ≤ k ∧ k ≤ 160 := by
    rw [Int.tmod_eq_emod_of_nonneg hn'.1, wrapI (n := n % 61) (by omega) (by omega), wrapI (by omega) (by omega)]
    exact ⟨(100 + n % 61).toNat, by omega, by omega, by omega⟩
  obtain ⟨b, hb, hb1⟩ : ∃ b : Nat, IntKind.i64.wrap (shift.tmod 160) = (b : Int) ∧ b < 160 := by
    rw [Int.tmod_eq_emod_of_nonneg hs'.1, wrapI (by omega) (by omega)]
    exact ⟨(shift % 160).toNat, by omega, by omega⟩
  -- the two graphs
  have loop : ∀ c, F3_l6 4000 n shift c 4000 0 [] [] = c (grA k 0).Services (grA k b).Services := by
    intro c
    refine (forLoopF (fun q j (s : List Z4 × List Z4) => F3_l6 4000 n shift c q j s.1 s.2) (fun s => c s.1 s.2) k (fun j => ((grA j 0).Services, mk j fun i => ⟨nm (b + i), 1, 0, 0⟩)) 4000 ([], []) rfl (by omega) ?_ ?_).trans rfl
    · intro q j hj
      have w : IntKind.i64.wrap ((j : Int) + 1) = ((j + 1 : Nat) : Int) := wrapS (by omega)
      have wb : IntKind.i64.wrap ((j : Int) + (b : Int)) = ((b + j : Nat) : Int) := by rw [wrapI (by omega) (by omega)]; omega
      simp only [F3_l6, hk, hb, wb, nm_code (show j < 320 by omega), nm_code (show b + j < 320 by omega), w]
      rw [if_pos (by simpa using hj), if_pos (by simp [grA]; omega), if_pos (by simp; omega)]
      simp only [grA, mk_succ]
      simp
    · intro q; simp [F3_l6, hk]
  -- the part with one service each
  have tail : F3_j13 4000 o = some true := by
    have x0 : ([o.e0, o.e1] : List Int).getD (0 : Int).toNat 0 = o.e0 := rfl
    have x1 : ([o.e0, o.e1] : List Int).getD (1 : Int).toNat 0 = o.e1 := rfl
    rw [F3_j13, if_pos (by simp), if_pos (by simp)]
    simp only [x0, x1]
    rw [wrapI (n := o.e0) (by omega) (by omega), wrapI (n := o.e1) (by omega) (by omega), wrapI (n := 1152921504606846976 - o.e0) (by omega) (by omega), wrapI (n := 1 + o.e1) (by omega) (by omega)]
    have e5 := F5_one 4000 (by omega) (v := 1152921504606846976 - o.e0) (w := 1 + o.e1) (by omega) (by omega) (by omega) (by omega)
    have e5' : F5 4000 (⟨[⟨[97], 1152921504606846976 - o.e0, 0, 0⟩], []⟩ : Zc) (⟨[⟨[97], 1 + o.e1, 0, 0⟩], []⟩ : Zc) = _ := e5
    rw [e5', Option.bind_some, if_pos (by simp), if_pos (by simp)]
    by_cases h : 1 + o.e1 > o.e0
    · rw [if_pos (by simpa using h), if_neg (by omega)]
      simp only
      rw [F6_val 4000 (by simp [Zn]) (by simp [Zn]) (by omega), Option.bind_some, if_pos (by simp [Zn])]
      simp
    · rw [if_neg (by simpa using h), if_pos (by omega)]
      have e7 := F7_one 4000 (by omega) (v := 1152921504606846976 - o.e0) (w := 1 + o.e1) (by omega) (by omega) (by omega)
      have e7' : F7 4000 (⟨[⟨[97], 1152921504606846976 - o.e0, 0, 0⟩], []⟩ : Zc) (⟨[⟨[97], 1 + o.e1, 0, 0⟩], []⟩ : Zc) = _ := e7
      simp only
      rw [e7', Option.bind_some, F6_val 4000 (by simp [one]) (by simp [one]) (by omega), Option.bind_some, if_pos (by simp)]
      simp
  have hmin : IntKind.i64.wrap ((k : Int) + (if (b : Int) < (k : Int) then (b : Int) else (k : Int))) = ((k + min k b : Nat) : Int) := by
    split
    · rw [wrapI (by omega) (by omega)]; omega
    · rw [wrapI (by omega) (by omega)]; omega
  have ioL : (inOrd k b).length ≤ 320 := by
    unfold inOrd
    rw [List.length_map]
    exact sel_len _ _
  have e5 := F5_val 4000 (by omega) k b hk2 (by omega)
  have e5' : F5 4000 (⟨(grA k 0).Services, []⟩ : Zc) (⟨(grA k b).Services, []⟩ : Zc) = _ := e5
  have e7 := F7_val 4000 (by omega) k b hk2 (by omega)
  have e7' : F7 4000 (⟨(grA k 0).Services, []⟩ : Zc) (⟨(grA k b).Services, []⟩ : Zc) = _ := e7
  rw [F3, known_ok 2999, Option.bind_some, if_neg (by simp), loop, F3_c9, e5', Option.bind_some, hk, hb, hmin]
  by_cases h : 256 < k + min k b
  · rw [if_pos (by simp only [decide_eq_true_eq]; omega), if_pos h]
    simp only
    rw [F6_val 4000 (by simp [Zn]) (by simp [Zn]) (by omega), Option.bind_some, if_neg (by simp [Zn]), if_neg (by simp)]
    exact tail
  · rw [if_neg (by simp only [decide_eq_true_eq]; omega), if_neg h]
    simp only
    rw [e7', Option.bind_some, F6_val 4000 (by simp only; omega) (by simp) (by omega), Option.bind_some, if_neg (by simp), if_neg (by simp)]
    exact tail
end Go.AM.TopL
