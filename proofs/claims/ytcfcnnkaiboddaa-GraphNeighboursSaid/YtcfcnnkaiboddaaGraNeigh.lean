/- Out and In return the neighbours, and Reverse the graph with all edges reversed. -/
import Derived.Test.YtcfcnnkaiboddaaGraFun
import Derived.Test.YtcfcnnkaiboddaaGraKnown
namespace Go.AM.Gra
open Go Go.AM
theorem pureNeigh (p : Zu) (x : Int) (hp : ok24 p) (_ : ok3 x) : ∃ K, F6 K p x = some true := by
  refine ⟨2000, ?_⟩
  obtain ⟨n, E, hn, h14⟩ := F14_val 2000 p hp (by omega)
  have hl := el_len E hn
  have fin : F6_c13 2000 ⟨(n : Int), el n E⟩ x (tb n n E) (outs (el n E) x) (ins (el n E) x) = some true := by
    have o1 : (outs (el n E) x).length ≤ 81 := Nat.le_trans (by simp only [outs, List.length_map]; exact List.length_filter_le _ _) hl
    have o2 : (ins (el n E) x).length ≤ 81 := Nat.le_trans (by simp only [ins, List.length_map]; exact List.length_filter_le _ _) hl
    have hl' := el_len (fun a b => E b a) hn
    rw [F6_c13, F28_val _ _ _ (by omega) (by omega), Option.bind_some, F18_val _ (by omega) (by omega), Option.bind_some, if_pos (by simp), F29_val _ _ _ (by omega) (by omega), Option.bind_some,
      F18_val _ (by omega) (by omega), Option.bind_some, if_pos (by simp), F30_val _ E hn (by omega), Option.bind_some, F31_val _ E (by omega) (by omega), Option.bind_some,
      F16_val _ _ (by omega) (by omega), Option.bind_some, F27_val _ (by simp; omega) (by simp; omega), Option.bind_some, F6_j16]
    simp
  rw [F6, known_ok 1000, Option.bind_some, if_neg (by simp), h14, Option.bind_some, F16_val _ E (by omega) (by omega), Option.bind_some]
  by_cases hx : 0 ≤ x ∧ x < (n : Int)
  · obtain ⟨a, rfl⟩ : ∃ a : Nat, x = (a : Int) := ⟨x.toNat, by omega⟩
    have ha : a < n := by omega
    rw [outs_el E ha, ins_el E ha] at fin
    refine (forLoopF (fun k j (s : List Int × List Int) => F6_l10 2000 (tb n n E) (a : Int) (F6_c13 2000 ⟨(n : Int), el n E⟩ (a : Int) (tb n n E)) k j s.1 s.2) (fun s => F6_c13 2000 ⟨(n : Int), el n E⟩ (a : Int) (tb n n E) s.1 s.2) n
      (fun i => (nl (sel i (E a)), nl (sel i fun b => E b a))) 2000 ([], []) (by simp [nl, sel]) (by omega) ?_ ?_).trans fin
    · intro k i hi
      have s1 := sel_len i (E a)
      have s2 := sel_len i fun b => E b a
      have w : IntKind.i64.wrap ((i : Int) + 1) = ((i + 1 : Nat) : Int) := wrapS (by omega)
      simp only [F6_l10, tb_len]
      rw [if_pos (by simpa using hi), if_pos (by simp), F6_j35, if_pos (by simpa using ha), tb_len, if_pos (by omega), Int.toNat_natCast, Int.toNat_natCast, tb_row ha, mk_len, if_pos (by omega), mk_get hi]
      simp only [F6_j39, F6_j43, tb_len, Int.toNat_natCast, tb_row hi, mk_len, mk_get ha, w, sel_succ]
      by_cases e1 : E a i = true <;> by_cases e2 : E i a = true <;> simp only [e1, e2, if_true, if_false, Bool.false_eq_true, nl_len, List.length_cons, List.length_nil] <;> (repeat' rw [if_pos (by omega)]) <;> simp [nl]
    · intro k; simp [F6_l10, F6_j35]
  · rw [outs_no E hx, ins_no E hx] at fin
    rw [F6_l10]
    simp only [tb_len]
    split
    · by_cases h0 : x ≥ 0
      · rw [if_pos (by simpa using h0), F6_j35, if_neg (by simp; omega)]; exact fin
      · rw [if_neg (by simpa using h0), F6_j35, if_neg (by simp)]; exact fin
    · rw [F6_j35, if_neg (by simp)]; exact fin
end Go.AM.Gra
