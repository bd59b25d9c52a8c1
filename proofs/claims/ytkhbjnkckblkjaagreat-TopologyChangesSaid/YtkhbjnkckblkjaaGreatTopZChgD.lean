/- One step of Changes does what the model's step does. -/
import Derived.Test.YtkhbjnkckblkjaaGreatTopZG3
import Derived.Test.YtkhbjnkckblkjaaGreatTopZG4
import Derived.Test.YtkhbjnkckblkjaaGreatTopZChgC
namespace Go.AM.TopZ
open Go Go.AM
structure Bt (l : List Zo) (m : Zd) : Prop where
 s : KS.Is cS (allS l) m.Services
 c : KC.Is cQ (allC l) m.Calls
theorem allC_one {l : List Zo} (hg : ∀ t ∈ l, Gt t) : ∀ x ∈ allC l, 1 ≤ x.Count := fun x hx => by
 obtain ⟨t, t1, t2⟩ := List.mem_flatMap.1 hx
 obtain ⟨s, s1, s2⟩ := List.mem_flatMap.1 t2
 have hw := (hg t t1).ws.wt
 unfold evC at s2
 split at s2
 ·split at s2
  ·simp at s2
  ·simp at s2; subst s2; exact hw.1
 ·simp at s2
theorem Bt.count {l : List Zo} (hg : ∀ t ∈ l, Gt t) {m : Zd} (h : Bt l m) : ∀ t ∈ m.Calls, 1 ≤ t.Count := fun t ht => by
 obtain ⟨⟨x, x1, x2⟩, e⟩ := (h.c.2 t).1 ht
 have h1 := sm_mem (f := KC.f) (g := KC.g1) (L := allC l) (fun y hy => by have := allC_one hg y hy; show 0 ≤ y.Count; omega) x1
 have h2 := allC_one hg x x1
 rw [x2] at h1
 have e1 : t.Count = sm KC.f KC.g1 (allC l) (KC.f t) := congrArg Zl.Count e
 have h3 : KC.g1 x = x.Count := rfl
 omega
theorem KM3 {m : Zd} {S T : Str} : KM m 1 3 ⟨3, S, T⟩ ↔ hasK m.Calls ⟨S, T⟩ = true := by
 rw [hasK_iff]
 constructor
 ·rintro (⟨t, _, e⟩ | ⟨t, t1, e⟩)
  ·have := congrArg Z7.Kind e; simp at this
  ·refine ⟨t, t1, ?_⟩
   have e1 := congrArg Z7.Service e
   have e2 := congrArg Z7.Target e
   simp only at e1 e2
   rw [e1, e2]; rfl
 ·rintro ⟨t, t1, e⟩
  refine .inr ⟨t, t1, ?_⟩
  have e1 : t.Caller = S := congrArg Zu.caller e
  have e2 : t.Callee = T := congrArg Zu.callee e
  rw [e1, e2]
theorem KM4 {m : Zd} {S T : Str} : KM m 2 4 ⟨4, S, T⟩ ↔ hasK m.Calls ⟨S, T⟩ = true := by
 rw [hasK_iff]
 constructor
 ·rintro (⟨t, _, e⟩ | ⟨t, t1, e⟩)
  ·have := congrArg Z7.Kind e; simp at this
  ·refine ⟨t, t1, ?_⟩
   have e1 := congrArg Z7.Service e
   have e2 := congrArg Z7.Target e
   simp only at e1 e2
   rw [e1, e2]; rfl
 ·rintro ⟨t, t1, e⟩
  refine .inr ⟨t, t1, ?_⟩
  have e1 : t.Caller = S := congrArg Zu.caller e
  have e2 : t.Callee = T := congrArg Zu.callee e
  rw [e1, e2]
theorem DM3 {x y : Zd} {S T : Str} : DM x y ⟨3, S, T⟩ ↔ hasK y.Calls ⟨S, T⟩ = true ∧ hasK x.Calls ⟨S, T⟩ = false := by
 have h0 : ∀ m, ¬ KM m 2 4 ⟨3, S, T⟩ := fun m h => by
  rcases KM_kind h with h | h <;> simp at h
 unfold DM
 rw [KM3, KM3]
 simp [h0]
theorem DM4 {x y : Zd} {S T : Str} : DM x y ⟨4, S, T⟩ ↔ hasK x.Calls ⟨S, T⟩ = true ∧ hasK y.Calls ⟨S, T⟩ = false := by
 have h0 : ∀ m, ¬ KM m 1 3 ⟨4, S, T⟩ := fun m h => by
  rcases KM_kind h with h | h <;> simp at h
 unfold DM
 rw [KM4, KM4]
 simp [h0]
theorem step_is (K : Nat) (hK : 3000 < K) {lx ly : List Zo} (n1 : lx.length ≤ 3) (n2 : ly.length ≤ 3) (gx : ∀ t ∈ lx, Gt t) (gy : ∀ t ∈ ly, Gt t) {x y : Zd} (hx : Bt lx x) (hy : Bt ly y) :
  ∃ Q : List Pr, Q.length ≤ (allC lx).length + (allC ly).length ∧ (∀ k, k ∈ Q ↔ xk x.Calls y.Calls k = true) ∧
   (∀ at_ c acc, acc.length ≤ 1000 → (F60 K x y).bind (fun v => F42_l21 K v x y at_ c K 0 acc) = c (acc ++ numb at_ acc.length Q)) ∧
   (∀ (a1 : Tapi_Interval) (n a2 at_ : Int) b acc, IntKind.i64.wrap (a1.From + (IntKind.i64.wrap (n * (if 1048576 < a2 then 1048576 else a2)))) = at_ → acc.length ≤ 1000 →
    (F23 K x y).bind (fun v => F40_l37 K v a1 n a2 (F40_c39 K b n acc) K 0 []) = F40_c47 K b n (acc ++ numb at_ acc.length Q)) := by
 have ax1 := allS_len gx
 have ax2 := allC_len gx
 have ay1 := allS_len gy
 have ay2 := allC_len gy
 have lx1 := hx.s.len pordS
 have lx2 := hx.c.len pordQ
 have ly1 := hy.s.len pordS
 have ly2 := hy.c.len pordQ
 obtain ⟨S, C, r1, r2, r3⟩ := F60_is K (by omega) (a := x) (b := y) (L := allS lx) (M := allC lx) (by omega) (by omega) (allS_B gx) (allC_B gx) (built_BS n2 gy hy.s) (built_BC n2 gy hy.c) hx.s hx.c
 have lC := r3.len pordQ
 rw [List.length_append] at lC
 let Q := (C.filter fun t => xk x.Calls y.Calls (KC.f t)).map KC.f
 have strict : Q.Pairwise fun a b => cQ a b < 0 := by
  refine List.pairwise_map.2 ?_
  exact r3.1.sublist List.filter_sublist
 have inK : ∀ {l : List Zo} {m : Zd}, Bt l m → ∀ k, hasK m.Calls k = true → ∃ z ∈ allC l, KC.f z = k := fun {l m} h k hk => by
  obtain ⟨t, t1, t2⟩ := hasK_iff.1 hk
  obtain ⟨⟨z, z1, z2⟩, _⟩ := (h.c.2 t).1 t1
  exact ⟨z, z1, by rw [z2, t2]⟩
 have mem : ∀ k, k ∈ Q ↔ xk x.Calls y.Calls k = true := fun k => by
  constructor
  ·intro h
   obtain ⟨t, t1, t2⟩ := List.mem_map.1 h
   rw [← t2]
   exact (List.mem_filter.1 t1).2
  ·intro h
   have : ∃ z ∈ allC lx ++ y.Calls, KC.f z = k := by
    cases h1 : hasK x.Calls k with
    | true =>
     obtain ⟨z, z1, z2⟩ := inK hx k h1
     exact ⟨z, by simp [z1], z2⟩
    | false =>
     cases h2 : hasK y.Calls k with
     | true =>
      obtain ⟨z, z1, z2⟩ := hasK_iff.1 h2
      exact ⟨z, by simp [z1], z2⟩
     | false => simp [xk, h1, h2] at h
   refine List.mem_map.2 ⟨KC.tot (allC lx ++ y.Calls) k, List.mem_filter.2 ⟨(r3.2 _).2 ⟨?_, by rw [Kd.tot_f]⟩, by rw [Kd.tot_f]; exact h⟩, Kd.tot_f _ _⟩
   rw [Kd.tot_f]; exact this
 have nod : Q.Nodup := strict.imp fun {a b} h e => by subst e; rw [pordQ.refl] at h; omega
 have len : Q.length ≤ x.Calls.length + y.Calls.length := by
  have := nodup_len' (m := x.Calls.map KC.f ++ y.Calls.map KC.f) nod fun k hk => by
   have h := (mem k).1 hk
   rw [List.mem_append, List.mem_map, List.mem_map]
   cases h1 : hasK x.Calls k with
   | true =>
    obtain ⟨z, z1, z2⟩ := hasK_iff.1 h1
    exact .inl ⟨z, z1, z2⟩
   | false =>
    cases h2 : hasK y.Calls k with
    | true =>
     obtain ⟨z, z1, z2⟩ := hasK_iff.1 h2
     exact .inr ⟨z, z1, z2⟩
    | false => simp [xk, h1, h2] at h
  simpa using this
 refine ⟨Q, by omega, mem, fun at_ c acc hacc => ?_, fun a1 n a2 at_ b acc hat hacc => ?_⟩
 ·rw [r1, Option.bind_some]
  exact F42_l21_val K (by omega) ⟨S, C⟩ x y at_ c (by omega) (by omega) (by simp only; omega) (hx.count gx) (hy.count gy) C [] K acc rfl (by omega) (by omega)
 ·obtain ⟨L, q1, q2, q3, q4⟩ := F23_gen K (by omega) (x := x) (y := y) (by omega) (by omega) (by omega) (by omega)
  rw [q1, Option.bind_some]
  refine (F40_l37_val K L a1 n a2 at_ hat _ (by omega) L [] K [] rfl (by omega) (by simp; omega)).trans ?_
  rw [List.nil_append, F40_c39]
  have hs : sortF (fun a b => F87 K a b) ((L.filter fun d => d.Kind == 3 || d.Kind == 4).map fun d => chg at_ ⟨d.Service, d.Target⟩) = some (Q.map (chg at_)) := by
   refine sort_key pordQ (fun _ _ => cQ_zero) (fun a : Chg => (⟨a.Service, a.Target⟩ : Pr)) (fun a b => F87_val K (by omega) a b) ?_ ?_ (fun a ha b hb e => ?_) ?_ fun c => ?_
   ·rw [List.length_map]
    exact Nat.le_trans (List.length_filter_le _ _) (by omega)
   ·unfold List.Nodup
    rw [List.pairwise_map]
    have hp : L.Pairwise fun a b => cD a b < 0 := q2
    refine (hp.sublist (List.filter_sublist (p := fun d : Df => d.Kind == 3 || d.Kind == 4))).imp_of_mem fun {d e} hd he hlt hc => ?_
    obtain ⟨d1, d2⟩ := List.mem_filter.1 hd
    obtain ⟨e1, e2⟩ := List.mem_filter.1 he
    have u1 := congrArg Zw.Service hc
    have u2 := congrArg Zw.Target hc
    have v1 := (q3 d).1 d1
    have v2 := (q3 e).1 e1
    obtain ⟨dk, ds, dt⟩ := d
    obtain ⟨ek, es, et⟩ := e
    simp only [chg] at u1 u2
    subst u1
    subst u2
    simp only [Bool.or_eq_true, beq_iff_eq] at d2 e2
    rcases d2 with rfl | rfl <;> rcases e2 with rfl | rfl
    ·rw [pordD.refl] at hlt; omega
    ·rw [DM3] at v1; rw [DM4] at v2; simp [v1.1] at v2
    ·rw [DM4] at v1; rw [DM3] at v2; simp [v1.1] at v2
    ·rw [pordD.refl] at hlt; omega
   ·obtain ⟨d, _, rfl⟩ := List.mem_map.1 ha
    obtain ⟨d', _, rfl⟩ := List.mem_map.1 hb
    have e1 := congrArg Zu.caller e
    have e2 := congrArg Zu.callee e
    simp only [chg] at e1 e2
    rw [e1, e2]
   ·exact List.pairwise_map.2 strict
   ·rw [List.mem_map, List.mem_map]
    constructor
    ·rintro ⟨d, d1, rfl⟩
     obtain ⟨d1, d2⟩ := List.mem_filter.1 d1
     have v := (q3 d).1 d1
     obtain ⟨dk, ds, dt⟩ := d
     simp only [Bool.or_eq_true, beq_iff_eq] at d2
     refine ⟨⟨ds, dt⟩, (mem _).2 ?_, rfl⟩
     rcases d2 with rfl | rfl
     ·rw [DM3] at v; simp [xk, v.1, v.2]
     ·rw [DM4] at v; simp [xk, v.1, v.2]
    ·rintro ⟨k, k1, rfl⟩
     have h := (mem k).1 k1
     obtain ⟨s, t⟩ := k
     cases h1 : hasK x.Calls ⟨s, t⟩ with
     | true =>
      cases h2 : hasK y.Calls ⟨s, t⟩ with
      | true => simp [xk, h1, h2] at h
      | false => exact ⟨⟨4, s, t⟩, List.mem_filter.2 ⟨(q3 _).2 (DM4.2 ⟨h1, h2⟩), by simp⟩, rfl⟩
     | false =>
      cases h2 : hasK y.Calls ⟨s, t⟩ with
      | true => exact ⟨⟨3, s, t⟩, List.mem_filter.2 ⟨(q3 _).2 (DM3.2 ⟨h2, h1⟩), by simp⟩, rfl⟩
      | false => simp [xk, h1, h2] at h
  rw [hs, Option.bind_some]
  exact F40_l45_val K at_ Q _ (by omega) Q [] K acc rfl (by omega) (by omega)
end Go.AM.TopZ
