/- Sums of services and of calls. -/
import Derived.Test.YtkhbjnkckblkjaaGreatTopZG0
import Derived.Test.YtkhbjnkckblkjaaGreatTopZChecks
import Derived.Test.YtkhbjnkckblkjaaGreatPureTot
namespace Go.AM.TopZ
open Go Go.AM
def KS : Kd Zc Str := ⟨(·.Name), (·.Spans), (·.Errors), (·.Roots), fun k a b c => ⟨k, a, b, c⟩, fun _ _ _ _ => rfl, fun _ _ _ _ => rfl, fun _ _ _ _ => rfl, fun _ _ _ _ => rfl⟩
def KC : Kd Zl Zu := ⟨fun c => ⟨c.Caller, c.Callee⟩, (·.Count), (·.Errors), (·.Time), fun k a b c => ⟨k.caller, k.callee, a, b, c⟩, fun _ _ _ _ => rfl, fun _ _ _ _ => rfl, fun _ _ _ _ => rfl, fun _ _ _ _ => rfl⟩
def cQ (a b : Zu) : Int := cP (a.caller, a.callee) (b.caller, b.callee)
theorem pordQ : POrd cQ := pordP.comap fun p : Zu => (p.caller, p.callee)
theorem cQ_zero {a b : Zu} (h : cQ a b = 0) : a = b := by
 have := cP_zero h
 cases a; cases b; simp_all
theorem lawS : LawEq q_str := fun a b => by simp [q_str]
theorem lawQ : LawEq q_Ttopology_pair := fun a b => by
 cases a; cases b; simp [q_Ttopology_pair]
theorem lawI : LawEq q_i64 := fun a b => by simp [q_i64]
def BS (x : Zc) : Prop := (0 ≤ x.Spans ∧ x.Spans ≤ 1000000000) ∧ (0 ≤ x.Errors ∧ x.Errors ≤ 1000000000) ∧ (0 ≤ x.Roots ∧ x.Roots ≤ 1000000000)
def BC (x : Zl) : Prop := (0 ≤ x.Count ∧ x.Count ≤ 1000000000) ∧ (0 ≤ x.Errors ∧ x.Errors ≤ 1000000000) ∧ (0 ≤ x.Time ∧ x.Time ≤ 1000000000)
theorem smB {α κ : Type} [DecidableEq κ] {f : α → κ} {g : α → Int} {L : List α} (hl : L.length ≤ 1000) (h : ∀ x ∈ L, 0 ≤ g x ∧ g x ≤ 1000000000) (k : κ) : 0 ≤ sm f g L k ∧ sm f g L k ≤ 1000000000000 := by
 have := sm_bound (f := f) h k
 have h2 : (L.length : Int) * 1000000000 ≤ 1000 * 1000000000 := Int.mul_le_mul_of_nonneg_right (by omega) (by omega)
 omega
theorem smS {L : List Zc} (hl : L.length ≤ 1000) (h : ∀ x ∈ L, BS x) (k : Str) : (0 ≤ sm KS.f KS.g1 L k ∧ sm KS.f KS.g1 L k ≤ 1000000000000) ∧ (0 ≤ sm KS.f KS.g2 L k ∧ sm KS.f KS.g2 L k ≤ 1000000000000) ∧ (0 ≤ sm KS.f KS.g3 L k ∧ sm KS.f KS.g3 L k ≤ 1000000000000) :=
 ⟨smB hl (fun x hx => (h x hx).1) k, smB hl (fun x hx => (h x hx).2.1) k, smB hl (fun x hx => (h x hx).2.2) k⟩
theorem smC {L : List Zl} (hl : L.length ≤ 1000) (h : ∀ x ∈ L, BC x) (k : Zu) : (0 ≤ sm KC.f KC.g1 L k ∧ sm KC.f KC.g1 L k ≤ 1000000000000) ∧ (0 ≤ sm KC.f KC.g2 L k ∧ sm KC.f KC.g2 L k ≤ 1000000000000) ∧ (0 ≤ sm KC.f KC.g3 L k ∧ sm KC.f KC.g3 L k ≤ 1000000000000) :=
 ⟨smB hl (fun x hx => (h x hx).1) k, smB hl (fun x hx => (h x hx).2.1) k, smB hl (fun x hx => (h x hx).2.2) k⟩
theorem F96_val (K : Nat) {a b : Int} (ha : 0 ≤ a ∧ a ≤ 1000000000000) (hb : 0 ≤ b ∧ b ≤ 1000000000) (o : Bool) (v : List (Str × Zc)) (u : List (Zu × Zl)) : F96 K a b o v u = some (a + b, o) := by
 rw [F96, wrapI (n := 1152921504606846976 - b) (by omega) (by omega), if_neg (by simp; omega), wrapI (by omega) (by omega)]
theorem F48_val (K : Nat) {L : List Zc} (hl : L.length ≤ 1000) (hb : ∀ x ∈ L, BS x) {x : Zc} (hx : BS x) (o : Bool) {v : List (Str × Zc)} (hv : KS.Map L v) (u : List (Zu × Zl)) :
  ∃ v', F48 K x o v u = some (o, v') ∧ KS.Map (L ++ [x]) v' := by
 obtain ⟨b1, b2, b3⟩ := smS hl hb x.Name
 obtain ⟨g1, g2, g3⟩ := hv.get lawS x.Name Zr rfl rfl rfl
 have e1 : ((mget q_str x.Name v).getD Zr).Spans = sm KS.f KS.g1 L x.Name := g1
 have e2 : ((mget q_str x.Name v).getD Zr).Errors = sm KS.f KS.g2 L x.Name := g2
 have e3 : ((mget q_str x.Name v).getD Zr).Roots = sm KS.f KS.g3 L x.Name := g3
 refine ⟨mput q_str (KS.f x) (KS.tot (L ++ [x]) (KS.f x)) v, ?_, hv.put lawS x⟩
 rw [F48, e1, e2, e3, F96_val K b1 hx.1, Option.bind_some, F96_val K b2 hx.2.1, Option.bind_some, F96_val K b3 hx.2.2, Option.bind_some, Kd.tot_next]
 rfl
theorem F50_val (K : Nat) {L : List Zl} (hl : L.length ≤ 1000) (hb : ∀ x ∈ L, BC x) {x : Zl} (hx : BC x) (o : Bool) {v : List (Zu × Zl)} (hv : KC.Map L v) (u : List (Str × Zc)) :
  ∃ v', F50 K x o u v = some (o, v') ∧ KC.Map (L ++ [x]) v' := by
 obtain ⟨b1, b2, b3⟩ := smC hl hb ⟨x.Caller, x.Callee⟩
 obtain ⟨g1, g2, g3⟩ := hv.get lawQ ⟨x.Caller, x.Callee⟩ Zk rfl rfl rfl
 have e1 : ((mget q_Ttopology_pair (⟨x.Caller, x.Callee⟩ : Zu) v).getD Zk).Count = sm KC.f KC.g1 L ⟨x.Caller, x.Callee⟩ := g1
 have e2 : ((mget q_Ttopology_pair (⟨x.Caller, x.Callee⟩ : Zu) v).getD Zk).Errors = sm KC.f KC.g2 L ⟨x.Caller, x.Callee⟩ := g2
 have e3 : ((mget q_Ttopology_pair (⟨x.Caller, x.Callee⟩ : Zu) v).getD Zk).Time = sm KC.f KC.g3 L ⟨x.Caller, x.Callee⟩ := g3
 refine ⟨mput q_Ttopology_pair (KC.f x) (KC.tot (L ++ [x]) (KC.f x)) v, ?_, hv.put lawQ x⟩
 rw [F50, e1, e2, e3, F96_val K b1 hx.1, Option.bind_some, F96_val K b2 hx.2.1, Option.bind_some, F96_val K b3 hx.2.2, Option.bind_some, Kd.tot_next]
 rfl
theorem F100_tot (K : Nat) (hK : 10 < K) (a b : Zl) : F100 K a b = some (cQ (KC.f a) (KC.f b)) := by
 rw [F100, F59_val K hK, Option.bind_some]
 rfl
theorem F52_tot (K : Nat) (hK : 1000 < K) {L : List Zc} {M : List Zl} {S : List Zc} {C : List Zl} {v : List (Str × Zc)} {u : List (Zu × Zl)}
  (hv : KS.Map L v) (hu : KC.Map M u) (hS : KS.Is cS L S) (hC : KC.Is cQ M C) (h1 : v.length ≤ 256) (h2 : u.length ≤ 1000) : F52 K false v u = some (0, ⟨S, C⟩) := by
 refine F52_val K h1 h2 hK (fun l hl => ?_) (fun l hl => ?_)
 ·refine sort_key pordS (fun _ _ => cS_zero) (·.Name) (fun a b => F98_val _ a b) (by rw [hl.length_eq]; simp; omega) (hl.nodup_iff.2 hv.nodup) (fun a ha b hb e => ?_) hS.1 fun x => by rw [hl.mem_iff, hv.mem hS]
  have h3 := ((hS.2 a).1 ((hv.mem hS a).1 (hl.mem_iff.1 ha))).2
  have h4 := ((hS.2 b).1 ((hv.mem hS b).1 (hl.mem_iff.1 hb))).2
  rw [h3, h4]
  exact congrArg (KS.tot L) e
 ·refine sort_key pordQ (fun _ _ => cQ_zero) KC.f (fun a b => F100_tot K (by omega) a b) (by rw [hl.length_eq]; simp; omega) (hl.nodup_iff.2 hu.nodup) (fun a ha b hb e => ?_) hC.1 fun x => by rw [hl.mem_iff, hu.mem hC]
  have h3 := ((hC.2 a).1 ((hu.mem hC a).1 (hl.mem_iff.1 ha))).2
  have h4 := ((hC.2 b).1 ((hu.mem hC b).1 (hl.mem_iff.1 hb))).2
  rw [h3, h4, e]
end Go.AM.TopZ
