/- Whatever the input, this law returns true and leaves its arguments as they were. -/
import Derived.Test.YtkhbjnkckblkjaaGreatTopZChecks
import Derived.Test.YtkhbjnkckblkjaaGreatAm2
import Derived.Test.YtkhbjnkckblkjaaGreatRows
namespace Go.AM.TopZ
open Go Go.AM Go.Proofs
set_option maxRecDepth 100000
def c9 : Str → List AV := fun s : Str => [.str s]
theorem op9 : Opens P 9 c9 ok9 := Opens.str Tryz.underlying9
def c3 : Int → List AV := fun n : Int => [.int .i64 n]
theorem op3 : Opens P 3 c3 ok3 := Opens.int Tryz.underlying3
def c68 : Zc → List AV := fun x : Zc => (c9 x.Name ++ (c3 x.Spans ++ (c3 x.Errors ++ (c3 x.Roots ++ []))))
theorem op68 : Opens P 68 c68 ok68 := Opens.struct (N := 4) Tryz.underlying68 (by rfl) (by kernel_rfl) (OpensF.cons op9 (by kernel_rfl : P.cellsOf 9 = 1) rfl (OpensF.cons op3 (by kernel_rfl : P.cellsOf 3 = 1) rfl (OpensF.cons op3 (by kernel_rfl : P.cellsOf 3 = 1) rfl (OpensF.cons op3 (by kernel_rfl : P.cellsOf 3 = 1) rfl OpensF.nil)))) (fun ⟨u0, u1, u2, u3, _⟩ => ⟨⟨u0, u1, u2, u3⟩, rfl, fun h => h⟩)
def c41 : (List Zc) → List AV := fun l : List Zc => [.sl 4 (l.map Z2) false]
theorem op41 : Opens P 41 c41 ok41 := Opens.sl (g := Z2) Tryz.underlying41 (by kernel_rfl) (by decide) op68 (Elem.ag (fun _ => rfl) (fun _ => rfl))
def c88 : Zh → List AV := fun x : Zh => (c9 x.Caller ++ (c9 x.Callee ++ (c3 x.Count ++ (c3 x.Errors ++ (c3 x.Time ++ [])))))
theorem op88 : Opens P 88 c88 ok88 := Opens.struct (N := 5) Tryz.underlying88 (by rfl) (by kernel_rfl) (OpensF.cons op9 (by kernel_rfl : P.cellsOf 9 = 1) rfl (OpensF.cons op9 (by kernel_rfl : P.cellsOf 9 = 1) rfl (OpensF.cons op3 (by kernel_rfl : P.cellsOf 3 = 1) rfl (OpensF.cons op3 (by kernel_rfl : P.cellsOf 3 = 1) rfl (OpensF.cons op3 (by kernel_rfl : P.cellsOf 3 = 1) rfl OpensF.nil))))) (fun ⟨u0, u1, u2, u3, u4, _⟩ => ⟨⟨u0, u1, u2, u3, u4⟩, rfl, fun h => h⟩)
def c42 : (List Zh) → List AV := fun l : List Zh => [.sl 5 (l.map Z5) false]
theorem op42 : Opens P 42 c42 ok42 := Opens.sl (g := Z5) Tryz.underlying42 (by kernel_rfl) (by decide) op88 (Elem.ag (fun _ => rfl) (fun _ => rfl))
def c44 : Zb → List AV := fun x : Zb => (c41 x.Services ++ (c42 x.Calls ++ []))
theorem op44 : Opens P 44 c44 ok44 := Opens.struct (N := 2) Tryz.underlying44 (by rfl) (by kernel_rfl) (OpensF.cons op41 (by kernel_rfl : P.cellsOf 41 = 1) rfl (OpensF.cons op42 (by kernel_rfl : P.cellsOf 42 = 1) rfl OpensF.nil)) (fun ⟨u0, u1, _⟩ => ⟨⟨u0, u1⟩, rfl, fun h => h⟩)
def c5 : Int → List AV := fun n : Int => [.int .u8 n]
theorem op5 : Opens P 5 c5 ok5 := Opens.int Tryz.underlying5
def c129 : Z1b → List AV := fun x : Z1b => (c5 x.From ++ (c5 x.To ++ (c5 x.Count ++ [])))
theorem op129 : Opens P 129 c129 ok129 := Opens.struct (N := 3) Tryz.underlying129 (by rfl) (by kernel_rfl) (OpensF.cons op5 (by kernel_rfl : P.cellsOf 5 = 1) rfl (OpensF.cons op5 (by kernel_rfl : P.cellsOf 5 = 1) rfl (OpensF.cons op5 (by kernel_rfl : P.cellsOf 5 = 1) rfl OpensF.nil))) (fun ⟨u0, u1, u2, _⟩ => ⟨⟨u0, u1, u2⟩, rfl, fun h => h⟩)
def c58 : (List Z1b) → List AV := fun l : List Z1b => [.sl 3 (l.map Zu) false]
theorem op58 : Opens P 58 c58 ok58 := Opens.sl (g := Zu) Tryz.underlying58 (by kernel_rfl) (by decide) op129 (Elem.ag (fun _ => rfl) (fun _ => rfl))
end Go.AM.TopZ
namespace Go.Proofs.YtkhbjnkckblkjaaGreat.topologyChecksR
open Go Go.AM Go.AM.TopZ Go.ChangeShapes Go.WideShapes Go.ChangeAt Go.RowKit
open Go.ChangeMaps (open_string shut_string)
theorem own : ownKnob Tryz.prog.godebug = none := by kernel_rfl
theorem laidOut : laidOutB Tryz.prog = true := by kernel_rfl
set_option maxRecDepth 100000 in
theorem lifted (os : Os) (started : os.Started) (H : Type) (enc : TypeId × Value → H) :
  ReturnsInHanded {} Tryz.checked os 6 .any (Rows.topologyChecksSpec.pre6 enc Tryz.prog Tryz.f6 Rows.topologyChecksRow.domain false) (Rows.topologyChecksSpec.post enc Tryz.prog Tryz.f6 false true false false) := by
 refine returnsInHanded_of_change_sized (C := Tryz.checked) own started (by kernel_rfl) Tryz.func6
  (ChangeSpec.witness6 (enc := enc) (C := Tryz.checked) false ⟨#[], #[.agg #[.slice none 0 0, .slice none 0 0], .slice none 0 0, .slice none 0 0], []⟩ 8 (by kernel_rfl) (by kernel_rfl) (by kernel_rfl) (by kernel_rfl)) ?_
 intro W base args ds gs before hval0 hW hcnd hsz0 _
 have hval : ∀ (j : Nat) t v, Tryz.f6.params[j]? = some t → args[j]? = some v → Value.okWide Tryz.prog W .any base t v := hval0
 have hW' := hW
 obtain ⟨p, q, hA0, hV, rfl, hfz, hnd⟩ := hW
 have hA : DataW.TrodAll enc Tryz.prog W 0 (fun _ => true) true Tryz.f6.params.toList args.toList ds p := hA0
 rw [Tryz.params6] at hA hval
 obtain ⟨v0, vs0, d0, ds0, p0, q0, hargs, rfl, rfl, h0, r0⟩ := trodAll_cons hA
 obtain ⟨v1, vs1, d1, ds1, p1, q1, rfl, rfl, rfl, h1, r1⟩ := trodAll_cons r0
 obtain ⟨v2, vs2, d2, ds2, p2, q2, rfl, rfl, rfl, h2, r2⟩ := trodAll_cons r1
 obtain ⟨rfl, rfl, rfl⟩ := trodAll_nil r2
 obtain rfl : args = #[v0, v1, v2] := by cases args; simp_all
 obtain ⟨rfl, rfl⟩ := trodVars_none hV
 obtain ⟨a0, e0, o0⟩ := (op44).argAg (g := Z6) (.inl ⟨_, Tryz.underlying44⟩) (fun _ => rfl) (hval 0 44 v0 rfl rfl) h0
 have lt0 : ∀ x ∈ p0, x.block < W.heap.size := by obtain ⟨m, hm⟩ := h0; exact DataW.trod_lt m _ _ _ hm
 obtain ⟨a1, e1, o1⟩ := (op58).argSl (g := (fun l : (List Z1b) => AV.sl 3 (l.map Zu) false)) Tryz.underlying58 (fun _ => rfl) (hval 1 58 v1 rfl rfl) h1
 have lt1 : ∀ x ∈ p1, x.block < W.heap.size := by obtain ⟨m, hm⟩ := h1; exact DataW.trod_lt m _ _ _ hm
 obtain ⟨a2, e2, o2⟩ := (op58).argSl (g := (fun l : (List Z1b) => AV.sl 3 (l.map Zu) false)) Tryz.underlying58 (fun _ => rfl) (hval 2 58 v2 rfl rfl) h2
 have lt2 : ∀ x ∈ p2, x.block < W.heap.size := by obtain ⟨m, hm⟩ := h2; exact DataW.trod_lt m _ _ _ hm
 clear hA0 hval0 hsz0
 obtain ⟨K, hK⟩ := pureChecks a0 a1 a2 o0 o1 o2
 refine (ACall.law (F6_ok K a0 a1 a2 true hK) (args := #[v0, v1, v2]) (by simp only [reps]; exact ⟨_, _, rfl, e0, ⟨_, _, rfl, e1, ⟨_, _, rfl, e2, rfl⟩⟩⟩)).mono fun e W' ⟨he, bel⟩ => ?_
 subst he
 exact ⟨_, rfl, _, _, _, [], _, [], hW', trodAll_mk1 (shut_bool Tryz.underlying4 _), (trodAll_cons_mk (Below.trod laidOut (by kernel_rfl) (of_decide_eq_true (by kernel_rfl)) h0 bel lt0) (trodAll_cons_mk (Below.trod laidOut (by kernel_rfl) (of_decide_eq_true (by kernel_rfl)) h1 bel lt1) (trodAll_cons_mk (Below.trod laidOut (by kernel_rfl) (of_decide_eq_true (by kernel_rfl)) h2 bel lt2) trodAll_mk0))), rfl, bel.frame _, fun h => by cases h⟩
theorem over : Rows.topologyChecksRow.holds Tryz.pinned (OpenSpec.ofChange Rows.topologyChecksSpec) :=
 OpenClaim.holds_of_wide 6 Tryz.f6 rfl rfl rfl rfl rfl rfl rfl ⟨rfl, rfl, rfl, rfl, rfl⟩ rfl rfl rfl rfl rfl (by kernel_rfl) Tryz.func6 (by kernel_rfl)
  (of_decide_eq_true (by kernel_rfl)) (by unfold Func.isWrapper; first | (rw [if_pos (by decide +kernel)]; kernel_rfl) | (rw [if_neg (by decide +kernel)]; exact ⟨rfl, rfl⟩))
  (fun os started H enc _ => lifted os started H enc)
end Go.Proofs.YtkhbjnkckblkjaaGreat.topologyChecksR
namespace Go.Proofs.YtkhbjnkckblkjaaGreat
theorem topologyChecks_holds : Rows.TopologyChecksSaid := topologyChecksR.over
end Go.Proofs.YtkhbjnkckblkjaaGreat
