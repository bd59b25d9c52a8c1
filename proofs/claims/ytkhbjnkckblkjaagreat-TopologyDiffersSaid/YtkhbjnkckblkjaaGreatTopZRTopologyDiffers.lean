/- Whatever the input, this law returns true and leaves its arguments as they were. -/
import Derived.Test.YtkhbjnkckblkjaaGreatTopZDiffs
import Derived.Test.YtkhbjnkckblkjaaGreatAm2
import Derived.Test.YtkhbjnkckblkjaaGreatRows
namespace Go.AM.TopZ
open Go Go.AM Go.Proofs
set_option maxRecDepth 100000
def c5 : Int → List AV := fun n : Int => [.int .u8 n]
theorem op5 : Opens P 5 c5 ok5 := Opens.int Tryz.underlying5
def c129 : Z18 → List AV := fun x : Z18 => (c5 x.From ++ (c5 x.To ++ (c5 x.Count ++ [])))
theorem op129 : Opens P 129 c129 ok129 := Opens.struct (N := 3) Tryz.underlying129 (by rfl) (by kernel_rfl) (OpensF.cons op5 (by kernel_rfl : P.cellsOf 5 = 1) rfl (OpensF.cons op5 (by kernel_rfl : P.cellsOf 5 = 1) rfl (OpensF.cons op5 (by kernel_rfl : P.cellsOf 5 = 1) rfl OpensF.nil))) (fun ⟨u0, u1, u2, _⟩ => ⟨⟨u0, u1, u2⟩, rfl, fun h => h⟩)
def c58 : (List Z18) → List AV := fun l : List Z18 => [.sl 3 (l.map Zx) false]
theorem op58 : Opens P 58 c58 ok58 := Opens.sl (g := Zx) Tryz.underlying58 (by kernel_rfl) (by decide) op129 (Elem.ag (fun _ => rfl) (fun _ => rfl))
end Go.AM.TopZ
namespace Go.Proofs.YtkhbjnkckblkjaaGreat.topologyDiffersR
open Go Go.AM Go.AM.TopZ Go.ChangeShapes Go.WideShapes Go.ChangeAt Go.RowKit
open Go.ChangeMaps (open_string shut_string)
theorem own : ownKnob Tryz.prog.godebug = none := by kernel_rfl
theorem laidOut : laidOutB Tryz.prog = true := by kernel_rfl
set_option maxRecDepth 100000 in
theorem lifted (os : Os) (started : os.Started) (H : Type) (enc : TypeId × Value → H) :
  ReturnsInHanded {} Tryz.checked os 5 .any (Rows.topologyDiffersSpec.pre6 enc Tryz.prog Tryz.f5 Rows.topologyDiffersRow.domain false) (Rows.topologyDiffersSpec.post enc Tryz.prog Tryz.f5 false true false false) := by
 refine returnsInHanded_of_change_sized (C := Tryz.checked) own started (by kernel_rfl) Tryz.func5
  (ChangeSpec.witness6 (enc := enc) (C := Tryz.checked) false ⟨#[], #[.slice none 0 0, .slice none 0 0], []⟩ 8 (by kernel_rfl) (by kernel_rfl) (by kernel_rfl) (by kernel_rfl)) ?_
 intro W base args ds gs before hval0 hW hcnd hsz0 _
 have hval : ∀ (j : Nat) t v, Tryz.f5.params[j]? = some t → args[j]? = some v → Value.okWide Tryz.prog W .any base t v := hval0
 have hW' := hW
 obtain ⟨p, q, hA0, hV, rfl, hfz, hnd⟩ := hW
 have hA : DataW.TrodAll enc Tryz.prog W 0 (fun _ => true) true Tryz.f5.params.toList args.toList ds p := hA0
 rw [Tryz.params5] at hA hval
 obtain ⟨v0, vs0, d0, ds0, p0, q0, hargs, rfl, rfl, h0, r0⟩ := trodAll_cons hA
 obtain ⟨v1, vs1, d1, ds1, p1, q1, rfl, rfl, rfl, h1, r1⟩ := trodAll_cons r0
 obtain ⟨rfl, rfl, rfl⟩ := trodAll_nil r1
 obtain rfl : args = #[v0, v1] := by cases args; simp_all
 obtain ⟨rfl, rfl⟩ := trodVars_none hV
 obtain ⟨a0, e0, o0⟩ := (op58).argSl (g := (fun l : (List Z18) => AV.sl 3 (l.map Zx) false)) Tryz.underlying58 (fun _ => rfl) (hval 0 58 v0 rfl rfl) h0
 have lt0 : ∀ x ∈ p0, x.block < W.heap.size := by obtain ⟨m, hm⟩ := h0; exact DataW.trod_lt m _ _ _ hm
 obtain ⟨a1, e1, o1⟩ := (op58).argSl (g := (fun l : (List Z18) => AV.sl 3 (l.map Zx) false)) Tryz.underlying58 (fun _ => rfl) (hval 1 58 v1 rfl rfl) h1
 have lt1 : ∀ x ∈ p1, x.block < W.heap.size := by obtain ⟨m, hm⟩ := h1; exact DataW.trod_lt m _ _ _ hm
 clear hA0 hval0 hsz0
 obtain ⟨K, hK⟩ := pureDiffers a0 a1 o0 o1
 refine (ACall.law (F5_ok K a0 a1 true hK) (args := #[v0, v1]) (by simp only [reps]; exact ⟨_, _, rfl, e0, ⟨_, _, rfl, e1, rfl⟩⟩)).mono fun e W' ⟨he, bel⟩ => ?_
 subst he
 exact ⟨_, rfl, _, _, _, [], _, [], hW', trodAll_mk1 (shut_bool Tryz.underlying4 _), (trodAll_cons_mk (Below.trod laidOut (by kernel_rfl) (of_decide_eq_true (by kernel_rfl)) h0 bel lt0) (trodAll_cons_mk (Below.trod laidOut (by kernel_rfl) (of_decide_eq_true (by kernel_rfl)) h1 bel lt1) trodAll_mk0)), rfl, bel.frame _, fun h => by cases h⟩
theorem over : Rows.topologyDiffersRow.holds Tryz.pinned (OpenSpec.ofChange Rows.topologyDiffersSpec) :=
 OpenClaim.holds_of_wide 5 Tryz.f5 rfl rfl rfl rfl rfl rfl rfl ⟨rfl, rfl, rfl, rfl, rfl⟩ rfl rfl rfl rfl rfl (by kernel_rfl) Tryz.func5 (by kernel_rfl)
  (of_decide_eq_true (by kernel_rfl)) (by unfold Func.isWrapper; first | (rw [if_pos (by decide +kernel)]; kernel_rfl) | (rw [if_neg (by decide +kernel)]; exact ⟨rfl, rfl⟩))
  (fun os started H enc _ => lifted os started H enc)
end Go.Proofs.YtkhbjnkckblkjaaGreat.topologyDiffersR
namespace Go.Proofs.YtkhbjnkckblkjaaGreat
theorem topologyDiffers_holds : Rows.TopologyDiffersSaid := topologyDiffersR.over
end Go.Proofs.YtkhbjnkckblkjaaGreat
