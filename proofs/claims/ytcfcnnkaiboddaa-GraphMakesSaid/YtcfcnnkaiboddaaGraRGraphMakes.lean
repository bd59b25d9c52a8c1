/- Whatever the input, this law returns true and leaves its arguments as they were. -/
import Derived.Test.YtcfcnnkaiboddaaGraMakes
import Derived.Test.YtcfcnnkaiboddaaAm2
import Derived.Test.YtcfcnnkaiboddaaRows
namespace Go.AM.Gra
open Go Go.AM Go.Proofs
set_option maxRecDepth 100000
def c3 : Int → List AV := fun n : Int => [.int .i64 n]
theorem op3 : Opens P 3 c3 ok3 := Opens.int Try.underlying3
def c64 : Z9 → List AV := fun x : Z9 => (c3 x.From ++ (c3 x.To ++ []))
theorem op64 : Opens P 64 c64 ok64 := Opens.struct (N := 2) Try.underlying64 (by rfl) (by kernel_rfl) (OpensF.cons op3 (by kernel_rfl : P.cellsOf 3 = 1) rfl (OpensF.cons op3 (by kernel_rfl : P.cellsOf 3 = 1) rfl OpensF.nil)) (fun ⟨u0, u1, _⟩ => ⟨⟨u0, u1⟩, rfl, fun h => h⟩)
def c33 : (List Z9) → List AV := fun l : List Z9 => [.sl 2 (l.map Z2) false]
theorem op33 : Opens P 33 c33 ok33 := Opens.sl (g := Z2) Try.underlying33 (by kernel_rfl) (by decide) op64 (Elem.ag (fun _ => rfl) (fun _ => rfl))
end Go.AM.Gra
namespace Go.Proofs.Ytcfcnnkaiboddaa.graphMakesR
open Go Go.AM Go.AM.Gra Go.ChangeShapes Go.WideShapes Go.ChangeAt Go.RowKit
open Go.ChangeMaps (open_string shut_string)
theorem own : ownKnob Try.prog.godebug = none := by kernel_rfl
theorem laidOut : laidOutB Try.prog = true := by kernel_rfl
set_option maxRecDepth 100000 in
theorem lifted (os : Os) (started : os.Started) (H : Type) (enc : TypeId × Value → H) :
    ReturnsInHanded {} Try.checked os 8 .any (Rows.graphMakesSpec.pre6 enc Try.prog Try.f8 Rows.graphMakesRow.domain false) (Rows.graphMakesSpec.post enc Try.prog Try.f8 false true false false) := by
  refine returnsInHanded_of_change_sized (C := Try.checked) own started (by kernel_rfl) Try.func8
    (ChangeSpec.witness6 (enc := enc) (C := Try.checked) false ⟨#[], #[.int .i64 0, .slice none 0 0], []⟩ 8 (by kernel_rfl) (by kernel_rfl) (by kernel_rfl) (by kernel_rfl)) ?_
  intro W base args ds gs before hval0 hW hcnd hsz0 _
  have hval : ∀ (j : Nat) t v, Try.f8.params[j]? = some t → args[j]? = some v → Value.okWide Try.prog W .any base t v := hval0
  have hW' := hW
  obtain ⟨p, q, hA0, hV, rfl, hfz, hnd⟩ := hW
  have hA : DataW.TrodAll enc Try.prog W 0 (fun _ => true) true Try.f8.params.toList args.toList ds p := hA0
  rw [Try.params8] at hA hval
  obtain ⟨v0, vs0, d0, ds0, p0, q0, hargs, rfl, rfl, h0, r0⟩ := trodAll_cons hA
  obtain ⟨v1, vs1, d1, ds1, p1, q1, rfl, rfl, rfl, h1, r1⟩ := trodAll_cons r0
  obtain ⟨rfl, rfl, rfl⟩ := trodAll_nil r1
  obtain rfl : args = #[v0, v1] := by cases args; simp_all
  obtain ⟨rfl, rfl⟩ := trodVars_none hV
  obtain ⟨a0, e0, o0⟩ := (op3).argInt (g := Zf) Try.underlying3 (fun _ => rfl) (hval 0 3 v0 rfl rfl) h0
  have lt0 : ∀ x ∈ p0, x.block < W.heap.size := by obtain ⟨m, hm⟩ := h0; exact DataW.trod_lt m _ _ _ hm
  obtain ⟨a1, e1, o1⟩ := (op33).argSl (g := (fun l : (List Z9) => AV.sl 2 (l.map Z2) false)) Try.underlying33 (fun _ => rfl) (hval 1 33 v1 rfl rfl) h1
  have lt1 : ∀ x ∈ p1, x.block < W.heap.size := by obtain ⟨m, hm⟩ := h1; exact DataW.trod_lt m _ _ _ hm
  clear hA0 hval0 hsz0
  obtain ⟨K, hK⟩ := pureMakes a0 a1 o0 o1
  refine (ACall.law (F8_ok K a0 a1 true hK) (args := #[v0, v1]) (by simp only [reps]; exact ⟨_, _, rfl, e0, ⟨_, _, rfl, e1, rfl⟩⟩)).mono fun e W' ⟨he, bel⟩ => ?_
  subst he
  exact ⟨_, rfl, _, _, _, [], _, [], hW', trodAll_mk1 (shut_bool Try.underlying4 _), (trodAll_cons_mk (Below.trod laidOut (by kernel_rfl) (of_decide_eq_true (by kernel_rfl)) h0 bel lt0) (trodAll_cons_mk (Below.trod laidOut (by kernel_rfl) (of_decide_eq_true (by kernel_rfl)) h1 bel lt1) trodAll_mk0)), rfl, bel.frame _, fun h => by cases h⟩
theorem over : Rows.graphMakesRow.holds Try.pinned (OpenSpec.ofChange Rows.graphMakesSpec) :=
  OpenClaim.holds_of_wide 8 Try.f8 rfl rfl rfl rfl rfl rfl rfl ⟨rfl, rfl, rfl, rfl, rfl⟩ rfl rfl rfl rfl rfl (by kernel_rfl) Try.func8 (by kernel_rfl)
    (of_decide_eq_true (by kernel_rfl)) (by unfold Func.isWrapper; first | (rw [if_pos (by decide +kernel)]; kernel_rfl) | (rw [if_neg (by decide +kernel)]; exact ⟨rfl, rfl⟩))
    (fun os started H enc _ => lifted os started H enc)
end Go.Proofs.Ytcfcnnkaiboddaa.graphMakesR
namespace Go.Proofs.Ytcfcnnkaiboddaa
theorem graphMakes_holds : Rows.GraphMakesSaid := graphMakesR.over
end Go.Proofs.Ytcfcnnkaiboddaa
