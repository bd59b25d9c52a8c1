/- Whatever the input, this law returns true and leaves its arguments as they were. -/
import Derived.Test.YtcfcnnkaiboddaaGraTurn
import Derived.Test.YtcfcnnkaiboddaaAm2
import Derived.Test.YtcfcnnkaiboddaaRows
namespace Go.AM.Gra
open Go Go.AM Go.Proofs
set_option maxRecDepth 100000
def c5 : Int → List AV := fun n : Int => [.int .u8 n]
theorem op5 : Opens P 5 c5 ok5 := Opens.int Try.underlying5
def c4 : Bool → List AV := fun b : Bool => [.bool b]
theorem op4 : Opens P 4 c4 ok4 := Opens.bool Try.underlying4
def c70 : A2_Int → List AV := fun x : A2_Int => (c5 x.e0 ++ (c5 x.e1 ++ []))
theorem op70 : Opens P 70 c70 ok70 := Opens.arr (N := 2) (sz := 1) Try.underlying70 (by kernel_rfl) (by rfl) (by kernel_rfl) (OpensF.cons op5 (by kernel_rfl : P.cellsOf 5 = 1) rfl (OpensF.cons op5 (by kernel_rfl : P.cellsOf 5 = 1) rfl OpensF.nil)) (fun ⟨u0, u1, _⟩ => ⟨⟨u0, u1⟩, rfl, fun h => h⟩)
def c22 : (List A2_Int) → List AV := fun l : List A2_Int => [.sl 2 (l.map e_A2_Int) false]
theorem op22 : Opens P 22 c22 ok22 := Opens.sl (g := e_A2_Int) Try.underlying22 (by kernel_rfl) (by decide) op70 (Elem.ag (fun _ => rfl) (fun _ => rfl))
def c24 : Z11 → List AV := fun x : Z11 => (c5 x.Count ++ (c4 x.Flat ++ (c22 x.Edges ++ [])))
theorem op24 : Opens P 24 c24 ok24 := Opens.struct (N := 3) Try.underlying24 (by rfl) (by kernel_rfl) (OpensF.cons op5 (by kernel_rfl : P.cellsOf 5 = 1) rfl (OpensF.cons op4 (by kernel_rfl : P.cellsOf 4 = 1) rfl (OpensF.cons op22 (by kernel_rfl : P.cellsOf 22 = 1) rfl OpensF.nil))) (fun ⟨u0, u1, u2, _⟩ => ⟨⟨u0, u1, u2⟩, rfl, fun h => h⟩)
end Go.AM.Gra
namespace Go.Proofs.Ytcfcnnkaiboddaa.graphTurnsR
open Go Go.AM Go.AM.Gra Go.ChangeShapes Go.WideShapes Go.ChangeAt Go.RowKit
open Go.ChangeMaps (open_string shut_string)
theorem own : ownKnob Try.prog.godebug = none := by kernel_rfl
theorem laidOut : laidOutB Try.prog = true := by kernel_rfl
set_option maxRecDepth 100000 in
theorem lifted (os : Os) (started : os.Started) (H : Type) (enc : TypeId × Value → H) :
    ReturnsInHanded {} Try.checked os 10 .any (Rows.graphTurnsSpec.pre6 enc Try.prog Try.f10 Rows.graphTurnsRow.domain false) (Rows.graphTurnsSpec.post enc Try.prog Try.f10 false true false false) := by
  refine returnsInHanded_of_change_sized (C := Try.checked) own started (by kernel_rfl) Try.func10
    (ChangeSpec.witness6 (enc := enc) (C := Try.checked) false ⟨#[], #[.agg #[.int .u8 0, .bool false, .slice none 0 0], .int .u8 0, .int .u8 0], []⟩ 8 (by kernel_rfl) (by kernel_rfl) (by kernel_rfl) (by kernel_rfl)) ?_
  intro W base args ds gs before hval0 hW hcnd hsz0 _
  have hval : ∀ (j : Nat) t v, Try.f10.params[j]? = some t → args[j]? = some v → Value.okWide Try.prog W .any base t v := hval0
  have hW' := hW
  obtain ⟨p, q, hA0, hV, rfl, hfz, hnd⟩ := hW
  have hA : DataW.TrodAll enc Try.prog W 0 (fun _ => true) true Try.f10.params.toList args.toList ds p := hA0
  rw [Try.params10] at hA hval
  obtain ⟨v0, vs0, d0, ds0, p0, q0, hargs, rfl, rfl, h0, r0⟩ := trodAll_cons hA
  obtain ⟨v1, vs1, d1, ds1, p1, q1, rfl, rfl, rfl, h1, r1⟩ := trodAll_cons r0
  obtain ⟨v2, vs2, d2, ds2, p2, q2, rfl, rfl, rfl, h2, r2⟩ := trodAll_cons r1
  obtain ⟨rfl, rfl, rfl⟩ := trodAll_nil r2
  obtain rfl : args = #[v0, v1, v2] := by cases args; simp_all
  obtain ⟨rfl, rfl⟩ := trodVars_none hV
  obtain ⟨a0, e0, o0⟩ := (op24).argAg (g := Zm) (.inl ⟨_, Try.underlying24⟩) (fun _ => rfl) (hval 0 24 v0 rfl rfl) h0
  have lt0 : ∀ x ∈ p0, x.block < W.heap.size := by obtain ⟨m, hm⟩ := h0; exact DataW.trod_lt m _ _ _ hm
  obtain ⟨a1, e1, o1⟩ := (op5).argInt (g := e_u8) Try.underlying5 (fun _ => rfl) (hval 1 5 v1 rfl rfl) h1
  have lt1 : ∀ x ∈ p1, x.block < W.heap.size := by obtain ⟨m, hm⟩ := h1; exact DataW.trod_lt m _ _ _ hm
  obtain ⟨a2, e2, o2⟩ := (op5).argInt (g := e_u8) Try.underlying5 (fun _ => rfl) (hval 2 5 v2 rfl rfl) h2
  have lt2 : ∀ x ∈ p2, x.block < W.heap.size := by obtain ⟨m, hm⟩ := h2; exact DataW.trod_lt m _ _ _ hm
  clear hA0 hval0 hsz0
  obtain ⟨K, hK⟩ := pureTurns a0 a1 a2 o0 o1 o2
  refine (ACall.law (F10_ok K a0 a1 a2 true hK) (args := #[v0, v1, v2]) (by simp only [reps]; exact ⟨_, _, rfl, e0, ⟨_, _, rfl, e1, ⟨_, _, rfl, e2, rfl⟩⟩⟩)).mono fun e W' ⟨he, bel⟩ => ?_
  subst he
  exact ⟨_, rfl, _, _, _, [], _, [], hW', trodAll_mk1 (shut_bool Try.underlying4 _), (trodAll_cons_mk (Below.trod laidOut (by kernel_rfl) (of_decide_eq_true (by kernel_rfl)) h0 bel lt0) (trodAll_cons_mk (Below.trod laidOut (by kernel_rfl) (of_decide_eq_true (by kernel_rfl)) h1 bel lt1) (trodAll_cons_mk (Below.trod laidOut (by kernel_rfl) (of_decide_eq_true (by kernel_rfl)) h2 bel lt2) trodAll_mk0))), rfl, bel.frame _, fun h => by cases h⟩
theorem over : Rows.graphTurnsRow.holds Try.pinned (OpenSpec.ofChange Rows.graphTurnsSpec) :=
  OpenClaim.holds_of_wide 10 Try.f10 rfl rfl rfl rfl rfl rfl rfl ⟨rfl, rfl, rfl, rfl, rfl⟩ rfl rfl rfl rfl rfl (by kernel_rfl) Try.func10 (by kernel_rfl)
    (of_decide_eq_true (by kernel_rfl)) (by unfold Func.isWrapper; first | (rw [if_pos (by decide +kernel)]; kernel_rfl) | (rw [if_neg (by decide +kernel)]; exact ⟨rfl, rfl⟩))
    (fun os started H enc _ => lifted os started H enc)
end Go.Proofs.Ytcfcnnkaiboddaa.graphTurnsR
namespace Go.Proofs.Ytcfcnnkaiboddaa
theorem graphTurns_holds : Rows.GraphTurnsSaid := graphTurnsR.over
end Go.Proofs.Ytcfcnnkaiboddaa
