/- Whatever the input, this law returns true and leaves its arguments as they were. -/
import Derived.Test.YtgikdjgdjogdmaaMsgLists
import Derived.Test.YtgikdjgdjogdmaaAm1
import Derived.Test.YtgikdjgdjogdmaaRows
namespace Go.AM.Msg
open Go Go.AM Go.Proofs
set_option maxRecDepth 100000
def c3 : Int → List AV := fun n : Int => [.int .i64 n]
theorem op3 : Opens P 3 c3 ok3 := Opens.int Try.underlying3
def c23 : Zg → List AV := fun x : Zg => (c3 x.Trace ++ (c3 x.Id ++ []))
theorem op23 : Opens P 23 c23 ok23 := Opens.struct (N := 2) Try.underlying23 (by rfl) (by kernel_rfl) (OpensF.cons op3 (by kernel_rfl : P.cellsOf 3 = 1) rfl (OpensF.cons op3 (by kernel_rfl : P.cellsOf 3 = 1) rfl OpensF.nil)) (fun ⟨u0, u1, _⟩ => ⟨⟨u0, u1⟩, rfl, fun h => h⟩)
def c25 : Z6 → List AV := fun x : Z6 => (c3 x.Kind ++ (c23 x.A ++ (c23 x.B ++ (c3 x.From ++ (c3 x.To ++ (c3 x.Sent ++ (c3 x.Received ++ (c3 x.Least ++ []))))))))
theorem op25 : Opens P 25 c25 ok25 := Opens.struct (N := 10) Try.underlying25 (by rfl) (by kernel_rfl) (OpensF.cons op3 (by kernel_rfl : P.cellsOf 3 = 1) rfl (OpensF.cons op23 (by kernel_rfl : P.cellsOf 23 = 2) rfl (OpensF.cons op23 (by kernel_rfl : P.cellsOf 23 = 2) rfl (OpensF.cons op3 (by kernel_rfl : P.cellsOf 3 = 1) rfl (OpensF.cons op3 (by kernel_rfl : P.cellsOf 3 = 1) rfl (OpensF.cons op3 (by kernel_rfl : P.cellsOf 3 = 1) rfl (OpensF.cons op3 (by kernel_rfl : P.cellsOf 3 = 1) rfl (OpensF.cons op3 (by kernel_rfl : P.cellsOf 3 = 1) rfl OpensF.nil)))))))) (fun ⟨u0, u1, u2, u3, u4, u5, u6, u7, _⟩ => ⟨⟨u0, u1, u2, u3, u4, u5, u6, u7⟩, rfl, fun h => h⟩)
def c29 : (List Z6) → List AV := fun l : List Z6 => [.sl 10 (l.map Z3) false]
theorem op29 : Opens P 29 c29 ok29 := Opens.sl (g := Z3) Try.underlying29 (by kernel_rfl) (by decide) op25 (Elem.ag (fun _ => rfl) (fun _ => rfl))
end Go.AM.Msg
namespace Go.Proofs.Ytgikdjgdjogdmaa.messageListsR
open Go Go.AM Go.AM.Msg Go.ChangeShapes Go.WideShapes Go.ChangeAt Go.RowKit
open Go.ChangeMaps (open_string shut_string)
theorem own : ownKnob Try.prog.godebug = none := by kernel_rfl
theorem laidOut : laidOutB Try.prog = true := by kernel_rfl
set_option maxRecDepth 100000 in
theorem lifted (os : Os) (started : os.Started) (H : Type) (enc : TypeId × Value → H) :
    ReturnsInHanded {} Try.checked os 14 .any (Rows.messageListsSpec.pre6 enc Try.prog Try.f14 Rows.messageListsRow.domain false) (Rows.messageListsSpec.post enc Try.prog Try.f14 false true false false) := by
  refine returnsInHanded_of_change_sized (C := Try.checked) own started (by kernel_rfl) Try.func14
    (ChangeSpec.witness6 (enc := enc) (C := Try.checked) false ⟨#[], #[.slice none 0 0, .agg #[.int .i64 0, .int .i64 0]], []⟩ 8 (by kernel_rfl) (by kernel_rfl) (by kernel_rfl) (by kernel_rfl)) ?_
  intro W base args ds gs before hval0 hW hcnd hsz0 _
  have hval : ∀ (j : Nat) t v, Try.f14.params[j]? = some t → args[j]? = some v → Value.okWide Try.prog W .any base t v := hval0
  have hW' := hW
  obtain ⟨p, q, hA0, hV, rfl, hfz, hnd⟩ := hW
  have hA : DataW.TrodAll enc Try.prog W 0 (fun _ => true) true Try.f14.params.toList args.toList ds p := hA0
  rw [Try.params14] at hA hval
  obtain ⟨v0, vs0, d0, ds0, p0, q0, hargs, rfl, rfl, h0, r0⟩ := trodAll_cons hA
  obtain ⟨v1, vs1, d1, ds1, p1, q1, rfl, rfl, rfl, h1, r1⟩ := trodAll_cons r0
  obtain ⟨rfl, rfl, rfl⟩ := trodAll_nil r1
  obtain rfl : args = #[v0, v1] := by cases args; simp_all
  obtain ⟨rfl, rfl⟩ := trodVars_none hV
  obtain ⟨a0, e0, o0⟩ := (op29).argSl (g := (fun l : (List Z6) => AV.sl 10 (l.map Z3) false)) Try.underlying29 (fun _ => rfl) (hval 0 29 v0 rfl rfl) h0
  have lt0 : ∀ x ∈ p0, x.block < W.heap.size := by obtain ⟨m, hm⟩ := h0; exact DataW.trod_lt m _ _ _ hm
  obtain ⟨a1, e1, o1⟩ := (op23).argAg (g := Z9) (.inl ⟨_, Try.underlying23⟩) (fun _ => rfl) (hval 1 23 v1 rfl rfl) h1
  have lt1 : ∀ x ∈ p1, x.block < W.heap.size := by obtain ⟨m, hm⟩ := h1; exact DataW.trod_lt m _ _ _ hm
  clear hA0 hval0 hsz0
  obtain ⟨K, hK⟩ := pureLists a0 a1 o0 o1
  refine (ACall.law (F14_ok K a0 a1 true hK) (args := #[v0, v1]) (by simp only [reps]; exact ⟨_, _, rfl, e0, ⟨_, _, rfl, e1, rfl⟩⟩)).mono fun e W' ⟨he, bel⟩ => ?_
  subst he
  exact ⟨_, rfl, _, _, _, [], _, [], hW', trodAll_mk1 (shut_bool Try.underlying4 _), (trodAll_cons_mk (Below.trod laidOut (by kernel_rfl) (of_decide_eq_true (by kernel_rfl)) h0 bel lt0) (trodAll_cons_mk (Below.trod laidOut (by kernel_rfl) (of_decide_eq_true (by kernel_rfl)) h1 bel lt1) trodAll_mk0)), rfl, bel.frame _, fun h => by cases h⟩
theorem over : Rows.messageListsRow.holds Try.pinned (OpenSpec.ofChange Rows.messageListsSpec) :=
  OpenClaim.holds_of_wide 14 Try.f14 rfl rfl rfl rfl rfl rfl rfl ⟨rfl, rfl, rfl, rfl, rfl⟩ rfl rfl rfl rfl rfl (by kernel_rfl) Try.func14 (by kernel_rfl)
    (of_decide_eq_true (by kernel_rfl)) (by unfold Func.isWrapper; first | (rw [if_pos (by decide +kernel)]; kernel_rfl) | (rw [if_neg (by decide +kernel)]; exact ⟨rfl, rfl⟩))
    (fun os started H enc _ => lifted os started H enc)
end Go.Proofs.Ytgikdjgdjogdmaa.messageListsR
namespace Go.Proofs.Ytgikdjgdjogdmaa
theorem messageLists_holds : Rows.MessageListsSaid := messageListsR.over
end Go.Proofs.Ytgikdjgdjogdmaa
