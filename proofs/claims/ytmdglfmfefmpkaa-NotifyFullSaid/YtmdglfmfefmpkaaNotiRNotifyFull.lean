/- Whatever the input, this law returns true and leaves its arguments as they were. -/
import Derived.Test.YtmdglfmfefmpkaaNotiG21
import Derived.Test.YtmdglfmfefmpkaaNotiFull
import Derived.Test.YtmdglfmfefmpkaaAm2
import Derived.Test.YtmdglfmfefmpkaaRows
namespace Go.AM.Noti
open Go Go.AM Go.Proofs
set_option maxRecDepth 100000
def c69 : Int → List AV := fun n : Int => [.int .u16 n]
theorem op69 : Opens P 69 c69 ok69 := Opens.int Try.underlying69
end Go.AM.Noti
namespace Go.Proofs.Ytmdglfmfefmpkaa.notifyFullR
open Go Go.AM Go.AM.Noti Go.ChangeShapes Go.WideShapes Go.ChangeAt Go.RowKit
open Go.ChangeMaps (open_string shut_string)
theorem own : ownKnob Try.prog.godebug = none := by kernel_rfl
theorem laidOut : laidOutB Try.prog = true := by kernel_rfl
set_option maxRecDepth 100000 in
theorem lifted (os : Os) (started : os.Started) (H : Type) (enc : TypeId × Value → H) :
  ReturnsInHanded {} Try.checked os 9 .any (Rows.notifyFullSpec.pre6 enc Try.prog Try.f9 Rows.notifyFullRow.domain false) (Rows.notifyFullSpec.post enc Try.prog Try.f9 false true false false) := by
 refine returnsInHanded_of_change_sized (C := Try.checked) own started (by kernel_rfl) Try.func9
  (ChangeSpec.witness6 (enc := enc) (C := Try.checked) false ⟨#[], #[.int .u16 0], []⟩ 8 (by kernel_rfl) (by kernel_rfl) (by kernel_rfl) (by kernel_rfl)) ?_
 intro W base args ds gs before hval0 hW hcnd hsz0 _
 have hval : ∀ (j : Nat) t v, Try.f9.params[j]? = some t → args[j]? = some v → Value.okWide Try.prog W .any base t v := hval0
 have hW' := hW
 obtain ⟨p, q, hA0, hV, rfl, hfz, hnd⟩ := hW
 have hA : DataW.TrodAll enc Try.prog W 0 (fun _ => true) true Try.f9.params.toList args.toList ds p := hA0
 rw [Try.params9] at hA hval
 obtain ⟨v0, vs0, d0, ds0, p0, q0, hargs, rfl, rfl, h0, r0⟩ := trodAll_cons hA
 obtain ⟨rfl, rfl, rfl⟩ := trodAll_nil r0
 obtain rfl : args = #[v0] := by cases args; simp_all
 obtain ⟨rfl, rfl⟩ := trodVars_none hV
 obtain ⟨a0, e0, o0⟩ := (op69).argInt (g := e_u16) Try.underlying69 (fun _ => rfl) (hval 0 69 v0 rfl rfl) h0
 have lt0 : ∀ x ∈ p0, x.block < W.heap.size := by obtain ⟨m, hm⟩ := h0; exact DataW.trod_lt m _ _ _ hm
 clear hA0 hval0 hsz0
 obtain ⟨K, hK⟩ := pureFull a0 o0
 refine (ACall.law (F9_ok K a0 true hK) (args := #[v0]) (by simp only [reps]; exact ⟨_, _, rfl, e0, rfl⟩)).mono fun e W' ⟨he, bel⟩ => ?_
 subst he
 exact ⟨_, rfl, _, _, _, [], _, [], hW', trodAll_mk1 (shut_bool Try.underlying4 _), (trodAll_cons_mk (Below.trod laidOut (by kernel_rfl) (of_decide_eq_true (by kernel_rfl)) h0 bel lt0) trodAll_mk0), rfl, bel.frame _, fun h => by cases h⟩
theorem over : Rows.notifyFullRow.holds Try.pinned (OpenSpec.ofChange Rows.notifyFullSpec) :=
 OpenClaim.holds_of_wide 9 Try.f9 rfl rfl rfl rfl rfl rfl rfl ⟨rfl, rfl, rfl, rfl, rfl⟩ rfl rfl rfl rfl rfl (by kernel_rfl) Try.func9 (by kernel_rfl)
  (of_decide_eq_true (by kernel_rfl)) (by unfold Func.isWrapper; first | (rw [if_pos (by decide +kernel)]; kernel_rfl) | (rw [if_neg (by decide +kernel)]; exact ⟨rfl, rfl⟩))
  (fun os started H enc _ => lifted os started H enc)
end Go.Proofs.Ytmdglfmfefmpkaa.notifyFullR
namespace Go.Proofs.Ytmdglfmfefmpkaa
theorem notifyFull_holds : Rows.NotifyFullSaid := notifyFullR.over
end Go.Proofs.Ytmdglfmfefmpkaa
