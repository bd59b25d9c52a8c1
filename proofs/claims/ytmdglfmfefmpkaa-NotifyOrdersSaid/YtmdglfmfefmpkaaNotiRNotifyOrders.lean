/- Whatever the input, this law returns true and leaves its arguments as they were. -/
import Derived.Test.YtmdglfmfefmpkaaNotiG20
import Derived.Test.YtmdglfmfefmpkaaNotiCong
import Derived.Test.YtmdglfmfefmpkaaAm2
import Derived.Test.YtmdglfmfefmpkaaRows
namespace Go.AM.Noti
open Go Go.AM Go.Proofs
set_option maxRecDepth 100000
def c5 : Int → List AV := fun n : Int => [.int .u8 n]
theorem op5 : Opens P 5 c5 ok5 := Opens.int Try.underlying5
def c87 : Z37 → List AV := fun x : Z37 => (c5 x.e0 ++ (c5 x.e1 ++ (c5 x.e2 ++ (c5 x.e3 ++ []))))
theorem op87 : Opens P 87 c87 ok87 := Z3s (N := 4) (sz := 1) Try.underlying87 (by kernel_rfl) (by rfl) (by kernel_rfl) (Z1g op5 (by kernel_rfl : P.cellsOf 5 = 1) rfl (Z1g op5 (by kernel_rfl : P.cellsOf 5 = 1) rfl (Z1g op5 (by kernel_rfl : P.cellsOf 5 = 1) rfl (Z1g op5 (by kernel_rfl : P.cellsOf 5 = 1) rfl Z2t)))) (fun ⟨u0, u1, u2, u3, _⟩ => ⟨⟨u0, u1, u2, u3⟩, rfl, fun h => h⟩)
def c22 : (List Z37) → List AV := fun l : List Z37 => [.sl 4 (l.map Z2n) false]
theorem op22 : Opens P 22 c22 ok22 := Opens.sl (g := Z2n) Try.underlying22 (by kernel_rfl) (by decide) op87 (Elem.ag (fun _ => rfl) (fun _ => rfl))
def c85 : Z36 → List AV := fun x : Z36 => (c5 x.e0 ++ (c5 x.e1 ++ []))
theorem op85 : Opens P 85 c85 ok85 := Z3s (N := 2) (sz := 1) Try.underlying85 (by kernel_rfl) (by rfl) (by kernel_rfl) (Z1g op5 (by kernel_rfl : P.cellsOf 5 = 1) rfl (Z1g op5 (by kernel_rfl : P.cellsOf 5 = 1) rfl Z2t)) (fun ⟨u0, u1, _⟩ => ⟨⟨u0, u1⟩, rfl, fun h => h⟩)
def c23 : (List Z36) → List AV := fun l : List Z36 => [.sl 2 (l.map Z2v) false]
theorem op23 : Opens P 23 c23 ok23 := Opens.sl (g := Z2v) Try.underlying23 (by kernel_rfl) (by decide) op85 (Elem.ag (fun _ => rfl) (fun _ => rfl))
def c25 : Z15 → List AV := fun x : Z15 => (c5 x.By ++ (c5 x.Repeat ++ (c22 x.Firings ++ (c22 x.Silences ++ (c23 x.Acks ++ (c23 x.Steps ++ []))))))
theorem op25 : Opens P 25 c25 ok25 := Opens.struct (N := 6) Try.underlying25 (by rfl) (by kernel_rfl) (Z1g op5 (by kernel_rfl : P.cellsOf 5 = 1) rfl (Z1g op5 (by kernel_rfl : P.cellsOf 5 = 1) rfl (Z1g op22 (by kernel_rfl : P.cellsOf 22 = 1) rfl (Z1g op22 (by kernel_rfl : P.cellsOf 22 = 1) rfl (Z1g op23 (by kernel_rfl : P.cellsOf 23 = 1) rfl (Z1g op23 (by kernel_rfl : P.cellsOf 23 = 1) rfl Z2t)))))) (fun ⟨u0, u1, u2, u3, u4, u5, _⟩ => ⟨⟨u0, u1, u2, u3, u4, u5⟩, rfl, fun h => h⟩)
end Go.AM.Noti
namespace Go.Proofs.Ytmdglfmfefmpkaa.notifyOrdersR
open Go Go.AM Go.AM.Noti Go.ChangeShapes Go.WideShapes Go.ChangeAt Go.RowKit
open Go.ChangeMaps (open_string shut_string)
theorem own : ownKnob Try.prog.godebug = none := by kernel_rfl
theorem laidOut : laidOutB Try.prog = true := by kernel_rfl
set_option maxRecDepth 100000 in
theorem lifted (os : Os) (started : os.Started) (H : Type) (enc : TypeId × Value → H) :
  ReturnsInHanded {} Try.checked os 8 .any (Rows.notifyOrdersSpec.pre6 enc Try.prog Try.f8 Rows.notifyOrdersRow.domain false) (Rows.notifyOrdersSpec.post enc Try.prog Try.f8 false true false false) := by
 refine returnsInHanded_of_change_sized (C := Try.checked) own started (by kernel_rfl) Try.func8
  (ChangeSpec.witness6 (enc := enc) (C := Try.checked) false ⟨#[], #[.agg #[.int .u8 0, .int .u8 0, .slice none 0 0, .slice none 0 0, .slice none 0 0, .slice none 0 0]], []⟩ 8 (by kernel_rfl) (by kernel_rfl) (by kernel_rfl) (by kernel_rfl)) ?_
 intro W base args ds gs before hval0 hW hcnd hsz0 _
 have hval : ∀ (j : Nat) t v, Try.f8.params[j]? = some t → args[j]? = some v → Value.okWide Try.prog W .any base t v := hval0
 have hW' := hW
 obtain ⟨p, q, hA0, hV, rfl, hfz, hnd⟩ := hW
 have hA : DataW.TrodAll enc Try.prog W 0 (fun _ => true) true Try.f8.params.toList args.toList ds p := hA0
 rw [Try.params8] at hA hval
 obtain ⟨v0, vs0, d0, ds0, p0, q0, hargs, rfl, rfl, h0, r0⟩ := trodAll_cons hA
 obtain ⟨rfl, rfl, rfl⟩ := trodAll_nil r0
 obtain rfl : args = #[v0] := by cases args; simp_all
 obtain ⟨rfl, rfl⟩ := trodVars_none hV
 obtain ⟨a0, e0, o0⟩ := (op25).argAg (g := Zv) (.inl ⟨_, Try.underlying25⟩) (fun _ => rfl) (hval 0 25 v0 rfl rfl) h0
 have lt0 : ∀ x ∈ p0, x.block < W.heap.size := by obtain ⟨m, hm⟩ := h0; exact DataW.trod_lt m _ _ _ hm
 clear hA0 hval0 hsz0
 obtain ⟨K, hK⟩ := pureOrders a0 o0
 refine (ACall.law (F8_ok K a0 true hK) (args := #[v0]) (by simp only [reps]; exact ⟨_, _, rfl, e0, rfl⟩)).mono fun e W' ⟨he, bel⟩ => ?_
 subst he
 exact ⟨_, rfl, _, _, _, [], _, [], hW', trodAll_mk1 (shut_bool Try.underlying4 _), (trodAll_cons_mk (Below.trod laidOut (by kernel_rfl) (of_decide_eq_true (by kernel_rfl)) h0 bel lt0) trodAll_mk0), rfl, bel.frame _, fun h => by cases h⟩
theorem over : Rows.notifyOrdersRow.holds Try.pinned (OpenSpec.ofChange Rows.notifyOrdersSpec) :=
 OpenClaim.holds_of_wide 8 Try.f8 rfl rfl rfl rfl rfl rfl rfl ⟨rfl, rfl, rfl, rfl, rfl⟩ rfl rfl rfl rfl rfl (by kernel_rfl) Try.func8 (by kernel_rfl)
  (of_decide_eq_true (by kernel_rfl)) (by unfold Func.isWrapper; first | (rw [if_pos (by decide +kernel)]; kernel_rfl) | (rw [if_neg (by decide +kernel)]; exact ⟨rfl, rfl⟩))
  (fun os started H enc _ => lifted os started H enc)
end Go.Proofs.Ytmdglfmfefmpkaa.notifyOrdersR
namespace Go.Proofs.Ytmdglfmfefmpkaa
theorem notifyOrders_holds : Rows.NotifyOrdersSaid := notifyOrdersR.over
end Go.Proofs.Ytmdglfmfefmpkaa
