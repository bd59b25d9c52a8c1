/- Whatever the input, this law returns true and leaves its arguments as they were. -/
import Derived.Test.YtgikdjgdjogdmaaMsgCCon
import Derived.Test.YtgikdjgdjogdmaaAm2
import Derived.Test.YtgikdjgdjogdmaaRows
namespace Go.AM.MsgC
open Go Go.AM Go.Proofs
set_option maxRecDepth 100000
def c5 : Int → List AV := fun n : Int => [.int .u8 n]
theorem op5 : Opens P 5 c5 ok5 := Opens.int Try.underlying5
def c4 : Bool → List AV := fun b : Bool => [.bool b]
theorem op4 : Opens P 4 c4 ok4 := Opens.bool Try.underlying4
def c113 : Z1o → List AV := fun x : Z1o => (c5 x.Parent ++ (c5 x.Clock ++ (c5 x.Kind ++ (c5 x.Service ++ (c5 x.Version ++ (c5 x.Operation ++ (c5 x.Wait ++ (c5 x.Long ++ (c5 x.Link ++ (c5 x.Tag ++ (c4 x.Fail ++ [])))))))))))
theorem op113 : Opens P 113 c113 ok113 := Opens.struct (N := 11) Try.underlying113 (by rfl) (by kernel_rfl) (OpensF.cons op5 (by kernel_rfl : P.cellsOf 5 = 1) rfl (OpensF.cons op5 (by kernel_rfl : P.cellsOf 5 = 1) rfl (OpensF.cons op5 (by kernel_rfl : P.cellsOf 5 = 1) rfl (OpensF.cons op5 (by kernel_rfl : P.cellsOf 5 = 1) rfl (OpensF.cons op5 (by kernel_rfl : P.cellsOf 5 = 1) rfl (OpensF.cons op5 (by kernel_rfl : P.cellsOf 5 = 1) rfl (OpensF.cons op5 (by kernel_rfl : P.cellsOf 5 = 1) rfl (OpensF.cons op5 (by kernel_rfl : P.cellsOf 5 = 1) rfl (OpensF.cons op5 (by kernel_rfl : P.cellsOf 5 = 1) rfl (OpensF.cons op5 (by kernel_rfl : P.cellsOf 5 = 1) rfl (OpensF.cons op4 (by kernel_rfl : P.cellsOf 4 = 1) rfl OpensF.nil))))))))))) (fun ⟨u0, u1, u2, u3, u4, u5, u6, u7, u8, u9, u10, _⟩ => ⟨⟨u0, u1, u2, u3, u4, u5, u6, u7, u8, u9, u10⟩, rfl, fun h => h⟩)
def c100 : (List Z1o) → List AV := fun l : List Z1o => [.sl 11 (l.map Zj) false]
theorem op100 : Opens P 100 c100 ok100 := Opens.sl (g := Zj) Try.underlying100 (by kernel_rfl) (by decide) op113 (Elem.ag (fun _ => rfl) (fun _ => rfl))
def c102 : Z10 → List AV := fun x : Z10 => (c5 x.Slot ++ (c5 x.Start ++ (c100 x.Calls ++ [])))
theorem op102 : Opens P 102 c102 Z8p := Opens.struct (N := 3) Try.underlying102 (by rfl) (by kernel_rfl) (OpensF.cons op5 (by kernel_rfl : P.cellsOf 5 = 1) rfl (OpensF.cons op5 (by kernel_rfl : P.cellsOf 5 = 1) rfl (OpensF.cons op100 (by kernel_rfl : P.cellsOf 100 = 1) rfl OpensF.nil))) (fun ⟨u0, u1, u2, _⟩ => ⟨⟨u0, u1, u2⟩, rfl, fun h => h⟩)
def c41 : (List Z10) → List AV := fun l : List Z10 => [.sl 3 (l.map Zo) false]
theorem op41 : Opens P 41 c41 ok41 := Opens.sl (g := Zo) Try.underlying41 (by kernel_rfl) (by decide) op102 (Elem.ag (fun _ => rfl) (fun _ => rfl))
def c42 : Int → List AV := fun n : Int => [.int .i8 n]
theorem op42 : Opens P 42 c42 ok42 := Opens.int Try.underlying42
def c43 : A4_Int → List AV := fun x : A4_Int => (c42 x.e0 ++ (c42 x.e1 ++ (c42 x.e2 ++ (c42 x.e3 ++ []))))
theorem op43 : Opens P 43 c43 ok43 := Opens.arr (N := 4) (sz := 1) Try.underlying43 (by kernel_rfl) (by rfl) (by kernel_rfl) (OpensF.cons op42 (by kernel_rfl : P.cellsOf 42 = 1) rfl (OpensF.cons op42 (by kernel_rfl : P.cellsOf 42 = 1) rfl (OpensF.cons op42 (by kernel_rfl : P.cellsOf 42 = 1) rfl (OpensF.cons op42 (by kernel_rfl : P.cellsOf 42 = 1) rfl OpensF.nil)))) (fun ⟨u0, u1, u2, u3, _⟩ => ⟨⟨u0, u1, u2, u3⟩, rfl, fun h => h⟩)
def c108 : Z1x → List AV := fun x : Z1x => (c5 x.From ++ (c5 x.To ++ (c5 x.At ++ (c5 x.Delay ++ (c5 x.Slack ++ [])))))
theorem op108 : Opens P 108 c108 ok108 := Opens.struct (N := 5) Try.underlying108 (by rfl) (by kernel_rfl) (OpensF.cons op5 (by kernel_rfl : P.cellsOf 5 = 1) rfl (OpensF.cons op5 (by kernel_rfl : P.cellsOf 5 = 1) rfl (OpensF.cons op5 (by kernel_rfl : P.cellsOf 5 = 1) rfl (OpensF.cons op5 (by kernel_rfl : P.cellsOf 5 = 1) rfl (OpensF.cons op5 (by kernel_rfl : P.cellsOf 5 = 1) rfl OpensF.nil))))) (fun ⟨u0, u1, u2, u3, u4, _⟩ => ⟨⟨u0, u1, u2, u3, u4⟩, rfl, fun h => h⟩)
def c44 : (List Z1x) → List AV := fun l : List Z1x => [.sl 5 (l.map Z1g) false]
theorem op44 : Opens P 44 c44 ok44 := Opens.sl (g := Z1g) Try.underlying44 (by kernel_rfl) (by decide) op108 (Elem.ag (fun _ => rfl) (fun _ => rfl))
def c46 : Zn → List AV := fun x : Zn => (c41 x.Trees ++ (c43 x.Offsets ++ (c44 x.Syncs ++ (c5 x.Wrong ++ []))))
theorem op46 : Opens P 46 c46 Zcd := Opens.struct (N := 7) Try.underlying46 (by rfl) (by kernel_rfl) (OpensF.cons op41 (by kernel_rfl : P.cellsOf 41 = 1) rfl (OpensF.cons op43 (by kernel_rfl : P.cellsOf 43 = 4) rfl (OpensF.cons op44 (by kernel_rfl : P.cellsOf 44 = 1) rfl (OpensF.cons op5 (by kernel_rfl : P.cellsOf 5 = 1) rfl OpensF.nil)))) (fun ⟨u0, u1, u2, u3, _⟩ => ⟨⟨u0, u1, u2, u3⟩, rfl, fun h => h⟩)
def c68 : Z1s → List AV := fun x : Z1s => (c5 x.Which ++ (c5 x.Field ++ (c42 x.By ++ [])))
theorem op68 : Opens P 68 c68 ok68 := Opens.struct (N := 3) Try.underlying68 (by rfl) (by kernel_rfl) (OpensF.cons op5 (by kernel_rfl : P.cellsOf 5 = 1) rfl (OpensF.cons op5 (by kernel_rfl : P.cellsOf 5 = 1) rfl (OpensF.cons op42 (by kernel_rfl : P.cellsOf 42 = 1) rfl OpensF.nil))) (fun ⟨u0, u1, u2, _⟩ => ⟨⟨u0, u1, u2⟩, rfl, fun h => h⟩)
end Go.AM.MsgC
namespace Go.Proofs.Ytgikdjgdjogdmaa.messageContainsR
open Go Go.AM Go.AM.MsgC Go.ChangeShapes Go.WideShapes Go.ChangeAt Go.RowKit
open Go.ChangeMaps (open_string shut_string)
theorem own : ownKnob Try.prog.godebug = none := by kernel_rfl
theorem laidOut : laidOutB Try.prog = true := by kernel_rfl
set_option maxRecDepth 100000 in
theorem lifted (os : Os) (started : os.Started) (H : Type) (enc : TypeId × Value → H) :
  ReturnsInHanded {} Try.checked os 9 .any (Rows.messageContainsSpec.pre6 enc Try.prog Try.f9 Rows.messageContainsRow.domain false) (Rows.messageContainsSpec.post enc Try.prog Try.f9 false true false false) := by
 refine returnsInHanded_of_change_sized (C := Try.checked) own started (by kernel_rfl) Try.func9
  (ChangeSpec.witness6 (enc := enc) (C := Try.checked) false ⟨#[], #[.agg #[.slice none 0 0, .int .i8 0, .int .i8 0, .int .i8 0, .int .i8 0, .slice none 0 0, .int .u8 0], .agg #[.int .u8 0, .int .u8 0, .int .i8 0]], []⟩ 8 (by kernel_rfl) (by kernel_rfl) (by kernel_rfl) (by kernel_rfl)) ?_
 intro W base args ds gs before hval0 hW hcnd hsz0 _
 have hval : ∀ (j : Nat) t v, Try.f9.params[j]? = some t → args[j]? = some v → Value.okWide Try.prog W .any base t v := hval0
 have hW' := hW
 obtain ⟨p, q, hA0, hV, rfl, hfz, hnd⟩ := hW
 have hA : DataW.TrodAll enc Try.prog W 0 (fun _ => true) true Try.f9.params.toList args.toList ds p := hA0
 rw [Try.params9] at hA hval
 obtain ⟨v0, vs0, d0, ds0, p0, q0, hargs, rfl, rfl, h0, r0⟩ := trodAll_cons hA
 obtain ⟨v1, vs1, d1, ds1, p1, q1, rfl, rfl, rfl, h1, r1⟩ := trodAll_cons r0
 obtain ⟨rfl, rfl, rfl⟩ := trodAll_nil r1
 obtain rfl : args = #[v0, v1] := by cases args; simp_all
 obtain ⟨rfl, rfl⟩ := trodVars_none hV
 obtain ⟨a0, e0, o0⟩ := (op46).argAg (g := Zb) (.inl ⟨_, Try.underlying46⟩) (fun _ => rfl) (hval 0 46 v0 rfl rfl) h0
 have lt0 : ∀ x ∈ p0, x.block < W.heap.size := by obtain ⟨m, hm⟩ := h0; exact DataW.trod_lt m _ _ _ hm
 obtain ⟨a1, e1, o1⟩ := (op68).argAg (g := Z2b) (.inl ⟨_, Try.underlying68⟩) (fun _ => rfl) (hval 1 68 v1 rfl rfl) h1
 have lt1 : ∀ x ∈ p1, x.block < W.heap.size := by obtain ⟨m, hm⟩ := h1; exact DataW.trod_lt m _ _ _ hm
 clear hA0 hval0 hsz0
 obtain ⟨K, hK⟩ := pureContains a0 a1 o0 o1
 refine (ACall.law (F9_ok K a0 a1 true hK) (args := #[v0, v1]) (by simp only [reps]; exact ⟨_, _, rfl, e0, ⟨_, _, rfl, e1, rfl⟩⟩)).mono fun e W' ⟨he, bel⟩ => ?_
 subst he
 exact ⟨_, rfl, _, _, _, [], _, [], hW', trodAll_mk1 (shut_bool Try.underlying4 _), (trodAll_cons_mk (Below.trod laidOut (by kernel_rfl) (of_decide_eq_true (by kernel_rfl)) h0 bel lt0) (trodAll_cons_mk (Below.trod laidOut (by kernel_rfl) (of_decide_eq_true (by kernel_rfl)) h1 bel lt1) trodAll_mk0)), rfl, bel.frame _, fun h => by cases h⟩
theorem over : Rows.messageContainsRow.holds Try.pinned (OpenSpec.ofChange Rows.messageContainsSpec) :=
 OpenClaim.holds_of_wide 9 Try.f9 rfl rfl rfl rfl rfl rfl rfl ⟨rfl, rfl, rfl, rfl, rfl⟩ rfl rfl rfl rfl rfl (by kernel_rfl) Try.func9 (by kernel_rfl)
  (of_decide_eq_true (by kernel_rfl)) (by unfold Func.isWrapper; first | (rw [if_pos (by decide +kernel)]; kernel_rfl) | (rw [if_neg (by decide +kernel)]; exact ⟨rfl, rfl⟩))
  (fun os started H enc _ => lifted os started H enc)
end Go.Proofs.Ytgikdjgdjogdmaa.messageContainsR
namespace Go.Proofs.Ytgikdjgdjogdmaa
theorem messageContains_holds : Rows.MessageContainsSaid := messageContainsR.over
end Go.Proofs.Ytgikdjgdjogdmaa
