/- Whatever the input, this law returns true and leaves its arguments as they were. -/
import Derived.Test.YtgikdjgdjogdmaaMsgTold
import Derived.Test.YtgikdjgdjogdmaaAm1
import Derived.Test.YtgikdjgdjogdmaaRows
namespace Go.AM.Msg
open Go Go.AM Go.Proofs
set_option maxRecDepth 100000
def c3 : Int → List AV := fun n : Int => [.int .i64 n]
theorem op3 : Opens P 3 c3 ok3 := Opens.int Try.underlying3
def c9 : Str → List AV := fun s : Str => [.str s]
theorem op9 : Opens P 9 c9 ok9 := Opens.str Try.underlying9
def c4 : Bool → List AV := fun b : Bool => [.bool b]
theorem op4 : Opens P 4 c4 ok4 := Opens.bool Try.underlying4
def c165 : Tapi_Value → List AV := fun x : Tapi_Value => (c3 x.Kind ++ (c9 x.Text ++ (c3 x.Int ++ [])))
theorem op165 : Opens P 165 c165 ok165 := Opens.struct (N := 3) Try.underlying165 (by rfl) (by kernel_rfl) (OpensF.cons op3 (by kernel_rfl : P.cellsOf 3 = 1) rfl (OpensF.cons op9 (by kernel_rfl : P.cellsOf 9 = 1) rfl (OpensF.cons op3 (by kernel_rfl : P.cellsOf 3 = 1) rfl OpensF.nil))) (fun ⟨u0, u1, u2, _⟩ => ⟨⟨u0, u1, u2⟩, rfl, fun h => h⟩)
def c167 : Tapi_Attr → List AV := fun x : Tapi_Attr => (c9 x.Key ++ (c165 x.Value ++ []))
theorem op167 : Opens P 167 c167 ok167 := Opens.struct (N := 4) Try.underlying167 (by rfl) (by kernel_rfl) (OpensF.cons op9 (by kernel_rfl : P.cellsOf 9 = 1) rfl (OpensF.cons op165 (by kernel_rfl : P.cellsOf 165 = 3) rfl OpensF.nil)) (fun ⟨u0, u1, _⟩ => ⟨⟨u0, u1⟩, rfl, fun h => h⟩)
def c35 : (List Tapi_Attr) → List AV := fun l : List Tapi_Attr => [.sl 4 (l.map e_Tapi_Attr) false]
theorem op35 : Opens P 35 c35 ok35 := Opens.sl (g := e_Tapi_Attr) Try.underlying35 (by kernel_rfl) (by decide) op167 (Elem.ag (fun _ => rfl) (fun _ => rfl))
def c23 : Tapi_Ref → List AV := fun x : Tapi_Ref => (c3 x.Trace ++ (c3 x.Id ++ []))
theorem op23 : Opens P 23 c23 ok23 := Opens.struct (N := 2) Try.underlying23 (by rfl) (by kernel_rfl) (OpensF.cons op3 (by kernel_rfl : P.cellsOf 3 = 1) rfl (OpensF.cons op3 (by kernel_rfl : P.cellsOf 3 = 1) rfl OpensF.nil)) (fun ⟨u0, u1, _⟩ => ⟨⟨u0, u1⟩, rfl, fun h => h⟩)
def c36 : (List Tapi_Ref) → List AV := fun l : List Tapi_Ref => [.sl 2 (l.map e_Tapi_Ref) false]
theorem op36 : Opens P 36 c36 ok36 := Opens.sl (g := e_Tapi_Ref) Try.underlying36 (by kernel_rfl) (by decide) op23 (Elem.ag (fun _ => rfl) (fun _ => rfl))
def c38 : Tapi_Span → List AV := fun x : Tapi_Span => (c3 x.Trace ++ (c3 x.Id ++ (c3 x.Parent ++ (c3 x.Revision ++ (c3 x.Clock ++ (c3 x.Kind ++ (c9 x.Service ++ (c9 x.Version ++ (c9 x.Operation ++ (c3 x.Start ++ (c3 x.End ++ (c4 x.Error ++ (c35 x.Attrs ++ (c36 x.Links ++ []))))))))))))))
theorem op38 : Opens P 38 c38 ok38 := Opens.struct (N := 14) Try.underlying38 (by rfl) (by kernel_rfl) (OpensF.cons op3 (by kernel_rfl : P.cellsOf 3 = 1) rfl (OpensF.cons op3 (by kernel_rfl : P.cellsOf 3 = 1) rfl (OpensF.cons op3 (by kernel_rfl : P.cellsOf 3 = 1) rfl (OpensF.cons op3 (by kernel_rfl : P.cellsOf 3 = 1) rfl (OpensF.cons op3 (by kernel_rfl : P.cellsOf 3 = 1) rfl (OpensF.cons op3 (by kernel_rfl : P.cellsOf 3 = 1) rfl (OpensF.cons op9 (by kernel_rfl : P.cellsOf 9 = 1) rfl (OpensF.cons op9 (by kernel_rfl : P.cellsOf 9 = 1) rfl (OpensF.cons op9 (by kernel_rfl : P.cellsOf 9 = 1) rfl (OpensF.cons op3 (by kernel_rfl : P.cellsOf 3 = 1) rfl (OpensF.cons op3 (by kernel_rfl : P.cellsOf 3 = 1) rfl (OpensF.cons op4 (by kernel_rfl : P.cellsOf 4 = 1) rfl (OpensF.cons op35 (by kernel_rfl : P.cellsOf 35 = 1) rfl (OpensF.cons op36 (by kernel_rfl : P.cellsOf 36 = 1) rfl OpensF.nil)))))))))))))) (fun ⟨u0, u1, u2, u3, u4, u5, u6, u7, u8, u9, u10, u11, u12, u13, _⟩ => ⟨⟨u0, u1, u2, u3, u4, u5, u6, u7, u8, u9, u10, u11, u12, u13⟩, rfl, fun h => h⟩)
def c33 : (List Tapi_Span) → List AV := fun l : List Tapi_Span => [.sl 14 (l.map e_Tapi_Span) false]
theorem op33 : Opens P 33 c33 ok33 := Opens.sl (g := e_Tapi_Span) Try.underlying33 (by kernel_rfl) (by decide) op38 (Elem.ag (fun _ => rfl) (fun _ => rfl))
def c99 : Tapi_Exchange → List AV := fun x : Tapi_Exchange => (c3 x.From ++ (c3 x.To ++ (c3 x.Sent ++ (c3 x.Received ++ (c3 x.Least ++ [])))))
theorem op99 : Opens P 99 c99 ok99 := Opens.struct (N := 5) Try.underlying99 (by rfl) (by kernel_rfl) (OpensF.cons op3 (by kernel_rfl : P.cellsOf 3 = 1) rfl (OpensF.cons op3 (by kernel_rfl : P.cellsOf 3 = 1) rfl (OpensF.cons op3 (by kernel_rfl : P.cellsOf 3 = 1) rfl (OpensF.cons op3 (by kernel_rfl : P.cellsOf 3 = 1) rfl (OpensF.cons op3 (by kernel_rfl : P.cellsOf 3 = 1) rfl OpensF.nil))))) (fun ⟨u0, u1, u2, u3, u4, _⟩ => ⟨⟨u0, u1, u2, u3, u4⟩, rfl, fun h => h⟩)
def c34 : (List Tapi_Exchange) → List AV := fun l : List Tapi_Exchange => [.sl 5 (l.map e_Tapi_Exchange) false]
theorem op34 : Opens P 34 c34 ok34 := Opens.sl (g := e_Tapi_Exchange) Try.underlying34 (by kernel_rfl) (by decide) op99 (Elem.ag (fun _ => rfl) (fun _ => rfl))
end Go.AM.Msg
namespace Go.Proofs.Ytgikdjgdjogdmaa.messageToldR
open Go Go.AM Go.AM.Msg Go.ChangeShapes Go.WideShapes Go.ChangeAt Go.RowKit
open Go.ChangeMaps (open_string shut_string)
theorem own : ownKnob Try.prog.godebug = none := by kernel_rfl
theorem laidOut : laidOutB Try.prog = true := by kernel_rfl
set_option maxRecDepth 100000 in
theorem lifted (os : Os) (started : os.Started) (H : Type) (enc : TypeId × Value → H) :
    ReturnsInHanded {} Try.checked os 5 .any (Rows.messageToldSpec.pre6 enc Try.prog Try.f5 Rows.messageToldRow.domain false) (Rows.messageToldSpec.post enc Try.prog Try.f5 false true false false) := by
  refine returnsInHanded_of_change_sized (C := Try.checked) own started (by kernel_rfl) Try.func5
    (ChangeSpec.witness6 (enc := enc) (C := Try.checked) false ⟨#[], #[.slice none 0 0, .slice none 0 0], []⟩ 8 (by kernel_rfl) (by kernel_rfl) (by kernel_rfl) (by kernel_rfl)) ?_
  intro W base args ds gs before hval0 hW hcnd hsz0 _
  have hval : ∀ (j : Nat) t v, Try.f5.params[j]? = some t → args[j]? = some v → Value.okWide Try.prog W .any base t v := hval0
  have hW' := hW
  obtain ⟨p, q, hA0, hV, rfl, hfz, hnd⟩ := hW
  have hA : DataW.TrodAll enc Try.prog W 0 (fun _ => true) true Try.f5.params.toList args.toList ds p := hA0
  rw [Try.params5] at hA hval
  obtain ⟨v0, vs0, d0, ds0, p0, q0, hargs, rfl, rfl, h0, r0⟩ := trodAll_cons hA
  obtain ⟨v1, vs1, d1, ds1, p1, q1, rfl, rfl, rfl, h1, r1⟩ := trodAll_cons r0
  obtain ⟨rfl, rfl, rfl⟩ := trodAll_nil r1
  obtain rfl : args = #[v0, v1] := by cases args; simp_all
  obtain ⟨rfl, rfl⟩ := trodVars_none hV
  obtain ⟨a0, e0, o0⟩ := (op33).argSl (g := (fun l : (List Tapi_Span) => AV.sl 14 (l.map e_Tapi_Span) false)) Try.underlying33 (fun _ => rfl) (hval 0 33 v0 rfl rfl) h0
  have lt0 : ∀ x ∈ p0, x.block < W.heap.size := by obtain ⟨m, hm⟩ := h0; exact DataW.trod_lt m _ _ _ hm
  obtain ⟨a1, e1, o1⟩ := (op34).argSl (g := (fun l : (List Tapi_Exchange) => AV.sl 5 (l.map e_Tapi_Exchange) false)) Try.underlying34 (fun _ => rfl) (hval 1 34 v1 rfl rfl) h1
  have lt1 : ∀ x ∈ p1, x.block < W.heap.size := by obtain ⟨m, hm⟩ := h1; exact DataW.trod_lt m _ _ _ hm
  clear hA0 hval0 hsz0
  obtain ⟨K, hK⟩ := pureTold a0 a1 o0 o1
  refine (ACall.law (F5_ok K a0 a1 true hK) (args := #[v0, v1]) (by simp only [reps]; exact ⟨_, _, rfl, e0, ⟨_, _, rfl, e1, rfl⟩⟩)).mono fun e W' ⟨he, bel⟩ => ?_
  subst he
  exact ⟨_, rfl, _, _, _, [], _, [], hW', trodAll_mk1 (shut_bool Try.underlying4 _), (trodAll_cons_mk (Below.trod laidOut (by kernel_rfl) (of_decide_eq_true (by kernel_rfl)) h0 bel lt0) (trodAll_cons_mk (Below.trod laidOut (by kernel_rfl) (of_decide_eq_true (by kernel_rfl)) h1 bel lt1) trodAll_mk0)), rfl, bel.frame _, fun h => by cases h⟩
theorem over : Rows.messageToldRow.holds Try.pinned (OpenSpec.ofChange Rows.messageToldSpec) :=
  OpenClaim.holds_of_wide 5 Try.f5 rfl rfl rfl rfl rfl rfl rfl ⟨rfl, rfl, rfl, rfl, rfl⟩ rfl rfl rfl rfl rfl (by kernel_rfl) Try.func5 (by kernel_rfl)
    (of_decide_eq_true (by kernel_rfl)) (by unfold Func.isWrapper; first | (rw [if_pos (by decide +kernel)]; kernel_rfl) | (rw [if_neg (by decide +kernel)]; exact ⟨rfl, rfl⟩))
    (fun os started H enc _ => lifted os started H enc)
end Go.Proofs.Ytgikdjgdjogdmaa.messageToldR
namespace Go.Proofs.Ytgikdjgdjogdmaa
/-- The row, under a short name, for the claim. -/
theorem messageTold_holds : Rows.MessageToldSaid := messageToldR.over
end Go.Proofs.Ytgikdjgdjogdmaa
