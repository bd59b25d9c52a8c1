/- Whatever the input, this law returns true and leaves its arguments as they were. -/
import Derived.Test.YtkafecfipfnljaaGreatTpG7
import Derived.Test.YtkafecfipfnljaaGreatTpEvid
import Derived.Test.YtkafecfipfnljaaGreatAm2
import Derived.Test.YtkafecfipfnljaaGreatRows
namespace Go.AM.Tp
open Go Go.AM Go.Proofs
set_option maxRecDepth 100000
def c5 : Int → List AV := fun n : Int => [.int .u8 n]
theorem op5 : Opens P 5 c5 ok5 := Opens.int Tryz.underlying5
def c4 : Bool → List AV := fun b : Bool => [.bool b]
theorem op4 : Opens P 4 c4 ok4 := Opens.bool Tryz.underlying4
def c330 : Z1c → List AV := fun x : Z1c => (c5 x.Parent ++ (c5 x.Clock ++ (c5 x.Kind ++ (c5 x.Service ++ (c5 x.Version ++ (c5 x.Operation ++ (c5 x.Wait ++ (c5 x.Long ++ (c5 x.Link ++ (c5 x.Tag ++ (c4 x.Fail ++ [])))))))))))
theorem op330 : Opens P 330 c330 Zpj := Opens.struct (N := 11) Tryz.underlying330 (by rfl) (by kernel_rfl) (OpensF.cons op5 (by kernel_rfl : P.cellsOf 5 = 1) rfl (OpensF.cons op5 (by kernel_rfl : P.cellsOf 5 = 1) rfl (OpensF.cons op5 (by kernel_rfl : P.cellsOf 5 = 1) rfl (OpensF.cons op5 (by kernel_rfl : P.cellsOf 5 = 1) rfl (OpensF.cons op5 (by kernel_rfl : P.cellsOf 5 = 1) rfl (OpensF.cons op5 (by kernel_rfl : P.cellsOf 5 = 1) rfl (OpensF.cons op5 (by kernel_rfl : P.cellsOf 5 = 1) rfl (OpensF.cons op5 (by kernel_rfl : P.cellsOf 5 = 1) rfl (OpensF.cons op5 (by kernel_rfl : P.cellsOf 5 = 1) rfl (OpensF.cons op5 (by kernel_rfl : P.cellsOf 5 = 1) rfl (OpensF.cons op4 (by kernel_rfl : P.cellsOf 4 = 1) rfl OpensF.nil))))))))))) (fun ⟨u0, u1, u2, u3, u4, u5, u6, u7, u8, u9, u10, _⟩ => ⟨⟨u0, u1, u2, u3, u4, u5, u6, u7, u8, u9, u10⟩, rfl, fun h => h⟩)
def c119 : (List Z1c) → List AV := fun l : List Z1c => [.sl 11 (l.map Z2z) false]
theorem op119 : Opens P 119 c119 ok119 := Opens.sl (g := Z2z) Tryz.underlying119 (by kernel_rfl) (by decide) op330 (Elem.ag (fun _ => rfl) (fun _ => rfl))
def c121 : Zk → List AV := fun x : Zk => (c5 x.Slot ++ (c5 x.Start ++ (c119 x.Calls ++ [])))
theorem op121 : Opens P 121 c121 Zel := Opens.struct (N := 3) Tryz.underlying121 (by rfl) (by kernel_rfl) (OpensF.cons op5 (by kernel_rfl : P.cellsOf 5 = 1) rfl (OpensF.cons op5 (by kernel_rfl : P.cellsOf 5 = 1) rfl (OpensF.cons op119 (by kernel_rfl : P.cellsOf 119 = 1) rfl OpensF.nil))) (fun ⟨u0, u1, u2, _⟩ => ⟨⟨u0, u1, u2⟩, rfl, fun h => h⟩)
def c22 : (List Zk) → List AV := fun l : List Zk => [.sl 3 (l.map Z3f) false]
theorem op22 : Opens P 22 c22 ok22 := Opens.sl (g := Z3f) Tryz.underlying22 (by kernel_rfl) (by decide) op121 (Elem.ag (fun _ => rfl) (fun _ => rfl))
def c23 : Int → List AV := fun n : Int => [.int .i8 n]
theorem op23 : Opens P 23 c23 ok23 := Opens.int Tryz.underlying23
def c24 : Zml → List AV := fun x : Zml => (c23 x.e0 ++ (c23 x.e1 ++ (c23 x.e2 ++ (c23 x.e3 ++ []))))
theorem op24 : Opens P 24 c24 ok24 := Opens.arr (N := 4) (sz := 1) Tryz.underlying24 (by kernel_rfl) (by rfl) (by kernel_rfl) (OpensF.cons op23 (by kernel_rfl : P.cellsOf 23 = 1) rfl (OpensF.cons op23 (by kernel_rfl : P.cellsOf 23 = 1) rfl (OpensF.cons op23 (by kernel_rfl : P.cellsOf 23 = 1) rfl (OpensF.cons op23 (by kernel_rfl : P.cellsOf 23 = 1) rfl OpensF.nil)))) (fun ⟨u0, u1, u2, u3, _⟩ => ⟨⟨u0, u1, u2, u3⟩, rfl, fun h => h⟩)
def c163 : Z1w → List AV := fun x : Z1w => (c5 x.From ++ (c5 x.To ++ (c5 x.At ++ (c5 x.Delay ++ (c5 x.Slack ++ [])))))
theorem op163 : Opens P 163 c163 ok163 := Opens.struct (N := 5) Tryz.underlying163 (by rfl) (by kernel_rfl) (OpensF.cons op5 (by kernel_rfl : P.cellsOf 5 = 1) rfl (OpensF.cons op5 (by kernel_rfl : P.cellsOf 5 = 1) rfl (OpensF.cons op5 (by kernel_rfl : P.cellsOf 5 = 1) rfl (OpensF.cons op5 (by kernel_rfl : P.cellsOf 5 = 1) rfl (OpensF.cons op5 (by kernel_rfl : P.cellsOf 5 = 1) rfl OpensF.nil))))) (fun ⟨u0, u1, u2, u3, u4, _⟩ => ⟨⟨u0, u1, u2, u3, u4⟩, rfl, fun h => h⟩)
def c25 : (List Z1w) → List AV := fun l : List Z1w => [.sl 5 (l.map Z4a) false]
theorem op25 : Opens P 25 c25 ok25 := Opens.sl (g := Z4a) Tryz.underlying25 (by kernel_rfl) (by decide) op163 (Elem.ag (fun _ => rfl) (fun _ => rfl))
def c27 : Zc → List AV := fun x : Zc => (c22 x.Trees ++ (c24 x.Offsets ++ (c25 x.Syncs ++ (c5 x.Wrong ++ []))))
theorem op27 : Opens P 27 c27 Zix := Opens.struct (N := 7) Tryz.underlying27 (by rfl) (by kernel_rfl) (OpensF.cons op22 (by kernel_rfl : P.cellsOf 22 = 1) rfl (OpensF.cons op24 (by kernel_rfl : P.cellsOf 24 = 4) rfl (OpensF.cons op25 (by kernel_rfl : P.cellsOf 25 = 1) rfl (OpensF.cons op5 (by kernel_rfl : P.cellsOf 5 = 1) rfl OpensF.nil)))) (fun ⟨u0, u1, u2, u3, _⟩ => ⟨⟨u0, u1, u2, u3⟩, rfl, fun h => h⟩)
def c147 : Zu → List AV := fun x : Zu => (c5 x.From ++ (c5 x.To ++ (c23 x.By ++ [])))
theorem op147 : Opens P 147 c147 ok147 := Opens.struct (N := 3) Tryz.underlying147 (by rfl) (by kernel_rfl) (OpensF.cons op5 (by kernel_rfl : P.cellsOf 5 = 1) rfl (OpensF.cons op5 (by kernel_rfl : P.cellsOf 5 = 1) rfl (OpensF.cons op23 (by kernel_rfl : P.cellsOf 23 = 1) rfl OpensF.nil))) (fun ⟨u0, u1, u2, _⟩ => ⟨⟨u0, u1, u2⟩, rfl, fun h => h⟩)
def c28 : (List Zu) → List AV := fun l : List Zu => [.sl 3 (l.map Z2c) false]
theorem op28 : Opens P 28 c28 ok28 := Opens.sl (g := Z2c) Tryz.underlying28 (by kernel_rfl) (by decide) op147 (Elem.ag (fun _ => rfl) (fun _ => rfl))
end Go.AM.Tp
namespace Go.Proofs.YtkafecfipfnljaaGreat.topEvidenceOnlyNarrowsR
open Go Go.AM Go.AM.Tp Go.ChangeShapes Go.WideShapes Go.ChangeAt Go.RowKit
open Go.ChangeMaps (open_string shut_string)
theorem own : ownKnob Tryz.prog.godebug = none := by kernel_rfl
theorem laidOut : laidOutB Tryz.prog = true := by kernel_rfl
set_option maxRecDepth 100000 in
theorem lifted (os : Os) (started : os.Started) (H : Type) (enc : TypeId × Value → H) :
  ReturnsInHanded {} Tryz.checked os 3 .any (Rows.topEvidenceOnlyNarrowsSpec.pre6 enc Tryz.prog Tryz.f3 Rows.topEvidenceOnlyNarrowsRow.domain false) (Rows.topEvidenceOnlyNarrowsSpec.post enc Tryz.prog Tryz.f3 false true false false) := by
 refine returnsInHanded_of_change_sized (C := Tryz.checked) own started (by kernel_rfl) Tryz.func3
  (ChangeSpec.witness6 (enc := enc) (C := Tryz.checked) false ⟨#[], #[.agg #[.slice none 0 0, .int .i8 0, .int .i8 0, .int .i8 0, .int .i8 0, .slice none 0 0, .int .u8 0], .slice none 0 0, .slice none 0 0], []⟩ 8 (by kernel_rfl) (by kernel_rfl) (by kernel_rfl) (by kernel_rfl)) ?_
 intro W base args ds gs before hval0 hW hcnd hsz0 _
 have hval : ∀ (j : Nat) t v, Tryz.f3.params[j]? = some t → args[j]? = some v → Value.okWide Tryz.prog W .any base t v := hval0
 have hW' := hW
 obtain ⟨p, q, hA0, hV, rfl, hfz, hnd⟩ := hW
 have hA : DataW.TrodAll enc Tryz.prog W 0 (fun _ => true) true Tryz.f3.params.toList args.toList ds p := hA0
 rw [Tryz.params3] at hA hval
 obtain ⟨v0, vs0, d0, ds0, p0, q0, hargs, rfl, rfl, h0, r0⟩ := trodAll_cons hA
 obtain ⟨v1, vs1, d1, ds1, p1, q1, rfl, rfl, rfl, h1, r1⟩ := trodAll_cons r0
 obtain ⟨v2, vs2, d2, ds2, p2, q2, rfl, rfl, rfl, h2, r2⟩ := trodAll_cons r1
 obtain ⟨rfl, rfl, rfl⟩ := trodAll_nil r2
 obtain rfl : args = #[v0, v1, v2] := by cases args; simp_all
 obtain ⟨rfl, rfl⟩ := trodVars_none hV
 obtain ⟨a0, e0, o0⟩ := (op27).argAg (g := Z1r) (.inl ⟨_, Tryz.underlying27⟩) (fun _ => rfl) (hval 0 27 v0 rfl rfl) h0
 have lt0 : ∀ x ∈ p0, x.block < W.heap.size := by obtain ⟨m, hm⟩ := h0; exact DataW.trod_lt m _ _ _ hm
 obtain ⟨a1, e1, o1⟩ := (op28).argSl (g := (fun l : (List Zu) => AV.sl 3 (l.map Z2c) false)) Tryz.underlying28 (fun _ => rfl) (hval 1 28 v1 rfl rfl) h1
 have lt1 : ∀ x ∈ p1, x.block < W.heap.size := by obtain ⟨m, hm⟩ := h1; exact DataW.trod_lt m _ _ _ hm
 obtain ⟨a2, e2, o2⟩ := (op28).argSl (g := (fun l : (List Zu) => AV.sl 3 (l.map Z2c) false)) Tryz.underlying28 (fun _ => rfl) (hval 2 28 v2 rfl rfl) h2
 have lt2 : ∀ x ∈ p2, x.block < W.heap.size := by obtain ⟨m, hm⟩ := h2; exact DataW.trod_lt m _ _ _ hm
 clear hA0 hval0 hsz0
 obtain ⟨K, hK⟩ := pureEvidence a0 a1 a2 o0 o1 o2
 refine (ACall.law (F3_ok K a0 a1 a2 true hK) (args := #[v0, v1, v2]) (by simp only [reps]; exact ⟨_, _, rfl, e0, ⟨_, _, rfl, e1, ⟨_, _, rfl, e2, rfl⟩⟩⟩)).mono fun e W' ⟨he, bel⟩ => ?_
 subst he
 exact ⟨_, rfl, _, _, _, [], _, [], hW', trodAll_mk1 (shut_bool Tryz.underlying4 _), (trodAll_cons_mk (Below.trod laidOut (by kernel_rfl) (of_decide_eq_true (by kernel_rfl)) h0 bel lt0) (trodAll_cons_mk (Below.trod laidOut (by kernel_rfl) (of_decide_eq_true (by kernel_rfl)) h1 bel lt1) (trodAll_cons_mk (Below.trod laidOut (by kernel_rfl) (of_decide_eq_true (by kernel_rfl)) h2 bel lt2) trodAll_mk0))), rfl, bel.frame _, fun h => by cases h⟩
theorem named : Tryz.checked.prog.funcNamed Rows.topEvidenceOnlyNarrowsRow.func = some 3 := by kernel_rfl
theorem facts : joinedFacts Tryz.checked.prog 3 Tryz.f3 Rows.topEvidenceOnlyNarrowsSpec Rows.topEvidenceOnlyNarrowsRow = true := by kernel_rfl
theorem inst : Tryz.f3.isInstance Tryz.checked.prog Rows.topEvidenceOnlyNarrowsRow.origin Rows.topEvidenceOnlyNarrowsRow.targs := of_decide_eq_true (by kernel_rfl)
theorem wrap : Tryz.f3.isWrapper Tryz.checked.prog Rows.topEvidenceOnlyNarrowsRow.wrapper Rows.topEvidenceOnlyNarrowsRow.mainSum := by unfold Func.isWrapper; first | (rw [if_pos (by decide +kernel)]; kernel_rfl) | (rw [if_neg (by decide +kernel)]; exact ⟨rfl, rfl⟩)
theorem over : Rows.topEvidenceOnlyNarrowsRow.holds Tryz.pinned (OpenSpec.ofChange Rows.topEvidenceOnlyNarrowsSpec) :=
 OpenClaim.holds_of_wide 3 Tryz.f3 rfl rfl rfl rfl rfl rfl rfl ⟨rfl, rfl, rfl, rfl, rfl⟩ rfl rfl rfl rfl rfl named Tryz.func3 facts inst wrap
  (fun os started H enc _ => lifted os started H enc)
end Go.Proofs.YtkafecfipfnljaaGreat.topEvidenceOnlyNarrowsR
namespace Go.Proofs.YtkafecfipfnljaaGreat
theorem topEvidenceOnlyNarrows_holds : Rows.TopEvidenceOnlyNarrowsSaid := topEvidenceOnlyNarrowsR.over
end Go.Proofs.YtkafecfipfnljaaGreat
