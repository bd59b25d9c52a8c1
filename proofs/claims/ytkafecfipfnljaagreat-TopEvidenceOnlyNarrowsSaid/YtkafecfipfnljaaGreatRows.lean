/-
  No cell of these rows narrows 'for every input' (looked for: loops, veiled, ifaces, maps, wideKeys, modest, calm, conditions, laid).
  DERIVED. THE GIVEN ROWS OF THIS SEAT. 3 by the template 'for every input the law returns true; each argument reads behind the call as it read before'; 0 by the template 'total and deterministic' (their statements: YtkafecfipfnljaaGreatTotals.lean).
  GIVEN WITH THE SEED: the statements are not yours to turn. If you find one false, say at which input.
  Laid BY PROGRAM, IN A SANDBOX (cutbox-rows.mjs): the forced cells as the released guide's own fill.sh prints them over the translation 61c81c9ac127deb6… (all of the seat's roots in one cut). By AI agents, Wed Nov 11 2026. No macro, syntax, notation, axiom, sorry.
-/
import Derived.Test.YtkafecfipfnljaaGreatChecked
import GoSem.Claim
import GoSem.ClaimJoined
import GoSem.ClaimMapViews
import Derived.JoinedTies
import Derived.KernelRfl
namespace Go.Proofs.YtkafecfipfnljaaGreat
/- THE CELL 'sum', in the pinned program and in every row, IS THE sha256 OF THE DUMP (.gsa) THAT YtkafecfipfnljaaGreatProg.lean LOADS. Nothing in Lean hashes anything: it is a label: what it is worth is what the hold of that sum in a sandbox is worth. -/
noncomputable def Tryz.pinned : Pinned := { name := "ytkafecfipfnljaagreat", sum := "61c81c9ac127deb648aa948c20c3b8846cd27d8767857bf144f99d39235c6790", checked := Tryz.checked }
namespace Rows
def none {H : Type} : Left H := { results := [], args := [] }

/-- 'sleuthtop.TopEvidenceOnlyNarrows': WHATEVER THE INPUT: true; the input reads as it did. -/
def topEvidenceOnlyNarrowsSpec : ChangeSpec := { name := "topEvidenceOnlyNarrows", fn := fun _ => fun
  | [d1, d2, d3] => { results := [.lit (.bool true)], args := [d1, d2, d3] }
  | _ => none }
def topEvidenceOnlyNarrowsRow : OpenClaim := { program := "ytkafecfipfnljaagreat", sum := "61c81c9ac127deb648aa948c20c3b8846cd27d8767857bf144f99d39235c6790", func := "sleuth/sleuthtop.TopEvidenceOnlyNarrows", spec := "topEvidenceOnlyNarrows", unfollowed := true, recurses := true, plainKeys := false, apart := false }
def TopEvidenceOnlyNarrowsSaid : Prop := topEvidenceOnlyNarrowsRow.holds Tryz.pinned (OpenSpec.ofChange topEvidenceOnlyNarrowsSpec)

/-- ITS FALSE NEIGHBOUR: 'it returns false'. Refute it at one input. -/
def topEvidenceOnlyNarrowsWrong : ChangeSpec := { name := "topEvidenceOnlyNarrows", fn := fun _ => fun
  | [d1, d2, d3] => { results := [.lit (.bool false)], args := [d1, d2, d3] }
  | _ => none }
def TopEvidenceOnlyNarrowsWrongFalsely : Prop := topEvidenceOnlyNarrowsRow.holds Tryz.pinned (OpenSpec.ofChange topEvidenceOnlyNarrowsWrong)

/-- 'sleuthtop.TopAttributionAddsUp': WHATEVER THE INPUT: true; the input reads as it did. -/
def topAttributionAddsUpSpec : ChangeSpec := { name := "topAttributionAddsUp", fn := fun _ => fun
  | [d1, d2] => { results := [.lit (.bool true)], args := [d1, d2] }
  | _ => none }
def topAttributionAddsUpRow : OpenClaim := { program := "ytkafecfipfnljaagreat", sum := "61c81c9ac127deb648aa948c20c3b8846cd27d8767857bf144f99d39235c6790", func := "sleuth/sleuthtop.TopAttributionAddsUp", spec := "topAttributionAddsUp", unfollowed := true, recurses := true, plainKeys := false, apart := false }
def TopAttributionAddsUpSaid : Prop := topAttributionAddsUpRow.holds Tryz.pinned (OpenSpec.ofChange topAttributionAddsUpSpec)

/-- ITS FALSE NEIGHBOUR: 'it returns false'. Refute it at one input. -/
def topAttributionAddsUpWrong : ChangeSpec := { name := "topAttributionAddsUp", fn := fun _ => fun
  | [d1, d2] => { results := [.lit (.bool false)], args := [d1, d2] }
  | _ => none }
def TopAttributionAddsUpWrongFalsely : Prop := topAttributionAddsUpRow.holds Tryz.pinned (OpenSpec.ofChange topAttributionAddsUpWrong)

/-- 'sleuthtop.TopCertainPathsHold': WHATEVER THE INPUT: true; the input reads as it did. -/
def topCertainPathsHoldSpec : ChangeSpec := { name := "topCertainPathsHold", fn := fun _ => fun
  | [d1, d2] => { results := [.lit (.bool true)], args := [d1, d2] }
  | _ => none }
def topCertainPathsHoldRow : OpenClaim := { program := "ytkafecfipfnljaagreat", sum := "61c81c9ac127deb648aa948c20c3b8846cd27d8767857bf144f99d39235c6790", func := "sleuth/sleuthtop.TopCertainPathsHold", spec := "topCertainPathsHold", unfollowed := true, recurses := true, plainKeys := false, apart := false }
def TopCertainPathsHoldSaid : Prop := topCertainPathsHoldRow.holds Tryz.pinned (OpenSpec.ofChange topCertainPathsHoldSpec)

/-- ITS FALSE NEIGHBOUR: 'it returns false'. Refute it at one input. -/
def topCertainPathsHoldWrong : ChangeSpec := { name := "topCertainPathsHold", fn := fun _ => fun
  | [d1, d2] => { results := [.lit (.bool false)], args := [d1, d2] }
  | _ => none }
def TopCertainPathsHoldWrongFalsely : Prop := topCertainPathsHoldRow.holds Tryz.pinned (OpenSpec.ofChange topCertainPathsHoldWrong)

/- THE SECOND FORM. 'bulk': how many values and letters a reading holds, each counted each time it is reached (what is shared counts as often as it is met; a slice's spare places count too). A statement '..UptoSaid' is the law's where the arguments, and the package variables that the reading takes, are together of bulk at most 1048576: NARROWER than '..Said'. Prove '..Said' where nothing that the law and all that it calls make is longer than what came in: it says more and counts as full. Else prove '..UptoSaid'. A law counts once. -/
mutual
def uptoBulk {H : Type} : DataW H → Nat
  | .lit (.string bytes) => bytes.length + 1
  | .lit _ => 1
  | .nil => 1
  | .ptr d => uptoBulk d + 1
  | .slice elems spare => uptoBulkAll elems + uptoBulkAll spare + 1
  | .agg parts => uptoBulkAll parts + 1
  | .iface _ d => uptoBulk d + 1
  | .map entries => uptoBulkEntries entries + 1
  | .held _ => 1
def uptoBulkAll {H : Type} : List (DataW H) → Nat
  | [] => 0
  | d :: r => uptoBulk d + uptoBulkAll r
def uptoBulkEntries {H : Type} : List (Lit × DataW H) → Nat
  | [] => 0
  | x :: r => uptoBulkEntry x + uptoBulkEntries r
def uptoBulkEntry {H : Type} : Lit × DataW H → Nat
  | (.string bytes, d) => bytes.length + uptoBulk d + 1
  | (_, d) => uptoBulk d + 1
 end
def uptoSmall : (H : Type) → List (DataW H) → Bool := fun _ ds => decide (uptoBulkAll ds ≤ 1048576)
def OpenSpec.upto (s : _root_.Go.ChangeSpec) : _root_.Go.OpenSpec := { _root_.Go.OpenSpec.ofChange s with cond := some uptoSmall }

/-- 'sleuthtop.TopEvidenceOnlyNarrows', WHERE WHAT IT READS IS OF BULK AT MOST 1048576: true; the input reads as it did. -/
def topEvidenceOnlyNarrowsUptoRow : OpenClaim := { program := "ytkafecfipfnljaagreat", sum := "61c81c9ac127deb648aa948c20c3b8846cd27d8767857bf144f99d39235c6790", func := "sleuth/sleuthtop.TopEvidenceOnlyNarrows", spec := "topEvidenceOnlyNarrows", unfollowed := true, recurses := true, plainKeys := false, apart := false, narrowed := true }
def TopEvidenceOnlyNarrowsUptoSaid : Prop := topEvidenceOnlyNarrowsUptoRow.holds Tryz.pinned (OpenSpec.upto topEvidenceOnlyNarrowsSpec)

/-- 'sleuthtop.TopAttributionAddsUp', WHERE WHAT IT READS IS OF BULK AT MOST 1048576: true; the input reads as it did. -/
def topAttributionAddsUpUptoRow : OpenClaim := { program := "ytkafecfipfnljaagreat", sum := "61c81c9ac127deb648aa948c20c3b8846cd27d8767857bf144f99d39235c6790", func := "sleuth/sleuthtop.TopAttributionAddsUp", spec := "topAttributionAddsUp", unfollowed := true, recurses := true, plainKeys := false, apart := false, narrowed := true }
def TopAttributionAddsUpUptoSaid : Prop := topAttributionAddsUpUptoRow.holds Tryz.pinned (OpenSpec.upto topAttributionAddsUpSpec)

/-- 'sleuthtop.TopCertainPathsHold', WHERE WHAT IT READS IS OF BULK AT MOST 1048576: true; the input reads as it did. -/
def topCertainPathsHoldUptoRow : OpenClaim := { program := "ytkafecfipfnljaagreat", sum := "61c81c9ac127deb648aa948c20c3b8846cd27d8767857bf144f99d39235c6790", func := "sleuth/sleuthtop.TopCertainPathsHold", spec := "topCertainPathsHold", unfollowed := true, recurses := true, plainKeys := false, apart := false, narrowed := true }
def TopCertainPathsHoldUptoSaid : Prop := topCertainPathsHoldUptoRow.holds Tryz.pinned (OpenSpec.upto topCertainPathsHoldSpec)

end Rows
end Go.Proofs.YtkafecfipfnljaaGreat
