/-
  No cell of these rows narrows 'for every input' (looked for: loops, veiled, ifaces, maps, wideKeys, modest, calm, conditions, laid).
  DERIVED. THE GIVEN ROWS OF THIS SEAT. 12 by the template 'for every input the law returns true; each argument reads behind the call as it read before'; 0 by the template 'total and deterministic' (their statements: YtgikdjgdjogdmaaTotals.lean).
  GIVEN WITH THE SEED: the statements are not yours to turn. If you find one false, say at which input.
  Laid BY PROGRAM, IN A SANDBOX (cutbox-rows.mjs): the forced cells as the released guide's own fill.sh prints them over the translation 939df63bd1674247… (all of the seat's roots in one cut). By AI agents, Wed Nov 11 2026. No macro, syntax, notation, axiom, sorry.
-/
import Derived.Test.YtgikdjgdjogdmaaChecked
import GoSem.Claim
import GoSem.ClaimJoined
import GoSem.ClaimMapViews
import Derived.JoinedTies
import Derived.KernelRfl
namespace Go.Proofs.Ytgikdjgdjogdmaa
/- THE CELL 'sum', in the pinned program and in every row, IS THE sha256 OF THE DUMP (.gsa) THAT YtgikdjgdjogdmaaProg.lean LOADS. Nothing in Lean hashes anything: it is a label: what it is worth is what the hold of that sum in a sandbox is worth. -/
noncomputable def Try.pinned : Pinned := { name := "ytgikdjgdjogdmaa", sum := "939df63bd16742477e38fdda218381c02b99e49955615d0923272f60030023db", checked := Try.checked }
namespace Rows
def none {H : Type} : Left H := { results := [], args := [] }

/-- 'sleuthlaw14.MessageOrders': WHATEVER THE INPUT: true; the input reads as it did. -/
def messageOrdersSpec : ChangeSpec := { name := "messageOrders", fn := fun _ => fun
  | [d1, d2, d3] => { results := [.lit (.bool true)], args := [d1, d2, d3] }
  | _ => none }
def messageOrdersRow : OpenClaim := { program := "ytgikdjgdjogdmaa", sum := "939df63bd16742477e38fdda218381c02b99e49955615d0923272f60030023db", func := "sleuth/sleuthlaw14.MessageOrders", spec := "messageOrders", unfollowed := true, recurses := true, plainKeys := false, apart := false }
def MessageOrdersSaid : Prop := messageOrdersRow.holds Try.pinned (OpenSpec.ofChange messageOrdersSpec)

/-- ITS FALSE NEIGHBOUR: 'it returns false'. Refute it at one input. -/
def messageOrdersWrong : ChangeSpec := { name := "messageOrders", fn := fun _ => fun
  | [d1, d2, d3] => { results := [.lit (.bool false)], args := [d1, d2, d3] }
  | _ => none }
def MessageOrdersWrongFalsely : Prop := messageOrdersRow.holds Try.pinned (OpenSpec.ofChange messageOrdersWrong)

/-- 'sleuthlaw14.MessageSets': WHATEVER THE INPUT: true; the input reads as it did. -/
def messageSetsSpec : ChangeSpec := { name := "messageSets", fn := fun _ => fun
  | [d] => { results := [.lit (.bool true)], args := [d] }
  | _ => none }
def messageSetsRow : OpenClaim := { program := "ytgikdjgdjogdmaa", sum := "939df63bd16742477e38fdda218381c02b99e49955615d0923272f60030023db", func := "sleuth/sleuthlaw14.MessageSets", spec := "messageSets", unfollowed := true, recurses := true, plainKeys := false, apart := false }
def MessageSetsSaid : Prop := messageSetsRow.holds Try.pinned (OpenSpec.ofChange messageSetsSpec)

/-- ITS FALSE NEIGHBOUR: 'it returns false'. Refute it at one input. -/
def messageSetsWrong : ChangeSpec := { name := "messageSets", fn := fun _ => fun
  | [d] => { results := [.lit (.bool false)], args := [d] }
  | _ => none }
def MessageSetsWrongFalsely : Prop := messageSetsRow.holds Try.pinned (OpenSpec.ofChange messageSetsWrong)

/-- 'sleuthlaw14.MessageTold': WHATEVER THE INPUT: true; the input reads as it did. -/
def messageToldSpec : ChangeSpec := { name := "messageTold", fn := fun _ => fun
  | [d1, d2] => { results := [.lit (.bool true)], args := [d1, d2] }
  | _ => none }
def messageToldRow : OpenClaim := { program := "ytgikdjgdjogdmaa", sum := "939df63bd16742477e38fdda218381c02b99e49955615d0923272f60030023db", func := "sleuth/sleuthlaw14.MessageTold", spec := "messageTold", unfollowed := true, recurses := true, plainKeys := false, apart := false }
def MessageToldSaid : Prop := messageToldRow.holds Try.pinned (OpenSpec.ofChange messageToldSpec)

/-- ITS FALSE NEIGHBOUR: 'it returns false'. Refute it at one input. -/
def messageToldWrong : ChangeSpec := { name := "messageTold", fn := fun _ => fun
  | [d1, d2] => { results := [.lit (.bool false)], args := [d1, d2] }
  | _ => none }
def MessageToldWrongFalsely : Prop := messageToldRow.holds Try.pinned (OpenSpec.ofChange messageToldWrong)

/-- 'sleuthlaw14.MessageConsistent': WHATEVER THE INPUT: true; the input reads as it did. -/
def messageConsistentSpec : ChangeSpec := { name := "messageConsistent", fn := fun _ => fun
  | [d] => { results := [.lit (.bool true)], args := [d] }
  | _ => none }
def messageConsistentRow : OpenClaim := { program := "ytgikdjgdjogdmaa", sum := "939df63bd16742477e38fdda218381c02b99e49955615d0923272f60030023db", func := "sleuth/sleuthlaw14.MessageConsistent", spec := "messageConsistent", unfollowed := true, recurses := true, plainKeys := false, apart := false }
def MessageConsistentSaid : Prop := messageConsistentRow.holds Try.pinned (OpenSpec.ofChange messageConsistentSpec)

/-- ITS FALSE NEIGHBOUR: 'it returns false'. Refute it at one input. -/
def messageConsistentWrong : ChangeSpec := { name := "messageConsistent", fn := fun _ => fun
  | [d] => { results := [.lit (.bool false)], args := [d] }
  | _ => none }
def MessageConsistentWrongFalsely : Prop := messageConsistentRow.holds Try.pinned (OpenSpec.ofChange messageConsistentWrong)

/-- 'sleuthlaw14.MessageLengths': WHATEVER THE INPUT: true; the input reads as it did. -/
def messageLengthsSpec : ChangeSpec := { name := "messageLengths", fn := fun _ => fun
  | [d1, d2, d3] => { results := [.lit (.bool true)], args := [d1, d2, d3] }
  | _ => none }
def messageLengthsRow : OpenClaim := { program := "ytgikdjgdjogdmaa", sum := "939df63bd16742477e38fdda218381c02b99e49955615d0923272f60030023db", func := "sleuth/sleuthlaw14.MessageLengths", spec := "messageLengths", unfollowed := true, recurses := true, plainKeys := false, apart := false }
def MessageLengthsSaid : Prop := messageLengthsRow.holds Try.pinned (OpenSpec.ofChange messageLengthsSpec)

/-- ITS FALSE NEIGHBOUR: 'it returns false'. Refute it at one input. -/
def messageLengthsWrong : ChangeSpec := { name := "messageLengths", fn := fun _ => fun
  | [d1, d2, d3] => { results := [.lit (.bool false)], args := [d1, d2, d3] }
  | _ => none }
def MessageLengthsWrongFalsely : Prop := messageLengthsRow.holds Try.pinned (OpenSpec.ofChange messageLengthsWrong)

/-- 'sleuthlaw14.MessageConstraints': WHATEVER THE INPUT: true; the input reads as it did. -/
def messageConstraintsSpec : ChangeSpec := { name := "messageConstraints", fn := fun _ => fun
  | [d] => { results := [.lit (.bool true)], args := [d] }
  | _ => none }
def messageConstraintsRow : OpenClaim := { program := "ytgikdjgdjogdmaa", sum := "939df63bd16742477e38fdda218381c02b99e49955615d0923272f60030023db", func := "sleuth/sleuthlaw14.MessageConstraints", spec := "messageConstraints", unfollowed := true, recurses := true, plainKeys := false, apart := false }
def MessageConstraintsSaid : Prop := messageConstraintsRow.holds Try.pinned (OpenSpec.ofChange messageConstraintsSpec)

/-- ITS FALSE NEIGHBOUR: 'it returns false'. Refute it at one input. -/
def messageConstraintsWrong : ChangeSpec := { name := "messageConstraints", fn := fun _ => fun
  | [d] => { results := [.lit (.bool false)], args := [d] }
  | _ => none }
def MessageConstraintsWrongFalsely : Prop := messageConstraintsRow.holds Try.pinned (OpenSpec.ofChange messageConstraintsWrong)

/-- 'sleuthlaw14.MessageContains': WHATEVER THE INPUT: true; the input reads as it did. -/
def messageContainsSpec : ChangeSpec := { name := "messageContains", fn := fun _ => fun
  | [d1, d2] => { results := [.lit (.bool true)], args := [d1, d2] }
  | _ => none }
def messageContainsRow : OpenClaim := { program := "ytgikdjgdjogdmaa", sum := "939df63bd16742477e38fdda218381c02b99e49955615d0923272f60030023db", func := "sleuth/sleuthlaw14.MessageContains", spec := "messageContains", unfollowed := true, recurses := true, plainKeys := false, apart := false }
def MessageContainsSaid : Prop := messageContainsRow.holds Try.pinned (OpenSpec.ofChange messageContainsSpec)

/-- ITS FALSE NEIGHBOUR: 'it returns false'. Refute it at one input. -/
def messageContainsWrong : ChangeSpec := { name := "messageContains", fn := fun _ => fun
  | [d1, d2] => { results := [.lit (.bool false)], args := [d1, d2] }
  | _ => none }
def MessageContainsWrongFalsely : Prop := messageContainsRow.holds Try.pinned (OpenSpec.ofChange messageContainsWrong)

/-- 'sleuthlaw14.MessageEvents': WHATEVER THE INPUT: true; the input reads as it did. -/
def messageEventsSpec : ChangeSpec := { name := "messageEvents", fn := fun _ => fun
  | [d1, d2] => { results := [.lit (.bool true)], args := [d1, d2] }
  | _ => none }
def messageEventsRow : OpenClaim := { program := "ytgikdjgdjogdmaa", sum := "939df63bd16742477e38fdda218381c02b99e49955615d0923272f60030023db", func := "sleuth/sleuthlaw14.MessageEvents", spec := "messageEvents", unfollowed := true, recurses := true, plainKeys := false, apart := false }
def MessageEventsSaid : Prop := messageEventsRow.holds Try.pinned (OpenSpec.ofChange messageEventsSpec)

/-- ITS FALSE NEIGHBOUR: 'it returns false'. Refute it at one input. -/
def messageEventsWrong : ChangeSpec := { name := "messageEvents", fn := fun _ => fun
  | [d1, d2] => { results := [.lit (.bool false)], args := [d1, d2] }
  | _ => none }
def MessageEventsWrongFalsely : Prop := messageEventsRow.holds Try.pinned (OpenSpec.ofChange messageEventsWrong)

/-- 'sleuthlaw14.MessageTightest': WHATEVER THE INPUT: true; the input reads as it did. -/
def messageTightestSpec : ChangeSpec := { name := "messageTightest", fn := fun _ => fun
  | [d1, d2] => { results := [.lit (.bool true)], args := [d1, d2] }
  | _ => none }
def messageTightestRow : OpenClaim := { program := "ytgikdjgdjogdmaa", sum := "939df63bd16742477e38fdda218381c02b99e49955615d0923272f60030023db", func := "sleuth/sleuthlaw14.MessageTightest", spec := "messageTightest", unfollowed := true, recurses := true, plainKeys := false, apart := false }
def MessageTightestSaid : Prop := messageTightestRow.holds Try.pinned (OpenSpec.ofChange messageTightestSpec)

/-- ITS FALSE NEIGHBOUR: 'it returns false'. Refute it at one input. -/
def messageTightestWrong : ChangeSpec := { name := "messageTightest", fn := fun _ => fun
  | [d1, d2] => { results := [.lit (.bool false)], args := [d1, d2] }
  | _ => none }
def MessageTightestWrongFalsely : Prop := messageTightestRow.holds Try.pinned (OpenSpec.ofChange messageTightestWrong)

/-- 'sleuthlaw14.MessageChecks': WHATEVER THE INPUT: true; the input reads as it did. -/
def messageChecksSpec : ChangeSpec := { name := "messageChecks", fn := fun _ => fun
  | [d] => { results := [.lit (.bool true)], args := [d] }
  | _ => none }
def messageChecksRow : OpenClaim := { program := "ytgikdjgdjogdmaa", sum := "939df63bd16742477e38fdda218381c02b99e49955615d0923272f60030023db", func := "sleuth/sleuthlaw14.MessageChecks", spec := "messageChecks", unfollowed := true, recurses := true, plainKeys := false, apart := false }
def MessageChecksSaid : Prop := messageChecksRow.holds Try.pinned (OpenSpec.ofChange messageChecksSpec)

/-- ITS FALSE NEIGHBOUR: 'it returns false'. Refute it at one input. -/
def messageChecksWrong : ChangeSpec := { name := "messageChecks", fn := fun _ => fun
  | [d] => { results := [.lit (.bool false)], args := [d] }
  | _ => none }
def MessageChecksWrongFalsely : Prop := messageChecksRow.holds Try.pinned (OpenSpec.ofChange messageChecksWrong)

/-- 'sleuthlaw14.MessageDerives': WHATEVER THE INPUT: true; the input reads as it did. -/
def messageDerivesSpec : ChangeSpec := { name := "messageDerives", fn := fun _ => fun
  | [d1, d2] => { results := [.lit (.bool true)], args := [d1, d2] }
  | _ => none }
def messageDerivesRow : OpenClaim := { program := "ytgikdjgdjogdmaa", sum := "939df63bd16742477e38fdda218381c02b99e49955615d0923272f60030023db", func := "sleuth/sleuthlaw14.MessageDerives", spec := "messageDerives", unfollowed := true, recurses := true, plainKeys := false, apart := false }
def MessageDerivesSaid : Prop := messageDerivesRow.holds Try.pinned (OpenSpec.ofChange messageDerivesSpec)

/-- ITS FALSE NEIGHBOUR: 'it returns false'. Refute it at one input. -/
def messageDerivesWrong : ChangeSpec := { name := "messageDerives", fn := fun _ => fun
  | [d1, d2] => { results := [.lit (.bool false)], args := [d1, d2] }
  | _ => none }
def MessageDerivesWrongFalsely : Prop := messageDerivesRow.holds Try.pinned (OpenSpec.ofChange messageDerivesWrong)

/-- 'sleuthlaw14.MessageLists': WHATEVER THE INPUT: true; the input reads as it did. -/
def messageListsSpec : ChangeSpec := { name := "messageLists", fn := fun _ => fun
  | [d1, d2] => { results := [.lit (.bool true)], args := [d1, d2] }
  | _ => none }
def messageListsRow : OpenClaim := { program := "ytgikdjgdjogdmaa", sum := "939df63bd16742477e38fdda218381c02b99e49955615d0923272f60030023db", func := "sleuth/sleuthlaw14.MessageLists", spec := "messageLists", unfollowed := true, recurses := true, plainKeys := false, apart := false }
def MessageListsSaid : Prop := messageListsRow.holds Try.pinned (OpenSpec.ofChange messageListsSpec)

/-- ITS FALSE NEIGHBOUR: 'it returns false'. Refute it at one input. -/
def messageListsWrong : ChangeSpec := { name := "messageLists", fn := fun _ => fun
  | [d1, d2] => { results := [.lit (.bool false)], args := [d1, d2] }
  | _ => none }
def MessageListsWrongFalsely : Prop := messageListsRow.holds Try.pinned (OpenSpec.ofChange messageListsWrong)

/- THE SECOND FORM. 'bulk': how many values and letters a reading holds, each counted each time it is reached (what is shared counts as often as it is met; a slice's spare places count too). A statement '..UptoSaid' is the law's where the arguments, and the package variables that the reading takes, are together of bulk at most 1048576: NARROWER than '..Said'. Prove '..Said' where nothing that the law and all that it calls make is longer than what came in: it says more and counts as full. Else prove '..UptoSaid'. A law counts once. -/
mutual
def uptoBulk {H : Type} : DataW H → Nat
  | .lit (.string bytes) => bytes.length + 1
  | .lit _ => 1
  | .nil => 1
  | .ptr d => uptoBulk d + 1
  | .slice elems spare => uptoBulkAll elems + uptoBulkAll spare + 1
  | .agg parts => uptoBulkAll parts + 1
  | .iface _ d => uptoBulk d + 1
  | .map entries => uptoBulkEntries entries + 1
  | .held _ => 1
def uptoBulkAll {H : Type} : List (DataW H) → Nat
  | [] => 0
  | d :: r => uptoBulk d + uptoBulkAll r
def uptoBulkEntries {H : Type} : List (Lit × DataW H) → Nat
  | [] => 0
  | x :: r => uptoBulkEntry x + uptoBulkEntries r
def uptoBulkEntry {H : Type} : Lit × DataW H → Nat
  | (.string bytes, d) => bytes.length + uptoBulk d + 1
  | (_, d) => uptoBulk d + 1
 end
def uptoSmall : (H : Type) → List (DataW H) → Bool := fun _ ds => decide (uptoBulkAll ds ≤ 1048576)
def OpenSpec.upto (s : _root_.Go.ChangeSpec) : _root_.Go.OpenSpec := { _root_.Go.OpenSpec.ofChange s with cond := some uptoSmall }

/-- 'sleuthlaw14.MessageOrders', WHERE WHAT IT READS IS OF BULK AT MOST 1048576: true; the input reads as it did. -/
def messageOrdersUptoRow : OpenClaim := { program := "ytgikdjgdjogdmaa", sum := "939df63bd16742477e38fdda218381c02b99e49955615d0923272f60030023db", func := "sleuth/sleuthlaw14.MessageOrders", spec := "messageOrders", unfollowed := true, recurses := true, plainKeys := false, apart := false, narrowed := true }
def MessageOrdersUptoSaid : Prop := messageOrdersUptoRow.holds Try.pinned (OpenSpec.upto messageOrdersSpec)

/-- 'sleuthlaw14.MessageSets', WHERE WHAT IT READS IS OF BULK AT MOST 1048576: true; the input reads as it did. -/
def messageSetsUptoRow : OpenClaim := { program := "ytgikdjgdjogdmaa", sum := "939df63bd16742477e38fdda218381c02b99e49955615d0923272f60030023db", func := "sleuth/sleuthlaw14.MessageSets", spec := "messageSets", unfollowed := true, recurses := true, plainKeys := false, apart := false, narrowed := true }
def MessageSetsUptoSaid : Prop := messageSetsUptoRow.holds Try.pinned (OpenSpec.upto messageSetsSpec)

/-- 'sleuthlaw14.MessageTold', WHERE WHAT IT READS IS OF BULK AT MOST 1048576: true; the input reads as it did. -/
def messageToldUptoRow : OpenClaim := { program := "ytgikdjgdjogdmaa", sum := "939df63bd16742477e38fdda218381c02b99e49955615d0923272f60030023db", func := "sleuth/sleuthlaw14.MessageTold", spec := "messageTold", unfollowed := true, recurses := true, plainKeys := false, apart := false, narrowed := true }
def MessageToldUptoSaid : Prop := messageToldUptoRow.holds Try.pinned (OpenSpec.upto messageToldSpec)

/-- 'sleuthlaw14.MessageConsistent', WHERE WHAT IT READS IS OF BULK AT MOST 1048576: true; the input reads as it did. -/
def messageConsistentUptoRow : OpenClaim := { program := "ytgikdjgdjogdmaa", sum := "939df63bd16742477e38fdda218381c02b99e49955615d0923272f60030023db", func := "sleuth/sleuthlaw14.MessageConsistent", spec := "messageConsistent", unfollowed := true, recurses := true, plainKeys := false, apart := false, narrowed := true }
def MessageConsistentUptoSaid : Prop := messageConsistentUptoRow.holds Try.pinned (OpenSpec.upto messageConsistentSpec)

/-- 'sleuthlaw14.MessageLengths', WHERE WHAT IT READS IS OF BULK AT MOST 1048576: true; the input reads as it did. -/
def messageLengthsUptoRow : OpenClaim := { program := "ytgikdjgdjogdmaa", sum := "939df63bd16742477e38fdda218381c02b99e49955615d0923272f60030023db", func := "sleuth/sleuthlaw14.MessageLengths", spec := "messageLengths", unfollowed := true, recurses := true, plainKeys := false, apart := false, narrowed := true }
def MessageLengthsUptoSaid : Prop := messageLengthsUptoRow.holds Try.pinned (OpenSpec.upto messageLengthsSpec)

/-- 'sleuthlaw14.MessageConstraints', WHERE WHAT IT READS IS OF BULK AT MOST 1048576: true; the input reads as it did. -/
def messageConstraintsUptoRow : OpenClaim := { program := "ytgikdjgdjogdmaa", sum := "939df63bd16742477e38fdda218381c02b99e49955615d0923272f60030023db", func := "sleuth/sleuthlaw14.MessageConstraints", spec := "messageConstraints", unfollowed := true, recurses := true, plainKeys := false, apart := false, narrowed := true }
def MessageConstraintsUptoSaid : Prop := messageConstraintsUptoRow.holds Try.pinned (OpenSpec.upto messageConstraintsSpec)

/-- 'sleuthlaw14.MessageContains', WHERE WHAT IT READS IS OF BULK AT MOST 1048576: true; the input reads as it did. -/
def messageContainsUptoRow : OpenClaim := { program := "ytgikdjgdjogdmaa", sum := "939df63bd16742477e38fdda218381c02b99e49955615d0923272f60030023db", func := "sleuth/sleuthlaw14.MessageContains", spec := "messageContains", unfollowed := true, recurses := true, plainKeys := false, apart := false, narrowed := true }
def MessageContainsUptoSaid : Prop := messageContainsUptoRow.holds Try.pinned (OpenSpec.upto messageContainsSpec)

/-- 'sleuthlaw14.MessageEvents', WHERE WHAT IT READS IS OF BULK AT MOST 1048576: true; the input reads as it did. -/
def messageEventsUptoRow : OpenClaim := { program := "ytgikdjgdjogdmaa", sum := "939df63bd16742477e38fdda218381c02b99e49955615d0923272f60030023db", func := "sleuth/sleuthlaw14.MessageEvents", spec := "messageEvents", unfollowed := true, recurses := true, plainKeys := false, apart := false, narrowed := true }
def MessageEventsUptoSaid : Prop := messageEventsUptoRow.holds Try.pinned (OpenSpec.upto messageEventsSpec)

/-- 'sleuthlaw14.MessageTightest', WHERE WHAT IT READS IS OF BULK AT MOST 1048576: true; the input reads as it did. -/
def messageTightestUptoRow : OpenClaim := { program := "ytgikdjgdjogdmaa", sum := "939df63bd16742477e38fdda218381c02b99e49955615d0923272f60030023db", func := "sleuth/sleuthlaw14.MessageTightest", spec := "messageTightest", unfollowed := true, recurses := true, plainKeys := false, apart := false, narrowed := true }
def MessageTightestUptoSaid : Prop := messageTightestUptoRow.holds Try.pinned (OpenSpec.upto messageTightestSpec)

/-- 'sleuthlaw14.MessageChecks', WHERE WHAT IT READS IS OF BULK AT MOST 1048576: true; the input reads as it did. -/
def messageChecksUptoRow : OpenClaim := { program := "ytgikdjgdjogdmaa", sum := "939df63bd16742477e38fdda218381c02b99e49955615d0923272f60030023db", func := "sleuth/sleuthlaw14.MessageChecks", spec := "messageChecks", unfollowed := true, recurses := true, plainKeys := false, apart := false, narrowed := true }
def MessageChecksUptoSaid : Prop := messageChecksUptoRow.holds Try.pinned (OpenSpec.upto messageChecksSpec)

/-- 'sleuthlaw14.MessageDerives', WHERE WHAT IT READS IS OF BULK AT MOST 1048576: true; the input reads as it did. -/
def messageDerivesUptoRow : OpenClaim := { program := "ytgikdjgdjogdmaa", sum := "939df63bd16742477e38fdda218381c02b99e49955615d0923272f60030023db", func := "sleuth/sleuthlaw14.MessageDerives", spec := "messageDerives", unfollowed := true, recurses := true, plainKeys := false, apart := false, narrowed := true }
def MessageDerivesUptoSaid : Prop := messageDerivesUptoRow.holds Try.pinned (OpenSpec.upto messageDerivesSpec)

/-- 'sleuthlaw14.MessageLists', WHERE WHAT IT READS IS OF BULK AT MOST 1048576: true; the input reads as it did. -/
def messageListsUptoRow : OpenClaim := { program := "ytgikdjgdjogdmaa", sum := "939df63bd16742477e38fdda218381c02b99e49955615d0923272f60030023db", func := "sleuth/sleuthlaw14.MessageLists", spec := "messageLists", unfollowed := true, recurses := true, plainKeys := false, apart := false, narrowed := true }
def MessageListsUptoSaid : Prop := messageListsUptoRow.holds Try.pinned (OpenSpec.upto messageListsSpec)

end Rows
end Go.Proofs.Ytgikdjgdjogdmaa
