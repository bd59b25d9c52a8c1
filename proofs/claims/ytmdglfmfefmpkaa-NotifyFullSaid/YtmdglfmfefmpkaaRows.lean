/-
  No cell of these rows narrows 'for every input' (looked for: loops, veiled, ifaces, maps, wideKeys, modest, calm, conditions, laid).
  DERIVED. THE GIVEN ROWS OF THIS SEAT. 10 by the template 'for every input the law returns true; each argument reads behind the call as it read before'; 0 by the template 'total and deterministic' (their statements: YtmdglfmfefmpkaaTotals.lean).
  GIVEN WITH THE SEED: the statements are not yours to turn. If you find one false, say at which input.
  Laid BY PROGRAM, IN A SANDBOX (cutbox-rows.mjs): the forced cells as the released guide's own fill.sh prints them over the translation 454e99f12ee17112… (all of the seat's roots in one cut). By AI agents, Wed Nov 11 2026. No macro, syntax, notation, axiom, sorry.
-/
import Derived.Test.YtmdglfmfefmpkaaChecked
import GoSem.Claim
import GoSem.ClaimJoined
import GoSem.ClaimMapViews
import Derived.JoinedTies
import Derived.KernelRfl
namespace Go.Proofs.Ytmdglfmfefmpkaa
/- THE CELL 'sum', in the pinned program and in every row, IS THE sha256 OF THE DUMP (.gsa) THAT YtmdglfmfefmpkaaProg.lean LOADS. Nothing in Lean hashes anything: it is a label: what it is worth is what the hold of that sum in a sandbox is worth. -/
noncomputable def Try.pinned : Pinned := { name := "ytmdglfmfefmpkaa", sum := "454e99f12ee17112103293274e440fd54c2e67e6d655ca30d16c07d568aedd95", checked := Try.checked }
namespace Rows
def none {H : Type} : Left H := { results := [], args := [] }

/-- 'sleuthlaw50.NotifyGroups': WHATEVER THE INPUT: true; the input reads as it did. -/
def notifyGroupsSpec : ChangeSpec := { name := "notifyGroups", fn := fun _ => fun
  | [d1, d2] => { results := [.lit (.bool true)], args := [d1, d2] }
  | _ => none }
def notifyGroupsRow : OpenClaim := { program := "ytmdglfmfefmpkaa", sum := "454e99f12ee17112103293274e440fd54c2e67e6d655ca30d16c07d568aedd95", func := "sleuth/sleuthlaw50.NotifyGroups", spec := "notifyGroups", unfollowed := true, recurses := true, apart := false }
def NotifyGroupsSaid : Prop := notifyGroupsRow.holds Try.pinned (OpenSpec.ofChange notifyGroupsSpec)

/-- ITS FALSE NEIGHBOUR: 'it returns false'. Refute it at one input. -/
def notifyGroupsWrong : ChangeSpec := { name := "notifyGroups", fn := fun _ => fun
  | [d1, d2] => { results := [.lit (.bool false)], args := [d1, d2] }
  | _ => none }
def NotifyGroupsWrongFalsely : Prop := notifyGroupsRow.holds Try.pinned (OpenSpec.ofChange notifyGroupsWrong)

/-- 'sleuthlaw50.NotifyLogs': WHATEVER THE INPUT: true; the input reads as it did. -/
def notifyLogsSpec : ChangeSpec := { name := "notifyLogs", fn := fun _ => fun
  | [d1, d2] => { results := [.lit (.bool true)], args := [d1, d2] }
  | _ => none }
def notifyLogsRow : OpenClaim := { program := "ytmdglfmfefmpkaa", sum := "454e99f12ee17112103293274e440fd54c2e67e6d655ca30d16c07d568aedd95", func := "sleuth/sleuthlaw50.NotifyLogs", spec := "notifyLogs", unfollowed := true, recurses := true, apart := false }
def NotifyLogsSaid : Prop := notifyLogsRow.holds Try.pinned (OpenSpec.ofChange notifyLogsSpec)

/-- ITS FALSE NEIGHBOUR: 'it returns false'. Refute it at one input. -/
def notifyLogsWrong : ChangeSpec := { name := "notifyLogs", fn := fun _ => fun
  | [d1, d2] => { results := [.lit (.bool false)], args := [d1, d2] }
  | _ => none }
def NotifyLogsWrongFalsely : Prop := notifyLogsRow.holds Try.pinned (OpenSpec.ofChange notifyLogsWrong)

/-- 'sleuthlaw50.NotifyGrows': WHATEVER THE INPUT: true; the input reads as it did. -/
def notifyGrowsSpec : ChangeSpec := { name := "notifyGrows", fn := fun _ => fun
  | [d1, d2, d3] => { results := [.lit (.bool true)], args := [d1, d2, d3] }
  | _ => none }
def notifyGrowsRow : OpenClaim := { program := "ytmdglfmfefmpkaa", sum := "454e99f12ee17112103293274e440fd54c2e67e6d655ca30d16c07d568aedd95", func := "sleuth/sleuthlaw50.NotifyGrows", spec := "notifyGrows", unfollowed := true, recurses := true, apart := false }
def NotifyGrowsSaid : Prop := notifyGrowsRow.holds Try.pinned (OpenSpec.ofChange notifyGrowsSpec)

/-- ITS FALSE NEIGHBOUR: 'it returns false'. Refute it at one input. -/
def notifyGrowsWrong : ChangeSpec := { name := "notifyGrows", fn := fun _ => fun
  | [d1, d2, d3] => { results := [.lit (.bool false)], args := [d1, d2, d3] }
  | _ => none }
def NotifyGrowsWrongFalsely : Prop := notifyGrowsRow.holds Try.pinned (OpenSpec.ofChange notifyGrowsWrong)

/-- 'sleuthlaw50.NotifyAcks': WHATEVER THE INPUT: true; the input reads as it did. -/
def notifyAcksSpec : ChangeSpec := { name := "notifyAcks", fn := fun _ => fun
  | [d1, d2, d3] => { results := [.lit (.bool true)], args := [d1, d2, d3] }
  | _ => none }
def notifyAcksRow : OpenClaim := { program := "ytmdglfmfefmpkaa", sum := "454e99f12ee17112103293274e440fd54c2e67e6d655ca30d16c07d568aedd95", func := "sleuth/sleuthlaw50.NotifyAcks", spec := "notifyAcks", unfollowed := true, recurses := true, apart := false }
def NotifyAcksSaid : Prop := notifyAcksRow.holds Try.pinned (OpenSpec.ofChange notifyAcksSpec)

/-- ITS FALSE NEIGHBOUR: 'it returns false'. Refute it at one input. -/
def notifyAcksWrong : ChangeSpec := { name := "notifyAcks", fn := fun _ => fun
  | [d1, d2, d3] => { results := [.lit (.bool false)], args := [d1, d2, d3] }
  | _ => none }
def NotifyAcksWrongFalsely : Prop := notifyAcksRow.holds Try.pinned (OpenSpec.ofChange notifyAcksWrong)

/-- 'sleuthlaw50.NotifySilences': WHATEVER THE INPUT: true; the input reads as it did. -/
def notifySilencesSpec : ChangeSpec := { name := "notifySilences", fn := fun _ => fun
  | [d1, d2, d3] => { results := [.lit (.bool true)], args := [d1, d2, d3] }
  | _ => none }
def notifySilencesRow : OpenClaim := { program := "ytmdglfmfefmpkaa", sum := "454e99f12ee17112103293274e440fd54c2e67e6d655ca30d16c07d568aedd95", func := "sleuth/sleuthlaw50.NotifySilences", spec := "notifySilences", unfollowed := true, recurses := true, apart := false }
def NotifySilencesSaid : Prop := notifySilencesRow.holds Try.pinned (OpenSpec.ofChange notifySilencesSpec)

/-- ITS FALSE NEIGHBOUR: 'it returns false'. Refute it at one input. -/
def notifySilencesWrong : ChangeSpec := { name := "notifySilences", fn := fun _ => fun
  | [d1, d2, d3] => { results := [.lit (.bool false)], args := [d1, d2, d3] }
  | _ => none }
def NotifySilencesWrongFalsely : Prop := notifySilencesRow.holds Try.pinned (OpenSpec.ofChange notifySilencesWrong)

/-- 'sleuthlaw50.NotifyOrders': WHATEVER THE INPUT: true; the input reads as it did. -/
def notifyOrdersSpec : ChangeSpec := { name := "notifyOrders", fn := fun _ => fun
  | [d] => { results := [.lit (.bool true)], args := [d] }
  | _ => none }
def notifyOrdersRow : OpenClaim := { program := "ytmdglfmfefmpkaa", sum := "454e99f12ee17112103293274e440fd54c2e67e6d655ca30d16c07d568aedd95", func := "sleuth/sleuthlaw50.NotifyOrders", spec := "notifyOrders", unfollowed := true, recurses := true, apart := false }
def NotifyOrdersSaid : Prop := notifyOrdersRow.holds Try.pinned (OpenSpec.ofChange notifyOrdersSpec)

/-- ITS FALSE NEIGHBOUR: 'it returns false'. Refute it at one input. -/
def notifyOrdersWrong : ChangeSpec := { name := "notifyOrders", fn := fun _ => fun
  | [d] => { results := [.lit (.bool false)], args := [d] }
  | _ => none }
def NotifyOrdersWrongFalsely : Prop := notifyOrdersRow.holds Try.pinned (OpenSpec.ofChange notifyOrdersWrong)

/-- 'sleuthlaw50.NotifyFull': WHATEVER THE INPUT: true; the input reads as it did. -/
def notifyFullSpec : ChangeSpec := { name := "notifyFull", fn := fun _ => fun
  | [d] => { results := [.lit (.bool true)], args := [d] }
  | _ => none }
def notifyFullRow : OpenClaim := { program := "ytmdglfmfefmpkaa", sum := "454e99f12ee17112103293274e440fd54c2e67e6d655ca30d16c07d568aedd95", func := "sleuth/sleuthlaw50.NotifyFull", spec := "notifyFull", unfollowed := true, recurses := true, apart := false }
def NotifyFullSaid : Prop := notifyFullRow.holds Try.pinned (OpenSpec.ofChange notifyFullSpec)

/-- ITS FALSE NEIGHBOUR: 'it returns false'. Refute it at one input. -/
def notifyFullWrong : ChangeSpec := { name := "notifyFull", fn := fun _ => fun
  | [d] => { results := [.lit (.bool false)], args := [d] }
  | _ => none }
def NotifyFullWrongFalsely : Prop := notifyFullRow.holds Try.pinned (OpenSpec.ofChange notifyFullWrong)

/-- 'sleuthlaw50.NotifyNext': WHATEVER THE INPUT: true; the input reads as it did. -/
def notifyNextSpec : ChangeSpec := { name := "notifyNext", fn := fun _ => fun
  | [d1, d2] => { results := [.lit (.bool true)], args := [d1, d2] }
  | _ => none }
def notifyNextRow : OpenClaim := { program := "ytmdglfmfefmpkaa", sum := "454e99f12ee17112103293274e440fd54c2e67e6d655ca30d16c07d568aedd95", func := "sleuth/sleuthlaw50.NotifyNext", spec := "notifyNext", unfollowed := true, recurses := true, apart := false }
def NotifyNextSaid : Prop := notifyNextRow.holds Try.pinned (OpenSpec.ofChange notifyNextSpec)

/-- ITS FALSE NEIGHBOUR: 'it returns false'. Refute it at one input. -/
def notifyNextWrong : ChangeSpec := { name := "notifyNext", fn := fun _ => fun
  | [d1, d2] => { results := [.lit (.bool false)], args := [d1, d2] }
  | _ => none }
def NotifyNextWrongFalsely : Prop := notifyNextRow.holds Try.pinned (OpenSpec.ofChange notifyNextWrong)

/-- 'sleuthlaw50.NotifyStates': WHATEVER THE INPUT: true; the input reads as it did. -/
def notifyStatesSpec : ChangeSpec := { name := "notifyStates", fn := fun _ => fun
  | [d1, d2] => { results := [.lit (.bool true)], args := [d1, d2] }
  | _ => none }
def notifyStatesRow : OpenClaim := { program := "ytmdglfmfefmpkaa", sum := "454e99f12ee17112103293274e440fd54c2e67e6d655ca30d16c07d568aedd95", func := "sleuth/sleuthlaw50.NotifyStates", spec := "notifyStates", unfollowed := true, recurses := true, apart := false }
def NotifyStatesSaid : Prop := notifyStatesRow.holds Try.pinned (OpenSpec.ofChange notifyStatesSpec)

/-- ITS FALSE NEIGHBOUR: 'it returns false'. Refute it at one input. -/
def notifyStatesWrong : ChangeSpec := { name := "notifyStates", fn := fun _ => fun
  | [d1, d2] => { results := [.lit (.bool false)], args := [d1, d2] }
  | _ => none }
def NotifyStatesWrongFalsely : Prop := notifyStatesRow.holds Try.pinned (OpenSpec.ofChange notifyStatesWrong)

/-- 'sleuthlaw50.NotifyChecks': WHATEVER THE INPUT: true; the input reads as it did. -/
def notifyChecksSpec : ChangeSpec := { name := "notifyChecks", fn := fun _ => fun
  | [d1, d2] => { results := [.lit (.bool true)], args := [d1, d2] }
  | _ => none }
def notifyChecksRow : OpenClaim := { program := "ytmdglfmfefmpkaa", sum := "454e99f12ee17112103293274e440fd54c2e67e6d655ca30d16c07d568aedd95", func := "sleuth/sleuthlaw50.NotifyChecks", spec := "notifyChecks", unfollowed := true, recurses := true, apart := false }
def NotifyChecksSaid : Prop := notifyChecksRow.holds Try.pinned (OpenSpec.ofChange notifyChecksSpec)

/-- ITS FALSE NEIGHBOUR: 'it returns false'. Refute it at one input. -/
def notifyChecksWrong : ChangeSpec := { name := "notifyChecks", fn := fun _ => fun
  | [d1, d2] => { results := [.lit (.bool false)], args := [d1, d2] }
  | _ => none }
def NotifyChecksWrongFalsely : Prop := notifyChecksRow.holds Try.pinned (OpenSpec.ofChange notifyChecksWrong)

/- THE SECOND FORM. 'bulk': how many values and letters a reading holds, each counted each time it is reached (what is shared counts as often as it is met; a slice's spare places count too). A statement '..UptoSaid' is the law's where the arguments, and the package variables that the reading takes, are together of bulk at most 1048576: NARROWER than '..Said'. Prove '..Said' where nothing that the law and all that it calls make is longer than what came in: it says more and counts as full. Else prove '..UptoSaid'. A law counts once. -/
mutual
def uptoBulk {H : Type} : DataW H → Nat
  | .lit (.string bytes) => bytes.length + 1
  | .lit _ => 1
  | .nil => 1
  | .ptr d => uptoBulk d + 1
  | .slice elems spare => uptoBulkAll elems + uptoBulkAll spare + 1
  | .agg parts => uptoBulkAll parts + 1
  | .iface _ d => uptoBulk d + 1
  | .map entries => uptoBulkEntries entries + 1
  | .held _ => 1
def uptoBulkAll {H : Type} : List (DataW H) → Nat
  | [] => 0
  | d :: r => uptoBulk d + uptoBulkAll r
def uptoBulkEntries {H : Type} : List (Lit × DataW H) → Nat
  | [] => 0
  | x :: r => uptoBulkEntry x + uptoBulkEntries r
def uptoBulkEntry {H : Type} : Lit × DataW H → Nat
  | (.string bytes, d) => bytes.length + uptoBulk d + 1
  | (_, d) => uptoBulk d + 1
 end
def uptoSmall : (H : Type) → List (DataW H) → Bool := fun _ ds => decide (uptoBulkAll ds ≤ 1048576)
def OpenSpec.upto (s : _root_.Go.ChangeSpec) : _root_.Go.OpenSpec := { _root_.Go.OpenSpec.ofChange s with cond := some uptoSmall }

/-- 'sleuthlaw50.NotifyGroups', WHERE WHAT IT READS IS OF BULK AT MOST 1048576: true; the input reads as it did. -/
def notifyGroupsUptoRow : OpenClaim := { program := "ytmdglfmfefmpkaa", sum := "454e99f12ee17112103293274e440fd54c2e67e6d655ca30d16c07d568aedd95", func := "sleuth/sleuthlaw50.NotifyGroups", spec := "notifyGroups", unfollowed := true, recurses := true, apart := false, narrowed := true }
def NotifyGroupsUptoSaid : Prop := notifyGroupsUptoRow.holds Try.pinned (OpenSpec.upto notifyGroupsSpec)

/-- 'sleuthlaw50.NotifyLogs', WHERE WHAT IT READS IS OF BULK AT MOST 1048576: true; the input reads as it did. -/
def notifyLogsUptoRow : OpenClaim := { program := "ytmdglfmfefmpkaa", sum := "454e99f12ee17112103293274e440fd54c2e67e6d655ca30d16c07d568aedd95", func := "sleuth/sleuthlaw50.NotifyLogs", spec := "notifyLogs", unfollowed := true, recurses := true, apart := false, narrowed := true }
def NotifyLogsUptoSaid : Prop := notifyLogsUptoRow.holds Try.pinned (OpenSpec.upto notifyLogsSpec)

/-- 'sleuthlaw50.NotifyGrows', WHERE WHAT IT READS IS OF BULK AT MOST 1048576: true; the input reads as it did. -/
def notifyGrowsUptoRow : OpenClaim := { program := "ytmdglfmfefmpkaa", sum := "454e99f12ee17112103293274e440fd54c2e67e6d655ca30d16c07d568aedd95", func := "sleuth/sleuthlaw50.NotifyGrows", spec := "notifyGrows", unfollowed := true, recurses := true, apart := false, narrowed := true }
def NotifyGrowsUptoSaid : Prop := notifyGrowsUptoRow.holds Try.pinned (OpenSpec.upto notifyGrowsSpec)

/-- 'sleuthlaw50.NotifyAcks', WHERE WHAT IT READS IS OF BULK AT MOST 1048576: true; the input reads as it did. -/
def notifyAcksUptoRow : OpenClaim := { program := "ytmdglfmfefmpkaa", sum := "454e99f12ee17112103293274e440fd54c2e67e6d655ca30d16c07d568aedd95", func := "sleuth/sleuthlaw50.NotifyAcks", spec := "notifyAcks", unfollowed := true, recurses := true, apart := false, narrowed := true }
def NotifyAcksUptoSaid : Prop := notifyAcksUptoRow.holds Try.pinned (OpenSpec.upto notifyAcksSpec)

/-- 'sleuthlaw50.NotifySilences', WHERE WHAT IT READS IS OF BULK AT MOST 1048576: true; the input reads as it did. -/
def notifySilencesUptoRow : OpenClaim := { program := "ytmdglfmfefmpkaa", sum := "454e99f12ee17112103293274e440fd54c2e67e6d655ca30d16c07d568aedd95", func := "sleuth/sleuthlaw50.NotifySilences", spec := "notifySilences", unfollowed := true, recurses := true, apart := false, narrowed := true }
def NotifySilencesUptoSaid : Prop := notifySilencesUptoRow.holds Try.pinned (OpenSpec.upto notifySilencesSpec)

/-- 'sleuthlaw50.NotifyOrders', WHERE WHAT IT READS IS OF BULK AT MOST 1048576: true; the input reads as it did. -/
def notifyOrdersUptoRow : OpenClaim := { program := "ytmdglfmfefmpkaa", sum := "454e99f12ee17112103293274e440fd54c2e67e6d655ca30d16c07d568aedd95", func := "sleuth/sleuthlaw50.NotifyOrders", spec := "notifyOrders", unfollowed := true, recurses := true, apart := false, narrowed := true }
def NotifyOrdersUptoSaid : Prop := notifyOrdersUptoRow.holds Try.pinned (OpenSpec.upto notifyOrdersSpec)

/-- 'sleuthlaw50.NotifyFull', WHERE WHAT IT READS IS OF BULK AT MOST 1048576: true; the input reads as it did. -/
def notifyFullUptoRow : OpenClaim := { program := "ytmdglfmfefmpkaa", sum := "454e99f12ee17112103293274e440fd54c2e67e6d655ca30d16c07d568aedd95", func := "sleuth/sleuthlaw50.NotifyFull", spec := "notifyFull", unfollowed := true, recurses := true, apart := false, narrowed := true }
def NotifyFullUptoSaid : Prop := notifyFullUptoRow.holds Try.pinned (OpenSpec.upto notifyFullSpec)

/-- 'sleuthlaw50.NotifyNext', WHERE WHAT IT READS IS OF BULK AT MOST 1048576: true; the input reads as it did. -/
def notifyNextUptoRow : OpenClaim := { program := "ytmdglfmfefmpkaa", sum := "454e99f12ee17112103293274e440fd54c2e67e6d655ca30d16c07d568aedd95", func := "sleuth/sleuthlaw50.NotifyNext", spec := "notifyNext", unfollowed := true, recurses := true, apart := false, narrowed := true }
def NotifyNextUptoSaid : Prop := notifyNextUptoRow.holds Try.pinned (OpenSpec.upto notifyNextSpec)

/-- 'sleuthlaw50.NotifyStates', WHERE WHAT IT READS IS OF BULK AT MOST 1048576: true; the input reads as it did. -/
def notifyStatesUptoRow : OpenClaim := { program := "ytmdglfmfefmpkaa", sum := "454e99f12ee17112103293274e440fd54c2e67e6d655ca30d16c07d568aedd95", func := "sleuth/sleuthlaw50.NotifyStates", spec := "notifyStates", unfollowed := true, recurses := true, apart := false, narrowed := true }
def NotifyStatesUptoSaid : Prop := notifyStatesUptoRow.holds Try.pinned (OpenSpec.upto notifyStatesSpec)

/-- 'sleuthlaw50.NotifyChecks', WHERE WHAT IT READS IS OF BULK AT MOST 1048576: true; the input reads as it did. -/
def notifyChecksUptoRow : OpenClaim := { program := "ytmdglfmfefmpkaa", sum := "454e99f12ee17112103293274e440fd54c2e67e6d655ca30d16c07d568aedd95", func := "sleuth/sleuthlaw50.NotifyChecks", spec := "notifyChecks", unfollowed := true, recurses := true, apart := false, narrowed := true }
def NotifyChecksUptoSaid : Prop := notifyChecksUptoRow.holds Try.pinned (OpenSpec.upto notifyChecksSpec)

end Rows
end Go.Proofs.Ytmdglfmfefmpkaa
