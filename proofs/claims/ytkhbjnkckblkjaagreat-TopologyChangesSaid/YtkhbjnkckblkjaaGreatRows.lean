/-
  No cell of these rows narrows 'for every input' (looked for: loops, veiled, ifaces, maps, wideKeys, modest, calm, conditions, laid).
  DERIVED. THE GIVEN ROWS OF THIS SEAT. 8 by the template 'for every input the law returns true; each argument reads behind the call as it read before'; 0 by the template 'total and deterministic' (their statements: YtkhbjnkckblkjaaGreatTotals.lean).
  GIVEN WITH THE SEED: the statements are not yours to turn. If you find one false, say at which input.
  Laid BY PROGRAM, IN A SANDBOX (cutbox-rows.mjs): the forced cells as the released guide's own fill.sh prints them over the translation 8805410caa7dd163… (all of the seat's roots in one cut). By AI agents, Wed Nov 11 2026. No macro, syntax, notation, axiom, sorry.
-/
import Derived.Test.YtkhbjnkckblkjaaGreatChecked
import GoSem.Claim
import GoSem.ClaimJoined
import GoSem.ClaimMapViews
import Derived.JoinedTies
import Derived.KernelRfl
namespace Go.Proofs.YtkhbjnkckblkjaaGreat
/- THE CELL 'sum', in the pinned program and in every row, IS THE sha256 OF THE DUMP (.gsa) THAT YtkhbjnkckblkjaaGreatProg.lean LOADS. Nothing in Lean hashes anything: it is a label: what it is worth is what the hold of that sum in a sandbox is worth. -/
noncomputable def Tryz.pinned : Pinned := { name := "ytkhbjnkckblkjaagreat", sum := "8805410caa7dd16374cfb713c7f2b5f04034620fa714443273abc1743253f98c", checked := Tryz.checked }
namespace Rows
def none {H : Type} : Left H := { results := [], args := [] }

/-- 'sleuthlaw46.TopologyMerges': WHATEVER THE INPUT: true; the input reads as it did. -/
def topologyMergesSpec : ChangeSpec := { name := "topologyMerges", fn := fun _ => fun
  | [d1, d2, d3] => { results := [.lit (.bool true)], args := [d1, d2, d3] }
  | _ => none }
def topologyMergesRow : OpenClaim := { program := "ytkhbjnkckblkjaagreat", sum := "8805410caa7dd16374cfb713c7f2b5f04034620fa714443273abc1743253f98c", func := "sleuth/sleuthlaw46.TopologyMerges", spec := "topologyMerges", unfollowed := true, recurses := true, plainKeys := false, apart := false }
def TopologyMergesSaid : Prop := topologyMergesRow.holds Tryz.pinned (OpenSpec.ofChange topologyMergesSpec)

/-- ITS FALSE NEIGHBOUR: 'it returns false'. Refute it at one input. -/
def topologyMergesWrong : ChangeSpec := { name := "topologyMerges", fn := fun _ => fun
  | [d1, d2, d3] => { results := [.lit (.bool false)], args := [d1, d2, d3] }
  | _ => none }
def TopologyMergesWrongFalsely : Prop := topologyMergesRow.holds Tryz.pinned (OpenSpec.ofChange topologyMergesWrong)

/-- 'sleuthlaw46.TopologyBuilds': WHATEVER THE INPUT: true; the input reads as it did. -/
def topologyBuildsSpec : ChangeSpec := { name := "topologyBuilds", fn := fun _ => fun
  | [d1, d2] => { results := [.lit (.bool true)], args := [d1, d2] }
  | _ => none }
def topologyBuildsRow : OpenClaim := { program := "ytkhbjnkckblkjaagreat", sum := "8805410caa7dd16374cfb713c7f2b5f04034620fa714443273abc1743253f98c", func := "sleuth/sleuthlaw46.TopologyBuilds", spec := "topologyBuilds", unfollowed := true, recurses := true, plainKeys := false, apart := false }
def TopologyBuildsSaid : Prop := topologyBuildsRow.holds Tryz.pinned (OpenSpec.ofChange topologyBuildsSpec)

/-- ITS FALSE NEIGHBOUR: 'it returns false'. Refute it at one input. -/
def topologyBuildsWrong : ChangeSpec := { name := "topologyBuilds", fn := fun _ => fun
  | [d1, d2] => { results := [.lit (.bool false)], args := [d1, d2] }
  | _ => none }
def TopologyBuildsWrongFalsely : Prop := topologyBuildsRow.holds Tryz.pinned (OpenSpec.ofChange topologyBuildsWrong)

/-- 'sleuthlaw46.TopologyDiffers': WHATEVER THE INPUT: true; the input reads as it did. -/
def topologyDiffersSpec : ChangeSpec := { name := "topologyDiffers", fn := fun _ => fun
  | [d1, d2] => { results := [.lit (.bool true)], args := [d1, d2] }
  | _ => none }
def topologyDiffersRow : OpenClaim := { program := "ytkhbjnkckblkjaagreat", sum := "8805410caa7dd16374cfb713c7f2b5f04034620fa714443273abc1743253f98c", func := "sleuth/sleuthlaw46.TopologyDiffers", spec := "topologyDiffers", unfollowed := true, recurses := true, plainKeys := false, apart := false }
def TopologyDiffersSaid : Prop := topologyDiffersRow.holds Tryz.pinned (OpenSpec.ofChange topologyDiffersSpec)

/-- ITS FALSE NEIGHBOUR: 'it returns false'. Refute it at one input. -/
def topologyDiffersWrong : ChangeSpec := { name := "topologyDiffers", fn := fun _ => fun
  | [d1, d2] => { results := [.lit (.bool false)], args := [d1, d2] }
  | _ => none }
def TopologyDiffersWrongFalsely : Prop := topologyDiffersRow.holds Tryz.pinned (OpenSpec.ofChange topologyDiffersWrong)

/-- 'sleuthlaw46.TopologyChecks': WHATEVER THE INPUT: true; the input reads as it did. -/
def topologyChecksSpec : ChangeSpec := { name := "topologyChecks", fn := fun _ => fun
  | [d1, d2, d3] => { results := [.lit (.bool true)], args := [d1, d2, d3] }
  | _ => none }
def topologyChecksRow : OpenClaim := { program := "ytkhbjnkckblkjaagreat", sum := "8805410caa7dd16374cfb713c7f2b5f04034620fa714443273abc1743253f98c", func := "sleuth/sleuthlaw46.TopologyChecks", spec := "topologyChecks", unfollowed := true, recurses := true, plainKeys := false, apart := false }
def TopologyChecksSaid : Prop := topologyChecksRow.holds Tryz.pinned (OpenSpec.ofChange topologyChecksSpec)

/-- ITS FALSE NEIGHBOUR: 'it returns false'. Refute it at one input. -/
def topologyChecksWrong : ChangeSpec := { name := "topologyChecks", fn := fun _ => fun
  | [d1, d2, d3] => { results := [.lit (.bool false)], args := [d1, d2, d3] }
  | _ => none }
def TopologyChecksWrongFalsely : Prop := topologyChecksRow.holds Tryz.pinned (OpenSpec.ofChange topologyChecksWrong)

/-- 'sleuthlaw46.TopologyPaths': WHATEVER THE INPUT: true; the input reads as it did. -/
def topologyPathsSpec : ChangeSpec := { name := "topologyPaths", fn := fun _ => fun
  | [d1, d2, d3] => { results := [.lit (.bool true)], args := [d1, d2, d3] }
  | _ => none }
def topologyPathsRow : OpenClaim := { program := "ytkhbjnkckblkjaagreat", sum := "8805410caa7dd16374cfb713c7f2b5f04034620fa714443273abc1743253f98c", func := "sleuth/sleuthlaw46.TopologyPaths", spec := "topologyPaths", unfollowed := true, recurses := true, plainKeys := false, apart := false }
def TopologyPathsSaid : Prop := topologyPathsRow.holds Tryz.pinned (OpenSpec.ofChange topologyPathsSpec)

/-- ITS FALSE NEIGHBOUR: 'it returns false'. Refute it at one input. -/
def topologyPathsWrong : ChangeSpec := { name := "topologyPaths", fn := fun _ => fun
  | [d1, d2, d3] => { results := [.lit (.bool false)], args := [d1, d2, d3] }
  | _ => none }
def TopologyPathsWrongFalsely : Prop := topologyPathsRow.holds Tryz.pinned (OpenSpec.ofChange topologyPathsWrong)

/-- 'sleuthlaw46.TopologyReaches': WHATEVER THE INPUT: true; the input reads as it did. -/
def topologyReachesSpec : ChangeSpec := { name := "topologyReaches", fn := fun _ => fun
  | [d1, d2, d3] => { results := [.lit (.bool true)], args := [d1, d2, d3] }
  | _ => none }
def topologyReachesRow : OpenClaim := { program := "ytkhbjnkckblkjaagreat", sum := "8805410caa7dd16374cfb713c7f2b5f04034620fa714443273abc1743253f98c", func := "sleuth/sleuthlaw46.TopologyReaches", spec := "topologyReaches", unfollowed := true, recurses := true, plainKeys := false, apart := false }
def TopologyReachesSaid : Prop := topologyReachesRow.holds Tryz.pinned (OpenSpec.ofChange topologyReachesSpec)

/-- ITS FALSE NEIGHBOUR: 'it returns false'. Refute it at one input. -/
def topologyReachesWrong : ChangeSpec := { name := "topologyReaches", fn := fun _ => fun
  | [d1, d2, d3] => { results := [.lit (.bool false)], args := [d1, d2, d3] }
  | _ => none }
def TopologyReachesWrongFalsely : Prop := topologyReachesRow.holds Tryz.pinned (OpenSpec.ofChange topologyReachesWrong)

/-- 'sleuthlaw46.TopologyChanges': WHATEVER THE INPUT: true; the input reads as it did. -/
def topologyChangesSpec : ChangeSpec := { name := "topologyChanges", fn := fun _ => fun
  | [d1, d2, d3] => { results := [.lit (.bool true)], args := [d1, d2, d3] }
  | _ => none }
def topologyChangesRow : OpenClaim := { program := "ytkhbjnkckblkjaagreat", sum := "8805410caa7dd16374cfb713c7f2b5f04034620fa714443273abc1743253f98c", func := "sleuth/sleuthlaw46.TopologyChanges", spec := "topologyChanges", unfollowed := true, recurses := true, plainKeys := false, apart := false }
def TopologyChangesSaid : Prop := topologyChangesRow.holds Tryz.pinned (OpenSpec.ofChange topologyChangesSpec)

/-- ITS FALSE NEIGHBOUR: 'it returns false'. Refute it at one input. -/
def topologyChangesWrong : ChangeSpec := { name := "topologyChanges", fn := fun _ => fun
  | [d1, d2, d3] => { results := [.lit (.bool false)], args := [d1, d2, d3] }
  | _ => none }
def TopologyChangesWrongFalsely : Prop := topologyChangesRow.holds Tryz.pinned (OpenSpec.ofChange topologyChangesWrong)

/-- 'sleuthlaw46.TopologyCycles': WHATEVER THE INPUT: true; the input reads as it did. -/
def topologyCyclesSpec : ChangeSpec := { name := "topologyCycles", fn := fun _ => fun
  | [d] => { results := [.lit (.bool true)], args := [d] }
  | _ => none }
def topologyCyclesRow : OpenClaim := { program := "ytkhbjnkckblkjaagreat", sum := "8805410caa7dd16374cfb713c7f2b5f04034620fa714443273abc1743253f98c", func := "sleuth/sleuthlaw46.TopologyCycles", spec := "topologyCycles", unfollowed := true, recurses := true, plainKeys := false, apart := false }
def TopologyCyclesSaid : Prop := topologyCyclesRow.holds Tryz.pinned (OpenSpec.ofChange topologyCyclesSpec)

/-- ITS FALSE NEIGHBOUR: 'it returns false'. Refute it at one input. -/
def topologyCyclesWrong : ChangeSpec := { name := "topologyCycles", fn := fun _ => fun
  | [d] => { results := [.lit (.bool false)], args := [d] }
  | _ => none }
def TopologyCyclesWrongFalsely : Prop := topologyCyclesRow.holds Tryz.pinned (OpenSpec.ofChange topologyCyclesWrong)

/- THE SECOND FORM. 'bulk': how many values and letters a reading holds, each counted each time it is reached (what is shared counts as often as it is met; a slice's spare places count too). A statement '..UptoSaid' is the law's where the arguments, and the package variables that the reading takes, are together of bulk at most 1048576: NARROWER than '..Said'. Prove '..Said' where nothing that the law and all that it calls make is longer than what came in: it says more and counts as full. Else prove '..UptoSaid'. A law counts once. -/
mutual
def uptoBulk {H : Type} : DataW H → Nat
  | .lit (.string bytes) => bytes.length + 1
  | .lit _ => 1
  | .nil => 1
  | .ptr d => uptoBulk d + 1
  | .slice elems spare => uptoBulkAll elems + uptoBulkAll spare + 1
  | .agg parts => uptoBulkAll parts + 1
  | .iface _ d => uptoBulk d + 1
  | .map entries => uptoBulkEntries entries + 1
  | .held _ => 1
def uptoBulkAll {H : Type} : List (DataW H) → Nat
  | [] => 0
  | d :: r => uptoBulk d + uptoBulkAll r
def uptoBulkEntries {H : Type} : List (Lit × DataW H) → Nat
  | [] => 0
  | x :: r => uptoBulkEntry x + uptoBulkEntries r
def uptoBulkEntry {H : Type} : Lit × DataW H → Nat
  | (.string bytes, d) => bytes.length + uptoBulk d + 1
  | (_, d) => uptoBulk d + 1
 end
def uptoSmall : (H : Type) → List (DataW H) → Bool := fun _ ds => decide (uptoBulkAll ds ≤ 1048576)
def OpenSpec.upto (s : _root_.Go.ChangeSpec) : _root_.Go.OpenSpec := { _root_.Go.OpenSpec.ofChange s with cond := some uptoSmall }

/-- 'sleuthlaw46.TopologyMerges', WHERE WHAT IT READS IS OF BULK AT MOST 1048576: true; the input reads as it did. -/
def topologyMergesUptoRow : OpenClaim := { program := "ytkhbjnkckblkjaagreat", sum := "8805410caa7dd16374cfb713c7f2b5f04034620fa714443273abc1743253f98c", func := "sleuth/sleuthlaw46.TopologyMerges", spec := "topologyMerges", unfollowed := true, recurses := true, plainKeys := false, apart := false, narrowed := true }
def TopologyMergesUptoSaid : Prop := topologyMergesUptoRow.holds Tryz.pinned (OpenSpec.upto topologyMergesSpec)

/-- 'sleuthlaw46.TopologyBuilds', WHERE WHAT IT READS IS OF BULK AT MOST 1048576: true; the input reads as it did. -/
def topologyBuildsUptoRow : OpenClaim := { program := "ytkhbjnkckblkjaagreat", sum := "8805410caa7dd16374cfb713c7f2b5f04034620fa714443273abc1743253f98c", func := "sleuth/sleuthlaw46.TopologyBuilds", spec := "topologyBuilds", unfollowed := true, recurses := true, plainKeys := false, apart := false, narrowed := true }
def TopologyBuildsUptoSaid : Prop := topologyBuildsUptoRow.holds Tryz.pinned (OpenSpec.upto topologyBuildsSpec)

/-- 'sleuthlaw46.TopologyDiffers', WHERE WHAT IT READS IS OF BULK AT MOST 1048576: true; the input reads as it did. -/
def topologyDiffersUptoRow : OpenClaim := { program := "ytkhbjnkckblkjaagreat", sum := "8805410caa7dd16374cfb713c7f2b5f04034620fa714443273abc1743253f98c", func := "sleuth/sleuthlaw46.TopologyDiffers", spec := "topologyDiffers", unfollowed := true, recurses := true, plainKeys := false, apart := false, narrowed := true }
def TopologyDiffersUptoSaid : Prop := topologyDiffersUptoRow.holds Tryz.pinned (OpenSpec.upto topologyDiffersSpec)

/-- 'sleuthlaw46.TopologyChecks', WHERE WHAT IT READS IS OF BULK AT MOST 1048576: true; the input reads as it did. -/
def topologyChecksUptoRow : OpenClaim := { program := "ytkhbjnkckblkjaagreat", sum := "8805410caa7dd16374cfb713c7f2b5f04034620fa714443273abc1743253f98c", func := "sleuth/sleuthlaw46.TopologyChecks", spec := "topologyChecks", unfollowed := true, recurses := true, plainKeys := false, apart := false, narrowed := true }
def TopologyChecksUptoSaid : Prop := topologyChecksUptoRow.holds Tryz.pinned (OpenSpec.upto topologyChecksSpec)

/-- 'sleuthlaw46.TopologyPaths', WHERE WHAT IT READS IS OF BULK AT MOST 1048576: true; the input reads as it did. -/
def topologyPathsUptoRow : OpenClaim := { program := "ytkhbjnkckblkjaagreat", sum := "8805410caa7dd16374cfb713c7f2b5f04034620fa714443273abc1743253f98c", func := "sleuth/sleuthlaw46.TopologyPaths", spec := "topologyPaths", unfollowed := true, recurses := true, plainKeys := false, apart := false, narrowed := true }
def TopologyPathsUptoSaid : Prop := topologyPathsUptoRow.holds Tryz.pinned (OpenSpec.upto topologyPathsSpec)

/-- 'sleuthlaw46.TopologyReaches', WHERE WHAT IT READS IS OF BULK AT MOST 1048576: true; the input reads as it did. -/
def topologyReachesUptoRow : OpenClaim := { program := "ytkhbjnkckblkjaagreat", sum := "8805410caa7dd16374cfb713c7f2b5f04034620fa714443273abc1743253f98c", func := "sleuth/sleuthlaw46.TopologyReaches", spec := "topologyReaches", unfollowed := true, recurses := true, plainKeys := false, apart := false, narrowed := true }
def TopologyReachesUptoSaid : Prop := topologyReachesUptoRow.holds Tryz.pinned (OpenSpec.upto topologyReachesSpec)

/-- 'sleuthlaw46.TopologyChanges', WHERE WHAT IT READS IS OF BULK AT MOST 1048576: true; the input reads as it did. -/
def topologyChangesUptoRow : OpenClaim := { program := "ytkhbjnkckblkjaagreat", sum := "8805410caa7dd16374cfb713c7f2b5f04034620fa714443273abc1743253f98c", func := "sleuth/sleuthlaw46.TopologyChanges", spec := "topologyChanges", unfollowed := true, recurses := true, plainKeys := false, apart := false, narrowed := true }
def TopologyChangesUptoSaid : Prop := topologyChangesUptoRow.holds Tryz.pinned (OpenSpec.upto topologyChangesSpec)

/-- 'sleuthlaw46.TopologyCycles', WHERE WHAT IT READS IS OF BULK AT MOST 1048576: true; the input reads as it did. -/
def topologyCyclesUptoRow : OpenClaim := { program := "ytkhbjnkckblkjaagreat", sum := "8805410caa7dd16374cfb713c7f2b5f04034620fa714443273abc1743253f98c", func := "sleuth/sleuthlaw46.TopologyCycles", spec := "topologyCycles", unfollowed := true, recurses := true, plainKeys := false, apart := false, narrowed := true }
def TopologyCyclesUptoSaid : Prop := topologyCyclesUptoRow.holds Tryz.pinned (OpenSpec.upto topologyCyclesSpec)

end Rows
end Go.Proofs.YtkhbjnkckblkjaaGreat
