/-
  No cell of these rows narrows 'for every input' (looked for: loops, veiled, ifaces, maps, wideKeys, modest, calm, conditions, laid).
  DERIVED. THE GIVEN ROWS OF THIS SEAT. 10 by the template 'for every input the law returns true; each argument reads behind the call as it read before'; 0 by the template 'total and deterministic' (their statements: YtcfcnnkaiboddaaTotals.lean).
  GIVEN WITH THE SEED: the statements are not yours to turn. If you find one false, say at which input.
  Laid BY PROGRAM, IN A SANDBOX (cutbox-rows.mjs): the forced cells as the released guide's own fill.sh prints them over the translation c3f9adc34013e0c8… (all of the seat's roots in one cut). By AI agents, Wed Nov 11 2026. No macro, syntax, notation, axiom, sorry.
-/
import Derived.Test.YtcfcnnkaiboddaaChecked
import GoSem.Claim
import GoSem.ClaimJoined
import GoSem.ClaimMapViews
import Derived.JoinedTies
import Derived.KernelRfl
namespace Go.Proofs.Ytcfcnnkaiboddaa
/- THE CELL 'sum', in the pinned program and in every row, IS THE sha256 OF THE DUMP (.gsa) THAT YtcfcnnkaiboddaaProg.lean LOADS. Nothing in Lean hashes anything: it is a label: what it is worth is what the hold of that sum in a sandbox is worth. -/
noncomputable def Try.pinned : Pinned := { name := "ytcfcnnkaiboddaa", sum := "c3f9adc34013e0c8997fe77e25c4199fbb348eff1664c34b72ccb6b0343ccdd9", checked := Try.checked }
namespace Rows
def none {H : Type} : Left H := { results := [], args := [] }

/-- 'sleuthlaw08.GraphPaths': WHATEVER THE INPUT: true; the input reads as it did. -/
def graphPathsSpec : ChangeSpec := { name := "graphPaths", fn := fun _ => fun
  | [d1, d2, d3] => { results := [.lit (.bool true)], args := [d1, d2, d3] }
  | _ => none }
def graphPathsRow : OpenClaim := { program := "ytcfcnnkaiboddaa", sum := "c3f9adc34013e0c8997fe77e25c4199fbb348eff1664c34b72ccb6b0343ccdd9", func := "sleuth/sleuthlaw08.GraphPaths", spec := "graphPaths", unfollowed := true, recurses := true, apart := false }
def GraphPathsSaid : Prop := graphPathsRow.holds Try.pinned (OpenSpec.ofChange graphPathsSpec)

/-- ITS FALSE NEIGHBOUR: 'it returns false'. Refute it at one input. -/
def graphPathsWrong : ChangeSpec := { name := "graphPaths", fn := fun _ => fun
  | [d1, d2, d3] => { results := [.lit (.bool false)], args := [d1, d2, d3] }
  | _ => none }
def GraphPathsWrongFalsely : Prop := graphPathsRow.holds Try.pinned (OpenSpec.ofChange graphPathsWrong)

/-- 'sleuthlaw08.GraphOrders': WHATEVER THE INPUT: true; the input reads as it did. -/
def graphOrdersSpec : ChangeSpec := { name := "graphOrders", fn := fun _ => fun
  | [d] => { results := [.lit (.bool true)], args := [d] }
  | _ => none }
def graphOrdersRow : OpenClaim := { program := "ytcfcnnkaiboddaa", sum := "c3f9adc34013e0c8997fe77e25c4199fbb348eff1664c34b72ccb6b0343ccdd9", func := "sleuth/sleuthlaw08.GraphOrders", spec := "graphOrders", unfollowed := true, recurses := true, apart := false }
def GraphOrdersSaid : Prop := graphOrdersRow.holds Try.pinned (OpenSpec.ofChange graphOrdersSpec)

/-- ITS FALSE NEIGHBOUR: 'it returns false'. Refute it at one input. -/
def graphOrdersWrong : ChangeSpec := { name := "graphOrders", fn := fun _ => fun
  | [d] => { results := [.lit (.bool false)], args := [d] }
  | _ => none }
def GraphOrdersWrongFalsely : Prop := graphOrdersRow.holds Try.pinned (OpenSpec.ofChange graphOrdersWrong)

/-- 'sleuthlaw08.GraphComponents': WHATEVER THE INPUT: true; the input reads as it did. -/
def graphComponentsSpec : ChangeSpec := { name := "graphComponents", fn := fun _ => fun
  | [d] => { results := [.lit (.bool true)], args := [d] }
  | _ => none }
def graphComponentsRow : OpenClaim := { program := "ytcfcnnkaiboddaa", sum := "c3f9adc34013e0c8997fe77e25c4199fbb348eff1664c34b72ccb6b0343ccdd9", func := "sleuth/sleuthlaw08.GraphComponents", spec := "graphComponents", unfollowed := true, recurses := true, apart := false }
def GraphComponentsSaid : Prop := graphComponentsRow.holds Try.pinned (OpenSpec.ofChange graphComponentsSpec)

/-- ITS FALSE NEIGHBOUR: 'it returns false'. Refute it at one input. -/
def graphComponentsWrong : ChangeSpec := { name := "graphComponents", fn := fun _ => fun
  | [d] => { results := [.lit (.bool false)], args := [d] }
  | _ => none }
def GraphComponentsWrongFalsely : Prop := graphComponentsRow.holds Try.pinned (OpenSpec.ofChange graphComponentsWrong)

/-- 'sleuthlaw08.GraphNeighbours': WHATEVER THE INPUT: true; the input reads as it did. -/
def graphNeighboursSpec : ChangeSpec := { name := "graphNeighbours", fn := fun _ => fun
  | [d1, d2] => { results := [.lit (.bool true)], args := [d1, d2] }
  | _ => none }
def graphNeighboursRow : OpenClaim := { program := "ytcfcnnkaiboddaa", sum := "c3f9adc34013e0c8997fe77e25c4199fbb348eff1664c34b72ccb6b0343ccdd9", func := "sleuth/sleuthlaw08.GraphNeighbours", spec := "graphNeighbours", unfollowed := true, recurses := true, apart := false }
def GraphNeighboursSaid : Prop := graphNeighboursRow.holds Try.pinned (OpenSpec.ofChange graphNeighboursSpec)

/-- ITS FALSE NEIGHBOUR: 'it returns false'. Refute it at one input. -/
def graphNeighboursWrong : ChangeSpec := { name := "graphNeighbours", fn := fun _ => fun
  | [d1, d2] => { results := [.lit (.bool false)], args := [d1, d2] }
  | _ => none }
def GraphNeighboursWrongFalsely : Prop := graphNeighboursRow.holds Try.pinned (OpenSpec.ofChange graphNeighboursWrong)

/-- 'sleuthlaw08.GraphReaches': WHATEVER THE INPUT: true; the input reads as it did. -/
def graphReachesSpec : ChangeSpec := { name := "graphReaches", fn := fun _ => fun
  | [d1, d2] => { results := [.lit (.bool true)], args := [d1, d2] }
  | _ => none }
def graphReachesRow : OpenClaim := { program := "ytcfcnnkaiboddaa", sum := "c3f9adc34013e0c8997fe77e25c4199fbb348eff1664c34b72ccb6b0343ccdd9", func := "sleuth/sleuthlaw08.GraphReaches", spec := "graphReaches", unfollowed := true, recurses := true, apart := false }
def GraphReachesSaid : Prop := graphReachesRow.holds Try.pinned (OpenSpec.ofChange graphReachesSpec)

/-- ITS FALSE NEIGHBOUR: 'it returns false'. Refute it at one input. -/
def graphReachesWrong : ChangeSpec := { name := "graphReaches", fn := fun _ => fun
  | [d1, d2] => { results := [.lit (.bool false)], args := [d1, d2] }
  | _ => none }
def GraphReachesWrongFalsely : Prop := graphReachesRow.holds Try.pinned (OpenSpec.ofChange graphReachesWrong)

/-- 'sleuthlaw08.GraphMakes': WHATEVER THE INPUT: true; the input reads as it did. -/
def graphMakesSpec : ChangeSpec := { name := "graphMakes", fn := fun _ => fun
  | [d1, d2] => { results := [.lit (.bool true)], args := [d1, d2] }
  | _ => none }
def graphMakesRow : OpenClaim := { program := "ytcfcnnkaiboddaa", sum := "c3f9adc34013e0c8997fe77e25c4199fbb348eff1664c34b72ccb6b0343ccdd9", func := "sleuth/sleuthlaw08.GraphMakes", spec := "graphMakes", unfollowed := true, recurses := true, apart := false }
def GraphMakesSaid : Prop := graphMakesRow.holds Try.pinned (OpenSpec.ofChange graphMakesSpec)

/-- ITS FALSE NEIGHBOUR: 'it returns false'. Refute it at one input. -/
def graphMakesWrong : ChangeSpec := { name := "graphMakes", fn := fun _ => fun
  | [d1, d2] => { results := [.lit (.bool false)], args := [d1, d2] }
  | _ => none }
def GraphMakesWrongFalsely : Prop := graphMakesRow.holds Try.pinned (OpenSpec.ofChange graphMakesWrong)

/-- 'sleuthlaw08.GraphCloses': WHATEVER THE INPUT: true; the input reads as it did. -/
def graphClosesSpec : ChangeSpec := { name := "graphCloses", fn := fun _ => fun
  | [d] => { results := [.lit (.bool true)], args := [d] }
  | _ => none }
def graphClosesRow : OpenClaim := { program := "ytcfcnnkaiboddaa", sum := "c3f9adc34013e0c8997fe77e25c4199fbb348eff1664c34b72ccb6b0343ccdd9", func := "sleuth/sleuthlaw08.GraphCloses", spec := "graphCloses", unfollowed := true, recurses := true, apart := false }
def GraphClosesSaid : Prop := graphClosesRow.holds Try.pinned (OpenSpec.ofChange graphClosesSpec)

/-- ITS FALSE NEIGHBOUR: 'it returns false'. Refute it at one input. -/
def graphClosesWrong : ChangeSpec := { name := "graphCloses", fn := fun _ => fun
  | [d] => { results := [.lit (.bool false)], args := [d] }
  | _ => none }
def GraphClosesWrongFalsely : Prop := graphClosesRow.holds Try.pinned (OpenSpec.ofChange graphClosesWrong)

/-- 'sleuthlaw08.GraphTurns': WHATEVER THE INPUT: true; the input reads as it did. -/
def graphTurnsSpec : ChangeSpec := { name := "graphTurns", fn := fun _ => fun
  | [d1, d2, d3] => { results := [.lit (.bool true)], args := [d1, d2, d3] }
  | _ => none }
def graphTurnsRow : OpenClaim := { program := "ytcfcnnkaiboddaa", sum := "c3f9adc34013e0c8997fe77e25c4199fbb348eff1664c34b72ccb6b0343ccdd9", func := "sleuth/sleuthlaw08.GraphTurns", spec := "graphTurns", unfollowed := true, recurses := true, apart := false }
def GraphTurnsSaid : Prop := graphTurnsRow.holds Try.pinned (OpenSpec.ofChange graphTurnsSpec)

/-- ITS FALSE NEIGHBOUR: 'it returns false'. Refute it at one input. -/
def graphTurnsWrong : ChangeSpec := { name := "graphTurns", fn := fun _ => fun
  | [d1, d2, d3] => { results := [.lit (.bool false)], args := [d1, d2, d3] }
  | _ => none }
def GraphTurnsWrongFalsely : Prop := graphTurnsRow.holds Try.pinned (OpenSpec.ofChange graphTurnsWrong)

/-- 'sleuthlaw08.GraphDominators': WHATEVER THE INPUT: true; the input reads as it did. -/
def graphDominatorsSpec : ChangeSpec := { name := "graphDominators", fn := fun _ => fun
  | [d1, d2] => { results := [.lit (.bool true)], args := [d1, d2] }
  | _ => none }
def graphDominatorsRow : OpenClaim := { program := "ytcfcnnkaiboddaa", sum := "c3f9adc34013e0c8997fe77e25c4199fbb348eff1664c34b72ccb6b0343ccdd9", func := "sleuth/sleuthlaw08.GraphDominators", spec := "graphDominators", unfollowed := true, recurses := true, apart := false }
def GraphDominatorsSaid : Prop := graphDominatorsRow.holds Try.pinned (OpenSpec.ofChange graphDominatorsSpec)

/-- ITS FALSE NEIGHBOUR: 'it returns false'. Refute it at one input. -/
def graphDominatorsWrong : ChangeSpec := { name := "graphDominators", fn := fun _ => fun
  | [d1, d2] => { results := [.lit (.bool false)], args := [d1, d2] }
  | _ => none }
def GraphDominatorsWrongFalsely : Prop := graphDominatorsRow.holds Try.pinned (OpenSpec.ofChange graphDominatorsWrong)

/-- 'sleuthlaw08.GraphReduces': WHATEVER THE INPUT: true; the input reads as it did. -/
def graphReducesSpec : ChangeSpec := { name := "graphReduces", fn := fun _ => fun
  | [d] => { results := [.lit (.bool true)], args := [d] }
  | _ => none }
def graphReducesRow : OpenClaim := { program := "ytcfcnnkaiboddaa", sum := "c3f9adc34013e0c8997fe77e25c4199fbb348eff1664c34b72ccb6b0343ccdd9", func := "sleuth/sleuthlaw08.GraphReduces", spec := "graphReduces", unfollowed := true, recurses := true, apart := false }
def GraphReducesSaid : Prop := graphReducesRow.holds Try.pinned (OpenSpec.ofChange graphReducesSpec)

/-- ITS FALSE NEIGHBOUR: 'it returns false'. Refute it at one input. -/
def graphReducesWrong : ChangeSpec := { name := "graphReduces", fn := fun _ => fun
  | [d] => { results := [.lit (.bool false)], args := [d] }
  | _ => none }
def GraphReducesWrongFalsely : Prop := graphReducesRow.holds Try.pinned (OpenSpec.ofChange graphReducesWrong)

/- THE SECOND FORM. 'bulk': how many values and letters a reading holds, each counted each time it is reached (what is shared counts as often as it is met; a slice's spare places count too). A statement '..UptoSaid' is the law's where the arguments, and the package variables that the reading takes, are together of bulk at most 1048576: NARROWER than '..Said'. Prove '..Said' where nothing that the law and all that it calls make is longer than what came in: it says more and counts as full. Else prove '..UptoSaid'. A law counts once. -/
mutual
def uptoBulk {H : Type} : DataW H → Nat
  | .lit (.string bytes) => bytes.length + 1
  | .lit _ => 1
  | .nil => 1
  | .ptr d => uptoBulk d + 1
  | .slice elems spare => uptoBulkAll elems + uptoBulkAll spare + 1
  | .agg parts => uptoBulkAll parts + 1
  | .iface _ d => uptoBulk d + 1
  | .map entries => uptoBulkEntries entries + 1
  | .held _ => 1
def uptoBulkAll {H : Type} : List (DataW H) → Nat
  | [] => 0
  | d :: r => uptoBulk d + uptoBulkAll r
def uptoBulkEntries {H : Type} : List (Lit × DataW H) → Nat
  | [] => 0
  | x :: r => uptoBulkEntry x + uptoBulkEntries r
def uptoBulkEntry {H : Type} : Lit × DataW H → Nat
  | (.string bytes, d) => bytes.length + uptoBulk d + 1
  | (_, d) => uptoBulk d + 1
 end
def uptoSmall : (H : Type) → List (DataW H) → Bool := fun _ ds => decide (uptoBulkAll ds ≤ 1048576)
def OpenSpec.upto (s : _root_.Go.ChangeSpec) : _root_.Go.OpenSpec := { _root_.Go.OpenSpec.ofChange s with cond := some uptoSmall }

/-- 'sleuthlaw08.GraphPaths', WHERE WHAT IT READS IS OF BULK AT MOST 1048576: true; the input reads as it did. -/
def graphPathsUptoRow : OpenClaim := { program := "ytcfcnnkaiboddaa", sum := "c3f9adc34013e0c8997fe77e25c4199fbb348eff1664c34b72ccb6b0343ccdd9", func := "sleuth/sleuthlaw08.GraphPaths", spec := "graphPaths", unfollowed := true, recurses := true, apart := false, narrowed := true }
def GraphPathsUptoSaid : Prop := graphPathsUptoRow.holds Try.pinned (OpenSpec.upto graphPathsSpec)

/-- 'sleuthlaw08.GraphOrders', WHERE WHAT IT READS IS OF BULK AT MOST 1048576: true; the input reads as it did. -/
def graphOrdersUptoRow : OpenClaim := { program := "ytcfcnnkaiboddaa", sum := "c3f9adc34013e0c8997fe77e25c4199fbb348eff1664c34b72ccb6b0343ccdd9", func := "sleuth/sleuthlaw08.GraphOrders", spec := "graphOrders", unfollowed := true, recurses := true, apart := false, narrowed := true }
def GraphOrdersUptoSaid : Prop := graphOrdersUptoRow.holds Try.pinned (OpenSpec.upto graphOrdersSpec)

/-- 'sleuthlaw08.GraphComponents', WHERE WHAT IT READS IS OF BULK AT MOST 1048576: true; the input reads as it did. -/
def graphComponentsUptoRow : OpenClaim := { program := "ytcfcnnkaiboddaa", sum := "c3f9adc34013e0c8997fe77e25c4199fbb348eff1664c34b72ccb6b0343ccdd9", func := "sleuth/sleuthlaw08.GraphComponents", spec := "graphComponents", unfollowed := true, recurses := true, apart := false, narrowed := true }
def GraphComponentsUptoSaid : Prop := graphComponentsUptoRow.holds Try.pinned (OpenSpec.upto graphComponentsSpec)

/-- 'sleuthlaw08.GraphNeighbours', WHERE WHAT IT READS IS OF BULK AT MOST 1048576: true; the input reads as it did. -/
def graphNeighboursUptoRow : OpenClaim := { program := "ytcfcnnkaiboddaa", sum := "c3f9adc34013e0c8997fe77e25c4199fbb348eff1664c34b72ccb6b0343ccdd9", func := "sleuth/sleuthlaw08.GraphNeighbours", spec := "graphNeighbours", unfollowed := true, recurses := true, apart := false, narrowed := true }
def GraphNeighboursUptoSaid : Prop := graphNeighboursUptoRow.holds Try.pinned (OpenSpec.upto graphNeighboursSpec)

/-- 'sleuthlaw08.GraphReaches', WHERE WHAT IT READS IS OF BULK AT MOST 1048576: true; the input reads as it did. -/
def graphReachesUptoRow : OpenClaim := { program := "ytcfcnnkaiboddaa", sum := "c3f9adc34013e0c8997fe77e25c4199fbb348eff1664c34b72ccb6b0343ccdd9", func := "sleuth/sleuthlaw08.GraphReaches", spec := "graphReaches", unfollowed := true, recurses := true, apart := false, narrowed := true }
def GraphReachesUptoSaid : Prop := graphReachesUptoRow.holds Try.pinned (OpenSpec.upto graphReachesSpec)

/-- 'sleuthlaw08.GraphMakes', WHERE WHAT IT READS IS OF BULK AT MOST 1048576: true; the input reads as it did. -/
def graphMakesUptoRow : OpenClaim := { program := "ytcfcnnkaiboddaa", sum := "c3f9adc34013e0c8997fe77e25c4199fbb348eff1664c34b72ccb6b0343ccdd9", func := "sleuth/sleuthlaw08.GraphMakes", spec := "graphMakes", unfollowed := true, recurses := true, apart := false, narrowed := true }
def GraphMakesUptoSaid : Prop := graphMakesUptoRow.holds Try.pinned (OpenSpec.upto graphMakesSpec)

/-- 'sleuthlaw08.GraphCloses', WHERE WHAT IT READS IS OF BULK AT MOST 1048576: true; the input reads as it did. -/
def graphClosesUptoRow : OpenClaim := { program := "ytcfcnnkaiboddaa", sum := "c3f9adc34013e0c8997fe77e25c4199fbb348eff1664c34b72ccb6b0343ccdd9", func := "sleuth/sleuthlaw08.GraphCloses", spec := "graphCloses", unfollowed := true, recurses := true, apart := false, narrowed := true }
def GraphClosesUptoSaid : Prop := graphClosesUptoRow.holds Try.pinned (OpenSpec.upto graphClosesSpec)

/-- 'sleuthlaw08.GraphTurns', WHERE WHAT IT READS IS OF BULK AT MOST 1048576: true; the input reads as it did. -/
def graphTurnsUptoRow : OpenClaim := { program := "ytcfcnnkaiboddaa", sum := "c3f9adc34013e0c8997fe77e25c4199fbb348eff1664c34b72ccb6b0343ccdd9", func := "sleuth/sleuthlaw08.GraphTurns", spec := "graphTurns", unfollowed := true, recurses := true, apart := false, narrowed := true }
def GraphTurnsUptoSaid : Prop := graphTurnsUptoRow.holds Try.pinned (OpenSpec.upto graphTurnsSpec)

/-- 'sleuthlaw08.GraphDominators', WHERE WHAT IT READS IS OF BULK AT MOST 1048576: true; the input reads as it did. -/
def graphDominatorsUptoRow : OpenClaim := { program := "ytcfcnnkaiboddaa", sum := "c3f9adc34013e0c8997fe77e25c4199fbb348eff1664c34b72ccb6b0343ccdd9", func := "sleuth/sleuthlaw08.GraphDominators", spec := "graphDominators", unfollowed := true, recurses := true, apart := false, narrowed := true }
def GraphDominatorsUptoSaid : Prop := graphDominatorsUptoRow.holds Try.pinned (OpenSpec.upto graphDominatorsSpec)

/-- 'sleuthlaw08.GraphReduces', WHERE WHAT IT READS IS OF BULK AT MOST 1048576: true; the input reads as it did. -/
def graphReducesUptoRow : OpenClaim := { program := "ytcfcnnkaiboddaa", sum := "c3f9adc34013e0c8997fe77e25c4199fbb348eff1664c34b72ccb6b0343ccdd9", func := "sleuth/sleuthlaw08.GraphReduces", spec := "graphReduces", unfollowed := true, recurses := true, apart := false, narrowed := true }
def GraphReducesUptoSaid : Prop := graphReducesUptoRow.holds Try.pinned (OpenSpec.upto graphReducesSpec)

end Rows
end Go.Proofs.Ytcfcnnkaiboddaa
