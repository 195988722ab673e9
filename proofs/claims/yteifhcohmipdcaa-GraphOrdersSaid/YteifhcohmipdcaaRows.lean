/-
  No cell of these rows narrows 'for every input' (looked for: loops, veiled, ifaces, maps, wideKeys, modest, calm, conditions, laid).
  DERIVED. THE GIVEN ROWS OF THIS SEAT. 7 by the template 'for every input the law returns true; each argument reads behind the call as it read before'; 0 by the template 'total and deterministic' (their statements: YteifhcohmipdcaaTotals.lean).
  GIVEN WITH THE SEED: the statements are not yours to turn. If you find one false, say at which input.
  Laid BY PROGRAM, IN A SANDBOX (cutbox-rows.mjs): the forced cells as the released guide's own fill.sh prints them over the translation a6a0dc523cdfc6bd… (all of the seat's roots in one cut). By AI agents, Wed Nov 11 2026. No macro, syntax, notation, axiom, sorry.
-/
import Derived.Test.YteifhcohmipdcaaChecked
import GoSem.Claim
import GoSem.ClaimJoined
import GoSem.ClaimMapViews
import Derived.JoinedTies
import Derived.KernelRfl
namespace Go.Proofs.Yteifhcohmipdcaa
/- THE CELL 'sum', in the pinned program and in every row, IS THE sha256 OF THE DUMP (.gsa) THAT YteifhcohmipdcaaProg.lean LOADS. Nothing in Lean hashes anything: it is a label: what it is worth is what the hold of that sum in a sandbox is worth. -/
noncomputable def Try.pinned : Pinned := { name := "yteifhcohmipdcaa", sum := "a6a0dc523cdfc6bd86b59a83078bcf27e542ae9de6fe70d67917047ebbc43f12", checked := Try.checked }
namespace Rows
def none {H : Type} : Left H := { results := [], args := [] }

/-- 'modcertlaw33.GraphReaches': WHATEVER THE INPUT: true; the input reads as it did. -/
def graphReachesSpec : ChangeSpec := { name := "graphReaches", fn := fun _ => fun
  | [d1, d2, d3, d4] => { results := [.lit (.bool true)], args := [d1, d2, d3, d4] }
  | _ => none }
def graphReachesRow : OpenClaim := { program := "yteifhcohmipdcaa", sum := "a6a0dc523cdfc6bd86b59a83078bcf27e542ae9de6fe70d67917047ebbc43f12", func := "modcert/modcertlaw33.GraphReaches", spec := "graphReaches", unfollowed := true, recurses := true, apart := false }
def GraphReachesSaid : Prop := graphReachesRow.holds Try.pinned (OpenSpec.ofChange graphReachesSpec)

/-- ITS FALSE NEIGHBOUR: 'it returns false'. Refute it at one input. -/
def graphReachesWrong : ChangeSpec := { name := "graphReaches", fn := fun _ => fun
  | [d1, d2, d3, d4] => { results := [.lit (.bool false)], args := [d1, d2, d3, d4] }
  | _ => none }
def GraphReachesWrongFalsely : Prop := graphReachesRow.holds Try.pinned (OpenSpec.ofChange graphReachesWrong)

/-- 'modcertlaw33.GraphCycles': WHATEVER THE INPUT: true; the input reads as it did. -/
def graphCyclesSpec : ChangeSpec := { name := "graphCycles", fn := fun _ => fun
  | [d] => { results := [.lit (.bool true)], args := [d] }
  | _ => none }
def graphCyclesRow : OpenClaim := { program := "yteifhcohmipdcaa", sum := "a6a0dc523cdfc6bd86b59a83078bcf27e542ae9de6fe70d67917047ebbc43f12", func := "modcert/modcertlaw33.GraphCycles", spec := "graphCycles", unfollowed := true, recurses := true, apart := false }
def GraphCyclesSaid : Prop := graphCyclesRow.holds Try.pinned (OpenSpec.ofChange graphCyclesSpec)

/-- ITS FALSE NEIGHBOUR: 'it returns false'. Refute it at one input. -/
def graphCyclesWrong : ChangeSpec := { name := "graphCycles", fn := fun _ => fun
  | [d] => { results := [.lit (.bool false)], args := [d] }
  | _ => none }
def GraphCyclesWrongFalsely : Prop := graphCyclesRow.holds Try.pinned (OpenSpec.ofChange graphCyclesWrong)

/-- 'modcertlaw33.GraphOrders': WHATEVER THE INPUT: true; the input reads as it did. -/
def graphOrdersSpec : ChangeSpec := { name := "graphOrders", fn := fun _ => fun
  | [d] => { results := [.lit (.bool true)], args := [d] }
  | _ => none }
def graphOrdersRow : OpenClaim := { program := "yteifhcohmipdcaa", sum := "a6a0dc523cdfc6bd86b59a83078bcf27e542ae9de6fe70d67917047ebbc43f12", func := "modcert/modcertlaw33.GraphOrders", spec := "graphOrders", unfollowed := true, recurses := true, apart := false }
def GraphOrdersSaid : Prop := graphOrdersRow.holds Try.pinned (OpenSpec.ofChange graphOrdersSpec)

/-- ITS FALSE NEIGHBOUR: 'it returns false'. Refute it at one input. -/
def graphOrdersWrong : ChangeSpec := { name := "graphOrders", fn := fun _ => fun
  | [d] => { results := [.lit (.bool false)], args := [d] }
  | _ => none }
def GraphOrdersWrongFalsely : Prop := graphOrdersRow.holds Try.pinned (OpenSpec.ofChange graphOrdersWrong)

/-- 'modcertlaw33.GraphShortest': WHATEVER THE INPUT: true; the input reads as it did. -/
def graphShortestSpec : ChangeSpec := { name := "graphShortest", fn := fun _ => fun
  | [d1, d2] => { results := [.lit (.bool true)], args := [d1, d2] }
  | _ => none }
def graphShortestRow : OpenClaim := { program := "yteifhcohmipdcaa", sum := "a6a0dc523cdfc6bd86b59a83078bcf27e542ae9de6fe70d67917047ebbc43f12", func := "modcert/modcertlaw33.GraphShortest", spec := "graphShortest", unfollowed := true, recurses := true, apart := false }
def GraphShortestSaid : Prop := graphShortestRow.holds Try.pinned (OpenSpec.ofChange graphShortestSpec)

/-- ITS FALSE NEIGHBOUR: 'it returns false'. Refute it at one input. -/
def graphShortestWrong : ChangeSpec := { name := "graphShortest", fn := fun _ => fun
  | [d1, d2] => { results := [.lit (.bool false)], args := [d1, d2] }
  | _ => none }
def GraphShortestWrongFalsely : Prop := graphShortestRow.holds Try.pinned (OpenSpec.ofChange graphShortestWrong)

/-- 'modcertlaw33.GraphConverse': WHATEVER THE INPUT: true; the input reads as it did. -/
def graphConverseSpec : ChangeSpec := { name := "graphConverse", fn := fun _ => fun
  | [d] => { results := [.lit (.bool true)], args := [d] }
  | _ => none }
def graphConverseRow : OpenClaim := { program := "yteifhcohmipdcaa", sum := "a6a0dc523cdfc6bd86b59a83078bcf27e542ae9de6fe70d67917047ebbc43f12", func := "modcert/modcertlaw33.GraphConverse", spec := "graphConverse", unfollowed := true, recurses := true, apart := false }
def GraphConverseSaid : Prop := graphConverseRow.holds Try.pinned (OpenSpec.ofChange graphConverseSpec)

/-- ITS FALSE NEIGHBOUR: 'it returns false'. Refute it at one input. -/
def graphConverseWrong : ChangeSpec := { name := "graphConverse", fn := fun _ => fun
  | [d] => { results := [.lit (.bool false)], args := [d] }
  | _ => none }
def GraphConverseWrongFalsely : Prop := graphConverseRow.holds Try.pinned (OpenSpec.ofChange graphConverseWrong)

/-- 'modcertlaw33.GraphAcyclic': WHATEVER THE INPUT: true; the input reads as it did. -/
def graphAcyclicSpec : ChangeSpec := { name := "graphAcyclic", fn := fun _ => fun
  | [d] => { results := [.lit (.bool true)], args := [d] }
  | _ => none }
def graphAcyclicRow : OpenClaim := { program := "yteifhcohmipdcaa", sum := "a6a0dc523cdfc6bd86b59a83078bcf27e542ae9de6fe70d67917047ebbc43f12", func := "modcert/modcertlaw33.GraphAcyclic", spec := "graphAcyclic", unfollowed := true, recurses := true, apart := false }
def GraphAcyclicSaid : Prop := graphAcyclicRow.holds Try.pinned (OpenSpec.ofChange graphAcyclicSpec)

/-- ITS FALSE NEIGHBOUR: 'it returns false'. Refute it at one input. -/
def graphAcyclicWrong : ChangeSpec := { name := "graphAcyclic", fn := fun _ => fun
  | [d] => { results := [.lit (.bool false)], args := [d] }
  | _ => none }
def GraphAcyclicWrongFalsely : Prop := graphAcyclicRow.holds Try.pinned (OpenSpec.ofChange graphAcyclicWrong)

/-- 'modcertlaw33.GraphPartition': WHATEVER THE INPUT: true; the input reads as it did. -/
def graphPartitionSpec : ChangeSpec := { name := "graphPartition", fn := fun _ => fun
  | [d] => { results := [.lit (.bool true)], args := [d] }
  | _ => none }
def graphPartitionRow : OpenClaim := { program := "yteifhcohmipdcaa", sum := "a6a0dc523cdfc6bd86b59a83078bcf27e542ae9de6fe70d67917047ebbc43f12", func := "modcert/modcertlaw33.GraphPartition", spec := "graphPartition", unfollowed := true, recurses := true, apart := false }
def GraphPartitionSaid : Prop := graphPartitionRow.holds Try.pinned (OpenSpec.ofChange graphPartitionSpec)

/-- ITS FALSE NEIGHBOUR: 'it returns false'. Refute it at one input. -/
def graphPartitionWrong : ChangeSpec := { name := "graphPartition", fn := fun _ => fun
  | [d] => { results := [.lit (.bool false)], args := [d] }
  | _ => none }
def GraphPartitionWrongFalsely : Prop := graphPartitionRow.holds Try.pinned (OpenSpec.ofChange graphPartitionWrong)

/- THE SECOND FORM. 'bulk': how many values and letters a reading holds, each counted each time it is reached (what is shared counts as often as it is met; a slice's spare places count too). A statement '..UptoSaid' is the law's where the arguments, and the package variables that the reading takes, are together of bulk at most 1048576: NARROWER than '..Said'. Prove '..Said' where nothing that the law and all that it calls make is longer than what came in: it says more and counts as full. Else prove '..UptoSaid'. A law counts once. -/
mutual
def uptoBulk {H : Type} : DataW H → Nat
  | .lit (.string bytes) => bytes.length + 1
  | .lit _ => 1
  | .nil => 1
  | .ptr d => uptoBulk d + 1
  | .slice elems spare => uptoBulkAll elems + uptoBulkAll spare + 1
  | .agg parts => uptoBulkAll parts + 1
  | .iface _ d => uptoBulk d + 1
  | .map entries => uptoBulkEntries entries + 1
  | .held _ => 1
def uptoBulkAll {H : Type} : List (DataW H) → Nat
  | [] => 0
  | d :: r => uptoBulk d + uptoBulkAll r
def uptoBulkEntries {H : Type} : List (Lit × DataW H) → Nat
  | [] => 0
  | x :: r => uptoBulkEntry x + uptoBulkEntries r
def uptoBulkEntry {H : Type} : Lit × DataW H → Nat
  | (.string bytes, d) => bytes.length + uptoBulk d + 1
  | (_, d) => uptoBulk d + 1
 end
def uptoSmall : (H : Type) → List (DataW H) → Bool := fun _ ds => decide (uptoBulkAll ds ≤ 1048576)
def OpenSpec.upto (s : _root_.Go.ChangeSpec) : _root_.Go.OpenSpec := { _root_.Go.OpenSpec.ofChange s with cond := some uptoSmall }

/-- 'modcertlaw33.GraphReaches', WHERE WHAT IT READS IS OF BULK AT MOST 1048576: true; the input reads as it did. -/
def graphReachesUptoRow : OpenClaim := { program := "yteifhcohmipdcaa", sum := "a6a0dc523cdfc6bd86b59a83078bcf27e542ae9de6fe70d67917047ebbc43f12", func := "modcert/modcertlaw33.GraphReaches", spec := "graphReaches", unfollowed := true, recurses := true, apart := false, narrowed := true }
def GraphReachesUptoSaid : Prop := graphReachesUptoRow.holds Try.pinned (OpenSpec.upto graphReachesSpec)

/-- 'modcertlaw33.GraphCycles', WHERE WHAT IT READS IS OF BULK AT MOST 1048576: true; the input reads as it did. -/
def graphCyclesUptoRow : OpenClaim := { program := "yteifhcohmipdcaa", sum := "a6a0dc523cdfc6bd86b59a83078bcf27e542ae9de6fe70d67917047ebbc43f12", func := "modcert/modcertlaw33.GraphCycles", spec := "graphCycles", unfollowed := true, recurses := true, apart := false, narrowed := true }
def GraphCyclesUptoSaid : Prop := graphCyclesUptoRow.holds Try.pinned (OpenSpec.upto graphCyclesSpec)

/-- 'modcertlaw33.GraphOrders', WHERE WHAT IT READS IS OF BULK AT MOST 1048576: true; the input reads as it did. -/
def graphOrdersUptoRow : OpenClaim := { program := "yteifhcohmipdcaa", sum := "a6a0dc523cdfc6bd86b59a83078bcf27e542ae9de6fe70d67917047ebbc43f12", func := "modcert/modcertlaw33.GraphOrders", spec := "graphOrders", unfollowed := true, recurses := true, apart := false, narrowed := true }
def GraphOrdersUptoSaid : Prop := graphOrdersUptoRow.holds Try.pinned (OpenSpec.upto graphOrdersSpec)

/-- 'modcertlaw33.GraphShortest', WHERE WHAT IT READS IS OF BULK AT MOST 1048576: true; the input reads as it did. -/
def graphShortestUptoRow : OpenClaim := { program := "yteifhcohmipdcaa", sum := "a6a0dc523cdfc6bd86b59a83078bcf27e542ae9de6fe70d67917047ebbc43f12", func := "modcert/modcertlaw33.GraphShortest", spec := "graphShortest", unfollowed := true, recurses := true, apart := false, narrowed := true }
def GraphShortestUptoSaid : Prop := graphShortestUptoRow.holds Try.pinned (OpenSpec.upto graphShortestSpec)

/-- 'modcertlaw33.GraphConverse', WHERE WHAT IT READS IS OF BULK AT MOST 1048576: true; the input reads as it did. -/
def graphConverseUptoRow : OpenClaim := { program := "yteifhcohmipdcaa", sum := "a6a0dc523cdfc6bd86b59a83078bcf27e542ae9de6fe70d67917047ebbc43f12", func := "modcert/modcertlaw33.GraphConverse", spec := "graphConverse", unfollowed := true, recurses := true, apart := false, narrowed := true }
def GraphConverseUptoSaid : Prop := graphConverseUptoRow.holds Try.pinned (OpenSpec.upto graphConverseSpec)

/-- 'modcertlaw33.GraphAcyclic', WHERE WHAT IT READS IS OF BULK AT MOST 1048576: true; the input reads as it did. -/
def graphAcyclicUptoRow : OpenClaim := { program := "yteifhcohmipdcaa", sum := "a6a0dc523cdfc6bd86b59a83078bcf27e542ae9de6fe70d67917047ebbc43f12", func := "modcert/modcertlaw33.GraphAcyclic", spec := "graphAcyclic", unfollowed := true, recurses := true, apart := false, narrowed := true }
def GraphAcyclicUptoSaid : Prop := graphAcyclicUptoRow.holds Try.pinned (OpenSpec.upto graphAcyclicSpec)

/-- 'modcertlaw33.GraphPartition', WHERE WHAT IT READS IS OF BULK AT MOST 1048576: true; the input reads as it did. -/
def graphPartitionUptoRow : OpenClaim := { program := "yteifhcohmipdcaa", sum := "a6a0dc523cdfc6bd86b59a83078bcf27e542ae9de6fe70d67917047ebbc43f12", func := "modcert/modcertlaw33.GraphPartition", spec := "graphPartition", unfollowed := true, recurses := true, apart := false, narrowed := true }
def GraphPartitionUptoSaid : Prop := graphPartitionUptoRow.holds Try.pinned (OpenSpec.upto graphPartitionSpec)

end Rows
end Go.Proofs.Yteifhcohmipdcaa
