/-
  No cell of these rows narrows 'for every input' (looked for: loops, veiled, ifaces, maps, wideKeys, modest, calm, conditions, laid).
  DERIVED. THE GIVEN ROWS OF THIS SEAT. 11 by the template 'for every input the law returns true; each argument reads behind the call as it read before'; 0 by the template 'total and deterministic' (their statements: YtimabffnoanciaaTotals.lean).
  GIVEN WITH THE SEED: the statements are not yours to turn. If you find one false, say at which input.
  Laid BY PROGRAM, IN A SANDBOX (cutbox-rows.mjs): the forced cells as the released guide's own fill.sh prints them over the translation 7ba34b1d5acb9878… (all of the seat's roots in one cut). By AI agents, Wed Nov 11 2026. No macro, syntax, notation, axiom, sorry.
-/
import Derived.Test.YtimabffnoanciaaChecked
import GoSem.Claim
import GoSem.ClaimJoined
import GoSem.ClaimMapViews
import Derived.JoinedTies
import Derived.KernelRfl
namespace Go.Proofs.Ytimabffnoanciaa
/- THE CELL 'sum', in the pinned program and in every row, IS THE sha256 OF THE DUMP (.gsa) THAT YtimabffnoanciaaProg.lean LOADS. Nothing in Lean hashes anything: it is a label: what it is worth is what the hold of that sum in a sandbox is worth. -/
noncomputable def Try.pinned : Pinned := { name := "ytimabffnoanciaa", sum := "7ba34b1d5acb98787273fc9a59e37c3d07d620a7190fdb2285c854d26e300a9a", checked := Try.checked }
namespace Rows
def none {H : Type} : Left H := { results := [], args := [] }

/-- 'laws.FnImageText': WHATEVER THE INPUT: true; the input reads as it did. -/
def fnImageTextSpec : ChangeSpec := { name := "fnImageText", fn := fun _ => fun
  | [d] => { results := [.lit (.bool true)], args := [d] }
  | _ => none }
def fnImageTextRow : OpenClaim := { program := "ytimabffnoanciaa", sum := "7ba34b1d5acb98787273fc9a59e37c3d07d620a7190fdb2285c854d26e300a9a", func := "loop.example/g00833/laws.FnImageText", spec := "fnImageText", apart := false }
def FnImageTextSaid : Prop := fnImageTextRow.holds Try.pinned (OpenSpec.ofChange fnImageTextSpec)

/-- ITS FALSE NEIGHBOUR: 'it returns false'. Refute it at one input. -/
def fnImageTextWrong : ChangeSpec := { name := "fnImageText", fn := fun _ => fun
  | [d] => { results := [.lit (.bool false)], args := [d] }
  | _ => none }
def FnImageTextWrongFalsely : Prop := fnImageTextRow.holds Try.pinned (OpenSpec.ofChange fnImageTextWrong)

/-- 'laws.FnExactSlotsNeeded': WHATEVER THE INPUT: true; the input reads as it did. -/
def fnExactSlotsNeededSpec : ChangeSpec := { name := "fnExactSlotsNeeded", fn := fun _ => fun
  | [d1, d2] => { results := [.lit (.bool true)], args := [d1, d2] }
  | _ => none }
def fnExactSlotsNeededRow : OpenClaim := { program := "ytimabffnoanciaa", sum := "7ba34b1d5acb98787273fc9a59e37c3d07d620a7190fdb2285c854d26e300a9a", func := "loop.example/g00833/laws.FnExactSlotsNeeded", spec := "fnExactSlotsNeeded", apart := false }
def FnExactSlotsNeededSaid : Prop := fnExactSlotsNeededRow.holds Try.pinned (OpenSpec.ofChange fnExactSlotsNeededSpec)

/-- ITS FALSE NEIGHBOUR: 'it returns false'. Refute it at one input. -/
def fnExactSlotsNeededWrong : ChangeSpec := { name := "fnExactSlotsNeeded", fn := fun _ => fun
  | [d1, d2] => { results := [.lit (.bool false)], args := [d1, d2] }
  | _ => none }
def FnExactSlotsNeededWrongFalsely : Prop := fnExactSlotsNeededRow.holds Try.pinned (OpenSpec.ofChange fnExactSlotsNeededWrong)

/-- 'laws.FnExactSortDemands': WHATEVER THE INPUT: true; the input reads as it did. -/
def fnExactSortDemandsSpec : ChangeSpec := { name := "fnExactSortDemands", fn := fun _ => fun
  | [d] => { results := [.lit (.bool true)], args := [d] }
  | _ => none }
def fnExactSortDemandsRow : OpenClaim := { program := "ytimabffnoanciaa", sum := "7ba34b1d5acb98787273fc9a59e37c3d07d620a7190fdb2285c854d26e300a9a", func := "loop.example/g00833/laws.FnExactSortDemands", spec := "fnExactSortDemands", unfollowed := true, recurses := true, apart := false }
def FnExactSortDemandsSaid : Prop := fnExactSortDemandsRow.holds Try.pinned (OpenSpec.ofChange fnExactSortDemandsSpec)

/-- ITS FALSE NEIGHBOUR: 'it returns false'. Refute it at one input. -/
def fnExactSortDemandsWrong : ChangeSpec := { name := "fnExactSortDemands", fn := fun _ => fun
  | [d] => { results := [.lit (.bool false)], args := [d] }
  | _ => none }
def FnExactSortDemandsWrongFalsely : Prop := fnExactSortDemandsRow.holds Try.pinned (OpenSpec.ofChange fnExactSortDemandsWrong)

/-- 'laws.FnSlotsNeeded': WHATEVER THE INPUT: true; the input reads as it did. -/
def fnSlotsNeededSpec : ChangeSpec := { name := "fnSlotsNeeded", fn := fun _ => fun
  | [d] => { results := [.lit (.bool true)], args := [d] }
  | _ => none }
def fnSlotsNeededRow : OpenClaim := { program := "ytimabffnoanciaa", sum := "7ba34b1d5acb98787273fc9a59e37c3d07d620a7190fdb2285c854d26e300a9a", func := "loop.example/g00833/laws.FnSlotsNeeded", spec := "fnSlotsNeeded", apart := false }
def FnSlotsNeededSaid : Prop := fnSlotsNeededRow.holds Try.pinned (OpenSpec.ofChange fnSlotsNeededSpec)

/-- ITS FALSE NEIGHBOUR: 'it returns false'. Refute it at one input. -/
def fnSlotsNeededWrong : ChangeSpec := { name := "fnSlotsNeeded", fn := fun _ => fun
  | [d] => { results := [.lit (.bool false)], args := [d] }
  | _ => none }
def FnSlotsNeededWrongFalsely : Prop := fnSlotsNeededRow.holds Try.pinned (OpenSpec.ofChange fnSlotsNeededWrong)

/-- 'laws.FnExactArePossible': WHATEVER THE INPUT: true; the input reads as it did. -/
def fnExactArePossibleSpec : ChangeSpec := { name := "fnExactArePossible", fn := fun _ => fun
  | [d1, d2, d3, d4] => { results := [.lit (.bool true)], args := [d1, d2, d3, d4] }
  | _ => none }
def fnExactArePossibleRow : OpenClaim := { program := "ytimabffnoanciaa", sum := "7ba34b1d5acb98787273fc9a59e37c3d07d620a7190fdb2285c854d26e300a9a", func := "loop.example/g00833/laws.FnExactArePossible", spec := "fnExactArePossible", apart := false }
def FnExactArePossibleSaid : Prop := fnExactArePossibleRow.holds Try.pinned (OpenSpec.ofChange fnExactArePossibleSpec)

/-- ITS FALSE NEIGHBOUR: 'it returns false'. Refute it at one input. -/
def fnExactArePossibleWrong : ChangeSpec := { name := "fnExactArePossible", fn := fun _ => fun
  | [d1, d2, d3, d4] => { results := [.lit (.bool false)], args := [d1, d2, d3, d4] }
  | _ => none }
def FnExactArePossibleWrongFalsely : Prop := fnExactArePossibleRow.holds Try.pinned (OpenSpec.ofChange fnExactArePossibleWrong)

/-- 'laws.FnExactPlanDemands': WHATEVER THE INPUT: true; the input reads as it did. -/
def fnExactPlanDemandsSpec : ChangeSpec := { name := "fnExactPlanDemands", fn := fun _ => fun
  | [d1, d2, d3] => { results := [.lit (.bool true)], args := [d1, d2, d3] }
  | _ => none }
def fnExactPlanDemandsRow : OpenClaim := { program := "ytimabffnoanciaa", sum := "7ba34b1d5acb98787273fc9a59e37c3d07d620a7190fdb2285c854d26e300a9a", func := "loop.example/g00833/laws.FnExactPlanDemands", spec := "fnExactPlanDemands", apart := false }
def FnExactPlanDemandsSaid : Prop := fnExactPlanDemandsRow.holds Try.pinned (OpenSpec.ofChange fnExactPlanDemandsSpec)

/-- ITS FALSE NEIGHBOUR: 'it returns false'. Refute it at one input. -/
def fnExactPlanDemandsWrong : ChangeSpec := { name := "fnExactPlanDemands", fn := fun _ => fun
  | [d1, d2, d3] => { results := [.lit (.bool false)], args := [d1, d2, d3] }
  | _ => none }
def FnExactPlanDemandsWrongFalsely : Prop := fnExactPlanDemandsRow.holds Try.pinned (OpenSpec.ofChange fnExactPlanDemandsWrong)

/-- 'laws.FnExactReachableModes': WHATEVER THE INPUT: true; the input reads as it did. -/
def fnExactReachableModesSpec : ChangeSpec := { name := "fnExactReachableModes", fn := fun _ => fun
  | [d1, d2] => { results := [.lit (.bool true)], args := [d1, d2] }
  | _ => none }
def fnExactReachableModesRow : OpenClaim := { program := "ytimabffnoanciaa", sum := "7ba34b1d5acb98787273fc9a59e37c3d07d620a7190fdb2285c854d26e300a9a", func := "loop.example/g00833/laws.FnExactReachableModes", spec := "fnExactReachableModes", unfollowed := true, recurses := true, apart := false }
def FnExactReachableModesSaid : Prop := fnExactReachableModesRow.holds Try.pinned (OpenSpec.ofChange fnExactReachableModesSpec)

/-- ITS FALSE NEIGHBOUR: 'it returns false'. Refute it at one input. -/
def fnExactReachableModesWrong : ChangeSpec := { name := "fnExactReachableModes", fn := fun _ => fun
  | [d1, d2] => { results := [.lit (.bool false)], args := [d1, d2] }
  | _ => none }
def FnExactReachableModesWrongFalsely : Prop := fnExactReachableModesRow.holds Try.pinned (OpenSpec.ofChange fnExactReachableModesWrong)

/-- 'laws.FnExactModePath': WHATEVER THE INPUT: true; the input reads as it did. -/
def fnExactModePathSpec : ChangeSpec := { name := "fnExactModePath", fn := fun _ => fun
  | [d1, d2, d3] => { results := [.lit (.bool true)], args := [d1, d2, d3] }
  | _ => none }
def fnExactModePathRow : OpenClaim := { program := "ytimabffnoanciaa", sum := "7ba34b1d5acb98787273fc9a59e37c3d07d620a7190fdb2285c854d26e300a9a", func := "loop.example/g00833/laws.FnExactModePath", spec := "fnExactModePath", unfollowed := true, recurses := true, apart := false }
def FnExactModePathSaid : Prop := fnExactModePathRow.holds Try.pinned (OpenSpec.ofChange fnExactModePathSpec)

/-- ITS FALSE NEIGHBOUR: 'it returns false'. Refute it at one input. -/
def fnExactModePathWrong : ChangeSpec := { name := "fnExactModePath", fn := fun _ => fun
  | [d1, d2, d3] => { results := [.lit (.bool false)], args := [d1, d2, d3] }
  | _ => none }
def FnExactModePathWrongFalsely : Prop := fnExactModePathRow.holds Try.pinned (OpenSpec.ofChange fnExactModePathWrong)

/-- 'laws.FnModePaths': WHATEVER THE INPUT: true; the input reads as it did. -/
def fnModePathsSpec : ChangeSpec := { name := "fnModePaths", fn := fun _ => fun
  | [d] => { results := [.lit (.bool true)], args := [d] }
  | _ => none }
def fnModePathsRow : OpenClaim := { program := "ytimabffnoanciaa", sum := "7ba34b1d5acb98787273fc9a59e37c3d07d620a7190fdb2285c854d26e300a9a", func := "loop.example/g00833/laws.FnModePaths", spec := "fnModePaths", unfollowed := true, recurses := true, apart := false }
def FnModePathsSaid : Prop := fnModePathsRow.holds Try.pinned (OpenSpec.ofChange fnModePathsSpec)

/-- ITS FALSE NEIGHBOUR: 'it returns false'. Refute it at one input. -/
def fnModePathsWrong : ChangeSpec := { name := "fnModePaths", fn := fun _ => fun
  | [d] => { results := [.lit (.bool false)], args := [d] }
  | _ => none }
def FnModePathsWrongFalsely : Prop := fnModePathsRow.holds Try.pinned (OpenSpec.ofChange fnModePathsWrong)

/-- 'laws.FnPlanTables': WHATEVER THE INPUT: true; the input reads as it did. -/
def fnPlanTablesSpec : ChangeSpec := { name := "fnPlanTables", fn := fun _ => fun
  | [d] => { results := [.lit (.bool true)], args := [d] }
  | _ => none }
def fnPlanTablesRow : OpenClaim := { program := "ytimabffnoanciaa", sum := "7ba34b1d5acb98787273fc9a59e37c3d07d620a7190fdb2285c854d26e300a9a", func := "loop.example/g00833/laws.FnPlanTables", spec := "fnPlanTables", apart := false }
def FnPlanTablesSaid : Prop := fnPlanTablesRow.holds Try.pinned (OpenSpec.ofChange fnPlanTablesSpec)

/-- ITS FALSE NEIGHBOUR: 'it returns false'. Refute it at one input. -/
def fnPlanTablesWrong : ChangeSpec := { name := "fnPlanTables", fn := fun _ => fun
  | [d] => { results := [.lit (.bool false)], args := [d] }
  | _ => none }
def FnPlanTablesWrongFalsely : Prop := fnPlanTablesRow.holds Try.pinned (OpenSpec.ofChange fnPlanTablesWrong)

/-- 'laws.FnExactPlanTable': WHATEVER THE INPUT: true; the input reads as it did. -/
def fnExactPlanTableSpec : ChangeSpec := { name := "fnExactPlanTable", fn := fun _ => fun
  | [d1, d2, d3, d4] => { results := [.lit (.bool true)], args := [d1, d2, d3, d4] }
  | _ => none }
def fnExactPlanTableRow : OpenClaim := { program := "ytimabffnoanciaa", sum := "7ba34b1d5acb98787273fc9a59e37c3d07d620a7190fdb2285c854d26e300a9a", func := "loop.example/g00833/laws.FnExactPlanTable", spec := "fnExactPlanTable", apart := false }
def FnExactPlanTableSaid : Prop := fnExactPlanTableRow.holds Try.pinned (OpenSpec.ofChange fnExactPlanTableSpec)

/-- ITS FALSE NEIGHBOUR: 'it returns false'. Refute it at one input. -/
def fnExactPlanTableWrong : ChangeSpec := { name := "fnExactPlanTable", fn := fun _ => fun
  | [d1, d2, d3, d4] => { results := [.lit (.bool false)], args := [d1, d2, d3, d4] }
  | _ => none }
def FnExactPlanTableWrongFalsely : Prop := fnExactPlanTableRow.holds Try.pinned (OpenSpec.ofChange fnExactPlanTableWrong)

/- THE SECOND FORM. 'bulk': how many values and letters a reading holds, each counted each time it is reached (what is shared counts as often as it is met; a slice's spare places count too). A statement '..UptoSaid' is the law's where the arguments, and the package variables that the reading takes, are together of bulk at most 1048576: NARROWER than '..Said'. Prove '..Said' where nothing that the law and all that it calls make is longer than what came in: it says more and counts as full. Else prove '..UptoSaid'. A law counts once. -/
mutual
def uptoBulk {H : Type} : DataW H → Nat
  | .lit (.string bytes) => bytes.length + 1
  | .lit _ => 1
  | .nil => 1
  | .ptr d => uptoBulk d + 1
  | .slice elems spare => uptoBulkAll elems + uptoBulkAll spare + 1
  | .agg parts => uptoBulkAll parts + 1
  | .iface _ d => uptoBulk d + 1
  | .map entries => uptoBulkEntries entries + 1
  | .held _ => 1
def uptoBulkAll {H : Type} : List (DataW H) → Nat
  | [] => 0
  | d :: r => uptoBulk d + uptoBulkAll r
def uptoBulkEntries {H : Type} : List (Lit × DataW H) → Nat
  | [] => 0
  | x :: r => uptoBulkEntry x + uptoBulkEntries r
def uptoBulkEntry {H : Type} : Lit × DataW H → Nat
  | (.string bytes, d) => bytes.length + uptoBulk d + 1
  | (_, d) => uptoBulk d + 1
 end
def uptoSmall : (H : Type) → List (DataW H) → Bool := fun _ ds => decide (uptoBulkAll ds ≤ 1048576)
def OpenSpec.upto (s : _root_.Go.ChangeSpec) : _root_.Go.OpenSpec := { _root_.Go.OpenSpec.ofChange s with cond := some uptoSmall }

/-- 'laws.FnImageText', WHERE WHAT IT READS IS OF BULK AT MOST 1048576: true; the input reads as it did. -/
def fnImageTextUptoRow : OpenClaim := { program := "ytimabffnoanciaa", sum := "7ba34b1d5acb98787273fc9a59e37c3d07d620a7190fdb2285c854d26e300a9a", func := "loop.example/g00833/laws.FnImageText", spec := "fnImageText", apart := false, narrowed := true }
def FnImageTextUptoSaid : Prop := fnImageTextUptoRow.holds Try.pinned (OpenSpec.upto fnImageTextSpec)

/-- 'laws.FnExactSlotsNeeded', WHERE WHAT IT READS IS OF BULK AT MOST 1048576: true; the input reads as it did. -/
def fnExactSlotsNeededUptoRow : OpenClaim := { program := "ytimabffnoanciaa", sum := "7ba34b1d5acb98787273fc9a59e37c3d07d620a7190fdb2285c854d26e300a9a", func := "loop.example/g00833/laws.FnExactSlotsNeeded", spec := "fnExactSlotsNeeded", apart := false, narrowed := true }
def FnExactSlotsNeededUptoSaid : Prop := fnExactSlotsNeededUptoRow.holds Try.pinned (OpenSpec.upto fnExactSlotsNeededSpec)

/-- 'laws.FnExactSortDemands', WHERE WHAT IT READS IS OF BULK AT MOST 1048576: true; the input reads as it did. -/
def fnExactSortDemandsUptoRow : OpenClaim := { program := "ytimabffnoanciaa", sum := "7ba34b1d5acb98787273fc9a59e37c3d07d620a7190fdb2285c854d26e300a9a", func := "loop.example/g00833/laws.FnExactSortDemands", spec := "fnExactSortDemands", unfollowed := true, recurses := true, apart := false, narrowed := true }
def FnExactSortDemandsUptoSaid : Prop := fnExactSortDemandsUptoRow.holds Try.pinned (OpenSpec.upto fnExactSortDemandsSpec)

/-- 'laws.FnSlotsNeeded', WHERE WHAT IT READS IS OF BULK AT MOST 1048576: true; the input reads as it did. -/
def fnSlotsNeededUptoRow : OpenClaim := { program := "ytimabffnoanciaa", sum := "7ba34b1d5acb98787273fc9a59e37c3d07d620a7190fdb2285c854d26e300a9a", func := "loop.example/g00833/laws.FnSlotsNeeded", spec := "fnSlotsNeeded", apart := false, narrowed := true }
def FnSlotsNeededUptoSaid : Prop := fnSlotsNeededUptoRow.holds Try.pinned (OpenSpec.upto fnSlotsNeededSpec)

/-- 'laws.FnExactArePossible', WHERE WHAT IT READS IS OF BULK AT MOST 1048576: true; the input reads as it did. -/
def fnExactArePossibleUptoRow : OpenClaim := { program := "ytimabffnoanciaa", sum := "7ba34b1d5acb98787273fc9a59e37c3d07d620a7190fdb2285c854d26e300a9a", func := "loop.example/g00833/laws.FnExactArePossible", spec := "fnExactArePossible", apart := false, narrowed := true }
def FnExactArePossibleUptoSaid : Prop := fnExactArePossibleUptoRow.holds Try.pinned (OpenSpec.upto fnExactArePossibleSpec)

/-- 'laws.FnExactPlanDemands', WHERE WHAT IT READS IS OF BULK AT MOST 1048576: true; the input reads as it did. -/
def fnExactPlanDemandsUptoRow : OpenClaim := { program := "ytimabffnoanciaa", sum := "7ba34b1d5acb98787273fc9a59e37c3d07d620a7190fdb2285c854d26e300a9a", func := "loop.example/g00833/laws.FnExactPlanDemands", spec := "fnExactPlanDemands", apart := false, narrowed := true }
def FnExactPlanDemandsUptoSaid : Prop := fnExactPlanDemandsUptoRow.holds Try.pinned (OpenSpec.upto fnExactPlanDemandsSpec)

/-- 'laws.FnExactReachableModes', WHERE WHAT IT READS IS OF BULK AT MOST 1048576: true; the input reads as it did. -/
def fnExactReachableModesUptoRow : OpenClaim := { program := "ytimabffnoanciaa", sum := "7ba34b1d5acb98787273fc9a59e37c3d07d620a7190fdb2285c854d26e300a9a", func := "loop.example/g00833/laws.FnExactReachableModes", spec := "fnExactReachableModes", unfollowed := true, recurses := true, apart := false, narrowed := true }
def FnExactReachableModesUptoSaid : Prop := fnExactReachableModesUptoRow.holds Try.pinned (OpenSpec.upto fnExactReachableModesSpec)

/-- 'laws.FnExactModePath', WHERE WHAT IT READS IS OF BULK AT MOST 1048576: true; the input reads as it did. -/
def fnExactModePathUptoRow : OpenClaim := { program := "ytimabffnoanciaa", sum := "7ba34b1d5acb98787273fc9a59e37c3d07d620a7190fdb2285c854d26e300a9a", func := "loop.example/g00833/laws.FnExactModePath", spec := "fnExactModePath", unfollowed := true, recurses := true, apart := false, narrowed := true }
def FnExactModePathUptoSaid : Prop := fnExactModePathUptoRow.holds Try.pinned (OpenSpec.upto fnExactModePathSpec)

/-- 'laws.FnModePaths', WHERE WHAT IT READS IS OF BULK AT MOST 1048576: true; the input reads as it did. -/
def fnModePathsUptoRow : OpenClaim := { program := "ytimabffnoanciaa", sum := "7ba34b1d5acb98787273fc9a59e37c3d07d620a7190fdb2285c854d26e300a9a", func := "loop.example/g00833/laws.FnModePaths", spec := "fnModePaths", unfollowed := true, recurses := true, apart := false, narrowed := true }
def FnModePathsUptoSaid : Prop := fnModePathsUptoRow.holds Try.pinned (OpenSpec.upto fnModePathsSpec)

/-- 'laws.FnPlanTables', WHERE WHAT IT READS IS OF BULK AT MOST 1048576: true; the input reads as it did. -/
def fnPlanTablesUptoRow : OpenClaim := { program := "ytimabffnoanciaa", sum := "7ba34b1d5acb98787273fc9a59e37c3d07d620a7190fdb2285c854d26e300a9a", func := "loop.example/g00833/laws.FnPlanTables", spec := "fnPlanTables", apart := false, narrowed := true }
def FnPlanTablesUptoSaid : Prop := fnPlanTablesUptoRow.holds Try.pinned (OpenSpec.upto fnPlanTablesSpec)

/-- 'laws.FnExactPlanTable', WHERE WHAT IT READS IS OF BULK AT MOST 1048576: true; the input reads as it did. -/
def fnExactPlanTableUptoRow : OpenClaim := { program := "ytimabffnoanciaa", sum := "7ba34b1d5acb98787273fc9a59e37c3d07d620a7190fdb2285c854d26e300a9a", func := "loop.example/g00833/laws.FnExactPlanTable", spec := "fnExactPlanTable", apart := false, narrowed := true }
def FnExactPlanTableUptoSaid : Prop := fnExactPlanTableUptoRow.holds Try.pinned (OpenSpec.upto fnExactPlanTableSpec)

end Rows
end Go.Proofs.Ytimabffnoanciaa
