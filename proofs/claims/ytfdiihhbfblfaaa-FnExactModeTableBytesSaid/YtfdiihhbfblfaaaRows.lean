/-
  No cell of these rows narrows 'for every input' (looked for: loops, veiled, ifaces, maps, wideKeys, modest, calm, conditions, laid).
  DERIVED. THE GIVEN ROWS OF THIS SEAT. 7 by the template 'for every input the law returns true; each argument reads behind the call as it read before'; 0 by the template 'total and deterministic' (their statements: YtfdiihhbfblfaaaTotals.lean).
  GIVEN WITH THE SEED: the statements are not yours to turn. If you find one false, say at which input.
  Laid BY PROGRAM, IN A SANDBOX (cutbox-rows.mjs): the forced cells as the released guide's own fill.sh prints them over the translation 3ce94ca7183968e7… (all of the seat's roots in one cut). By AI agents, Wed Nov 11 2026. No macro, syntax, notation, axiom, sorry.
-/
import Derived.Test.YtfdiihhbfblfaaaChecked
import GoSem.Claim
import GoSem.ClaimJoined
import GoSem.ClaimMapViews
import Derived.JoinedTies
import Derived.KernelRfl
namespace Go.Proofs.Ytfdiihhbfblfaaa
/- THE CELL 'sum', in the pinned program and in every row, IS THE sha256 OF THE DUMP (.gsa) THAT YtfdiihhbfblfaaaProg.lean LOADS. Nothing in Lean hashes anything: it is a label: what it is worth is what the hold of that sum in a sandbox is worth. -/
noncomputable def Try.pinned : Pinned := { name := "ytfdiihhbfblfaaa", sum := "3ce94ca7183968e7f635f3efb0eb1a468891b75f3e3ad128721505a99a3a91be", checked := Try.checked }
namespace Rows
def none {H : Type} : Left H := { results := [], args := [] }

/-- 'laws.FnExactCycleSlots': WHATEVER THE INPUT: true; the input reads as it did. -/
def fnExactCycleSlotsSpec : ChangeSpec := { name := "fnExactCycleSlots", fn := fun _ => fun
  | [d1, d2] => { results := [.lit (.bool true)], args := [d1, d2] }
  | _ => none }
def fnExactCycleSlotsRow : OpenClaim := { program := "ytfdiihhbfblfaaa", sum := "3ce94ca7183968e7f635f3efb0eb1a468891b75f3e3ad128721505a99a3a91be", func := "loop.example/g00833/laws.FnExactCycleSlots", spec := "fnExactCycleSlots", apart := false }
def FnExactCycleSlotsSaid : Prop := fnExactCycleSlotsRow.holds Try.pinned (OpenSpec.ofChange fnExactCycleSlotsSpec)

/-- ITS FALSE NEIGHBOUR: 'it returns false'. Refute it at one input. -/
def fnExactCycleSlotsWrong : ChangeSpec := { name := "fnExactCycleSlots", fn := fun _ => fun
  | [d1, d2] => { results := [.lit (.bool false)], args := [d1, d2] }
  | _ => none }
def FnExactCycleSlotsWrongFalsely : Prop := fnExactCycleSlotsRow.holds Try.pinned (OpenSpec.ofChange fnExactCycleSlotsWrong)

/-- 'laws.FnExactModeTableBytes': WHATEVER THE INPUT: true; the input reads as it did. -/
def fnExactModeTableBytesSpec : ChangeSpec := { name := "fnExactModeTableBytes", fn := fun _ => fun
  | [d] => { results := [.lit (.bool true)], args := [d] }
  | _ => none }
def fnExactModeTableBytesRow : OpenClaim := { program := "ytfdiihhbfblfaaa", sum := "3ce94ca7183968e7f635f3efb0eb1a468891b75f3e3ad128721505a99a3a91be", func := "loop.example/g00833/laws.FnExactModeTableBytes", spec := "fnExactModeTableBytes", apart := false }
def FnExactModeTableBytesSaid : Prop := fnExactModeTableBytesRow.holds Try.pinned (OpenSpec.ofChange fnExactModeTableBytesSpec)

/-- ITS FALSE NEIGHBOUR: 'it returns false'. Refute it at one input. -/
def fnExactModeTableBytesWrong : ChangeSpec := { name := "fnExactModeTableBytes", fn := fun _ => fun
  | [d] => { results := [.lit (.bool false)], args := [d] }
  | _ => none }
def FnExactModeTableBytesWrongFalsely : Prop := fnExactModeTableBytesRow.holds Try.pinned (OpenSpec.ofChange fnExactModeTableBytesWrong)

/-- 'laws.FnExactReadModeTable': WHATEVER THE INPUT: true; the input reads as it did. -/
def fnExactReadModeTableSpec : ChangeSpec := { name := "fnExactReadModeTable", fn := fun _ => fun
  | [d] => { results := [.lit (.bool true)], args := [d] }
  | _ => none }
def fnExactReadModeTableRow : OpenClaim := { program := "ytfdiihhbfblfaaa", sum := "3ce94ca7183968e7f635f3efb0eb1a468891b75f3e3ad128721505a99a3a91be", func := "loop.example/g00833/laws.FnExactReadModeTable", spec := "fnExactReadModeTable", apart := false }
def FnExactReadModeTableSaid : Prop := fnExactReadModeTableRow.holds Try.pinned (OpenSpec.ofChange fnExactReadModeTableSpec)

/-- ITS FALSE NEIGHBOUR: 'it returns false'. Refute it at one input. -/
def fnExactReadModeTableWrong : ChangeSpec := { name := "fnExactReadModeTable", fn := fun _ => fun
  | [d] => { results := [.lit (.bool false)], args := [d] }
  | _ => none }
def FnExactReadModeTableWrongFalsely : Prop := fnExactReadModeTableRow.holds Try.pinned (OpenSpec.ofChange fnExactReadModeTableWrong)

/-- 'laws.FnExactReachableModes': WHATEVER THE INPUT: true; the input reads as it did. -/
def fnExactReachableModesSpec : ChangeSpec := { name := "fnExactReachableModes", fn := fun _ => fun
  | [d1, d2] => { results := [.lit (.bool true)], args := [d1, d2] }
  | _ => none }
def fnExactReachableModesRow : OpenClaim := { program := "ytfdiihhbfblfaaa", sum := "3ce94ca7183968e7f635f3efb0eb1a468891b75f3e3ad128721505a99a3a91be", func := "loop.example/g00833/laws.FnExactReachableModes", spec := "fnExactReachableModes", unfollowed := true, recurses := true, apart := false }
def FnExactReachableModesSaid : Prop := fnExactReachableModesRow.holds Try.pinned (OpenSpec.ofChange fnExactReachableModesSpec)

/-- ITS FALSE NEIGHBOUR: 'it returns false'. Refute it at one input. -/
def fnExactReachableModesWrong : ChangeSpec := { name := "fnExactReachableModes", fn := fun _ => fun
  | [d1, d2] => { results := [.lit (.bool false)], args := [d1, d2] }
  | _ => none }
def FnExactReachableModesWrongFalsely : Prop := fnExactReachableModesRow.holds Try.pinned (OpenSpec.ofChange fnExactReachableModesWrong)

/-- 'laws.FnExactModePath': WHATEVER THE INPUT: true; the input reads as it did. -/
def fnExactModePathSpec : ChangeSpec := { name := "fnExactModePath", fn := fun _ => fun
  | [d1, d2, d3] => { results := [.lit (.bool true)], args := [d1, d2, d3] }
  | _ => none }
def fnExactModePathRow : OpenClaim := { program := "ytfdiihhbfblfaaa", sum := "3ce94ca7183968e7f635f3efb0eb1a468891b75f3e3ad128721505a99a3a91be", func := "loop.example/g00833/laws.FnExactModePath", spec := "fnExactModePath", unfollowed := true, recurses := true, apart := false }
def FnExactModePathSaid : Prop := fnExactModePathRow.holds Try.pinned (OpenSpec.ofChange fnExactModePathSpec)

/-- ITS FALSE NEIGHBOUR: 'it returns false'. Refute it at one input. -/
def fnExactModePathWrong : ChangeSpec := { name := "fnExactModePath", fn := fun _ => fun
  | [d1, d2, d3] => { results := [.lit (.bool false)], args := [d1, d2, d3] }
  | _ => none }
def FnExactModePathWrongFalsely : Prop := fnExactModePathRow.holds Try.pinned (OpenSpec.ofChange fnExactModePathWrong)

/-- 'laws.FnModeTables': WHATEVER THE INPUT: true; the input reads as it did. -/
def fnModeTablesSpec : ChangeSpec := { name := "fnModeTables", fn := fun _ => fun
  | [d] => { results := [.lit (.bool true)], args := [d] }
  | _ => none }
def fnModeTablesRow : OpenClaim := { program := "ytfdiihhbfblfaaa", sum := "3ce94ca7183968e7f635f3efb0eb1a468891b75f3e3ad128721505a99a3a91be", func := "loop.example/g00833/laws.FnModeTables", spec := "fnModeTables", apart := false }
def FnModeTablesSaid : Prop := fnModeTablesRow.holds Try.pinned (OpenSpec.ofChange fnModeTablesSpec)

/-- ITS FALSE NEIGHBOUR: 'it returns false'. Refute it at one input. -/
def fnModeTablesWrong : ChangeSpec := { name := "fnModeTables", fn := fun _ => fun
  | [d] => { results := [.lit (.bool false)], args := [d] }
  | _ => none }
def FnModeTablesWrongFalsely : Prop := fnModeTablesRow.holds Try.pinned (OpenSpec.ofChange fnModeTablesWrong)

/-- 'laws.FnModePaths': WHATEVER THE INPUT: true; the input reads as it did. -/
def fnModePathsSpec : ChangeSpec := { name := "fnModePaths", fn := fun _ => fun
  | [d] => { results := [.lit (.bool true)], args := [d] }
  | _ => none }
def fnModePathsRow : OpenClaim := { program := "ytfdiihhbfblfaaa", sum := "3ce94ca7183968e7f635f3efb0eb1a468891b75f3e3ad128721505a99a3a91be", func := "loop.example/g00833/laws.FnModePaths", spec := "fnModePaths", unfollowed := true, recurses := true, apart := false }
def FnModePathsSaid : Prop := fnModePathsRow.holds Try.pinned (OpenSpec.ofChange fnModePathsSpec)

/-- ITS FALSE NEIGHBOUR: 'it returns false'. Refute it at one input. -/
def fnModePathsWrong : ChangeSpec := { name := "fnModePaths", fn := fun _ => fun
  | [d] => { results := [.lit (.bool false)], args := [d] }
  | _ => none }
def FnModePathsWrongFalsely : Prop := fnModePathsRow.holds Try.pinned (OpenSpec.ofChange fnModePathsWrong)

/- THE SECOND FORM. 'bulk': how many values and letters a reading holds, each counted each time it is reached (what is shared counts as often as it is met; a slice's spare places count too). A statement '..UptoSaid' is the law's where the arguments, and the package variables that the reading takes, are together of bulk at most 1048576: NARROWER than '..Said'. Prove '..Said' where nothing that the law and all that it calls make is longer than what came in: it says more and counts as full. Else prove '..UptoSaid'. A law counts once. -/
mutual
def uptoBulk {H : Type} : DataW H → Nat
  | .lit (.string bytes) => bytes.length + 1
  | .lit _ => 1
  | .nil => 1
  | .ptr d => uptoBulk d + 1
  | .slice elems spare => uptoBulkAll elems + uptoBulkAll spare + 1
  | .agg parts => uptoBulkAll parts + 1
  | .iface _ d => uptoBulk d + 1
  | .map entries => uptoBulkEntries entries + 1
  | .held _ => 1
def uptoBulkAll {H : Type} : List (DataW H) → Nat
  | [] => 0
  | d :: r => uptoBulk d + uptoBulkAll r
def uptoBulkEntries {H : Type} : List (Lit × DataW H) → Nat
  | [] => 0
  | x :: r => uptoBulkEntry x + uptoBulkEntries r
def uptoBulkEntry {H : Type} : Lit × DataW H → Nat
  | (.string bytes, d) => bytes.length + uptoBulk d + 1
  | (_, d) => uptoBulk d + 1
 end
def uptoSmall : (H : Type) → List (DataW H) → Bool := fun _ ds => decide (uptoBulkAll ds ≤ 1048576)
def OpenSpec.upto (s : _root_.Go.ChangeSpec) : _root_.Go.OpenSpec := { _root_.Go.OpenSpec.ofChange s with cond := some uptoSmall }

/-- 'laws.FnExactCycleSlots', WHERE WHAT IT READS IS OF BULK AT MOST 1048576: true; the input reads as it did. -/
def fnExactCycleSlotsUptoRow : OpenClaim := { program := "ytfdiihhbfblfaaa", sum := "3ce94ca7183968e7f635f3efb0eb1a468891b75f3e3ad128721505a99a3a91be", func := "loop.example/g00833/laws.FnExactCycleSlots", spec := "fnExactCycleSlots", apart := false, narrowed := true }
def FnExactCycleSlotsUptoSaid : Prop := fnExactCycleSlotsUptoRow.holds Try.pinned (OpenSpec.upto fnExactCycleSlotsSpec)

/-- 'laws.FnExactModeTableBytes', WHERE WHAT IT READS IS OF BULK AT MOST 1048576: true; the input reads as it did. -/
def fnExactModeTableBytesUptoRow : OpenClaim := { program := "ytfdiihhbfblfaaa", sum := "3ce94ca7183968e7f635f3efb0eb1a468891b75f3e3ad128721505a99a3a91be", func := "loop.example/g00833/laws.FnExactModeTableBytes", spec := "fnExactModeTableBytes", apart := false, narrowed := true }
def FnExactModeTableBytesUptoSaid : Prop := fnExactModeTableBytesUptoRow.holds Try.pinned (OpenSpec.upto fnExactModeTableBytesSpec)

/-- 'laws.FnExactReadModeTable', WHERE WHAT IT READS IS OF BULK AT MOST 1048576: true; the input reads as it did. -/
def fnExactReadModeTableUptoRow : OpenClaim := { program := "ytfdiihhbfblfaaa", sum := "3ce94ca7183968e7f635f3efb0eb1a468891b75f3e3ad128721505a99a3a91be", func := "loop.example/g00833/laws.FnExactReadModeTable", spec := "fnExactReadModeTable", apart := false, narrowed := true }
def FnExactReadModeTableUptoSaid : Prop := fnExactReadModeTableUptoRow.holds Try.pinned (OpenSpec.upto fnExactReadModeTableSpec)

/-- 'laws.FnExactReachableModes', WHERE WHAT IT READS IS OF BULK AT MOST 1048576: true; the input reads as it did. -/
def fnExactReachableModesUptoRow : OpenClaim := { program := "ytfdiihhbfblfaaa", sum := "3ce94ca7183968e7f635f3efb0eb1a468891b75f3e3ad128721505a99a3a91be", func := "loop.example/g00833/laws.FnExactReachableModes", spec := "fnExactReachableModes", unfollowed := true, recurses := true, apart := false, narrowed := true }
def FnExactReachableModesUptoSaid : Prop := fnExactReachableModesUptoRow.holds Try.pinned (OpenSpec.upto fnExactReachableModesSpec)

/-- 'laws.FnExactModePath', WHERE WHAT IT READS IS OF BULK AT MOST 1048576: true; the input reads as it did. -/
def fnExactModePathUptoRow : OpenClaim := { program := "ytfdiihhbfblfaaa", sum := "3ce94ca7183968e7f635f3efb0eb1a468891b75f3e3ad128721505a99a3a91be", func := "loop.example/g00833/laws.FnExactModePath", spec := "fnExactModePath", unfollowed := true, recurses := true, apart := false, narrowed := true }
def FnExactModePathUptoSaid : Prop := fnExactModePathUptoRow.holds Try.pinned (OpenSpec.upto fnExactModePathSpec)

/-- 'laws.FnModeTables', WHERE WHAT IT READS IS OF BULK AT MOST 1048576: true; the input reads as it did. -/
def fnModeTablesUptoRow : OpenClaim := { program := "ytfdiihhbfblfaaa", sum := "3ce94ca7183968e7f635f3efb0eb1a468891b75f3e3ad128721505a99a3a91be", func := "loop.example/g00833/laws.FnModeTables", spec := "fnModeTables", apart := false, narrowed := true }
def FnModeTablesUptoSaid : Prop := fnModeTablesUptoRow.holds Try.pinned (OpenSpec.upto fnModeTablesSpec)

/-- 'laws.FnModePaths', WHERE WHAT IT READS IS OF BULK AT MOST 1048576: true; the input reads as it did. -/
def fnModePathsUptoRow : OpenClaim := { program := "ytfdiihhbfblfaaa", sum := "3ce94ca7183968e7f635f3efb0eb1a468891b75f3e3ad128721505a99a3a91be", func := "loop.example/g00833/laws.FnModePaths", spec := "fnModePaths", unfollowed := true, recurses := true, apart := false, narrowed := true }
def FnModePathsUptoSaid : Prop := fnModePathsUptoRow.holds Try.pinned (OpenSpec.upto fnModePathsSpec)

end Rows
end Go.Proofs.Ytfdiihhbfblfaaa
