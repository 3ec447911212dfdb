/-
  No cell of these rows narrows 'for every input' (looked for: loops, veiled, ifaces, maps, wideKeys, modest, calm, conditions, laid).
  DERIVED. THE GIVEN ROWS OF THIS SEAT. 9 by the template 'for every input the law returns true; each argument reads behind the call as it read before'; 0 by the template 'total and deterministic' (their statements: YtgdmfplobmcnnaaTotals.lean).
  GIVEN WITH THE SEED: the statements are not yours to turn. If you find one false, say at which input.
  Laid BY PROGRAM, IN A SANDBOX (cutbox-rows.mjs): the forced cells as the released guide's own fill.sh prints them over the translation 50fe729857bb5965… (all of the seat's roots in one cut). By AI agents, Wed Nov 11 2026. No macro, syntax, notation, axiom, sorry.
-/
import Derived.Test.YtgdmfplobmcnnaaChecked
import GoSem.Claim
import GoSem.ClaimJoined
import GoSem.ClaimMapViews
import Derived.JoinedTies
import Derived.KernelRfl
namespace Go.Proofs.Ytgdmfplobmcnnaa
/- THE CELL 'sum', in the pinned program and in every row, IS THE sha256 OF THE DUMP (.gsa) THAT YtgdmfplobmcnnaaProg.lean LOADS. Nothing in Lean hashes anything: it is a label: what it is worth is what the hold of that sum in a sandbox is worth. -/
noncomputable def Try.pinned : Pinned := { name := "ytgdmfplobmcnnaa", sum := "50fe729857bb59655d1b9a62037abc420d89905ca911de829cc68eaa67b52fca", checked := Try.checked }
namespace Rows
def none {H : Type} : Left H := { results := [], args := [] }

/-- 'laws.FnExactIsSlotTable': WHATEVER THE INPUT: true; the input reads as it did. -/
def fnExactIsSlotTableSpec : ChangeSpec := { name := "fnExactIsSlotTable", fn := fun _ => fun
  | [d] => { results := [.lit (.bool true)], args := [d] }
  | _ => none }
def fnExactIsSlotTableRow : OpenClaim := { program := "ytgdmfplobmcnnaa", sum := "50fe729857bb59655d1b9a62037abc420d89905ca911de829cc68eaa67b52fca", func := "loop.example/g00833/laws.FnExactIsSlotTable", spec := "fnExactIsSlotTable", apart := false }
def FnExactIsSlotTableSaid : Prop := fnExactIsSlotTableRow.holds Try.pinned (OpenSpec.ofChange fnExactIsSlotTableSpec)

/-- ITS FALSE NEIGHBOUR: 'it returns false'. Refute it at one input. -/
def fnExactIsSlotTableWrong : ChangeSpec := { name := "fnExactIsSlotTable", fn := fun _ => fun
  | [d] => { results := [.lit (.bool false)], args := [d] }
  | _ => none }
def FnExactIsSlotTableWrongFalsely : Prop := fnExactIsSlotTableRow.holds Try.pinned (OpenSpec.ofChange fnExactIsSlotTableWrong)

/-- 'laws.FnExactFindSlot': WHATEVER THE INPUT: true; the input reads as it did. -/
def fnExactFindSlotSpec : ChangeSpec := { name := "fnExactFindSlot", fn := fun _ => fun
  | [d1, d2, d3, d4] => { results := [.lit (.bool true)], args := [d1, d2, d3, d4] }
  | _ => none }
def fnExactFindSlotRow : OpenClaim := { program := "ytgdmfplobmcnnaa", sum := "50fe729857bb59655d1b9a62037abc420d89905ca911de829cc68eaa67b52fca", func := "loop.example/g00833/laws.FnExactFindSlot", spec := "fnExactFindSlot", unfollowed := true, recurses := true, apart := false }
def FnExactFindSlotSaid : Prop := fnExactFindSlotRow.holds Try.pinned (OpenSpec.ofChange fnExactFindSlotSpec)

/-- ITS FALSE NEIGHBOUR: 'it returns false'. Refute it at one input. -/
def fnExactFindSlotWrong : ChangeSpec := { name := "fnExactFindSlot", fn := fun _ => fun
  | [d1, d2, d3, d4] => { results := [.lit (.bool false)], args := [d1, d2, d3, d4] }
  | _ => none }
def FnExactFindSlotWrongFalsely : Prop := fnExactFindSlotRow.holds Try.pinned (OpenSpec.ofChange fnExactFindSlotWrong)

/-- 'laws.FnExactSlotsOfNode': WHATEVER THE INPUT: true; the input reads as it did. -/
def fnExactSlotsOfNodeSpec : ChangeSpec := { name := "fnExactSlotsOfNode", fn := fun _ => fun
  | [d1, d2] => { results := [.lit (.bool true)], args := [d1, d2] }
  | _ => none }
def fnExactSlotsOfNodeRow : OpenClaim := { program := "ytgdmfplobmcnnaa", sum := "50fe729857bb59655d1b9a62037abc420d89905ca911de829cc68eaa67b52fca", func := "loop.example/g00833/laws.FnExactSlotsOfNode", spec := "fnExactSlotsOfNode", apart := false }
def FnExactSlotsOfNodeSaid : Prop := fnExactSlotsOfNodeRow.holds Try.pinned (OpenSpec.ofChange fnExactSlotsOfNodeSpec)

/-- ITS FALSE NEIGHBOUR: 'it returns false'. Refute it at one input. -/
def fnExactSlotsOfNodeWrong : ChangeSpec := { name := "fnExactSlotsOfNode", fn := fun _ => fun
  | [d1, d2] => { results := [.lit (.bool false)], args := [d1, d2] }
  | _ => none }
def FnExactSlotsOfNodeWrongFalsely : Prop := fnExactSlotsOfNodeRow.holds Try.pinned (OpenSpec.ofChange fnExactSlotsOfNodeWrong)

/-- 'laws.FnExactSlotTableBytes': WHATEVER THE INPUT: true; the input reads as it did. -/
def fnExactSlotTableBytesSpec : ChangeSpec := { name := "fnExactSlotTableBytes", fn := fun _ => fun
  | [d] => { results := [.lit (.bool true)], args := [d] }
  | _ => none }
def fnExactSlotTableBytesRow : OpenClaim := { program := "ytgdmfplobmcnnaa", sum := "50fe729857bb59655d1b9a62037abc420d89905ca911de829cc68eaa67b52fca", func := "loop.example/g00833/laws.FnExactSlotTableBytes", spec := "fnExactSlotTableBytes", apart := false }
def FnExactSlotTableBytesSaid : Prop := fnExactSlotTableBytesRow.holds Try.pinned (OpenSpec.ofChange fnExactSlotTableBytesSpec)

/-- ITS FALSE NEIGHBOUR: 'it returns false'. Refute it at one input. -/
def fnExactSlotTableBytesWrong : ChangeSpec := { name := "fnExactSlotTableBytes", fn := fun _ => fun
  | [d] => { results := [.lit (.bool false)], args := [d] }
  | _ => none }
def FnExactSlotTableBytesWrongFalsely : Prop := fnExactSlotTableBytesRow.holds Try.pinned (OpenSpec.ofChange fnExactSlotTableBytesWrong)

/-- 'laws.FnExactReadSlotTable': WHATEVER THE INPUT: true; the input reads as it did. -/
def fnExactReadSlotTableSpec : ChangeSpec := { name := "fnExactReadSlotTable", fn := fun _ => fun
  | [d] => { results := [.lit (.bool true)], args := [d] }
  | _ => none }
def fnExactReadSlotTableRow : OpenClaim := { program := "ytgdmfplobmcnnaa", sum := "50fe729857bb59655d1b9a62037abc420d89905ca911de829cc68eaa67b52fca", func := "loop.example/g00833/laws.FnExactReadSlotTable", spec := "fnExactReadSlotTable", apart := false }
def FnExactReadSlotTableSaid : Prop := fnExactReadSlotTableRow.holds Try.pinned (OpenSpec.ofChange fnExactReadSlotTableSpec)

/-- ITS FALSE NEIGHBOUR: 'it returns false'. Refute it at one input. -/
def fnExactReadSlotTableWrong : ChangeSpec := { name := "fnExactReadSlotTable", fn := fun _ => fun
  | [d] => { results := [.lit (.bool false)], args := [d] }
  | _ => none }
def FnExactReadSlotTableWrongFalsely : Prop := fnExactReadSlotTableRow.holds Try.pinned (OpenSpec.ofChange fnExactReadSlotTableWrong)

/-- 'laws.FnExactInsertSlot': WHATEVER THE INPUT: true; the input reads as it did. -/
def fnExactInsertSlotSpec : ChangeSpec := { name := "fnExactInsertSlot", fn := fun _ => fun
  | [d1, d2] => { results := [.lit (.bool true)], args := [d1, d2] }
  | _ => none }
def fnExactInsertSlotRow : OpenClaim := { program := "ytgdmfplobmcnnaa", sum := "50fe729857bb59655d1b9a62037abc420d89905ca911de829cc68eaa67b52fca", func := "loop.example/g00833/laws.FnExactInsertSlot", spec := "fnExactInsertSlot", inPlace := ["slices.overlaps[loop.example/g00833/impl.SlotInfo]"], unfollowed := true, recurses := true, apart := false }
def FnExactInsertSlotSaid : Prop := fnExactInsertSlotRow.holds Try.pinned (OpenSpec.ofChange fnExactInsertSlotSpec)

/-- ITS FALSE NEIGHBOUR: 'it returns false'. Refute it at one input. -/
def fnExactInsertSlotWrong : ChangeSpec := { name := "fnExactInsertSlot", fn := fun _ => fun
  | [d1, d2] => { results := [.lit (.bool false)], args := [d1, d2] }
  | _ => none }
def FnExactInsertSlotWrongFalsely : Prop := fnExactInsertSlotRow.holds Try.pinned (OpenSpec.ofChange fnExactInsertSlotWrong)

/-- 'laws.FnFindSlots': WHATEVER THE INPUT: true; the input reads as it did. -/
def fnFindSlotsSpec : ChangeSpec := { name := "fnFindSlots", fn := fun _ => fun
  | [d] => { results := [.lit (.bool true)], args := [d] }
  | _ => none }
def fnFindSlotsRow : OpenClaim := { program := "ytgdmfplobmcnnaa", sum := "50fe729857bb59655d1b9a62037abc420d89905ca911de829cc68eaa67b52fca", func := "loop.example/g00833/laws.FnFindSlots", spec := "fnFindSlots", unfollowed := true, recurses := true, apart := false }
def FnFindSlotsSaid : Prop := fnFindSlotsRow.holds Try.pinned (OpenSpec.ofChange fnFindSlotsSpec)

/-- ITS FALSE NEIGHBOUR: 'it returns false'. Refute it at one input. -/
def fnFindSlotsWrong : ChangeSpec := { name := "fnFindSlots", fn := fun _ => fun
  | [d] => { results := [.lit (.bool false)], args := [d] }
  | _ => none }
def FnFindSlotsWrongFalsely : Prop := fnFindSlotsRow.holds Try.pinned (OpenSpec.ofChange fnFindSlotsWrong)

/-- 'laws.FnSlotTables': WHATEVER THE INPUT: true; the input reads as it did. -/
def fnSlotTablesSpec : ChangeSpec := { name := "fnSlotTables", fn := fun _ => fun
  | [d] => { results := [.lit (.bool true)], args := [d] }
  | _ => none }
def fnSlotTablesRow : OpenClaim := { program := "ytgdmfplobmcnnaa", sum := "50fe729857bb59655d1b9a62037abc420d89905ca911de829cc68eaa67b52fca", func := "loop.example/g00833/laws.FnSlotTables", spec := "fnSlotTables", apart := false }
def FnSlotTablesSaid : Prop := fnSlotTablesRow.holds Try.pinned (OpenSpec.ofChange fnSlotTablesSpec)

/-- ITS FALSE NEIGHBOUR: 'it returns false'. Refute it at one input. -/
def fnSlotTablesWrong : ChangeSpec := { name := "fnSlotTables", fn := fun _ => fun
  | [d] => { results := [.lit (.bool false)], args := [d] }
  | _ => none }
def FnSlotTablesWrongFalsely : Prop := fnSlotTablesRow.holds Try.pinned (OpenSpec.ofChange fnSlotTablesWrong)

/-- 'laws.FnInserted': WHATEVER THE INPUT: true; the input reads as it did. -/
def fnInsertedSpec : ChangeSpec := { name := "fnInserted", fn := fun _ => fun
  | [d] => { results := [.lit (.bool true)], args := [d] }
  | _ => none }
def fnInsertedRow : OpenClaim := { program := "ytgdmfplobmcnnaa", sum := "50fe729857bb59655d1b9a62037abc420d89905ca911de829cc68eaa67b52fca", func := "loop.example/g00833/laws.FnInserted", spec := "fnInserted", inPlace := ["slices.overlaps[loop.example/g00833/impl.SlotInfo]"], unfollowed := true, recurses := true, apart := false }
def FnInsertedSaid : Prop := fnInsertedRow.holds Try.pinned (OpenSpec.ofChange fnInsertedSpec)

/-- ITS FALSE NEIGHBOUR: 'it returns false'. Refute it at one input. -/
def fnInsertedWrong : ChangeSpec := { name := "fnInserted", fn := fun _ => fun
  | [d] => { results := [.lit (.bool false)], args := [d] }
  | _ => none }
def FnInsertedWrongFalsely : Prop := fnInsertedRow.holds Try.pinned (OpenSpec.ofChange fnInsertedWrong)

/- THE SECOND FORM. 'bulk': how many values and letters a reading holds, each counted each time it is reached (what is shared counts as often as it is met; a slice's spare places count too). A statement '..UptoSaid' is the law's where the arguments, and the package variables that the reading takes, are together of bulk at most 1048576: NARROWER than '..Said'. Prove '..Said' where nothing that the law and all that it calls make is longer than what came in: it says more and counts as full. Else prove '..UptoSaid'. A law counts once. -/
mutual
def uptoBulk {H : Type} : DataW H → Nat
  | .lit (.string bytes) => bytes.length + 1
  | .lit _ => 1
  | .nil => 1
  | .ptr d => uptoBulk d + 1
  | .slice elems spare => uptoBulkAll elems + uptoBulkAll spare + 1
  | .agg parts => uptoBulkAll parts + 1
  | .iface _ d => uptoBulk d + 1
  | .map entries => uptoBulkEntries entries + 1
  | .held _ => 1
def uptoBulkAll {H : Type} : List (DataW H) → Nat
  | [] => 0
  | d :: r => uptoBulk d + uptoBulkAll r
def uptoBulkEntries {H : Type} : List (Lit × DataW H) → Nat
  | [] => 0
  | x :: r => uptoBulkEntry x + uptoBulkEntries r
def uptoBulkEntry {H : Type} : Lit × DataW H → Nat
  | (.string bytes, d) => bytes.length + uptoBulk d + 1
  | (_, d) => uptoBulk d + 1
 end
def uptoSmall : (H : Type) → List (DataW H) → Bool := fun _ ds => decide (uptoBulkAll ds ≤ 1048576)
def OpenSpec.upto (s : _root_.Go.ChangeSpec) : _root_.Go.OpenSpec := { _root_.Go.OpenSpec.ofChange s with cond := some uptoSmall }

/-- 'laws.FnExactIsSlotTable', WHERE WHAT IT READS IS OF BULK AT MOST 1048576: true; the input reads as it did. -/
def fnExactIsSlotTableUptoRow : OpenClaim := { program := "ytgdmfplobmcnnaa", sum := "50fe729857bb59655d1b9a62037abc420d89905ca911de829cc68eaa67b52fca", func := "loop.example/g00833/laws.FnExactIsSlotTable", spec := "fnExactIsSlotTable", apart := false, narrowed := true }
def FnExactIsSlotTableUptoSaid : Prop := fnExactIsSlotTableUptoRow.holds Try.pinned (OpenSpec.upto fnExactIsSlotTableSpec)

/-- 'laws.FnExactFindSlot', WHERE WHAT IT READS IS OF BULK AT MOST 1048576: true; the input reads as it did. -/
def fnExactFindSlotUptoRow : OpenClaim := { program := "ytgdmfplobmcnnaa", sum := "50fe729857bb59655d1b9a62037abc420d89905ca911de829cc68eaa67b52fca", func := "loop.example/g00833/laws.FnExactFindSlot", spec := "fnExactFindSlot", unfollowed := true, recurses := true, apart := false, narrowed := true }
def FnExactFindSlotUptoSaid : Prop := fnExactFindSlotUptoRow.holds Try.pinned (OpenSpec.upto fnExactFindSlotSpec)

/-- 'laws.FnExactSlotsOfNode', WHERE WHAT IT READS IS OF BULK AT MOST 1048576: true; the input reads as it did. -/
def fnExactSlotsOfNodeUptoRow : OpenClaim := { program := "ytgdmfplobmcnnaa", sum := "50fe729857bb59655d1b9a62037abc420d89905ca911de829cc68eaa67b52fca", func := "loop.example/g00833/laws.FnExactSlotsOfNode", spec := "fnExactSlotsOfNode", apart := false, narrowed := true }
def FnExactSlotsOfNodeUptoSaid : Prop := fnExactSlotsOfNodeUptoRow.holds Try.pinned (OpenSpec.upto fnExactSlotsOfNodeSpec)

/-- 'laws.FnExactSlotTableBytes', WHERE WHAT IT READS IS OF BULK AT MOST 1048576: true; the input reads as it did. -/
def fnExactSlotTableBytesUptoRow : OpenClaim := { program := "ytgdmfplobmcnnaa", sum := "50fe729857bb59655d1b9a62037abc420d89905ca911de829cc68eaa67b52fca", func := "loop.example/g00833/laws.FnExactSlotTableBytes", spec := "fnExactSlotTableBytes", apart := false, narrowed := true }
def FnExactSlotTableBytesUptoSaid : Prop := fnExactSlotTableBytesUptoRow.holds Try.pinned (OpenSpec.upto fnExactSlotTableBytesSpec)

/-- 'laws.FnExactReadSlotTable', WHERE WHAT IT READS IS OF BULK AT MOST 1048576: true; the input reads as it did. -/
def fnExactReadSlotTableUptoRow : OpenClaim := { program := "ytgdmfplobmcnnaa", sum := "50fe729857bb59655d1b9a62037abc420d89905ca911de829cc68eaa67b52fca", func := "loop.example/g00833/laws.FnExactReadSlotTable", spec := "fnExactReadSlotTable", apart := false, narrowed := true }
def FnExactReadSlotTableUptoSaid : Prop := fnExactReadSlotTableUptoRow.holds Try.pinned (OpenSpec.upto fnExactReadSlotTableSpec)

/-- 'laws.FnExactInsertSlot', WHERE WHAT IT READS IS OF BULK AT MOST 1048576: true; the input reads as it did. -/
def fnExactInsertSlotUptoRow : OpenClaim := { program := "ytgdmfplobmcnnaa", sum := "50fe729857bb59655d1b9a62037abc420d89905ca911de829cc68eaa67b52fca", func := "loop.example/g00833/laws.FnExactInsertSlot", spec := "fnExactInsertSlot", inPlace := ["slices.overlaps[loop.example/g00833/impl.SlotInfo]"], unfollowed := true, recurses := true, apart := false, narrowed := true }
def FnExactInsertSlotUptoSaid : Prop := fnExactInsertSlotUptoRow.holds Try.pinned (OpenSpec.upto fnExactInsertSlotSpec)

/-- 'laws.FnFindSlots', WHERE WHAT IT READS IS OF BULK AT MOST 1048576: true; the input reads as it did. -/
def fnFindSlotsUptoRow : OpenClaim := { program := "ytgdmfplobmcnnaa", sum := "50fe729857bb59655d1b9a62037abc420d89905ca911de829cc68eaa67b52fca", func := "loop.example/g00833/laws.FnFindSlots", spec := "fnFindSlots", unfollowed := true, recurses := true, apart := false, narrowed := true }
def FnFindSlotsUptoSaid : Prop := fnFindSlotsUptoRow.holds Try.pinned (OpenSpec.upto fnFindSlotsSpec)

/-- 'laws.FnSlotTables', WHERE WHAT IT READS IS OF BULK AT MOST 1048576: true; the input reads as it did. -/
def fnSlotTablesUptoRow : OpenClaim := { program := "ytgdmfplobmcnnaa", sum := "50fe729857bb59655d1b9a62037abc420d89905ca911de829cc68eaa67b52fca", func := "loop.example/g00833/laws.FnSlotTables", spec := "fnSlotTables", apart := false, narrowed := true }
def FnSlotTablesUptoSaid : Prop := fnSlotTablesUptoRow.holds Try.pinned (OpenSpec.upto fnSlotTablesSpec)

/-- 'laws.FnInserted', WHERE WHAT IT READS IS OF BULK AT MOST 1048576: true; the input reads as it did. -/
def fnInsertedUptoRow : OpenClaim := { program := "ytgdmfplobmcnnaa", sum := "50fe729857bb59655d1b9a62037abc420d89905ca911de829cc68eaa67b52fca", func := "loop.example/g00833/laws.FnInserted", spec := "fnInserted", inPlace := ["slices.overlaps[loop.example/g00833/impl.SlotInfo]"], unfollowed := true, recurses := true, apart := false, narrowed := true }
def FnInsertedUptoSaid : Prop := fnInsertedUptoRow.holds Try.pinned (OpenSpec.upto fnInsertedSpec)

end Rows
end Go.Proofs.Ytgdmfplobmcnnaa
