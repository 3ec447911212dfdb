/-
  No cell of these rows narrows 'for every input' (looked for: loops, veiled, ifaces, maps, wideKeys, modest, calm, conditions, laid).
  DERIVED. THE GIVEN ROWS OF THIS SEAT. 4 by the template 'for every input the law returns true; each argument reads behind the call as it read before'; 0 by the template 'total and deterministic' (their statements: YtojgfbbdjobdnaaTotals.lean).
  GIVEN WITH THE SEED: the statements are not yours to turn. If you find one false, say at which input.
  Laid BY PROGRAM, IN A SANDBOX (cutbox-rows.mjs): the forced cells as the released guide's own fill.sh prints them over the translation 6dee0d2c16c2b4a8… (all of the seat's roots in one cut). By AI agents, Wed Nov 11 2026. No macro, syntax, notation, axiom, sorry.
-/
import Derived.Test.YtojgfbbdjobdnaaChecked
import GoSem.Claim
import GoSem.ClaimJoined
import GoSem.ClaimMapViews
import Derived.JoinedTies
import Derived.KernelRfl
namespace Go.Proofs.Ytojgfbbdjobdnaa
/- THE CELL 'sum', in the pinned program and in every row, IS THE sha256 OF THE DUMP (.gsa) THAT YtojgfbbdjobdnaaProg.lean LOADS. Nothing in Lean hashes anything: it is a label: what it is worth is what the hold of that sum in a sandbox is worth. -/
noncomputable def Try.pinned : Pinned := { name := "ytojgfbbdjobdnaa", sum := "6dee0d2c16c2b4a8d5fa58af0534c55602a3b3100b15949d0d2861ce6ecbde41", checked := Try.checked }
namespace Rows
def none {H : Type} : Left H := { results := [], args := [] }

/-- 'laws.FnModeTables': WHATEVER THE INPUT: true; the input reads as it did. -/
def fnModeTablesSpec : ChangeSpec := { name := "fnModeTables", fn := fun _ => fun
  | [d] => { results := [.lit (.bool true)], args := [d] }
  | _ => none }
def fnModeTablesRow : OpenClaim := { program := "ytojgfbbdjobdnaa", sum := "6dee0d2c16c2b4a8d5fa58af0534c55602a3b3100b15949d0d2861ce6ecbde41", func := "loop.example/g00833/laws.FnModeTables", spec := "fnModeTables", apart := false }
def FnModeTablesSaid : Prop := fnModeTablesRow.holds Try.pinned (OpenSpec.ofChange fnModeTablesSpec)

/-- ITS FALSE NEIGHBOUR: 'it returns false'. Refute it at one input. -/
def fnModeTablesWrong : ChangeSpec := { name := "fnModeTables", fn := fun _ => fun
  | [d] => { results := [.lit (.bool false)], args := [d] }
  | _ => none }
def FnModeTablesWrongFalsely : Prop := fnModeTablesRow.holds Try.pinned (OpenSpec.ofChange fnModeTablesWrong)

/-- 'laws.FnFindSlots': WHATEVER THE INPUT: true; the input reads as it did. -/
def fnFindSlotsSpec : ChangeSpec := { name := "fnFindSlots", fn := fun _ => fun
  | [d] => { results := [.lit (.bool true)], args := [d] }
  | _ => none }
def fnFindSlotsRow : OpenClaim := { program := "ytojgfbbdjobdnaa", sum := "6dee0d2c16c2b4a8d5fa58af0534c55602a3b3100b15949d0d2861ce6ecbde41", func := "loop.example/g00833/laws.FnFindSlots", spec := "fnFindSlots", unfollowed := true, recurses := true, apart := false }
def FnFindSlotsSaid : Prop := fnFindSlotsRow.holds Try.pinned (OpenSpec.ofChange fnFindSlotsSpec)

/-- ITS FALSE NEIGHBOUR: 'it returns false'. Refute it at one input. -/
def fnFindSlotsWrong : ChangeSpec := { name := "fnFindSlots", fn := fun _ => fun
  | [d] => { results := [.lit (.bool false)], args := [d] }
  | _ => none }
def FnFindSlotsWrongFalsely : Prop := fnFindSlotsRow.holds Try.pinned (OpenSpec.ofChange fnFindSlotsWrong)

/-- 'laws.FnSlotTables': WHATEVER THE INPUT: true; the input reads as it did. -/
def fnSlotTablesSpec : ChangeSpec := { name := "fnSlotTables", fn := fun _ => fun
  | [d] => { results := [.lit (.bool true)], args := [d] }
  | _ => none }
def fnSlotTablesRow : OpenClaim := { program := "ytojgfbbdjobdnaa", sum := "6dee0d2c16c2b4a8d5fa58af0534c55602a3b3100b15949d0d2861ce6ecbde41", func := "loop.example/g00833/laws.FnSlotTables", spec := "fnSlotTables", apart := false }
def FnSlotTablesSaid : Prop := fnSlotTablesRow.holds Try.pinned (OpenSpec.ofChange fnSlotTablesSpec)

/-- ITS FALSE NEIGHBOUR: 'it returns false'. Refute it at one input. -/
def fnSlotTablesWrong : ChangeSpec := { name := "fnSlotTables", fn := fun _ => fun
  | [d] => { results := [.lit (.bool false)], args := [d] }
  | _ => none }
def FnSlotTablesWrongFalsely : Prop := fnSlotTablesRow.holds Try.pinned (OpenSpec.ofChange fnSlotTablesWrong)

/-- 'laws.FnInserted': WHATEVER THE INPUT: true; the input reads as it did. -/
def fnInsertedSpec : ChangeSpec := { name := "fnInserted", fn := fun _ => fun
  | [d] => { results := [.lit (.bool true)], args := [d] }
  | _ => none }
def fnInsertedRow : OpenClaim := { program := "ytojgfbbdjobdnaa", sum := "6dee0d2c16c2b4a8d5fa58af0534c55602a3b3100b15949d0d2861ce6ecbde41", func := "loop.example/g00833/laws.FnInserted", spec := "fnInserted", inPlace := ["slices.overlaps[loop.example/g00833/impl.SlotInfo]"], unfollowed := true, recurses := true, apart := false }
def FnInsertedSaid : Prop := fnInsertedRow.holds Try.pinned (OpenSpec.ofChange fnInsertedSpec)

/-- ITS FALSE NEIGHBOUR: 'it returns false'. Refute it at one input. -/
def fnInsertedWrong : ChangeSpec := { name := "fnInserted", fn := fun _ => fun
  | [d] => { results := [.lit (.bool false)], args := [d] }
  | _ => none }
def FnInsertedWrongFalsely : Prop := fnInsertedRow.holds Try.pinned (OpenSpec.ofChange fnInsertedWrong)

/- THE SECOND FORM. 'bulk': how many values and letters a reading holds, each counted each time it is reached (what is shared counts as often as it is met; a slice's spare places count too). A statement '..UptoSaid' is the law's where the arguments, and the package variables that the reading takes, are together of bulk at most 1048576: NARROWER than '..Said'. Prove '..Said' where nothing that the law and all that it calls make is longer than what came in: it says more and counts as full. Else prove '..UptoSaid'. A law counts once. -/
mutual
def uptoBulk {H : Type} : DataW H → Nat
  | .lit (.string bytes) => bytes.length + 1
  | .lit _ => 1
  | .nil => 1
  | .ptr d => uptoBulk d + 1
  | .slice elems spare => uptoBulkAll elems + uptoBulkAll spare + 1
  | .agg parts => uptoBulkAll parts + 1
  | .iface _ d => uptoBulk d + 1
  | .map entries => uptoBulkEntries entries + 1
  | .held _ => 1
def uptoBulkAll {H : Type} : List (DataW H) → Nat
  | [] => 0
  | d :: r => uptoBulk d + uptoBulkAll r
def uptoBulkEntries {H : Type} : List (Lit × DataW H) → Nat
  | [] => 0
  | x :: r => uptoBulkEntry x + uptoBulkEntries r
def uptoBulkEntry {H : Type} : Lit × DataW H → Nat
  | (.string bytes, d) => bytes.length + uptoBulk d + 1
  | (_, d) => uptoBulk d + 1
 end
def uptoSmall : (H : Type) → List (DataW H) → Bool := fun _ ds => decide (uptoBulkAll ds ≤ 1048576)
def OpenSpec.upto (s : _root_.Go.ChangeSpec) : _root_.Go.OpenSpec := { _root_.Go.OpenSpec.ofChange s with cond := some uptoSmall }

/-- 'laws.FnModeTables', WHERE WHAT IT READS IS OF BULK AT MOST 1048576: true; the input reads as it did. -/
def fnModeTablesUptoRow : OpenClaim := { program := "ytojgfbbdjobdnaa", sum := "6dee0d2c16c2b4a8d5fa58af0534c55602a3b3100b15949d0d2861ce6ecbde41", func := "loop.example/g00833/laws.FnModeTables", spec := "fnModeTables", apart := false, narrowed := true }
def FnModeTablesUptoSaid : Prop := fnModeTablesUptoRow.holds Try.pinned (OpenSpec.upto fnModeTablesSpec)

/-- 'laws.FnFindSlots', WHERE WHAT IT READS IS OF BULK AT MOST 1048576: true; the input reads as it did. -/
def fnFindSlotsUptoRow : OpenClaim := { program := "ytojgfbbdjobdnaa", sum := "6dee0d2c16c2b4a8d5fa58af0534c55602a3b3100b15949d0d2861ce6ecbde41", func := "loop.example/g00833/laws.FnFindSlots", spec := "fnFindSlots", unfollowed := true, recurses := true, apart := false, narrowed := true }
def FnFindSlotsUptoSaid : Prop := fnFindSlotsUptoRow.holds Try.pinned (OpenSpec.upto fnFindSlotsSpec)

/-- 'laws.FnSlotTables', WHERE WHAT IT READS IS OF BULK AT MOST 1048576: true; the input reads as it did. -/
def fnSlotTablesUptoRow : OpenClaim := { program := "ytojgfbbdjobdnaa", sum := "6dee0d2c16c2b4a8d5fa58af0534c55602a3b3100b15949d0d2861ce6ecbde41", func := "loop.example/g00833/laws.FnSlotTables", spec := "fnSlotTables", apart := false, narrowed := true }
def FnSlotTablesUptoSaid : Prop := fnSlotTablesUptoRow.holds Try.pinned (OpenSpec.upto fnSlotTablesSpec)

/-- 'laws.FnInserted', WHERE WHAT IT READS IS OF BULK AT MOST 1048576: true; the input reads as it did. -/
def fnInsertedUptoRow : OpenClaim := { program := "ytojgfbbdjobdnaa", sum := "6dee0d2c16c2b4a8d5fa58af0534c55602a3b3100b15949d0d2861ce6ecbde41", func := "loop.example/g00833/laws.FnInserted", spec := "fnInserted", inPlace := ["slices.overlaps[loop.example/g00833/impl.SlotInfo]"], unfollowed := true, recurses := true, apart := false, narrowed := true }
def FnInsertedUptoSaid : Prop := fnInsertedUptoRow.holds Try.pinned (OpenSpec.upto fnInsertedSpec)

end Rows
end Go.Proofs.Ytojgfbbdjobdnaa
