/-
  No cell of these rows narrows 'for every input' (looked for: loops, veiled, ifaces, maps, wideKeys, modest, calm, conditions, laid).
  DERIVED. THE GIVEN ROWS OF THIS SEAT. 5 by the template 'for every input the law returns true; each argument reads behind the call as it read before'; 0 by the template 'total and deterministic' (their statements: YthdeoagoehkcfaaTotals.lean).
  GIVEN WITH THE SEED: the statements are not yours to turn. If you find one false, say at which input.
  Laid BY PROGRAM, IN A SANDBOX (cutbox-rows.mjs): the forced cells as the released guide's own fill.sh prints them over the translation 65ec3286fd01db61… (all of the seat's roots in one cut). By AI agents, Wed Nov 11 2026. No macro, syntax, notation, axiom, sorry.
-/
import Derived.Test.YthdeoagoehkcfaaChecked
import GoSem.Claim
import GoSem.ClaimJoined
import GoSem.ClaimMapViews
import Derived.JoinedTies
import Derived.KernelRfl
namespace Go.Proofs.Ythdeoagoehkcfaa
/- THE CELL 'sum', in the pinned program and in every row, IS THE sha256 OF THE DUMP (.gsa) THAT YthdeoagoehkcfaaProg.lean LOADS. Nothing in Lean hashes anything: it is a label: what it is worth is what the hold of that sum in a sandbox is worth. -/
noncomputable def Try.pinned : Pinned := { name := "ythdeoagoehkcfaa", sum := "65ec3286fd01db619959d70ebb74651820e5311ff010b8cfa581ebf54d7a287b", checked := Try.checked }
namespace Rows
def none {H : Type} : Left H := { results := [], args := [] }

/-- 'laws.FnExactIdOfImage': WHATEVER THE INPUT: true; the input reads as it did. -/
def fnExactIdOfImageSpec : ChangeSpec := { name := "fnExactIdOfImage", fn := fun _ => fun
  | [d] => { results := [.lit (.bool true)], args := [d] }
  | _ => none }
def fnExactIdOfImageRow : OpenClaim := { program := "ythdeoagoehkcfaa", sum := "65ec3286fd01db619959d70ebb74651820e5311ff010b8cfa581ebf54d7a287b", func := "loop.example/g00833/laws.FnExactIdOfImage", spec := "fnExactIdOfImage", unfollowed := true, recurses := true, apart := false }
def FnExactIdOfImageSaid : Prop := fnExactIdOfImageRow.holds Try.pinned (OpenSpec.ofChange fnExactIdOfImageSpec)

/-- ITS FALSE NEIGHBOUR: 'it returns false'. Refute it at one input. -/
def fnExactIdOfImageWrong : ChangeSpec := { name := "fnExactIdOfImage", fn := fun _ => fun
  | [d] => { results := [.lit (.bool false)], args := [d] }
  | _ => none }
def FnExactIdOfImageWrongFalsely : Prop := fnExactIdOfImageRow.holds Try.pinned (OpenSpec.ofChange fnExactIdOfImageWrong)

/-- 'laws.FnExactReadModeTable': WHATEVER THE INPUT: true; the input reads as it did. -/
def fnExactReadModeTableSpec : ChangeSpec := { name := "fnExactReadModeTable", fn := fun _ => fun
  | [d] => { results := [.lit (.bool true)], args := [d] }
  | _ => none }
def fnExactReadModeTableRow : OpenClaim := { program := "ythdeoagoehkcfaa", sum := "65ec3286fd01db619959d70ebb74651820e5311ff010b8cfa581ebf54d7a287b", func := "loop.example/g00833/laws.FnExactReadModeTable", spec := "fnExactReadModeTable", apart := false }
def FnExactReadModeTableSaid : Prop := fnExactReadModeTableRow.holds Try.pinned (OpenSpec.ofChange fnExactReadModeTableSpec)

/-- ITS FALSE NEIGHBOUR: 'it returns false'. Refute it at one input. -/
def fnExactReadModeTableWrong : ChangeSpec := { name := "fnExactReadModeTable", fn := fun _ => fun
  | [d] => { results := [.lit (.bool false)], args := [d] }
  | _ => none }
def FnExactReadModeTableWrongFalsely : Prop := fnExactReadModeTableRow.holds Try.pinned (OpenSpec.ofChange fnExactReadModeTableWrong)

/-- 'laws.FnExactSmallMedl': WHATEVER THE INPUT: true; the input reads as it did. -/
def fnExactSmallMedlSpec : ChangeSpec := { name := "fnExactSmallMedl", fn := fun _ => fun
  | [] => { results := [.lit (.bool true)], args := [] }
  | _ => none }
def fnExactSmallMedlRow : OpenClaim := { program := "ythdeoagoehkcfaa", sum := "65ec3286fd01db619959d70ebb74651820e5311ff010b8cfa581ebf54d7a287b", func := "loop.example/g00833/laws.FnExactSmallMedl", spec := "fnExactSmallMedl", apart := false }
def FnExactSmallMedlSaid : Prop := fnExactSmallMedlRow.holds Try.pinned (OpenSpec.ofChange fnExactSmallMedlSpec)

/-- ITS FALSE NEIGHBOUR: 'it returns false'. Refute it at one input. -/
def fnExactSmallMedlWrong : ChangeSpec := { name := "fnExactSmallMedl", fn := fun _ => fun
  | [] => { results := [.lit (.bool false)], args := [] }
  | _ => none }
def FnExactSmallMedlWrongFalsely : Prop := fnExactSmallMedlRow.holds Try.pinned (OpenSpec.ofChange fnExactSmallMedlWrong)

/-- 'laws.FnExactReadSlotTable': WHATEVER THE INPUT: true; the input reads as it did. -/
def fnExactReadSlotTableSpec : ChangeSpec := { name := "fnExactReadSlotTable", fn := fun _ => fun
  | [d] => { results := [.lit (.bool true)], args := [d] }
  | _ => none }
def fnExactReadSlotTableRow : OpenClaim := { program := "ythdeoagoehkcfaa", sum := "65ec3286fd01db619959d70ebb74651820e5311ff010b8cfa581ebf54d7a287b", func := "loop.example/g00833/laws.FnExactReadSlotTable", spec := "fnExactReadSlotTable", apart := false }
def FnExactReadSlotTableSaid : Prop := fnExactReadSlotTableRow.holds Try.pinned (OpenSpec.ofChange fnExactReadSlotTableSpec)

/-- ITS FALSE NEIGHBOUR: 'it returns false'. Refute it at one input. -/
def fnExactReadSlotTableWrong : ChangeSpec := { name := "fnExactReadSlotTable", fn := fun _ => fun
  | [d] => { results := [.lit (.bool false)], args := [d] }
  | _ => none }
def FnExactReadSlotTableWrongFalsely : Prop := fnExactReadSlotTableRow.holds Try.pinned (OpenSpec.ofChange fnExactReadSlotTableWrong)

/-- 'laws.FnExactInsertSlot': WHATEVER THE INPUT: true; the input reads as it did. -/
def fnExactInsertSlotSpec : ChangeSpec := { name := "fnExactInsertSlot", fn := fun _ => fun
  | [d1, d2] => { results := [.lit (.bool true)], args := [d1, d2] }
  | _ => none }
def fnExactInsertSlotRow : OpenClaim := { program := "ythdeoagoehkcfaa", sum := "65ec3286fd01db619959d70ebb74651820e5311ff010b8cfa581ebf54d7a287b", func := "loop.example/g00833/laws.FnExactInsertSlot", spec := "fnExactInsertSlot", inPlace := ["slices.overlaps[loop.example/g00833/impl.SlotInfo]"], unfollowed := true, recurses := true, apart := false }
def FnExactInsertSlotSaid : Prop := fnExactInsertSlotRow.holds Try.pinned (OpenSpec.ofChange fnExactInsertSlotSpec)

/-- ITS FALSE NEIGHBOUR: 'it returns false'. Refute it at one input. -/
def fnExactInsertSlotWrong : ChangeSpec := { name := "fnExactInsertSlot", fn := fun _ => fun
  | [d1, d2] => { results := [.lit (.bool false)], args := [d1, d2] }
  | _ => none }
def FnExactInsertSlotWrongFalsely : Prop := fnExactInsertSlotRow.holds Try.pinned (OpenSpec.ofChange fnExactInsertSlotWrong)

/- THE SECOND FORM. 'bulk': how many values and letters a reading holds, each counted each time it is reached (what is shared counts as often as it is met; a slice's spare places count too). A statement '..UptoSaid' is the law's where the arguments, and the package variables that the reading takes, are together of bulk at most 1048576: NARROWER than '..Said'. Prove '..Said' where nothing that the law and all that it calls make is longer than what came in: it says more and counts as full. Else prove '..UptoSaid'. A law counts once. -/
mutual
def uptoBulk {H : Type} : DataW H → Nat
  | .lit (.string bytes) => bytes.length + 1
  | .lit _ => 1
  | .nil => 1
  | .ptr d => uptoBulk d + 1
  | .slice elems spare => uptoBulkAll elems + uptoBulkAll spare + 1
  | .agg parts => uptoBulkAll parts + 1
  | .iface _ d => uptoBulk d + 1
  | .map entries => uptoBulkEntries entries + 1
  | .held _ => 1
def uptoBulkAll {H : Type} : List (DataW H) → Nat
  | [] => 0
  | d :: r => uptoBulk d + uptoBulkAll r
def uptoBulkEntries {H : Type} : List (Lit × DataW H) → Nat
  | [] => 0
  | x :: r => uptoBulkEntry x + uptoBulkEntries r
def uptoBulkEntry {H : Type} : Lit × DataW H → Nat
  | (.string bytes, d) => bytes.length + uptoBulk d + 1
  | (_, d) => uptoBulk d + 1
 end
def uptoSmall : (H : Type) → List (DataW H) → Bool := fun _ ds => decide (uptoBulkAll ds ≤ 1048576)
def OpenSpec.upto (s : _root_.Go.ChangeSpec) : _root_.Go.OpenSpec := { _root_.Go.OpenSpec.ofChange s with cond := some uptoSmall }

/-- 'laws.FnExactIdOfImage', WHERE WHAT IT READS IS OF BULK AT MOST 1048576: true; the input reads as it did. -/
def fnExactIdOfImageUptoRow : OpenClaim := { program := "ythdeoagoehkcfaa", sum := "65ec3286fd01db619959d70ebb74651820e5311ff010b8cfa581ebf54d7a287b", func := "loop.example/g00833/laws.FnExactIdOfImage", spec := "fnExactIdOfImage", unfollowed := true, recurses := true, apart := false, narrowed := true }
def FnExactIdOfImageUptoSaid : Prop := fnExactIdOfImageUptoRow.holds Try.pinned (OpenSpec.upto fnExactIdOfImageSpec)

/-- 'laws.FnExactReadModeTable', WHERE WHAT IT READS IS OF BULK AT MOST 1048576: true; the input reads as it did. -/
def fnExactReadModeTableUptoRow : OpenClaim := { program := "ythdeoagoehkcfaa", sum := "65ec3286fd01db619959d70ebb74651820e5311ff010b8cfa581ebf54d7a287b", func := "loop.example/g00833/laws.FnExactReadModeTable", spec := "fnExactReadModeTable", apart := false, narrowed := true }
def FnExactReadModeTableUptoSaid : Prop := fnExactReadModeTableUptoRow.holds Try.pinned (OpenSpec.upto fnExactReadModeTableSpec)

/-- 'laws.FnExactSmallMedl', WHERE WHAT IT READS IS OF BULK AT MOST 1048576: true; the input reads as it did. -/
def fnExactSmallMedlUptoRow : OpenClaim := { program := "ythdeoagoehkcfaa", sum := "65ec3286fd01db619959d70ebb74651820e5311ff010b8cfa581ebf54d7a287b", func := "loop.example/g00833/laws.FnExactSmallMedl", spec := "fnExactSmallMedl", apart := false, narrowed := true }
def FnExactSmallMedlUptoSaid : Prop := fnExactSmallMedlUptoRow.holds Try.pinned (OpenSpec.upto fnExactSmallMedlSpec)

/-- 'laws.FnExactReadSlotTable', WHERE WHAT IT READS IS OF BULK AT MOST 1048576: true; the input reads as it did. -/
def fnExactReadSlotTableUptoRow : OpenClaim := { program := "ythdeoagoehkcfaa", sum := "65ec3286fd01db619959d70ebb74651820e5311ff010b8cfa581ebf54d7a287b", func := "loop.example/g00833/laws.FnExactReadSlotTable", spec := "fnExactReadSlotTable", apart := false, narrowed := true }
def FnExactReadSlotTableUptoSaid : Prop := fnExactReadSlotTableUptoRow.holds Try.pinned (OpenSpec.upto fnExactReadSlotTableSpec)

/-- 'laws.FnExactInsertSlot', WHERE WHAT IT READS IS OF BULK AT MOST 1048576: true; the input reads as it did. -/
def fnExactInsertSlotUptoRow : OpenClaim := { program := "ythdeoagoehkcfaa", sum := "65ec3286fd01db619959d70ebb74651820e5311ff010b8cfa581ebf54d7a287b", func := "loop.example/g00833/laws.FnExactInsertSlot", spec := "fnExactInsertSlot", inPlace := ["slices.overlaps[loop.example/g00833/impl.SlotInfo]"], unfollowed := true, recurses := true, apart := false, narrowed := true }
def FnExactInsertSlotUptoSaid : Prop := fnExactInsertSlotUptoRow.holds Try.pinned (OpenSpec.upto fnExactInsertSlotSpec)

end Rows
end Go.Proofs.Ythdeoagoehkcfaa
