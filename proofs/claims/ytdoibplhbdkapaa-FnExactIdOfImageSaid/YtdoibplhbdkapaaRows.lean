/-
  No cell of these rows narrows 'for every input' (looked for: loops, veiled, ifaces, maps, wideKeys, modest, calm, conditions, laid).
  DERIVED. THE GIVEN ROWS OF THIS SEAT. 4 by the template 'for every input the law returns true; each argument reads behind the call as it read before'; 0 by the template 'total and deterministic' (their statements: YtdoibplhbdkapaaTotals.lean).
  GIVEN WITH THE SEED: the statements are not yours to turn. If you find one false, say at which input.
  Laid BY PROGRAM, IN A SANDBOX (cutbox-rows.mjs): the forced cells as the released guide's own fill.sh prints them over the translation 40fe390f2852de20… (all of the seat's roots in one cut). By AI agents, Wed Nov 11 2026. No macro, syntax, notation, axiom, sorry.
-/
import Derived.Test.YtdoibplhbdkapaaChecked
import GoSem.Claim
import GoSem.ClaimJoined
import GoSem.ClaimMapViews
import Derived.JoinedTies
import Derived.KernelRfl
namespace Go.Proofs.Ytdoibplhbdkapaa
/- THE CELL 'sum', in the pinned program and in every row, IS THE sha256 OF THE DUMP (.gsa) THAT YtdoibplhbdkapaaProg.lean LOADS. Nothing in Lean hashes anything: it is a label: what it is worth is what the hold of that sum in a sandbox is worth. -/
noncomputable def Try.pinned : Pinned := { name := "ytdoibplhbdkapaa", sum := "40fe390f2852de20beaaf4dbbf8fd2e88e150a1dbcb4d7c3d52c8b91c016be3b", checked := Try.checked }
namespace Rows
def none {H : Type} : Left H := { results := [], args := [] }

/-- 'laws.FnExactIdOfImage': WHATEVER THE INPUT: true; the input reads as it did. -/
def fnExactIdOfImageSpec : ChangeSpec := { name := "fnExactIdOfImage", fn := fun _ => fun
  | [d] => { results := [.lit (.bool true)], args := [d] }
  | _ => none }
def fnExactIdOfImageRow : OpenClaim := { program := "ytdoibplhbdkapaa", sum := "40fe390f2852de20beaaf4dbbf8fd2e88e150a1dbcb4d7c3d52c8b91c016be3b", func := "loop.example/g00833/laws.FnExactIdOfImage", spec := "fnExactIdOfImage", unfollowed := true, recurses := true, apart := false }
def FnExactIdOfImageSaid : Prop := fnExactIdOfImageRow.holds Try.pinned (OpenSpec.ofChange fnExactIdOfImageSpec)

/-- ITS FALSE NEIGHBOUR: 'it returns false'. Refute it at one input. -/
def fnExactIdOfImageWrong : ChangeSpec := { name := "fnExactIdOfImage", fn := fun _ => fun
  | [d] => { results := [.lit (.bool false)], args := [d] }
  | _ => none }
def FnExactIdOfImageWrongFalsely : Prop := fnExactIdOfImageRow.holds Try.pinned (OpenSpec.ofChange fnExactIdOfImageWrong)

/-- 'laws.FnExactSortDemands': WHATEVER THE INPUT: true; the input reads as it did. -/
def fnExactSortDemandsSpec : ChangeSpec := { name := "fnExactSortDemands", fn := fun _ => fun
  | [d] => { results := [.lit (.bool true)], args := [d] }
  | _ => none }
def fnExactSortDemandsRow : OpenClaim := { program := "ytdoibplhbdkapaa", sum := "40fe390f2852de20beaaf4dbbf8fd2e88e150a1dbcb4d7c3d52c8b91c016be3b", func := "loop.example/g00833/laws.FnExactSortDemands", spec := "fnExactSortDemands", unfollowed := true, recurses := true, apart := false }
def FnExactSortDemandsSaid : Prop := fnExactSortDemandsRow.holds Try.pinned (OpenSpec.ofChange fnExactSortDemandsSpec)

/-- ITS FALSE NEIGHBOUR: 'it returns false'. Refute it at one input. -/
def fnExactSortDemandsWrong : ChangeSpec := { name := "fnExactSortDemands", fn := fun _ => fun
  | [d] => { results := [.lit (.bool false)], args := [d] }
  | _ => none }
def FnExactSortDemandsWrongFalsely : Prop := fnExactSortDemandsRow.holds Try.pinned (OpenSpec.ofChange fnExactSortDemandsWrong)

/-- 'laws.FnExactInsertSlot': WHATEVER THE INPUT: true; the input reads as it did. -/
def fnExactInsertSlotSpec : ChangeSpec := { name := "fnExactInsertSlot", fn := fun _ => fun
  | [d1, d2] => { results := [.lit (.bool true)], args := [d1, d2] }
  | _ => none }
def fnExactInsertSlotRow : OpenClaim := { program := "ytdoibplhbdkapaa", sum := "40fe390f2852de20beaaf4dbbf8fd2e88e150a1dbcb4d7c3d52c8b91c016be3b", func := "loop.example/g00833/laws.FnExactInsertSlot", spec := "fnExactInsertSlot", inPlace := ["slices.overlaps[loop.example/g00833/impl.SlotInfo]"], unfollowed := true, recurses := true, apart := false }
def FnExactInsertSlotSaid : Prop := fnExactInsertSlotRow.holds Try.pinned (OpenSpec.ofChange fnExactInsertSlotSpec)

/-- ITS FALSE NEIGHBOUR: 'it returns false'. Refute it at one input. -/
def fnExactInsertSlotWrong : ChangeSpec := { name := "fnExactInsertSlot", fn := fun _ => fun
  | [d1, d2] => { results := [.lit (.bool false)], args := [d1, d2] }
  | _ => none }
def FnExactInsertSlotWrongFalsely : Prop := fnExactInsertSlotRow.holds Try.pinned (OpenSpec.ofChange fnExactInsertSlotWrong)

/-- 'laws.FnInserted': WHATEVER THE INPUT: true; the input reads as it did. -/
def fnInsertedSpec : ChangeSpec := { name := "fnInserted", fn := fun _ => fun
  | [d] => { results := [.lit (.bool true)], args := [d] }
  | _ => none }
def fnInsertedRow : OpenClaim := { program := "ytdoibplhbdkapaa", sum := "40fe390f2852de20beaaf4dbbf8fd2e88e150a1dbcb4d7c3d52c8b91c016be3b", func := "loop.example/g00833/laws.FnInserted", spec := "fnInserted", inPlace := ["slices.overlaps[loop.example/g00833/impl.SlotInfo]"], unfollowed := true, recurses := true, apart := false }
def FnInsertedSaid : Prop := fnInsertedRow.holds Try.pinned (OpenSpec.ofChange fnInsertedSpec)

/-- ITS FALSE NEIGHBOUR: 'it returns false'. Refute it at one input. -/
def fnInsertedWrong : ChangeSpec := { name := "fnInserted", fn := fun _ => fun
  | [d] => { results := [.lit (.bool false)], args := [d] }
  | _ => none }
def FnInsertedWrongFalsely : Prop := fnInsertedRow.holds Try.pinned (OpenSpec.ofChange fnInsertedWrong)

/- THE SECOND FORM. 'bulk': how many values and letters a reading holds, each counted each time it is reached (what is shared counts as often as it is met; a slice's spare places count too). A statement '..UptoSaid' is the law's where the arguments, and the package variables that the reading takes, are together of bulk at most 1048576: NARROWER than '..Said'. Prove '..Said' where nothing that the law and all that it calls make is longer than what came in: it says more and counts as full. Else prove '..UptoSaid'. A law counts once. -/
mutual
def uptoBulk {H : Type} : DataW H → Nat
  | .lit (.string bytes) => bytes.length + 1
  | .lit _ => 1
  | .nil => 1
  | .ptr d => uptoBulk d + 1
  | .slice elems spare => uptoBulkAll elems + uptoBulkAll spare + 1
  | .agg parts => uptoBulkAll parts + 1
  | .iface _ d => uptoBulk d + 1
  | .map entries => uptoBulkEntries entries + 1
  | .held _ => 1
def uptoBulkAll {H : Type} : List (DataW H) → Nat
  | [] => 0
  | d :: r => uptoBulk d + uptoBulkAll r
def uptoBulkEntries {H : Type} : List (Lit × DataW H) → Nat
  | [] => 0
  | x :: r => uptoBulkEntry x + uptoBulkEntries r
def uptoBulkEntry {H : Type} : Lit × DataW H → Nat
  | (.string bytes, d) => bytes.length + uptoBulk d + 1
  | (_, d) => uptoBulk d + 1
 end
def uptoSmall : (H : Type) → List (DataW H) → Bool := fun _ ds => decide (uptoBulkAll ds ≤ 1048576)
def OpenSpec.upto (s : _root_.Go.ChangeSpec) : _root_.Go.OpenSpec := { _root_.Go.OpenSpec.ofChange s with cond := some uptoSmall }

/-- 'laws.FnExactIdOfImage', WHERE WHAT IT READS IS OF BULK AT MOST 1048576: true; the input reads as it did. -/
def fnExactIdOfImageUptoRow : OpenClaim := { program := "ytdoibplhbdkapaa", sum := "40fe390f2852de20beaaf4dbbf8fd2e88e150a1dbcb4d7c3d52c8b91c016be3b", func := "loop.example/g00833/laws.FnExactIdOfImage", spec := "fnExactIdOfImage", unfollowed := true, recurses := true, apart := false, narrowed := true }
def FnExactIdOfImageUptoSaid : Prop := fnExactIdOfImageUptoRow.holds Try.pinned (OpenSpec.upto fnExactIdOfImageSpec)

/-- 'laws.FnExactSortDemands', WHERE WHAT IT READS IS OF BULK AT MOST 1048576: true; the input reads as it did. -/
def fnExactSortDemandsUptoRow : OpenClaim := { program := "ytdoibplhbdkapaa", sum := "40fe390f2852de20beaaf4dbbf8fd2e88e150a1dbcb4d7c3d52c8b91c016be3b", func := "loop.example/g00833/laws.FnExactSortDemands", spec := "fnExactSortDemands", unfollowed := true, recurses := true, apart := false, narrowed := true }
def FnExactSortDemandsUptoSaid : Prop := fnExactSortDemandsUptoRow.holds Try.pinned (OpenSpec.upto fnExactSortDemandsSpec)

/-- 'laws.FnExactInsertSlot', WHERE WHAT IT READS IS OF BULK AT MOST 1048576: true; the input reads as it did. -/
def fnExactInsertSlotUptoRow : OpenClaim := { program := "ytdoibplhbdkapaa", sum := "40fe390f2852de20beaaf4dbbf8fd2e88e150a1dbcb4d7c3d52c8b91c016be3b", func := "loop.example/g00833/laws.FnExactInsertSlot", spec := "fnExactInsertSlot", inPlace := ["slices.overlaps[loop.example/g00833/impl.SlotInfo]"], unfollowed := true, recurses := true, apart := false, narrowed := true }
def FnExactInsertSlotUptoSaid : Prop := fnExactInsertSlotUptoRow.holds Try.pinned (OpenSpec.upto fnExactInsertSlotSpec)

/-- 'laws.FnInserted', WHERE WHAT IT READS IS OF BULK AT MOST 1048576: true; the input reads as it did. -/
def fnInsertedUptoRow : OpenClaim := { program := "ytdoibplhbdkapaa", sum := "40fe390f2852de20beaaf4dbbf8fd2e88e150a1dbcb4d7c3d52c8b91c016be3b", func := "loop.example/g00833/laws.FnInserted", spec := "fnInserted", inPlace := ["slices.overlaps[loop.example/g00833/impl.SlotInfo]"], unfollowed := true, recurses := true, apart := false, narrowed := true }
def FnInsertedUptoSaid : Prop := fnInsertedUptoRow.holds Try.pinned (OpenSpec.upto fnInsertedSpec)

end Rows
end Go.Proofs.Ytdoibplhbdkapaa
