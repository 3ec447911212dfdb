/-
  NARROWER THAN 'FOR EVERY INPUT', by the rows' own cells (each row's printed sentence says how): FnExactDecodeImage: laid · FnExactSendTimes: laid · FnExactScheduleBytes: laid · FnExactWithId: laid · FnExactStatesOfCycle: laid · FnExactScheduleFromBytes: laid · FnExactEncodeImage: laid.
  DERIVED. THE GIVEN ROWS OF THIS SEAT. 7 by the template 'for every input the law returns true; each argument reads behind the call as it read before'; 0 by the template 'total and deterministic' (their statements: YthdeoagoehkcfaaGreatDoorTotals.lean).
  GIVEN WITH THE SEED: the statements are not yours to turn. If you find one false, say at which input.
  Laid BY PROGRAM, IN A SANDBOX (cutbox-rows.mjs): the forced cells as the released guide's own fill.sh prints them over the translation 95d4fcd3f87b64e0… (all of the seat's roots in one cut). By AI agents, Wed Nov 11 2026. No macro, syntax, notation, axiom, sorry.
-/
import Derived.Test.YthdeoagoehkcfaaGreatDoorChecked
import GoSem.PinnedTables
import GoSem.Claim
import GoSem.ClaimJoined
import GoSem.ClaimMapViews
import Derived.JoinedTies
import Derived.KernelRfl
namespace Go.Proofs.YthdeoagoehkcfaaGreatDoor
/- THE CELL 'sum', in the pinned program and in every row, IS THE sha256 OF THE DUMP (.gsa) THAT YthdeoagoehkcfaaGreatDoorProg.lean LOADS. Nothing in Lean hashes anything: it is a label: what it is worth is what the hold of that sum in a sandbox is worth. -/
noncomputable def Tryz.pinned : Pinned := { name := "ythdeoagoehkcfaagreatdoor", sum := "95d4fcd3f87b64e0c8192d409be824ea3c96ebbb0b8e1588c999e069a0484706", checked := Tryz.checked }
namespace Rows
def none {H : Type} : Left H := { results := [], args := [] }

/- WHAT THE LISTED PACKAGE-LEVEL VARIABLES READ AS WHEN THE CALL BEGINS. Each datum BY PROGRAM (the guide's laid-datum.mjs) off the statement by which the dump's own 'gosem.cut.vars' lays the variable. In a bare row this is a premise. The card (YthdeoagoehkcfaaGreatDoorCards.lean) ties it to the program's text. -/
def laid_unicode_utf8_acceptRanges {H : Type} : DataW H := .agg [.agg [.lit (.int .u8 128), .lit (.int .u8 191)], .agg [.lit (.int .u8 160), .lit (.int .u8 191)], .agg [.lit (.int .u8 128), .lit (.int .u8 159)], .agg [.lit (.int .u8 144), .lit (.int .u8 191)], .agg [.lit (.int .u8 128), .lit (.int .u8 143)], .agg [.lit (.int .u8 0), .lit (.int .u8 0)], .agg [.lit (.int .u8 0), .lit (.int .u8 0)], .agg [.lit (.int .u8 0), .lit (.int .u8 0)], .agg [.lit (.int .u8 0), .lit (.int .u8 0)], .agg [.lit (.int .u8 0), .lit (.int .u8 0)], .agg [.lit (.int .u8 0), .lit (.int .u8 0)], .agg [.lit (.int .u8 0), .lit (.int .u8 0)], .agg [.lit (.int .u8 0), .lit (.int .u8 0)], .agg [.lit (.int .u8 0), .lit (.int .u8 0)], .agg [.lit (.int .u8 0), .lit (.int .u8 0)], .agg [.lit (.int .u8 0), .lit (.int .u8 0)]]
/-- One of Go's own tables, pinned by name: the form's constant. -/
def laid_unicode_utf8_first : DataW Unit := Go.Pinned.utf8First

/-- 'laws.FnExactDecodeImage': WHATEVER THE INPUT: true; the input reads as it did. -/
def fnExactDecodeImageSpec : ChangeSpec := { name := "fnExactDecodeImage", fn := fun _ => fun
  | [d] => { results := [.lit (.bool true)], args := [d] }
  | _ => none }
def fnExactDecodeImageRow : OpenClaim := { program := "ythdeoagoehkcfaagreatdoor", sum := "95d4fcd3f87b64e0c8192d409be824ea3c96ebbb0b8e1588c999e069a0484706", func := "loop.example/g00833/laws.FnExactDecodeImage", spec := "fnExactDecodeImage", inPlace := ["internal/bytealg.IndexByteString", "internal/bytealg.IndexString"], unfollowed := true, recurses := true, named := ["unicode/utf8.first", "unicode/utf8.acceptRanges", "internal/bytealg.MaxLen"], apart := false, laid := [("unicode/utf8.acceptRanges", laid_unicode_utf8_acceptRanges), ("unicode/utf8.first", laid_unicode_utf8_first)] }
def FnExactDecodeImageSaid : Prop := fnExactDecodeImageRow.holds Tryz.pinned (OpenSpec.ofChange fnExactDecodeImageSpec)

/-- ITS FALSE NEIGHBOUR: 'it returns false'. Refute it at one input. -/
def fnExactDecodeImageWrong : ChangeSpec := { name := "fnExactDecodeImage", fn := fun _ => fun
  | [d] => { results := [.lit (.bool false)], args := [d] }
  | _ => none }
def FnExactDecodeImageWrongFalsely : Prop := fnExactDecodeImageRow.holds Tryz.pinned (OpenSpec.ofChange fnExactDecodeImageWrong)

/-- 'laws.FnExactSendTimes': WHATEVER THE INPUT: true; the input reads as it did. -/
def fnExactSendTimesSpec : ChangeSpec := { name := "fnExactSendTimes", fn := fun _ => fun
  | [d1, d2, d3] => { results := [.lit (.bool true)], args := [d1, d2, d3] }
  | _ => none }
def fnExactSendTimesRow : OpenClaim := { program := "ythdeoagoehkcfaagreatdoor", sum := "95d4fcd3f87b64e0c8192d409be824ea3c96ebbb0b8e1588c999e069a0484706", func := "loop.example/g00833/laws.FnExactSendTimes", spec := "fnExactSendTimes", inPlace := ["internal/bytealg.IndexByteString", "internal/bytealg.IndexString"], unfollowed := true, recurses := true, named := ["unicode/utf8.first", "unicode/utf8.acceptRanges", "internal/bytealg.MaxLen"], apart := false, laid := [("unicode/utf8.acceptRanges", laid_unicode_utf8_acceptRanges), ("unicode/utf8.first", laid_unicode_utf8_first)] }
def FnExactSendTimesSaid : Prop := fnExactSendTimesRow.holds Tryz.pinned (OpenSpec.ofChange fnExactSendTimesSpec)

/-- ITS FALSE NEIGHBOUR: 'it returns false'. Refute it at one input. -/
def fnExactSendTimesWrong : ChangeSpec := { name := "fnExactSendTimes", fn := fun _ => fun
  | [d1, d2, d3] => { results := [.lit (.bool false)], args := [d1, d2, d3] }
  | _ => none }
def FnExactSendTimesWrongFalsely : Prop := fnExactSendTimesRow.holds Tryz.pinned (OpenSpec.ofChange fnExactSendTimesWrong)

/-- 'laws.FnExactScheduleBytes': WHATEVER THE INPUT: true; the input reads as it did. -/
def fnExactScheduleBytesSpec : ChangeSpec := { name := "fnExactScheduleBytes", fn := fun _ => fun
  | [d] => { results := [.lit (.bool true)], args := [d] }
  | _ => none }
def fnExactScheduleBytesRow : OpenClaim := { program := "ythdeoagoehkcfaagreatdoor", sum := "95d4fcd3f87b64e0c8192d409be824ea3c96ebbb0b8e1588c999e069a0484706", func := "loop.example/g00833/laws.FnExactScheduleBytes", spec := "fnExactScheduleBytes", inPlace := ["internal/bytealg.IndexByteString", "internal/bytealg.IndexString"], unfollowed := true, recurses := true, named := ["unicode/utf8.first", "unicode/utf8.acceptRanges", "internal/bytealg.MaxLen"], apart := false, laid := [("unicode/utf8.acceptRanges", laid_unicode_utf8_acceptRanges), ("unicode/utf8.first", laid_unicode_utf8_first)] }
def FnExactScheduleBytesSaid : Prop := fnExactScheduleBytesRow.holds Tryz.pinned (OpenSpec.ofChange fnExactScheduleBytesSpec)

/-- ITS FALSE NEIGHBOUR: 'it returns false'. Refute it at one input. -/
def fnExactScheduleBytesWrong : ChangeSpec := { name := "fnExactScheduleBytes", fn := fun _ => fun
  | [d] => { results := [.lit (.bool false)], args := [d] }
  | _ => none }
def FnExactScheduleBytesWrongFalsely : Prop := fnExactScheduleBytesRow.holds Tryz.pinned (OpenSpec.ofChange fnExactScheduleBytesWrong)

/-- 'laws.FnExactWithId': WHATEVER THE INPUT: true; the input reads as it did. -/
def fnExactWithIdSpec : ChangeSpec := { name := "fnExactWithId", fn := fun _ => fun
  | [d1, d2] => { results := [.lit (.bool true)], args := [d1, d2] }
  | _ => none }
def fnExactWithIdRow : OpenClaim := { program := "ythdeoagoehkcfaagreatdoor", sum := "95d4fcd3f87b64e0c8192d409be824ea3c96ebbb0b8e1588c999e069a0484706", func := "loop.example/g00833/laws.FnExactWithId", spec := "fnExactWithId", inPlace := ["internal/bytealg.IndexByteString", "internal/bytealg.IndexString"], unfollowed := true, recurses := true, named := ["unicode/utf8.first", "unicode/utf8.acceptRanges", "internal/bytealg.MaxLen"], apart := false, laid := [("unicode/utf8.acceptRanges", laid_unicode_utf8_acceptRanges), ("unicode/utf8.first", laid_unicode_utf8_first)] }
def FnExactWithIdSaid : Prop := fnExactWithIdRow.holds Tryz.pinned (OpenSpec.ofChange fnExactWithIdSpec)

/-- ITS FALSE NEIGHBOUR: 'it returns false'. Refute it at one input. -/
def fnExactWithIdWrong : ChangeSpec := { name := "fnExactWithId", fn := fun _ => fun
  | [d1, d2] => { results := [.lit (.bool false)], args := [d1, d2] }
  | _ => none }
def FnExactWithIdWrongFalsely : Prop := fnExactWithIdRow.holds Tryz.pinned (OpenSpec.ofChange fnExactWithIdWrong)

/-- 'laws.FnExactStatesOfCycle': WHATEVER THE INPUT: true; the input reads as it did. -/
def fnExactStatesOfCycleSpec : ChangeSpec := { name := "fnExactStatesOfCycle", fn := fun _ => fun
  | [d1, d2] => { results := [.lit (.bool true)], args := [d1, d2] }
  | _ => none }
def fnExactStatesOfCycleRow : OpenClaim := { program := "ythdeoagoehkcfaagreatdoor", sum := "95d4fcd3f87b64e0c8192d409be824ea3c96ebbb0b8e1588c999e069a0484706", func := "loop.example/g00833/laws.FnExactStatesOfCycle", spec := "fnExactStatesOfCycle", inPlace := ["internal/bytealg.IndexByteString", "internal/bytealg.IndexString"], unfollowed := true, recurses := true, named := ["unicode/utf8.first", "unicode/utf8.acceptRanges", "internal/bytealg.MaxLen"], apart := false, laid := [("unicode/utf8.acceptRanges", laid_unicode_utf8_acceptRanges), ("unicode/utf8.first", laid_unicode_utf8_first)] }
def FnExactStatesOfCycleSaid : Prop := fnExactStatesOfCycleRow.holds Tryz.pinned (OpenSpec.ofChange fnExactStatesOfCycleSpec)

/-- ITS FALSE NEIGHBOUR: 'it returns false'. Refute it at one input. -/
def fnExactStatesOfCycleWrong : ChangeSpec := { name := "fnExactStatesOfCycle", fn := fun _ => fun
  | [d1, d2] => { results := [.lit (.bool false)], args := [d1, d2] }
  | _ => none }
def FnExactStatesOfCycleWrongFalsely : Prop := fnExactStatesOfCycleRow.holds Tryz.pinned (OpenSpec.ofChange fnExactStatesOfCycleWrong)

/-- 'laws.FnExactScheduleFromBytes': WHATEVER THE INPUT: true; the input reads as it did. -/
def fnExactScheduleFromBytesSpec : ChangeSpec := { name := "fnExactScheduleFromBytes", fn := fun _ => fun
  | [d] => { results := [.lit (.bool true)], args := [d] }
  | _ => none }
def fnExactScheduleFromBytesRow : OpenClaim := { program := "ythdeoagoehkcfaagreatdoor", sum := "95d4fcd3f87b64e0c8192d409be824ea3c96ebbb0b8e1588c999e069a0484706", func := "loop.example/g00833/laws.FnExactScheduleFromBytes", spec := "fnExactScheduleFromBytes", inPlace := ["internal/bytealg.IndexByteString", "internal/bytealg.IndexString"], unfollowed := true, recurses := true, named := ["unicode/utf8.first", "unicode/utf8.acceptRanges", "internal/bytealg.MaxLen"], apart := false, laid := [("unicode/utf8.acceptRanges", laid_unicode_utf8_acceptRanges), ("unicode/utf8.first", laid_unicode_utf8_first)] }
def FnExactScheduleFromBytesSaid : Prop := fnExactScheduleFromBytesRow.holds Tryz.pinned (OpenSpec.ofChange fnExactScheduleFromBytesSpec)

/-- ITS FALSE NEIGHBOUR: 'it returns false'. Refute it at one input. -/
def fnExactScheduleFromBytesWrong : ChangeSpec := { name := "fnExactScheduleFromBytes", fn := fun _ => fun
  | [d] => { results := [.lit (.bool false)], args := [d] }
  | _ => none }
def FnExactScheduleFromBytesWrongFalsely : Prop := fnExactScheduleFromBytesRow.holds Tryz.pinned (OpenSpec.ofChange fnExactScheduleFromBytesWrong)

/-- 'laws.FnExactEncodeImage': WHATEVER THE INPUT: true; the input reads as it did. -/
def fnExactEncodeImageSpec : ChangeSpec := { name := "fnExactEncodeImage", fn := fun _ => fun
  | [d] => { results := [.lit (.bool true)], args := [d] }
  | _ => none }
def fnExactEncodeImageRow : OpenClaim := { program := "ythdeoagoehkcfaagreatdoor", sum := "95d4fcd3f87b64e0c8192d409be824ea3c96ebbb0b8e1588c999e069a0484706", func := "loop.example/g00833/laws.FnExactEncodeImage", spec := "fnExactEncodeImage", inPlace := ["internal/bytealg.IndexByteString", "internal/bytealg.IndexString"], unfollowed := true, recurses := true, named := ["unicode/utf8.first", "unicode/utf8.acceptRanges", "internal/bytealg.MaxLen"], apart := false, laid := [("unicode/utf8.acceptRanges", laid_unicode_utf8_acceptRanges), ("unicode/utf8.first", laid_unicode_utf8_first)] }
def FnExactEncodeImageSaid : Prop := fnExactEncodeImageRow.holds Tryz.pinned (OpenSpec.ofChange fnExactEncodeImageSpec)

/-- ITS FALSE NEIGHBOUR: 'it returns false'. Refute it at one input. -/
def fnExactEncodeImageWrong : ChangeSpec := { name := "fnExactEncodeImage", fn := fun _ => fun
  | [d] => { results := [.lit (.bool false)], args := [d] }
  | _ => none }
def FnExactEncodeImageWrongFalsely : Prop := fnExactEncodeImageRow.holds Tryz.pinned (OpenSpec.ofChange fnExactEncodeImageWrong)

/- THE SECOND FORM. 'bulk': how many values and letters a reading holds, each counted each time it is reached (what is shared counts as often as it is met; a slice's spare places count too). A statement '..UptoSaid' is the law's where the arguments, and the package variables that the reading takes, are together of bulk at most 1048576: NARROWER than '..Said'. Prove '..Said' where nothing that the law and all that it calls make is longer than what came in: it says more and counts as full. Else prove '..UptoSaid'. A law counts once. -/
mutual
def uptoBulk {H : Type} : DataW H → Nat
  | .lit (.string bytes) => bytes.length + 1
  | .lit _ => 1
  | .nil => 1
  | .ptr d => uptoBulk d + 1
  | .slice elems spare => uptoBulkAll elems + uptoBulkAll spare + 1
  | .agg parts => uptoBulkAll parts + 1
  | .iface _ d => uptoBulk d + 1
  | .map entries => uptoBulkEntries entries + 1
  | .held _ => 1
def uptoBulkAll {H : Type} : List (DataW H) → Nat
  | [] => 0
  | d :: r => uptoBulk d + uptoBulkAll r
def uptoBulkEntries {H : Type} : List (Lit × DataW H) → Nat
  | [] => 0
  | x :: r => uptoBulkEntry x + uptoBulkEntries r
def uptoBulkEntry {H : Type} : Lit × DataW H → Nat
  | (.string bytes, d) => bytes.length + uptoBulk d + 1
  | (_, d) => uptoBulk d + 1
 end
def uptoSmall : (H : Type) → List (DataW H) → Bool := fun _ ds => decide (uptoBulkAll ds ≤ 1048576)
def OpenSpec.upto (s : _root_.Go.ChangeSpec) : _root_.Go.OpenSpec := { _root_.Go.OpenSpec.ofChange s with cond := some uptoSmall }

/-- 'laws.FnExactDecodeImage', WHERE WHAT IT READS IS OF BULK AT MOST 1048576: true; the input reads as it did. -/
def fnExactDecodeImageUptoRow : OpenClaim := { program := "ythdeoagoehkcfaagreatdoor", sum := "95d4fcd3f87b64e0c8192d409be824ea3c96ebbb0b8e1588c999e069a0484706", func := "loop.example/g00833/laws.FnExactDecodeImage", spec := "fnExactDecodeImage", inPlace := ["internal/bytealg.IndexByteString", "internal/bytealg.IndexString"], unfollowed := true, recurses := true, named := ["unicode/utf8.first", "unicode/utf8.acceptRanges", "internal/bytealg.MaxLen"], apart := false, laid := [("unicode/utf8.acceptRanges", laid_unicode_utf8_acceptRanges), ("unicode/utf8.first", laid_unicode_utf8_first)], narrowed := true }
def FnExactDecodeImageUptoSaid : Prop := fnExactDecodeImageUptoRow.holds Tryz.pinned (OpenSpec.upto fnExactDecodeImageSpec)

/-- 'laws.FnExactSendTimes', WHERE WHAT IT READS IS OF BULK AT MOST 1048576: true; the input reads as it did. -/
def fnExactSendTimesUptoRow : OpenClaim := { program := "ythdeoagoehkcfaagreatdoor", sum := "95d4fcd3f87b64e0c8192d409be824ea3c96ebbb0b8e1588c999e069a0484706", func := "loop.example/g00833/laws.FnExactSendTimes", spec := "fnExactSendTimes", inPlace := ["internal/bytealg.IndexByteString", "internal/bytealg.IndexString"], unfollowed := true, recurses := true, named := ["unicode/utf8.first", "unicode/utf8.acceptRanges", "internal/bytealg.MaxLen"], apart := false, laid := [("unicode/utf8.acceptRanges", laid_unicode_utf8_acceptRanges), ("unicode/utf8.first", laid_unicode_utf8_first)], narrowed := true }
def FnExactSendTimesUptoSaid : Prop := fnExactSendTimesUptoRow.holds Tryz.pinned (OpenSpec.upto fnExactSendTimesSpec)

/-- 'laws.FnExactScheduleBytes', WHERE WHAT IT READS IS OF BULK AT MOST 1048576: true; the input reads as it did. -/
def fnExactScheduleBytesUptoRow : OpenClaim := { program := "ythdeoagoehkcfaagreatdoor", sum := "95d4fcd3f87b64e0c8192d409be824ea3c96ebbb0b8e1588c999e069a0484706", func := "loop.example/g00833/laws.FnExactScheduleBytes", spec := "fnExactScheduleBytes", inPlace := ["internal/bytealg.IndexByteString", "internal/bytealg.IndexString"], unfollowed := true, recurses := true, named := ["unicode/utf8.first", "unicode/utf8.acceptRanges", "internal/bytealg.MaxLen"], apart := false, laid := [("unicode/utf8.acceptRanges", laid_unicode_utf8_acceptRanges), ("unicode/utf8.first", laid_unicode_utf8_first)], narrowed := true }
def FnExactScheduleBytesUptoSaid : Prop := fnExactScheduleBytesUptoRow.holds Tryz.pinned (OpenSpec.upto fnExactScheduleBytesSpec)

/-- 'laws.FnExactWithId', WHERE WHAT IT READS IS OF BULK AT MOST 1048576: true; the input reads as it did. -/
def fnExactWithIdUptoRow : OpenClaim := { program := "ythdeoagoehkcfaagreatdoor", sum := "95d4fcd3f87b64e0c8192d409be824ea3c96ebbb0b8e1588c999e069a0484706", func := "loop.example/g00833/laws.FnExactWithId", spec := "fnExactWithId", inPlace := ["internal/bytealg.IndexByteString", "internal/bytealg.IndexString"], unfollowed := true, recurses := true, named := ["unicode/utf8.first", "unicode/utf8.acceptRanges", "internal/bytealg.MaxLen"], apart := false, laid := [("unicode/utf8.acceptRanges", laid_unicode_utf8_acceptRanges), ("unicode/utf8.first", laid_unicode_utf8_first)], narrowed := true }
def FnExactWithIdUptoSaid : Prop := fnExactWithIdUptoRow.holds Tryz.pinned (OpenSpec.upto fnExactWithIdSpec)

/-- 'laws.FnExactStatesOfCycle', WHERE WHAT IT READS IS OF BULK AT MOST 1048576: true; the input reads as it did. -/
def fnExactStatesOfCycleUptoRow : OpenClaim := { program := "ythdeoagoehkcfaagreatdoor", sum := "95d4fcd3f87b64e0c8192d409be824ea3c96ebbb0b8e1588c999e069a0484706", func := "loop.example/g00833/laws.FnExactStatesOfCycle", spec := "fnExactStatesOfCycle", inPlace := ["internal/bytealg.IndexByteString", "internal/bytealg.IndexString"], unfollowed := true, recurses := true, named := ["unicode/utf8.first", "unicode/utf8.acceptRanges", "internal/bytealg.MaxLen"], apart := false, laid := [("unicode/utf8.acceptRanges", laid_unicode_utf8_acceptRanges), ("unicode/utf8.first", laid_unicode_utf8_first)], narrowed := true }
def FnExactStatesOfCycleUptoSaid : Prop := fnExactStatesOfCycleUptoRow.holds Tryz.pinned (OpenSpec.upto fnExactStatesOfCycleSpec)

/-- 'laws.FnExactScheduleFromBytes', WHERE WHAT IT READS IS OF BULK AT MOST 1048576: true; the input reads as it did. -/
def fnExactScheduleFromBytesUptoRow : OpenClaim := { program := "ythdeoagoehkcfaagreatdoor", sum := "95d4fcd3f87b64e0c8192d409be824ea3c96ebbb0b8e1588c999e069a0484706", func := "loop.example/g00833/laws.FnExactScheduleFromBytes", spec := "fnExactScheduleFromBytes", inPlace := ["internal/bytealg.IndexByteString", "internal/bytealg.IndexString"], unfollowed := true, recurses := true, named := ["unicode/utf8.first", "unicode/utf8.acceptRanges", "internal/bytealg.MaxLen"], apart := false, laid := [("unicode/utf8.acceptRanges", laid_unicode_utf8_acceptRanges), ("unicode/utf8.first", laid_unicode_utf8_first)], narrowed := true }
def FnExactScheduleFromBytesUptoSaid : Prop := fnExactScheduleFromBytesUptoRow.holds Tryz.pinned (OpenSpec.upto fnExactScheduleFromBytesSpec)

/-- 'laws.FnExactEncodeImage', WHERE WHAT IT READS IS OF BULK AT MOST 1048576: true; the input reads as it did. -/
def fnExactEncodeImageUptoRow : OpenClaim := { program := "ythdeoagoehkcfaagreatdoor", sum := "95d4fcd3f87b64e0c8192d409be824ea3c96ebbb0b8e1588c999e069a0484706", func := "loop.example/g00833/laws.FnExactEncodeImage", spec := "fnExactEncodeImage", inPlace := ["internal/bytealg.IndexByteString", "internal/bytealg.IndexString"], unfollowed := true, recurses := true, named := ["unicode/utf8.first", "unicode/utf8.acceptRanges", "internal/bytealg.MaxLen"], apart := false, laid := [("unicode/utf8.acceptRanges", laid_unicode_utf8_acceptRanges), ("unicode/utf8.first", laid_unicode_utf8_first)], narrowed := true }
def FnExactEncodeImageUptoSaid : Prop := fnExactEncodeImageUptoRow.holds Tryz.pinned (OpenSpec.upto fnExactEncodeImageSpec)

end Rows
end Go.Proofs.YthdeoagoehkcfaaGreatDoor
