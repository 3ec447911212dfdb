/-
  NARROWER THAN 'FOR EVERY INPUT', by the rows' own cells (each row's printed sentence says how): FnSchedules: laid · FnExactDecodeImage: laid · FnDecoded: laid · FnSenders: laid · FnSlotAt: laid · FnSlotTimes: laid · FnExactScheduleFromBytes: laid · FnExactEncodeImage: laid.
  DERIVED. THE GIVEN ROWS OF THIS SEAT. 8 by the template 'for every input the law returns true; each argument reads behind the call as it read before'; 0 by the template 'total and deterministic' (their statements: YtdoibplhbdkapaaGreatDoorTotals.lean).
  GIVEN WITH THE SEED: the statements are not yours to turn. If you find one false, say at which input.
  Laid BY PROGRAM, IN A SANDBOX (cutbox-rows.mjs): the forced cells as the released guide's own fill.sh prints them over the translation 09a85d4ae288d501… (all of the seat's roots in one cut). By AI agents, Wed Nov 11 2026. No macro, syntax, notation, axiom, sorry.
-/
import Derived.Test.YtdoibplhbdkapaaGreatDoorChecked
import GoSem.PinnedTables
import GoSem.Claim
import GoSem.ClaimJoined
import GoSem.ClaimMapViews
import Derived.JoinedTies
import Derived.KernelRfl
namespace Go.Proofs.YtdoibplhbdkapaaGreatDoor
/- THE CELL 'sum', in the pinned program and in every row, IS THE sha256 OF THE DUMP (.gsa) THAT YtdoibplhbdkapaaGreatDoorProg.lean LOADS. Nothing in Lean hashes anything: it is a label: what it is worth is what the hold of that sum in a sandbox is worth. -/
noncomputable def Tryz.pinned : Pinned := { name := "ytdoibplhbdkapaagreatdoor", sum := "09a85d4ae288d501acde4f34cf018753d1ef0b96a85bb86952ee1251ad60f3c4", checked := Tryz.checked }
namespace Rows
def none {H : Type} : Left H := { results := [], args := [] }

/- WHAT THE LISTED PACKAGE-LEVEL VARIABLES READ AS WHEN THE CALL BEGINS. Each datum BY PROGRAM (the guide's laid-datum.mjs) off the statement by which the dump's own 'gosem.cut.vars' lays the variable. In a bare row this is a premise. The card (YtdoibplhbdkapaaGreatDoorCards.lean) ties it to the program's text. -/
def laid_unicode_utf8_acceptRanges {H : Type} : DataW H := .agg [.agg [.lit (.int .u8 128), .lit (.int .u8 191)], .agg [.lit (.int .u8 160), .lit (.int .u8 191)], .agg [.lit (.int .u8 128), .lit (.int .u8 159)], .agg [.lit (.int .u8 144), .lit (.int .u8 191)], .agg [.lit (.int .u8 128), .lit (.int .u8 143)], .agg [.lit (.int .u8 0), .lit (.int .u8 0)], .agg [.lit (.int .u8 0), .lit (.int .u8 0)], .agg [.lit (.int .u8 0), .lit (.int .u8 0)], .agg [.lit (.int .u8 0), .lit (.int .u8 0)], .agg [.lit (.int .u8 0), .lit (.int .u8 0)], .agg [.lit (.int .u8 0), .lit (.int .u8 0)], .agg [.lit (.int .u8 0), .lit (.int .u8 0)], .agg [.lit (.int .u8 0), .lit (.int .u8 0)], .agg [.lit (.int .u8 0), .lit (.int .u8 0)], .agg [.lit (.int .u8 0), .lit (.int .u8 0)], .agg [.lit (.int .u8 0), .lit (.int .u8 0)]]
/-- One of Go's own tables, pinned by name: the form's constant. -/
def laid_unicode_utf8_first : DataW Unit := Go.Pinned.utf8First

/-- 'laws.FnSchedules': WHATEVER THE INPUT: true; the input reads as it did. -/
def fnSchedulesSpec : ChangeSpec := { name := "fnSchedules", fn := fun _ => fun
  | [d] => { results := [.lit (.bool true)], args := [d] }
  | _ => none }
def fnSchedulesRow : OpenClaim := { program := "ytdoibplhbdkapaagreatdoor", sum := "09a85d4ae288d501acde4f34cf018753d1ef0b96a85bb86952ee1251ad60f3c4", func := "loop.example/g00833/laws.FnSchedules", spec := "fnSchedules", inPlace := ["internal/bytealg.IndexByteString", "internal/bytealg.IndexString"], unfollowed := true, recurses := true, named := ["unicode/utf8.first", "unicode/utf8.acceptRanges", "internal/bytealg.MaxLen"], apart := false, laid := [("unicode/utf8.acceptRanges", laid_unicode_utf8_acceptRanges), ("unicode/utf8.first", laid_unicode_utf8_first)] }
def FnSchedulesSaid : Prop := fnSchedulesRow.holds Tryz.pinned (OpenSpec.ofChange fnSchedulesSpec)

/-- ITS FALSE NEIGHBOUR: 'it returns false'. Refute it at one input. -/
def fnSchedulesWrong : ChangeSpec := { name := "fnSchedules", fn := fun _ => fun
  | [d] => { results := [.lit (.bool false)], args := [d] }
  | _ => none }
def FnSchedulesWrongFalsely : Prop := fnSchedulesRow.holds Tryz.pinned (OpenSpec.ofChange fnSchedulesWrong)

/-- 'laws.FnExactDecodeImage': WHATEVER THE INPUT: true; the input reads as it did. -/
def fnExactDecodeImageSpec : ChangeSpec := { name := "fnExactDecodeImage", fn := fun _ => fun
  | [d] => { results := [.lit (.bool true)], args := [d] }
  | _ => none }
def fnExactDecodeImageRow : OpenClaim := { program := "ytdoibplhbdkapaagreatdoor", sum := "09a85d4ae288d501acde4f34cf018753d1ef0b96a85bb86952ee1251ad60f3c4", func := "loop.example/g00833/laws.FnExactDecodeImage", spec := "fnExactDecodeImage", inPlace := ["internal/bytealg.IndexByteString", "internal/bytealg.IndexString"], unfollowed := true, recurses := true, named := ["unicode/utf8.first", "unicode/utf8.acceptRanges", "internal/bytealg.MaxLen"], apart := false, laid := [("unicode/utf8.acceptRanges", laid_unicode_utf8_acceptRanges), ("unicode/utf8.first", laid_unicode_utf8_first)] }
def FnExactDecodeImageSaid : Prop := fnExactDecodeImageRow.holds Tryz.pinned (OpenSpec.ofChange fnExactDecodeImageSpec)

/-- ITS FALSE NEIGHBOUR: 'it returns false'. Refute it at one input. -/
def fnExactDecodeImageWrong : ChangeSpec := { name := "fnExactDecodeImage", fn := fun _ => fun
  | [d] => { results := [.lit (.bool false)], args := [d] }
  | _ => none }
def FnExactDecodeImageWrongFalsely : Prop := fnExactDecodeImageRow.holds Tryz.pinned (OpenSpec.ofChange fnExactDecodeImageWrong)

/-- 'laws.FnDecoded': WHATEVER THE INPUT: true; the input reads as it did. -/
def fnDecodedSpec : ChangeSpec := { name := "fnDecoded", fn := fun _ => fun
  | [d] => { results := [.lit (.bool true)], args := [d] }
  | _ => none }
def fnDecodedRow : OpenClaim := { program := "ytdoibplhbdkapaagreatdoor", sum := "09a85d4ae288d501acde4f34cf018753d1ef0b96a85bb86952ee1251ad60f3c4", func := "loop.example/g00833/laws.FnDecoded", spec := "fnDecoded", inPlace := ["internal/bytealg.IndexByteString", "internal/bytealg.IndexString"], unfollowed := true, recurses := true, named := ["unicode/utf8.first", "unicode/utf8.acceptRanges", "internal/bytealg.MaxLen"], apart := false, laid := [("unicode/utf8.acceptRanges", laid_unicode_utf8_acceptRanges), ("unicode/utf8.first", laid_unicode_utf8_first)] }
def FnDecodedSaid : Prop := fnDecodedRow.holds Tryz.pinned (OpenSpec.ofChange fnDecodedSpec)

/-- ITS FALSE NEIGHBOUR: 'it returns false'. Refute it at one input. -/
def fnDecodedWrong : ChangeSpec := { name := "fnDecoded", fn := fun _ => fun
  | [d] => { results := [.lit (.bool false)], args := [d] }
  | _ => none }
def FnDecodedWrongFalsely : Prop := fnDecodedRow.holds Tryz.pinned (OpenSpec.ofChange fnDecodedWrong)

/-- 'laws.FnSenders': WHATEVER THE INPUT: true; the input reads as it did. -/
def fnSendersSpec : ChangeSpec := { name := "fnSenders", fn := fun _ => fun
  | [d] => { results := [.lit (.bool true)], args := [d] }
  | _ => none }
def fnSendersRow : OpenClaim := { program := "ytdoibplhbdkapaagreatdoor", sum := "09a85d4ae288d501acde4f34cf018753d1ef0b96a85bb86952ee1251ad60f3c4", func := "loop.example/g00833/laws.FnSenders", spec := "fnSenders", inPlace := ["internal/bytealg.IndexByteString", "internal/bytealg.IndexString"], unfollowed := true, recurses := true, named := ["unicode/utf8.first", "unicode/utf8.acceptRanges", "internal/bytealg.MaxLen"], apart := false, laid := [("unicode/utf8.acceptRanges", laid_unicode_utf8_acceptRanges), ("unicode/utf8.first", laid_unicode_utf8_first)] }
def FnSendersSaid : Prop := fnSendersRow.holds Tryz.pinned (OpenSpec.ofChange fnSendersSpec)

/-- ITS FALSE NEIGHBOUR: 'it returns false'. Refute it at one input. -/
def fnSendersWrong : ChangeSpec := { name := "fnSenders", fn := fun _ => fun
  | [d] => { results := [.lit (.bool false)], args := [d] }
  | _ => none }
def FnSendersWrongFalsely : Prop := fnSendersRow.holds Tryz.pinned (OpenSpec.ofChange fnSendersWrong)

/-- 'laws.FnSlotAt': WHATEVER THE INPUT: true; the input reads as it did. -/
def fnSlotAtSpec : ChangeSpec := { name := "fnSlotAt", fn := fun _ => fun
  | [d] => { results := [.lit (.bool true)], args := [d] }
  | _ => none }
def fnSlotAtRow : OpenClaim := { program := "ytdoibplhbdkapaagreatdoor", sum := "09a85d4ae288d501acde4f34cf018753d1ef0b96a85bb86952ee1251ad60f3c4", func := "loop.example/g00833/laws.FnSlotAt", spec := "fnSlotAt", inPlace := ["internal/bytealg.IndexByteString", "internal/bytealg.IndexString"], unfollowed := true, recurses := true, named := ["unicode/utf8.first", "unicode/utf8.acceptRanges", "internal/bytealg.MaxLen"], apart := false, laid := [("unicode/utf8.acceptRanges", laid_unicode_utf8_acceptRanges), ("unicode/utf8.first", laid_unicode_utf8_first)] }
def FnSlotAtSaid : Prop := fnSlotAtRow.holds Tryz.pinned (OpenSpec.ofChange fnSlotAtSpec)

/-- ITS FALSE NEIGHBOUR: 'it returns false'. Refute it at one input. -/
def fnSlotAtWrong : ChangeSpec := { name := "fnSlotAt", fn := fun _ => fun
  | [d] => { results := [.lit (.bool false)], args := [d] }
  | _ => none }
def FnSlotAtWrongFalsely : Prop := fnSlotAtRow.holds Tryz.pinned (OpenSpec.ofChange fnSlotAtWrong)

/-- 'laws.FnSlotTimes': WHATEVER THE INPUT: true; the input reads as it did. -/
def fnSlotTimesSpec : ChangeSpec := { name := "fnSlotTimes", fn := fun _ => fun
  | [d] => { results := [.lit (.bool true)], args := [d] }
  | _ => none }
def fnSlotTimesRow : OpenClaim := { program := "ytdoibplhbdkapaagreatdoor", sum := "09a85d4ae288d501acde4f34cf018753d1ef0b96a85bb86952ee1251ad60f3c4", func := "loop.example/g00833/laws.FnSlotTimes", spec := "fnSlotTimes", inPlace := ["internal/bytealg.IndexByteString", "internal/bytealg.IndexString"], unfollowed := true, recurses := true, named := ["unicode/utf8.first", "unicode/utf8.acceptRanges", "internal/bytealg.MaxLen"], apart := false, laid := [("unicode/utf8.acceptRanges", laid_unicode_utf8_acceptRanges), ("unicode/utf8.first", laid_unicode_utf8_first)] }
def FnSlotTimesSaid : Prop := fnSlotTimesRow.holds Tryz.pinned (OpenSpec.ofChange fnSlotTimesSpec)

/-- ITS FALSE NEIGHBOUR: 'it returns false'. Refute it at one input. -/
def fnSlotTimesWrong : ChangeSpec := { name := "fnSlotTimes", fn := fun _ => fun
  | [d] => { results := [.lit (.bool false)], args := [d] }
  | _ => none }
def FnSlotTimesWrongFalsely : Prop := fnSlotTimesRow.holds Tryz.pinned (OpenSpec.ofChange fnSlotTimesWrong)

/-- 'laws.FnExactScheduleFromBytes': WHATEVER THE INPUT: true; the input reads as it did. -/
def fnExactScheduleFromBytesSpec : ChangeSpec := { name := "fnExactScheduleFromBytes", fn := fun _ => fun
  | [d] => { results := [.lit (.bool true)], args := [d] }
  | _ => none }
def fnExactScheduleFromBytesRow : OpenClaim := { program := "ytdoibplhbdkapaagreatdoor", sum := "09a85d4ae288d501acde4f34cf018753d1ef0b96a85bb86952ee1251ad60f3c4", func := "loop.example/g00833/laws.FnExactScheduleFromBytes", spec := "fnExactScheduleFromBytes", inPlace := ["internal/bytealg.IndexByteString", "internal/bytealg.IndexString"], unfollowed := true, recurses := true, named := ["unicode/utf8.first", "unicode/utf8.acceptRanges", "internal/bytealg.MaxLen"], apart := false, laid := [("unicode/utf8.acceptRanges", laid_unicode_utf8_acceptRanges), ("unicode/utf8.first", laid_unicode_utf8_first)] }
def FnExactScheduleFromBytesSaid : Prop := fnExactScheduleFromBytesRow.holds Tryz.pinned (OpenSpec.ofChange fnExactScheduleFromBytesSpec)

/-- ITS FALSE NEIGHBOUR: 'it returns false'. Refute it at one input. -/
def fnExactScheduleFromBytesWrong : ChangeSpec := { name := "fnExactScheduleFromBytes", fn := fun _ => fun
  | [d] => { results := [.lit (.bool false)], args := [d] }
  | _ => none }
def FnExactScheduleFromBytesWrongFalsely : Prop := fnExactScheduleFromBytesRow.holds Tryz.pinned (OpenSpec.ofChange fnExactScheduleFromBytesWrong)

/-- 'laws.FnExactEncodeImage': WHATEVER THE INPUT: true; the input reads as it did. -/
def fnExactEncodeImageSpec : ChangeSpec := { name := "fnExactEncodeImage", fn := fun _ => fun
  | [d] => { results := [.lit (.bool true)], args := [d] }
  | _ => none }
def fnExactEncodeImageRow : OpenClaim := { program := "ytdoibplhbdkapaagreatdoor", sum := "09a85d4ae288d501acde4f34cf018753d1ef0b96a85bb86952ee1251ad60f3c4", func := "loop.example/g00833/laws.FnExactEncodeImage", spec := "fnExactEncodeImage", inPlace := ["internal/bytealg.IndexByteString", "internal/bytealg.IndexString"], unfollowed := true, recurses := true, named := ["unicode/utf8.first", "unicode/utf8.acceptRanges", "internal/bytealg.MaxLen"], apart := false, laid := [("unicode/utf8.acceptRanges", laid_unicode_utf8_acceptRanges), ("unicode/utf8.first", laid_unicode_utf8_first)] }
def FnExactEncodeImageSaid : Prop := fnExactEncodeImageRow.holds Tryz.pinned (OpenSpec.ofChange fnExactEncodeImageSpec)

/-- ITS FALSE NEIGHBOUR: 'it returns false'. Refute it at one input. -/
def fnExactEncodeImageWrong : ChangeSpec := { name := "fnExactEncodeImage", fn := fun _ => fun
  | [d] => { results := [.lit (.bool false)], args := [d] }
  | _ => none }
def FnExactEncodeImageWrongFalsely : Prop := fnExactEncodeImageRow.holds Tryz.pinned (OpenSpec.ofChange fnExactEncodeImageWrong)

/- THE SECOND FORM. 'bulk': how many values and letters a reading holds, each counted each time it is reached (what is shared counts as often as it is met; a slice's spare places count too). A statement '..UptoSaid' is the law's where the arguments, and the package variables that the reading takes, are together of bulk at most 1048576: NARROWER than '..Said'. Prove '..Said' where nothing that the law and all that it calls make is longer than what came in: it says more and counts as full. Else prove '..UptoSaid'. A law counts once. -/
mutual
def uptoBulk {H : Type} : DataW H → Nat
  | .lit (.string bytes) => bytes.length + 1
  | .lit _ => 1
  | .nil => 1
  | .ptr d => uptoBulk d + 1
  | .slice elems spare => uptoBulkAll elems + uptoBulkAll spare + 1
  | .agg parts => uptoBulkAll parts + 1
  | .iface _ d => uptoBulk d + 1
  | .map entries => uptoBulkEntries entries + 1
  | .held _ => 1
def uptoBulkAll {H : Type} : List (DataW H) → Nat
  | [] => 0
  | d :: r => uptoBulk d + uptoBulkAll r
def uptoBulkEntries {H : Type} : List (Lit × DataW H) → Nat
  | [] => 0
  | x :: r => uptoBulkEntry x + uptoBulkEntries r
def uptoBulkEntry {H : Type} : Lit × DataW H → Nat
  | (.string bytes, d) => bytes.length + uptoBulk d + 1
  | (_, d) => uptoBulk d + 1
 end
def uptoSmall : (H : Type) → List (DataW H) → Bool := fun _ ds => decide (uptoBulkAll ds ≤ 1048576)
def OpenSpec.upto (s : _root_.Go.ChangeSpec) : _root_.Go.OpenSpec := { _root_.Go.OpenSpec.ofChange s with cond := some uptoSmall }

/-- 'laws.FnSchedules', WHERE WHAT IT READS IS OF BULK AT MOST 1048576: true; the input reads as it did. -/
def fnSchedulesUptoRow : OpenClaim := { program := "ytdoibplhbdkapaagreatdoor", sum := "09a85d4ae288d501acde4f34cf018753d1ef0b96a85bb86952ee1251ad60f3c4", func := "loop.example/g00833/laws.FnSchedules", spec := "fnSchedules", inPlace := ["internal/bytealg.IndexByteString", "internal/bytealg.IndexString"], unfollowed := true, recurses := true, named := ["unicode/utf8.first", "unicode/utf8.acceptRanges", "internal/bytealg.MaxLen"], apart := false, laid := [("unicode/utf8.acceptRanges", laid_unicode_utf8_acceptRanges), ("unicode/utf8.first", laid_unicode_utf8_first)], narrowed := true }
def FnSchedulesUptoSaid : Prop := fnSchedulesUptoRow.holds Tryz.pinned (OpenSpec.upto fnSchedulesSpec)

/-- 'laws.FnExactDecodeImage', WHERE WHAT IT READS IS OF BULK AT MOST 1048576: true; the input reads as it did. -/
def fnExactDecodeImageUptoRow : OpenClaim := { program := "ytdoibplhbdkapaagreatdoor", sum := "09a85d4ae288d501acde4f34cf018753d1ef0b96a85bb86952ee1251ad60f3c4", func := "loop.example/g00833/laws.FnExactDecodeImage", spec := "fnExactDecodeImage", inPlace := ["internal/bytealg.IndexByteString", "internal/bytealg.IndexString"], unfollowed := true, recurses := true, named := ["unicode/utf8.first", "unicode/utf8.acceptRanges", "internal/bytealg.MaxLen"], apart := false, laid := [("unicode/utf8.acceptRanges", laid_unicode_utf8_acceptRanges), ("unicode/utf8.first", laid_unicode_utf8_first)], narrowed := true }
def FnExactDecodeImageUptoSaid : Prop := fnExactDecodeImageUptoRow.holds Tryz.pinned (OpenSpec.upto fnExactDecodeImageSpec)

/-- 'laws.FnDecoded', WHERE WHAT IT READS IS OF BULK AT MOST 1048576: true; the input reads as it did. -/
def fnDecodedUptoRow : OpenClaim := { program := "ytdoibplhbdkapaagreatdoor", sum := "09a85d4ae288d501acde4f34cf018753d1ef0b96a85bb86952ee1251ad60f3c4", func := "loop.example/g00833/laws.FnDecoded", spec := "fnDecoded", inPlace := ["internal/bytealg.IndexByteString", "internal/bytealg.IndexString"], unfollowed := true, recurses := true, named := ["unicode/utf8.first", "unicode/utf8.acceptRanges", "internal/bytealg.MaxLen"], apart := false, laid := [("unicode/utf8.acceptRanges", laid_unicode_utf8_acceptRanges), ("unicode/utf8.first", laid_unicode_utf8_first)], narrowed := true }
def FnDecodedUptoSaid : Prop := fnDecodedUptoRow.holds Tryz.pinned (OpenSpec.upto fnDecodedSpec)

/-- 'laws.FnSenders', WHERE WHAT IT READS IS OF BULK AT MOST 1048576: true; the input reads as it did. -/
def fnSendersUptoRow : OpenClaim := { program := "ytdoibplhbdkapaagreatdoor", sum := "09a85d4ae288d501acde4f34cf018753d1ef0b96a85bb86952ee1251ad60f3c4", func := "loop.example/g00833/laws.FnSenders", spec := "fnSenders", inPlace := ["internal/bytealg.IndexByteString", "internal/bytealg.IndexString"], unfollowed := true, recurses := true, named := ["unicode/utf8.first", "unicode/utf8.acceptRanges", "internal/bytealg.MaxLen"], apart := false, laid := [("unicode/utf8.acceptRanges", laid_unicode_utf8_acceptRanges), ("unicode/utf8.first", laid_unicode_utf8_first)], narrowed := true }
def FnSendersUptoSaid : Prop := fnSendersUptoRow.holds Tryz.pinned (OpenSpec.upto fnSendersSpec)

/-- 'laws.FnSlotAt', WHERE WHAT IT READS IS OF BULK AT MOST 1048576: true; the input reads as it did. -/
def fnSlotAtUptoRow : OpenClaim := { program := "ytdoibplhbdkapaagreatdoor", sum := "09a85d4ae288d501acde4f34cf018753d1ef0b96a85bb86952ee1251ad60f3c4", func := "loop.example/g00833/laws.FnSlotAt", spec := "fnSlotAt", inPlace := ["internal/bytealg.IndexByteString", "internal/bytealg.IndexString"], unfollowed := true, recurses := true, named := ["unicode/utf8.first", "unicode/utf8.acceptRanges", "internal/bytealg.MaxLen"], apart := false, laid := [("unicode/utf8.acceptRanges", laid_unicode_utf8_acceptRanges), ("unicode/utf8.first", laid_unicode_utf8_first)], narrowed := true }
def FnSlotAtUptoSaid : Prop := fnSlotAtUptoRow.holds Tryz.pinned (OpenSpec.upto fnSlotAtSpec)

/-- 'laws.FnSlotTimes', WHERE WHAT IT READS IS OF BULK AT MOST 1048576: true; the input reads as it did. -/
def fnSlotTimesUptoRow : OpenClaim := { program := "ytdoibplhbdkapaagreatdoor", sum := "09a85d4ae288d501acde4f34cf018753d1ef0b96a85bb86952ee1251ad60f3c4", func := "loop.example/g00833/laws.FnSlotTimes", spec := "fnSlotTimes", inPlace := ["internal/bytealg.IndexByteString", "internal/bytealg.IndexString"], unfollowed := true, recurses := true, named := ["unicode/utf8.first", "unicode/utf8.acceptRanges", "internal/bytealg.MaxLen"], apart := false, laid := [("unicode/utf8.acceptRanges", laid_unicode_utf8_acceptRanges), ("unicode/utf8.first", laid_unicode_utf8_first)], narrowed := true }
def FnSlotTimesUptoSaid : Prop := fnSlotTimesUptoRow.holds Tryz.pinned (OpenSpec.upto fnSlotTimesSpec)

/-- 'laws.FnExactScheduleFromBytes', WHERE WHAT IT READS IS OF BULK AT MOST 1048576: true; the input reads as it did. -/
def fnExactScheduleFromBytesUptoRow : OpenClaim := { program := "ytdoibplhbdkapaagreatdoor", sum := "09a85d4ae288d501acde4f34cf018753d1ef0b96a85bb86952ee1251ad60f3c4", func := "loop.example/g00833/laws.FnExactScheduleFromBytes", spec := "fnExactScheduleFromBytes", inPlace := ["internal/bytealg.IndexByteString", "internal/bytealg.IndexString"], unfollowed := true, recurses := true, named := ["unicode/utf8.first", "unicode/utf8.acceptRanges", "internal/bytealg.MaxLen"], apart := false, laid := [("unicode/utf8.acceptRanges", laid_unicode_utf8_acceptRanges), ("unicode/utf8.first", laid_unicode_utf8_first)], narrowed := true }
def FnExactScheduleFromBytesUptoSaid : Prop := fnExactScheduleFromBytesUptoRow.holds Tryz.pinned (OpenSpec.upto fnExactScheduleFromBytesSpec)

/-- 'laws.FnExactEncodeImage', WHERE WHAT IT READS IS OF BULK AT MOST 1048576: true; the input reads as it did. -/
def fnExactEncodeImageUptoRow : OpenClaim := { program := "ytdoibplhbdkapaagreatdoor", sum := "09a85d4ae288d501acde4f34cf018753d1ef0b96a85bb86952ee1251ad60f3c4", func := "loop.example/g00833/laws.FnExactEncodeImage", spec := "fnExactEncodeImage", inPlace := ["internal/bytealg.IndexByteString", "internal/bytealg.IndexString"], unfollowed := true, recurses := true, named := ["unicode/utf8.first", "unicode/utf8.acceptRanges", "internal/bytealg.MaxLen"], apart := false, laid := [("unicode/utf8.acceptRanges", laid_unicode_utf8_acceptRanges), ("unicode/utf8.first", laid_unicode_utf8_first)], narrowed := true }
def FnExactEncodeImageUptoSaid : Prop := fnExactEncodeImageUptoRow.holds Tryz.pinned (OpenSpec.upto fnExactEncodeImageSpec)

end Rows
end Go.Proofs.YtdoibplhbdkapaaGreatDoor
