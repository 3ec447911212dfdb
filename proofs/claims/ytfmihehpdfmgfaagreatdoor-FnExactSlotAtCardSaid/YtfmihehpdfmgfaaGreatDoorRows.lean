/-
  NARROWER THAN 'FOR EVERY INPUT', by the rows' own cells (each row's printed sentence says how): FnExactFirstFault: laid · FnExactIsMedl: laid · FnExactSenderOf: laid · FnExactBelongsTo: laid · FnExactCycleTime: laid · FnExactRoundTime: laid · FnExactSlotAt: laid · FnExactDescriptorFor: laid · FnExactSlotStart: laid · FnExactNextStateOf: laid · FnExactChangeMode: laid.
  DERIVED. THE GIVEN ROWS OF THIS SEAT. 11 by the template 'for every input the law returns true; each argument reads behind the call as it read before'; 0 by the template 'total and deterministic' (their statements: YtfmihehpdfmgfaaGreatDoorTotals.lean).
  GIVEN WITH THE SEED: the statements are not yours to turn. If you find one false, say at which input.
  Laid BY PROGRAM, IN A SANDBOX (cutbox-rows.mjs): the forced cells as the released guide's own fill.sh prints them over the translation 4bef109bbf124015… (all of the seat's roots in one cut). By AI agents, Wed Nov 11 2026. No macro, syntax, notation, axiom, sorry.
-/
import Derived.Test.YtfmihehpdfmgfaaGreatDoorChecked
import GoSem.PinnedTables
import GoSem.Claim
import GoSem.ClaimJoined
import GoSem.ClaimMapViews
import Derived.JoinedTies
import Derived.KernelRfl
namespace Go.Proofs.YtfmihehpdfmgfaaGreatDoor
/- THE CELL 'sum', in the pinned program and in every row, IS THE sha256 OF THE DUMP (.gsa) THAT YtfmihehpdfmgfaaGreatDoorProg.lean LOADS. Nothing in Lean hashes anything: it is a label: what it is worth is what the hold of that sum in a sandbox is worth. -/
noncomputable def Tryz.pinned : Pinned := { name := "ytfmihehpdfmgfaagreatdoor", sum := "4bef109bbf124015e4a9ac3953339df2fbaaa9d8ff1f5d0aba8ed7c94e3f8fa0", checked := Tryz.checked }
namespace Rows
def none {H : Type} : Left H := { results := [], args := [] }

/- WHAT THE LISTED PACKAGE-LEVEL VARIABLES READ AS WHEN THE CALL BEGINS. Each datum BY PROGRAM (the guide's laid-datum.mjs) off the statement by which the dump's own 'gosem.cut.vars' lays the variable. In a bare row this is a premise. The card (YtfmihehpdfmgfaaGreatDoorCards.lean) ties it to the program's text. -/
def laid_unicode_utf8_acceptRanges {H : Type} : DataW H := .agg [.agg [.lit (.int .u8 128), .lit (.int .u8 191)], .agg [.lit (.int .u8 160), .lit (.int .u8 191)], .agg [.lit (.int .u8 128), .lit (.int .u8 159)], .agg [.lit (.int .u8 144), .lit (.int .u8 191)], .agg [.lit (.int .u8 128), .lit (.int .u8 143)], .agg [.lit (.int .u8 0), .lit (.int .u8 0)], .agg [.lit (.int .u8 0), .lit (.int .u8 0)], .agg [.lit (.int .u8 0), .lit (.int .u8 0)], .agg [.lit (.int .u8 0), .lit (.int .u8 0)], .agg [.lit (.int .u8 0), .lit (.int .u8 0)], .agg [.lit (.int .u8 0), .lit (.int .u8 0)], .agg [.lit (.int .u8 0), .lit (.int .u8 0)], .agg [.lit (.int .u8 0), .lit (.int .u8 0)], .agg [.lit (.int .u8 0), .lit (.int .u8 0)], .agg [.lit (.int .u8 0), .lit (.int .u8 0)], .agg [.lit (.int .u8 0), .lit (.int .u8 0)]]
/-- One of Go's own tables, pinned by name: the form's constant. -/
def laid_unicode_utf8_first : DataW Unit := Go.Pinned.utf8First

/-- 'laws.FnExactFirstFault': WHATEVER THE INPUT: true; the input reads as it did. -/
def fnExactFirstFaultSpec : ChangeSpec := { name := "fnExactFirstFault", fn := fun _ => fun
  | [d] => { results := [.lit (.bool true)], args := [d] }
  | _ => none }
def fnExactFirstFaultRow : OpenClaim := { program := "ytfmihehpdfmgfaagreatdoor", sum := "4bef109bbf124015e4a9ac3953339df2fbaaa9d8ff1f5d0aba8ed7c94e3f8fa0", func := "loop.example/g00833/laws.FnExactFirstFault", spec := "fnExactFirstFault", inPlace := ["internal/bytealg.IndexByteString", "internal/bytealg.IndexString"], unfollowed := true, recurses := true, named := ["unicode/utf8.first", "unicode/utf8.acceptRanges", "internal/bytealg.MaxLen"], apart := false, laid := [("unicode/utf8.acceptRanges", laid_unicode_utf8_acceptRanges), ("unicode/utf8.first", laid_unicode_utf8_first)] }
def FnExactFirstFaultSaid : Prop := fnExactFirstFaultRow.holds Tryz.pinned (OpenSpec.ofChange fnExactFirstFaultSpec)

/-- ITS FALSE NEIGHBOUR: 'it returns false'. Refute it at one input. -/
def fnExactFirstFaultWrong : ChangeSpec := { name := "fnExactFirstFault", fn := fun _ => fun
  | [d] => { results := [.lit (.bool false)], args := [d] }
  | _ => none }
def FnExactFirstFaultWrongFalsely : Prop := fnExactFirstFaultRow.holds Tryz.pinned (OpenSpec.ofChange fnExactFirstFaultWrong)

/-- 'laws.FnExactIsMedl': WHATEVER THE INPUT: true; the input reads as it did. -/
def fnExactIsMedlSpec : ChangeSpec := { name := "fnExactIsMedl", fn := fun _ => fun
  | [d] => { results := [.lit (.bool true)], args := [d] }
  | _ => none }
def fnExactIsMedlRow : OpenClaim := { program := "ytfmihehpdfmgfaagreatdoor", sum := "4bef109bbf124015e4a9ac3953339df2fbaaa9d8ff1f5d0aba8ed7c94e3f8fa0", func := "loop.example/g00833/laws.FnExactIsMedl", spec := "fnExactIsMedl", inPlace := ["internal/bytealg.IndexByteString", "internal/bytealg.IndexString"], unfollowed := true, recurses := true, named := ["unicode/utf8.first", "unicode/utf8.acceptRanges", "internal/bytealg.MaxLen"], apart := false, laid := [("unicode/utf8.acceptRanges", laid_unicode_utf8_acceptRanges), ("unicode/utf8.first", laid_unicode_utf8_first)] }
def FnExactIsMedlSaid : Prop := fnExactIsMedlRow.holds Tryz.pinned (OpenSpec.ofChange fnExactIsMedlSpec)

/-- ITS FALSE NEIGHBOUR: 'it returns false'. Refute it at one input. -/
def fnExactIsMedlWrong : ChangeSpec := { name := "fnExactIsMedl", fn := fun _ => fun
  | [d] => { results := [.lit (.bool false)], args := [d] }
  | _ => none }
def FnExactIsMedlWrongFalsely : Prop := fnExactIsMedlRow.holds Tryz.pinned (OpenSpec.ofChange fnExactIsMedlWrong)

/-- 'laws.FnExactSenderOf': WHATEVER THE INPUT: true; the input reads as it did. -/
def fnExactSenderOfSpec : ChangeSpec := { name := "fnExactSenderOf", fn := fun _ => fun
  | [d1, d2, d3, d4] => { results := [.lit (.bool true)], args := [d1, d2, d3, d4] }
  | _ => none }
def fnExactSenderOfRow : OpenClaim := { program := "ytfmihehpdfmgfaagreatdoor", sum := "4bef109bbf124015e4a9ac3953339df2fbaaa9d8ff1f5d0aba8ed7c94e3f8fa0", func := "loop.example/g00833/laws.FnExactSenderOf", spec := "fnExactSenderOf", inPlace := ["internal/bytealg.IndexByteString", "internal/bytealg.IndexString"], unfollowed := true, recurses := true, named := ["unicode/utf8.first", "unicode/utf8.acceptRanges", "internal/bytealg.MaxLen"], apart := false, laid := [("unicode/utf8.acceptRanges", laid_unicode_utf8_acceptRanges), ("unicode/utf8.first", laid_unicode_utf8_first)] }
def FnExactSenderOfSaid : Prop := fnExactSenderOfRow.holds Tryz.pinned (OpenSpec.ofChange fnExactSenderOfSpec)

/-- ITS FALSE NEIGHBOUR: 'it returns false'. Refute it at one input. -/
def fnExactSenderOfWrong : ChangeSpec := { name := "fnExactSenderOf", fn := fun _ => fun
  | [d1, d2, d3, d4] => { results := [.lit (.bool false)], args := [d1, d2, d3, d4] }
  | _ => none }
def FnExactSenderOfWrongFalsely : Prop := fnExactSenderOfRow.holds Tryz.pinned (OpenSpec.ofChange fnExactSenderOfWrong)

/-- 'laws.FnExactBelongsTo': WHATEVER THE INPUT: true; the input reads as it did. -/
def fnExactBelongsToSpec : ChangeSpec := { name := "fnExactBelongsTo", fn := fun _ => fun
  | [d1, d2] => { results := [.lit (.bool true)], args := [d1, d2] }
  | _ => none }
def fnExactBelongsToRow : OpenClaim := { program := "ytfmihehpdfmgfaagreatdoor", sum := "4bef109bbf124015e4a9ac3953339df2fbaaa9d8ff1f5d0aba8ed7c94e3f8fa0", func := "loop.example/g00833/laws.FnExactBelongsTo", spec := "fnExactBelongsTo", inPlace := ["internal/bytealg.IndexByteString", "internal/bytealg.IndexString"], unfollowed := true, recurses := true, named := ["unicode/utf8.first", "unicode/utf8.acceptRanges", "internal/bytealg.MaxLen"], apart := false, laid := [("unicode/utf8.acceptRanges", laid_unicode_utf8_acceptRanges), ("unicode/utf8.first", laid_unicode_utf8_first)] }
def FnExactBelongsToSaid : Prop := fnExactBelongsToRow.holds Tryz.pinned (OpenSpec.ofChange fnExactBelongsToSpec)

/-- ITS FALSE NEIGHBOUR: 'it returns false'. Refute it at one input. -/
def fnExactBelongsToWrong : ChangeSpec := { name := "fnExactBelongsTo", fn := fun _ => fun
  | [d1, d2] => { results := [.lit (.bool false)], args := [d1, d2] }
  | _ => none }
def FnExactBelongsToWrongFalsely : Prop := fnExactBelongsToRow.holds Tryz.pinned (OpenSpec.ofChange fnExactBelongsToWrong)

/-- 'laws.FnExactCycleTime': WHATEVER THE INPUT: true; the input reads as it did. -/
def fnExactCycleTimeSpec : ChangeSpec := { name := "fnExactCycleTime", fn := fun _ => fun
  | [d1, d2] => { results := [.lit (.bool true)], args := [d1, d2] }
  | _ => none }
def fnExactCycleTimeRow : OpenClaim := { program := "ytfmihehpdfmgfaagreatdoor", sum := "4bef109bbf124015e4a9ac3953339df2fbaaa9d8ff1f5d0aba8ed7c94e3f8fa0", func := "loop.example/g00833/laws.FnExactCycleTime", spec := "fnExactCycleTime", inPlace := ["internal/bytealg.IndexByteString", "internal/bytealg.IndexString"], unfollowed := true, recurses := true, named := ["unicode/utf8.first", "unicode/utf8.acceptRanges", "internal/bytealg.MaxLen"], apart := false, laid := [("unicode/utf8.acceptRanges", laid_unicode_utf8_acceptRanges), ("unicode/utf8.first", laid_unicode_utf8_first)] }
def FnExactCycleTimeSaid : Prop := fnExactCycleTimeRow.holds Tryz.pinned (OpenSpec.ofChange fnExactCycleTimeSpec)

/-- ITS FALSE NEIGHBOUR: 'it returns false'. Refute it at one input. -/
def fnExactCycleTimeWrong : ChangeSpec := { name := "fnExactCycleTime", fn := fun _ => fun
  | [d1, d2] => { results := [.lit (.bool false)], args := [d1, d2] }
  | _ => none }
def FnExactCycleTimeWrongFalsely : Prop := fnExactCycleTimeRow.holds Tryz.pinned (OpenSpec.ofChange fnExactCycleTimeWrong)

/-- 'laws.FnExactRoundTime': WHATEVER THE INPUT: true; the input reads as it did. -/
def fnExactRoundTimeSpec : ChangeSpec := { name := "fnExactRoundTime", fn := fun _ => fun
  | [d1, d2] => { results := [.lit (.bool true)], args := [d1, d2] }
  | _ => none }
def fnExactRoundTimeRow : OpenClaim := { program := "ytfmihehpdfmgfaagreatdoor", sum := "4bef109bbf124015e4a9ac3953339df2fbaaa9d8ff1f5d0aba8ed7c94e3f8fa0", func := "loop.example/g00833/laws.FnExactRoundTime", spec := "fnExactRoundTime", inPlace := ["internal/bytealg.IndexByteString", "internal/bytealg.IndexString"], unfollowed := true, recurses := true, named := ["unicode/utf8.first", "unicode/utf8.acceptRanges", "internal/bytealg.MaxLen"], apart := false, laid := [("unicode/utf8.acceptRanges", laid_unicode_utf8_acceptRanges), ("unicode/utf8.first", laid_unicode_utf8_first)] }
def FnExactRoundTimeSaid : Prop := fnExactRoundTimeRow.holds Tryz.pinned (OpenSpec.ofChange fnExactRoundTimeSpec)

/-- ITS FALSE NEIGHBOUR: 'it returns false'. Refute it at one input. -/
def fnExactRoundTimeWrong : ChangeSpec := { name := "fnExactRoundTime", fn := fun _ => fun
  | [d1, d2] => { results := [.lit (.bool false)], args := [d1, d2] }
  | _ => none }
def FnExactRoundTimeWrongFalsely : Prop := fnExactRoundTimeRow.holds Tryz.pinned (OpenSpec.ofChange fnExactRoundTimeWrong)

/-- 'laws.FnExactSlotAt': WHATEVER THE INPUT: true; the input reads as it did. -/
def fnExactSlotAtSpec : ChangeSpec := { name := "fnExactSlotAt", fn := fun _ => fun
  | [d1, d2, d3] => { results := [.lit (.bool true)], args := [d1, d2, d3] }
  | _ => none }
def fnExactSlotAtRow : OpenClaim := { program := "ytfmihehpdfmgfaagreatdoor", sum := "4bef109bbf124015e4a9ac3953339df2fbaaa9d8ff1f5d0aba8ed7c94e3f8fa0", func := "loop.example/g00833/laws.FnExactSlotAt", spec := "fnExactSlotAt", inPlace := ["internal/bytealg.IndexByteString", "internal/bytealg.IndexString"], unfollowed := true, recurses := true, named := ["unicode/utf8.first", "unicode/utf8.acceptRanges", "internal/bytealg.MaxLen"], apart := false, laid := [("unicode/utf8.acceptRanges", laid_unicode_utf8_acceptRanges), ("unicode/utf8.first", laid_unicode_utf8_first)] }
def FnExactSlotAtSaid : Prop := fnExactSlotAtRow.holds Tryz.pinned (OpenSpec.ofChange fnExactSlotAtSpec)

/-- ITS FALSE NEIGHBOUR: 'it returns false'. Refute it at one input. -/
def fnExactSlotAtWrong : ChangeSpec := { name := "fnExactSlotAt", fn := fun _ => fun
  | [d1, d2, d3] => { results := [.lit (.bool false)], args := [d1, d2, d3] }
  | _ => none }
def FnExactSlotAtWrongFalsely : Prop := fnExactSlotAtRow.holds Tryz.pinned (OpenSpec.ofChange fnExactSlotAtWrong)

/-- 'laws.FnExactDescriptorFor': WHATEVER THE INPUT: true; the input reads as it did. -/
def fnExactDescriptorForSpec : ChangeSpec := { name := "fnExactDescriptorFor", fn := fun _ => fun
  | [d1, d2] => { results := [.lit (.bool true)], args := [d1, d2] }
  | _ => none }
def fnExactDescriptorForRow : OpenClaim := { program := "ytfmihehpdfmgfaagreatdoor", sum := "4bef109bbf124015e4a9ac3953339df2fbaaa9d8ff1f5d0aba8ed7c94e3f8fa0", func := "loop.example/g00833/laws.FnExactDescriptorFor", spec := "fnExactDescriptorFor", inPlace := ["internal/bytealg.IndexByteString", "internal/bytealg.IndexString"], unfollowed := true, recurses := true, named := ["unicode/utf8.first", "unicode/utf8.acceptRanges", "internal/bytealg.MaxLen"], apart := false, laid := [("unicode/utf8.acceptRanges", laid_unicode_utf8_acceptRanges), ("unicode/utf8.first", laid_unicode_utf8_first)] }
def FnExactDescriptorForSaid : Prop := fnExactDescriptorForRow.holds Tryz.pinned (OpenSpec.ofChange fnExactDescriptorForSpec)

/-- ITS FALSE NEIGHBOUR: 'it returns false'. Refute it at one input. -/
def fnExactDescriptorForWrong : ChangeSpec := { name := "fnExactDescriptorFor", fn := fun _ => fun
  | [d1, d2] => { results := [.lit (.bool false)], args := [d1, d2] }
  | _ => none }
def FnExactDescriptorForWrongFalsely : Prop := fnExactDescriptorForRow.holds Tryz.pinned (OpenSpec.ofChange fnExactDescriptorForWrong)

/-- 'laws.FnExactSlotStart': WHATEVER THE INPUT: true; the input reads as it did. -/
def fnExactSlotStartSpec : ChangeSpec := { name := "fnExactSlotStart", fn := fun _ => fun
  | [d1, d2] => { results := [.lit (.bool true)], args := [d1, d2] }
  | _ => none }
def fnExactSlotStartRow : OpenClaim := { program := "ytfmihehpdfmgfaagreatdoor", sum := "4bef109bbf124015e4a9ac3953339df2fbaaa9d8ff1f5d0aba8ed7c94e3f8fa0", func := "loop.example/g00833/laws.FnExactSlotStart", spec := "fnExactSlotStart", inPlace := ["internal/bytealg.IndexByteString", "internal/bytealg.IndexString"], unfollowed := true, recurses := true, named := ["unicode/utf8.first", "unicode/utf8.acceptRanges", "internal/bytealg.MaxLen"], apart := false, laid := [("unicode/utf8.acceptRanges", laid_unicode_utf8_acceptRanges), ("unicode/utf8.first", laid_unicode_utf8_first)] }
def FnExactSlotStartSaid : Prop := fnExactSlotStartRow.holds Tryz.pinned (OpenSpec.ofChange fnExactSlotStartSpec)

/-- ITS FALSE NEIGHBOUR: 'it returns false'. Refute it at one input. -/
def fnExactSlotStartWrong : ChangeSpec := { name := "fnExactSlotStart", fn := fun _ => fun
  | [d1, d2] => { results := [.lit (.bool false)], args := [d1, d2] }
  | _ => none }
def FnExactSlotStartWrongFalsely : Prop := fnExactSlotStartRow.holds Tryz.pinned (OpenSpec.ofChange fnExactSlotStartWrong)

/-- 'laws.FnExactNextStateOf': WHATEVER THE INPUT: true; the input reads as it did. -/
def fnExactNextStateOfSpec : ChangeSpec := { name := "fnExactNextStateOf", fn := fun _ => fun
  | [d1, d2] => { results := [.lit (.bool true)], args := [d1, d2] }
  | _ => none }
def fnExactNextStateOfRow : OpenClaim := { program := "ytfmihehpdfmgfaagreatdoor", sum := "4bef109bbf124015e4a9ac3953339df2fbaaa9d8ff1f5d0aba8ed7c94e3f8fa0", func := "loop.example/g00833/laws.FnExactNextStateOf", spec := "fnExactNextStateOf", inPlace := ["internal/bytealg.IndexByteString", "internal/bytealg.IndexString"], unfollowed := true, recurses := true, named := ["unicode/utf8.first", "unicode/utf8.acceptRanges", "internal/bytealg.MaxLen"], apart := false, laid := [("unicode/utf8.acceptRanges", laid_unicode_utf8_acceptRanges), ("unicode/utf8.first", laid_unicode_utf8_first)] }
def FnExactNextStateOfSaid : Prop := fnExactNextStateOfRow.holds Tryz.pinned (OpenSpec.ofChange fnExactNextStateOfSpec)

/-- ITS FALSE NEIGHBOUR: 'it returns false'. Refute it at one input. -/
def fnExactNextStateOfWrong : ChangeSpec := { name := "fnExactNextStateOf", fn := fun _ => fun
  | [d1, d2] => { results := [.lit (.bool false)], args := [d1, d2] }
  | _ => none }
def FnExactNextStateOfWrongFalsely : Prop := fnExactNextStateOfRow.holds Tryz.pinned (OpenSpec.ofChange fnExactNextStateOfWrong)

/-- 'laws.FnExactChangeMode': WHATEVER THE INPUT: true; the input reads as it did. -/
def fnExactChangeModeSpec : ChangeSpec := { name := "fnExactChangeMode", fn := fun _ => fun
  | [d1, d2, d3] => { results := [.lit (.bool true)], args := [d1, d2, d3] }
  | _ => none }
def fnExactChangeModeRow : OpenClaim := { program := "ytfmihehpdfmgfaagreatdoor", sum := "4bef109bbf124015e4a9ac3953339df2fbaaa9d8ff1f5d0aba8ed7c94e3f8fa0", func := "loop.example/g00833/laws.FnExactChangeMode", spec := "fnExactChangeMode", inPlace := ["internal/bytealg.IndexByteString", "internal/bytealg.IndexString"], unfollowed := true, recurses := true, named := ["unicode/utf8.first", "unicode/utf8.acceptRanges", "internal/bytealg.MaxLen"], apart := false, laid := [("unicode/utf8.acceptRanges", laid_unicode_utf8_acceptRanges), ("unicode/utf8.first", laid_unicode_utf8_first)] }
def FnExactChangeModeSaid : Prop := fnExactChangeModeRow.holds Tryz.pinned (OpenSpec.ofChange fnExactChangeModeSpec)

/-- ITS FALSE NEIGHBOUR: 'it returns false'. Refute it at one input. -/
def fnExactChangeModeWrong : ChangeSpec := { name := "fnExactChangeMode", fn := fun _ => fun
  | [d1, d2, d3] => { results := [.lit (.bool false)], args := [d1, d2, d3] }
  | _ => none }
def FnExactChangeModeWrongFalsely : Prop := fnExactChangeModeRow.holds Tryz.pinned (OpenSpec.ofChange fnExactChangeModeWrong)

/- THE SECOND FORM. 'bulk': how many values and letters a reading holds, each counted each time it is reached (what is shared counts as often as it is met; a slice's spare places count too). A statement '..UptoSaid' is the law's where the arguments, and the package variables that the reading takes, are together of bulk at most 1048576: NARROWER than '..Said'. Prove '..Said' where nothing that the law and all that it calls make is longer than what came in: it says more and counts as full. Else prove '..UptoSaid'. A law counts once. -/
mutual
def uptoBulk {H : Type} : DataW H → Nat
  | .lit (.string bytes) => bytes.length + 1
  | .lit _ => 1
  | .nil => 1
  | .ptr d => uptoBulk d + 1
  | .slice elems spare => uptoBulkAll elems + uptoBulkAll spare + 1
  | .agg parts => uptoBulkAll parts + 1
  | .iface _ d => uptoBulk d + 1
  | .map entries => uptoBulkEntries entries + 1
  | .held _ => 1
def uptoBulkAll {H : Type} : List (DataW H) → Nat
  | [] => 0
  | d :: r => uptoBulk d + uptoBulkAll r
def uptoBulkEntries {H : Type} : List (Lit × DataW H) → Nat
  | [] => 0
  | x :: r => uptoBulkEntry x + uptoBulkEntries r
def uptoBulkEntry {H : Type} : Lit × DataW H → Nat
  | (.string bytes, d) => bytes.length + uptoBulk d + 1
  | (_, d) => uptoBulk d + 1
 end
def uptoSmall : (H : Type) → List (DataW H) → Bool := fun _ ds => decide (uptoBulkAll ds ≤ 1048576)
def OpenSpec.upto (s : _root_.Go.ChangeSpec) : _root_.Go.OpenSpec := { _root_.Go.OpenSpec.ofChange s with cond := some uptoSmall }

/-- 'laws.FnExactFirstFault', WHERE WHAT IT READS IS OF BULK AT MOST 1048576: true; the input reads as it did. -/
def fnExactFirstFaultUptoRow : OpenClaim := { program := "ytfmihehpdfmgfaagreatdoor", sum := "4bef109bbf124015e4a9ac3953339df2fbaaa9d8ff1f5d0aba8ed7c94e3f8fa0", func := "loop.example/g00833/laws.FnExactFirstFault", spec := "fnExactFirstFault", inPlace := ["internal/bytealg.IndexByteString", "internal/bytealg.IndexString"], unfollowed := true, recurses := true, named := ["unicode/utf8.first", "unicode/utf8.acceptRanges", "internal/bytealg.MaxLen"], apart := false, laid := [("unicode/utf8.acceptRanges", laid_unicode_utf8_acceptRanges), ("unicode/utf8.first", laid_unicode_utf8_first)], narrowed := true }
def FnExactFirstFaultUptoSaid : Prop := fnExactFirstFaultUptoRow.holds Tryz.pinned (OpenSpec.upto fnExactFirstFaultSpec)

/-- 'laws.FnExactIsMedl', WHERE WHAT IT READS IS OF BULK AT MOST 1048576: true; the input reads as it did. -/
def fnExactIsMedlUptoRow : OpenClaim := { program := "ytfmihehpdfmgfaagreatdoor", sum := "4bef109bbf124015e4a9ac3953339df2fbaaa9d8ff1f5d0aba8ed7c94e3f8fa0", func := "loop.example/g00833/laws.FnExactIsMedl", spec := "fnExactIsMedl", inPlace := ["internal/bytealg.IndexByteString", "internal/bytealg.IndexString"], unfollowed := true, recurses := true, named := ["unicode/utf8.first", "unicode/utf8.acceptRanges", "internal/bytealg.MaxLen"], apart := false, laid := [("unicode/utf8.acceptRanges", laid_unicode_utf8_acceptRanges), ("unicode/utf8.first", laid_unicode_utf8_first)], narrowed := true }
def FnExactIsMedlUptoSaid : Prop := fnExactIsMedlUptoRow.holds Tryz.pinned (OpenSpec.upto fnExactIsMedlSpec)

/-- 'laws.FnExactSenderOf', WHERE WHAT IT READS IS OF BULK AT MOST 1048576: true; the input reads as it did. -/
def fnExactSenderOfUptoRow : OpenClaim := { program := "ytfmihehpdfmgfaagreatdoor", sum := "4bef109bbf124015e4a9ac3953339df2fbaaa9d8ff1f5d0aba8ed7c94e3f8fa0", func := "loop.example/g00833/laws.FnExactSenderOf", spec := "fnExactSenderOf", inPlace := ["internal/bytealg.IndexByteString", "internal/bytealg.IndexString"], unfollowed := true, recurses := true, named := ["unicode/utf8.first", "unicode/utf8.acceptRanges", "internal/bytealg.MaxLen"], apart := false, laid := [("unicode/utf8.acceptRanges", laid_unicode_utf8_acceptRanges), ("unicode/utf8.first", laid_unicode_utf8_first)], narrowed := true }
def FnExactSenderOfUptoSaid : Prop := fnExactSenderOfUptoRow.holds Tryz.pinned (OpenSpec.upto fnExactSenderOfSpec)

/-- 'laws.FnExactBelongsTo', WHERE WHAT IT READS IS OF BULK AT MOST 1048576: true; the input reads as it did. -/
def fnExactBelongsToUptoRow : OpenClaim := { program := "ytfmihehpdfmgfaagreatdoor", sum := "4bef109bbf124015e4a9ac3953339df2fbaaa9d8ff1f5d0aba8ed7c94e3f8fa0", func := "loop.example/g00833/laws.FnExactBelongsTo", spec := "fnExactBelongsTo", inPlace := ["internal/bytealg.IndexByteString", "internal/bytealg.IndexString"], unfollowed := true, recurses := true, named := ["unicode/utf8.first", "unicode/utf8.acceptRanges", "internal/bytealg.MaxLen"], apart := false, laid := [("unicode/utf8.acceptRanges", laid_unicode_utf8_acceptRanges), ("unicode/utf8.first", laid_unicode_utf8_first)], narrowed := true }
def FnExactBelongsToUptoSaid : Prop := fnExactBelongsToUptoRow.holds Tryz.pinned (OpenSpec.upto fnExactBelongsToSpec)

/-- 'laws.FnExactCycleTime', WHERE WHAT IT READS IS OF BULK AT MOST 1048576: true; the input reads as it did. -/
def fnExactCycleTimeUptoRow : OpenClaim := { program := "ytfmihehpdfmgfaagreatdoor", sum := "4bef109bbf124015e4a9ac3953339df2fbaaa9d8ff1f5d0aba8ed7c94e3f8fa0", func := "loop.example/g00833/laws.FnExactCycleTime", spec := "fnExactCycleTime", inPlace := ["internal/bytealg.IndexByteString", "internal/bytealg.IndexString"], unfollowed := true, recurses := true, named := ["unicode/utf8.first", "unicode/utf8.acceptRanges", "internal/bytealg.MaxLen"], apart := false, laid := [("unicode/utf8.acceptRanges", laid_unicode_utf8_acceptRanges), ("unicode/utf8.first", laid_unicode_utf8_first)], narrowed := true }
def FnExactCycleTimeUptoSaid : Prop := fnExactCycleTimeUptoRow.holds Tryz.pinned (OpenSpec.upto fnExactCycleTimeSpec)

/-- 'laws.FnExactRoundTime', WHERE WHAT IT READS IS OF BULK AT MOST 1048576: true; the input reads as it did. -/
def fnExactRoundTimeUptoRow : OpenClaim := { program := "ytfmihehpdfmgfaagreatdoor", sum := "4bef109bbf124015e4a9ac3953339df2fbaaa9d8ff1f5d0aba8ed7c94e3f8fa0", func := "loop.example/g00833/laws.FnExactRoundTime", spec := "fnExactRoundTime", inPlace := ["internal/bytealg.IndexByteString", "internal/bytealg.IndexString"], unfollowed := true, recurses := true, named := ["unicode/utf8.first", "unicode/utf8.acceptRanges", "internal/bytealg.MaxLen"], apart := false, laid := [("unicode/utf8.acceptRanges", laid_unicode_utf8_acceptRanges), ("unicode/utf8.first", laid_unicode_utf8_first)], narrowed := true }
def FnExactRoundTimeUptoSaid : Prop := fnExactRoundTimeUptoRow.holds Tryz.pinned (OpenSpec.upto fnExactRoundTimeSpec)

/-- 'laws.FnExactSlotAt', WHERE WHAT IT READS IS OF BULK AT MOST 1048576: true; the input reads as it did. -/
def fnExactSlotAtUptoRow : OpenClaim := { program := "ytfmihehpdfmgfaagreatdoor", sum := "4bef109bbf124015e4a9ac3953339df2fbaaa9d8ff1f5d0aba8ed7c94e3f8fa0", func := "loop.example/g00833/laws.FnExactSlotAt", spec := "fnExactSlotAt", inPlace := ["internal/bytealg.IndexByteString", "internal/bytealg.IndexString"], unfollowed := true, recurses := true, named := ["unicode/utf8.first", "unicode/utf8.acceptRanges", "internal/bytealg.MaxLen"], apart := false, laid := [("unicode/utf8.acceptRanges", laid_unicode_utf8_acceptRanges), ("unicode/utf8.first", laid_unicode_utf8_first)], narrowed := true }
def FnExactSlotAtUptoSaid : Prop := fnExactSlotAtUptoRow.holds Tryz.pinned (OpenSpec.upto fnExactSlotAtSpec)

/-- 'laws.FnExactDescriptorFor', WHERE WHAT IT READS IS OF BULK AT MOST 1048576: true; the input reads as it did. -/
def fnExactDescriptorForUptoRow : OpenClaim := { program := "ytfmihehpdfmgfaagreatdoor", sum := "4bef109bbf124015e4a9ac3953339df2fbaaa9d8ff1f5d0aba8ed7c94e3f8fa0", func := "loop.example/g00833/laws.FnExactDescriptorFor", spec := "fnExactDescriptorFor", inPlace := ["internal/bytealg.IndexByteString", "internal/bytealg.IndexString"], unfollowed := true, recurses := true, named := ["unicode/utf8.first", "unicode/utf8.acceptRanges", "internal/bytealg.MaxLen"], apart := false, laid := [("unicode/utf8.acceptRanges", laid_unicode_utf8_acceptRanges), ("unicode/utf8.first", laid_unicode_utf8_first)], narrowed := true }
def FnExactDescriptorForUptoSaid : Prop := fnExactDescriptorForUptoRow.holds Tryz.pinned (OpenSpec.upto fnExactDescriptorForSpec)

/-- 'laws.FnExactSlotStart', WHERE WHAT IT READS IS OF BULK AT MOST 1048576: true; the input reads as it did. -/
def fnExactSlotStartUptoRow : OpenClaim := { program := "ytfmihehpdfmgfaagreatdoor", sum := "4bef109bbf124015e4a9ac3953339df2fbaaa9d8ff1f5d0aba8ed7c94e3f8fa0", func := "loop.example/g00833/laws.FnExactSlotStart", spec := "fnExactSlotStart", inPlace := ["internal/bytealg.IndexByteString", "internal/bytealg.IndexString"], unfollowed := true, recurses := true, named := ["unicode/utf8.first", "unicode/utf8.acceptRanges", "internal/bytealg.MaxLen"], apart := false, laid := [("unicode/utf8.acceptRanges", laid_unicode_utf8_acceptRanges), ("unicode/utf8.first", laid_unicode_utf8_first)], narrowed := true }
def FnExactSlotStartUptoSaid : Prop := fnExactSlotStartUptoRow.holds Tryz.pinned (OpenSpec.upto fnExactSlotStartSpec)

/-- 'laws.FnExactNextStateOf', WHERE WHAT IT READS IS OF BULK AT MOST 1048576: true; the input reads as it did. -/
def fnExactNextStateOfUptoRow : OpenClaim := { program := "ytfmihehpdfmgfaagreatdoor", sum := "4bef109bbf124015e4a9ac3953339df2fbaaa9d8ff1f5d0aba8ed7c94e3f8fa0", func := "loop.example/g00833/laws.FnExactNextStateOf", spec := "fnExactNextStateOf", inPlace := ["internal/bytealg.IndexByteString", "internal/bytealg.IndexString"], unfollowed := true, recurses := true, named := ["unicode/utf8.first", "unicode/utf8.acceptRanges", "internal/bytealg.MaxLen"], apart := false, laid := [("unicode/utf8.acceptRanges", laid_unicode_utf8_acceptRanges), ("unicode/utf8.first", laid_unicode_utf8_first)], narrowed := true }
def FnExactNextStateOfUptoSaid : Prop := fnExactNextStateOfUptoRow.holds Tryz.pinned (OpenSpec.upto fnExactNextStateOfSpec)

/-- 'laws.FnExactChangeMode', WHERE WHAT IT READS IS OF BULK AT MOST 1048576: true; the input reads as it did. -/
def fnExactChangeModeUptoRow : OpenClaim := { program := "ytfmihehpdfmgfaagreatdoor", sum := "4bef109bbf124015e4a9ac3953339df2fbaaa9d8ff1f5d0aba8ed7c94e3f8fa0", func := "loop.example/g00833/laws.FnExactChangeMode", spec := "fnExactChangeMode", inPlace := ["internal/bytealg.IndexByteString", "internal/bytealg.IndexString"], unfollowed := true, recurses := true, named := ["unicode/utf8.first", "unicode/utf8.acceptRanges", "internal/bytealg.MaxLen"], apart := false, laid := [("unicode/utf8.acceptRanges", laid_unicode_utf8_acceptRanges), ("unicode/utf8.first", laid_unicode_utf8_first)], narrowed := true }
def FnExactChangeModeUptoSaid : Prop := fnExactChangeModeUptoRow.holds Tryz.pinned (OpenSpec.upto fnExactChangeModeSpec)

end Rows
end Go.Proofs.YtfmihehpdfmgfaaGreatDoor
