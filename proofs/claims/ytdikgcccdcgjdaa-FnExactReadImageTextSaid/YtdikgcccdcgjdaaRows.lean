/-
  No cell of these rows narrows 'for every input' (looked for: loops, veiled, ifaces, maps, wideKeys, modest, calm, conditions, laid).
  DERIVED. THE GIVEN ROWS OF THIS SEAT. 6 by the template 'for every input the law returns true; each argument reads behind the call as it read before'; 0 by the template 'total and deterministic' (their statements: YtdikgcccdcgjdaaTotals.lean).
  GIVEN WITH THE SEED: the statements are not yours to turn. If you find one false, say at which input.
  Laid BY PROGRAM, IN A SANDBOX (cutbox-rows.mjs): the forced cells as the released guide's own fill.sh prints them over the translation 314ea3821cebc22b… (all of the seat's roots in one cut). By AI agents, Wed Nov 11 2026. No macro, syntax, notation, axiom, sorry.
-/
import Derived.Test.YtdikgcccdcgjdaaChecked
import GoSem.Claim
import GoSem.ClaimJoined
import GoSem.ClaimMapViews
import Derived.JoinedTies
import Derived.KernelRfl
namespace Go.Proofs.Ytdikgcccdcgjdaa
/- THE CELL 'sum', in the pinned program and in every row, IS THE sha256 OF THE DUMP (.gsa) THAT YtdikgcccdcgjdaaProg.lean LOADS. Nothing in Lean hashes anything: it is a label: what it is worth is what the hold of that sum in a sandbox is worth. -/
noncomputable def Try.pinned : Pinned := { name := "ytdikgcccdcgjdaa", sum := "314ea3821cebc22bb71bbed9803e8e0957a98ea27dcf775fa00987901c82403f", checked := Try.checked }
namespace Rows
def none {H : Type} : Left H := { results := [], args := [] }

/-- 'laws.FnExactCompareSlots': WHATEVER THE INPUT: true; the input reads as it did. -/
def fnExactCompareSlotsSpec : ChangeSpec := { name := "fnExactCompareSlots", fn := fun _ => fun
  | [d1, d2] => { results := [.lit (.bool true)], args := [d1, d2] }
  | _ => none }
def fnExactCompareSlotsRow : OpenClaim := { program := "ytdikgcccdcgjdaa", sum := "314ea3821cebc22bb71bbed9803e8e0957a98ea27dcf775fa00987901c82403f", func := "loop.example/g00833/laws.FnExactCompareSlots", spec := "fnExactCompareSlots", apart := false }
def FnExactCompareSlotsSaid : Prop := fnExactCompareSlotsRow.holds Try.pinned (OpenSpec.ofChange fnExactCompareSlotsSpec)

/-- ITS FALSE NEIGHBOUR: 'it returns false'. Refute it at one input. -/
def fnExactCompareSlotsWrong : ChangeSpec := { name := "fnExactCompareSlots", fn := fun _ => fun
  | [d1, d2] => { results := [.lit (.bool false)], args := [d1, d2] }
  | _ => none }
def FnExactCompareSlotsWrongFalsely : Prop := fnExactCompareSlotsRow.holds Try.pinned (OpenSpec.ofChange fnExactCompareSlotsWrong)

/-- 'laws.FnExactImageText': WHATEVER THE INPUT: true; the input reads as it did. -/
def fnExactImageTextSpec : ChangeSpec := { name := "fnExactImageText", fn := fun _ => fun
  | [d] => { results := [.lit (.bool true)], args := [d] }
  | _ => none }
def fnExactImageTextRow : OpenClaim := { program := "ytdikgcccdcgjdaa", sum := "314ea3821cebc22bb71bbed9803e8e0957a98ea27dcf775fa00987901c82403f", func := "loop.example/g00833/laws.FnExactImageText", spec := "fnExactImageText", apart := false }
def FnExactImageTextSaid : Prop := fnExactImageTextRow.holds Try.pinned (OpenSpec.ofChange fnExactImageTextSpec)

/-- ITS FALSE NEIGHBOUR: 'it returns false'. Refute it at one input. -/
def fnExactImageTextWrong : ChangeSpec := { name := "fnExactImageText", fn := fun _ => fun
  | [d] => { results := [.lit (.bool false)], args := [d] }
  | _ => none }
def FnExactImageTextWrongFalsely : Prop := fnExactImageTextRow.holds Try.pinned (OpenSpec.ofChange fnExactImageTextWrong)

/-- 'laws.FnExactAreDemands': WHATEVER THE INPUT: true; the input reads as it did. -/
def fnExactAreDemandsSpec : ChangeSpec := { name := "fnExactAreDemands", fn := fun _ => fun
  | [d] => { results := [.lit (.bool true)], args := [d] }
  | _ => none }
def fnExactAreDemandsRow : OpenClaim := { program := "ytdikgcccdcgjdaa", sum := "314ea3821cebc22bb71bbed9803e8e0957a98ea27dcf775fa00987901c82403f", func := "loop.example/g00833/laws.FnExactAreDemands", spec := "fnExactAreDemands", apart := false }
def FnExactAreDemandsSaid : Prop := fnExactAreDemandsRow.holds Try.pinned (OpenSpec.ofChange fnExactAreDemandsSpec)

/-- ITS FALSE NEIGHBOUR: 'it returns false'. Refute it at one input. -/
def fnExactAreDemandsWrong : ChangeSpec := { name := "fnExactAreDemands", fn := fun _ => fun
  | [d] => { results := [.lit (.bool false)], args := [d] }
  | _ => none }
def FnExactAreDemandsWrongFalsely : Prop := fnExactAreDemandsRow.holds Try.pinned (OpenSpec.ofChange fnExactAreDemandsWrong)

/-- 'laws.FnExactReadImageText': WHATEVER THE INPUT: true; the input reads as it did. -/
def fnExactReadImageTextSpec : ChangeSpec := { name := "fnExactReadImageText", fn := fun _ => fun
  | [d] => { results := [.lit (.bool true)], args := [d] }
  | _ => none }
def fnExactReadImageTextRow : OpenClaim := { program := "ytdikgcccdcgjdaa", sum := "314ea3821cebc22bb71bbed9803e8e0957a98ea27dcf775fa00987901c82403f", func := "loop.example/g00833/laws.FnExactReadImageText", spec := "fnExactReadImageText", apart := false }
def FnExactReadImageTextSaid : Prop := fnExactReadImageTextRow.holds Try.pinned (OpenSpec.ofChange fnExactReadImageTextSpec)

/-- ITS FALSE NEIGHBOUR: 'it returns false'. Refute it at one input. -/
def fnExactReadImageTextWrong : ChangeSpec := { name := "fnExactReadImageText", fn := fun _ => fun
  | [d] => { results := [.lit (.bool false)], args := [d] }
  | _ => none }
def FnExactReadImageTextWrongFalsely : Prop := fnExactReadImageTextRow.holds Try.pinned (OpenSpec.ofChange fnExactReadImageTextWrong)

/-- 'laws.FnExactLoadOf': WHATEVER THE INPUT: true; the input reads as it did. -/
def fnExactLoadOfSpec : ChangeSpec := { name := "fnExactLoadOf", fn := fun _ => fun
  | [d] => { results := [.lit (.bool true)], args := [d] }
  | _ => none }
def fnExactLoadOfRow : OpenClaim := { program := "ytdikgcccdcgjdaa", sum := "314ea3821cebc22bb71bbed9803e8e0957a98ea27dcf775fa00987901c82403f", func := "loop.example/g00833/laws.FnExactLoadOf", spec := "fnExactLoadOf", apart := false }
def FnExactLoadOfSaid : Prop := fnExactLoadOfRow.holds Try.pinned (OpenSpec.ofChange fnExactLoadOfSpec)

/-- ITS FALSE NEIGHBOUR: 'it returns false'. Refute it at one input. -/
def fnExactLoadOfWrong : ChangeSpec := { name := "fnExactLoadOf", fn := fun _ => fun
  | [d] => { results := [.lit (.bool false)], args := [d] }
  | _ => none }
def FnExactLoadOfWrongFalsely : Prop := fnExactLoadOfRow.holds Try.pinned (OpenSpec.ofChange fnExactLoadOfWrong)

/-- 'laws.FnImageText': WHATEVER THE INPUT: true; the input reads as it did. -/
def fnImageTextSpec : ChangeSpec := { name := "fnImageText", fn := fun _ => fun
  | [d] => { results := [.lit (.bool true)], args := [d] }
  | _ => none }
def fnImageTextRow : OpenClaim := { program := "ytdikgcccdcgjdaa", sum := "314ea3821cebc22bb71bbed9803e8e0957a98ea27dcf775fa00987901c82403f", func := "loop.example/g00833/laws.FnImageText", spec := "fnImageText", apart := false }
def FnImageTextSaid : Prop := fnImageTextRow.holds Try.pinned (OpenSpec.ofChange fnImageTextSpec)

/-- ITS FALSE NEIGHBOUR: 'it returns false'. Refute it at one input. -/
def fnImageTextWrong : ChangeSpec := { name := "fnImageText", fn := fun _ => fun
  | [d] => { results := [.lit (.bool false)], args := [d] }
  | _ => none }
def FnImageTextWrongFalsely : Prop := fnImageTextRow.holds Try.pinned (OpenSpec.ofChange fnImageTextWrong)

/- THE SECOND FORM. 'bulk': how many values and letters a reading holds, each counted each time it is reached (what is shared counts as often as it is met; a slice's spare places count too). A statement '..UptoSaid' is the law's where the arguments, and the package variables that the reading takes, are together of bulk at most 1048576: NARROWER than '..Said'. Prove '..Said' where nothing that the law and all that it calls make is longer than what came in: it says more and counts as full. Else prove '..UptoSaid'. A law counts once. -/
mutual
def uptoBulk {H : Type} : DataW H → Nat
  | .lit (.string bytes) => bytes.length + 1
  | .lit _ => 1
  | .nil => 1
  | .ptr d => uptoBulk d + 1
  | .slice elems spare => uptoBulkAll elems + uptoBulkAll spare + 1
  | .agg parts => uptoBulkAll parts + 1
  | .iface _ d => uptoBulk d + 1
  | .map entries => uptoBulkEntries entries + 1
  | .held _ => 1
def uptoBulkAll {H : Type} : List (DataW H) → Nat
  | [] => 0
  | d :: r => uptoBulk d + uptoBulkAll r
def uptoBulkEntries {H : Type} : List (Lit × DataW H) → Nat
  | [] => 0
  | x :: r => uptoBulkEntry x + uptoBulkEntries r
def uptoBulkEntry {H : Type} : Lit × DataW H → Nat
  | (.string bytes, d) => bytes.length + uptoBulk d + 1
  | (_, d) => uptoBulk d + 1
 end
def uptoSmall : (H : Type) → List (DataW H) → Bool := fun _ ds => decide (uptoBulkAll ds ≤ 1048576)
def OpenSpec.upto (s : _root_.Go.ChangeSpec) : _root_.Go.OpenSpec := { _root_.Go.OpenSpec.ofChange s with cond := some uptoSmall }

/-- 'laws.FnExactCompareSlots', WHERE WHAT IT READS IS OF BULK AT MOST 1048576: true; the input reads as it did. -/
def fnExactCompareSlotsUptoRow : OpenClaim := { program := "ytdikgcccdcgjdaa", sum := "314ea3821cebc22bb71bbed9803e8e0957a98ea27dcf775fa00987901c82403f", func := "loop.example/g00833/laws.FnExactCompareSlots", spec := "fnExactCompareSlots", apart := false, narrowed := true }
def FnExactCompareSlotsUptoSaid : Prop := fnExactCompareSlotsUptoRow.holds Try.pinned (OpenSpec.upto fnExactCompareSlotsSpec)

/-- 'laws.FnExactImageText', WHERE WHAT IT READS IS OF BULK AT MOST 1048576: true; the input reads as it did. -/
def fnExactImageTextUptoRow : OpenClaim := { program := "ytdikgcccdcgjdaa", sum := "314ea3821cebc22bb71bbed9803e8e0957a98ea27dcf775fa00987901c82403f", func := "loop.example/g00833/laws.FnExactImageText", spec := "fnExactImageText", apart := false, narrowed := true }
def FnExactImageTextUptoSaid : Prop := fnExactImageTextUptoRow.holds Try.pinned (OpenSpec.upto fnExactImageTextSpec)

/-- 'laws.FnExactAreDemands', WHERE WHAT IT READS IS OF BULK AT MOST 1048576: true; the input reads as it did. -/
def fnExactAreDemandsUptoRow : OpenClaim := { program := "ytdikgcccdcgjdaa", sum := "314ea3821cebc22bb71bbed9803e8e0957a98ea27dcf775fa00987901c82403f", func := "loop.example/g00833/laws.FnExactAreDemands", spec := "fnExactAreDemands", apart := false, narrowed := true }
def FnExactAreDemandsUptoSaid : Prop := fnExactAreDemandsUptoRow.holds Try.pinned (OpenSpec.upto fnExactAreDemandsSpec)

/-- 'laws.FnExactReadImageText', WHERE WHAT IT READS IS OF BULK AT MOST 1048576: true; the input reads as it did. -/
def fnExactReadImageTextUptoRow : OpenClaim := { program := "ytdikgcccdcgjdaa", sum := "314ea3821cebc22bb71bbed9803e8e0957a98ea27dcf775fa00987901c82403f", func := "loop.example/g00833/laws.FnExactReadImageText", spec := "fnExactReadImageText", apart := false, narrowed := true }
def FnExactReadImageTextUptoSaid : Prop := fnExactReadImageTextUptoRow.holds Try.pinned (OpenSpec.upto fnExactReadImageTextSpec)

/-- 'laws.FnExactLoadOf', WHERE WHAT IT READS IS OF BULK AT MOST 1048576: true; the input reads as it did. -/
def fnExactLoadOfUptoRow : OpenClaim := { program := "ytdikgcccdcgjdaa", sum := "314ea3821cebc22bb71bbed9803e8e0957a98ea27dcf775fa00987901c82403f", func := "loop.example/g00833/laws.FnExactLoadOf", spec := "fnExactLoadOf", apart := false, narrowed := true }
def FnExactLoadOfUptoSaid : Prop := fnExactLoadOfUptoRow.holds Try.pinned (OpenSpec.upto fnExactLoadOfSpec)

/-- 'laws.FnImageText', WHERE WHAT IT READS IS OF BULK AT MOST 1048576: true; the input reads as it did. -/
def fnImageTextUptoRow : OpenClaim := { program := "ytdikgcccdcgjdaa", sum := "314ea3821cebc22bb71bbed9803e8e0957a98ea27dcf775fa00987901c82403f", func := "loop.example/g00833/laws.FnImageText", spec := "fnImageText", apart := false, narrowed := true }
def FnImageTextUptoSaid : Prop := fnImageTextUptoRow.holds Try.pinned (OpenSpec.upto fnImageTextSpec)

end Rows
end Go.Proofs.Ytdikgcccdcgjdaa
