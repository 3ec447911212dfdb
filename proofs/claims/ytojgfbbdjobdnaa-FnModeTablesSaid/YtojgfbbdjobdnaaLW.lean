/- What the rows of all laws of this seat need. No condition. -/
import Derived.Test.YtojgfbbdjobdnaaFlowR
import Derived.Test.YtojgfbbdjobdnaaFlowT
import Derived.Test.YtojgfbbdjobdnaaMod6
namespace Go.Proofs.Ytojgfbbdjobdnaa
open Go.ChangeShapes Go.WideShapes Go.ChangeAt Go.RowKit
set_option linter.unusedVariables false
set_option linter.unusedSimpArgs false
set_option maxRecDepth 100000
def Desc.ok (d : Desc) : Prop := In64 d.node ∧ In64 d.kind ∧ In64 d.size ∧ In64 d.duration
def SlotI.ok (d : SlotI) : Prop := In64 d.mode ∧ In64 d.round ∧ In64 d.slot ∧ Desc.ok d.desc
theorem law_own : ownKnob Try.prog.godebug = none := by kernel_rfl
theorem law_laid : laidOutB Try.prog = true := by kernel_rfl
end Go.Proofs.Ytojgfbbdjobdnaa
