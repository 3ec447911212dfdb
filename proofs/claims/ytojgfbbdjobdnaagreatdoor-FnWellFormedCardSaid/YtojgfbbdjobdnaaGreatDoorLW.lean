/- What the rows of all laws of this seat need. No condition. -/
import Derived.Test.YtojgfbbdjobdnaaGreatDoorFlowR
import Derived.Test.YtojgfbbdjobdnaaGreatDoorFlowT
import Derived.Test.YtojgfbbdjobdnaaGreatDoorMod6
import Derived.Test.YtojgfbbdjobdnaaGreatDoorCards
namespace Go.Proofs.YtojgfbbdjobdnaaGreatDoor
open Go.ChangeShapes Go.WideShapes Go.ChangeAt Go.RowKit
set_option linter.unusedVariables false
set_option linter.unusedSimpArgs false
set_option maxRecDepth 100000

theorem law_own : ownKnob Tryz.prog.godebug = none := by kernel_rfl
theorem law_laid : laidOutB Tryz.prog = true := by kernel_rfl
theorem law_main : Tryz.pinned.checked.prog.mainIs = some (true, "a3d70ef78196423dfcdef9bd2e3aaa75f1e6bd02bbefc60196699ec7a33f8f22".toList) := by kernel_rfl
theorem law_looks : false = Tryz.prog.looks [] := by kernel_rfl
end Go.Proofs.YtojgfbbdjobdnaaGreatDoor
