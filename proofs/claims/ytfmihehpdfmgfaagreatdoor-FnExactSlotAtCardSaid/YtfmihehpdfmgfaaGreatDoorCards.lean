/-
  DERIVED. GIVEN WITH THE SEED: THE CARDS: each row of YtfmihehpdfmgfaaGreatDoorRows.lean that lists a variable, with what it lists TIED to the program's text (the seventh form; the later family's looks); each row that meets fmt, with fmt's text TOLD by the authors' own Lean function (tested against real Go, not proved from fmt's source: count such statements apart). THE CARD IS WHAT COUNTS. Prove the row's statement (the work); the ties are given (YtfmihehpdfmgfaaGreatDoorTie.lean); close each card by the builder's one call (the guide's Derived/Test/ToyasCard.lean, 'card_holds'). Laid BY PROGRAM, IN A SANDBOX (cutbox-door.mjs). By AI agents, Wed Nov 11 2026. No macro, syntax, notation, axiom, sorry.
-/
import Derived.Test.YtfmihehpdfmgfaaGreatDoorRows
import GoSem.ClaimSeven
namespace Go.Proofs.YtfmihehpdfmgfaaGreatDoor
namespace Rows

/-- THE TIED CARD OF 'laws.FnExactFirstFault'. -/
def fnExactFirstFaultCard : Claim7 := { stood := { row := fnExactFirstFaultRow, standIns := [], harness := (true, "8458b1b0d1af341da98c86618066273f9c2061d289ad0ef8c4000ad9f789289f"), looks := false }, kinds := [], alts := [], laidByText := true, laidKinds := [.data, .pinned], laidTests := true, laidLooks := .later }
def FnExactFirstFaultCardSaid : Prop := Claim7.holds Tryz.pinned (.plain (OpenSpec.ofChange fnExactFirstFaultSpec)) fnExactFirstFaultCard

/-- THE TIED CARD OF 'laws.FnExactIsMedl'. -/
def fnExactIsMedlCard : Claim7 := { stood := { row := fnExactIsMedlRow, standIns := [], harness := (true, "8458b1b0d1af341da98c86618066273f9c2061d289ad0ef8c4000ad9f789289f"), looks := false }, kinds := [], alts := [], laidByText := true, laidKinds := [.data, .pinned], laidTests := true, laidLooks := .later }
def FnExactIsMedlCardSaid : Prop := Claim7.holds Tryz.pinned (.plain (OpenSpec.ofChange fnExactIsMedlSpec)) fnExactIsMedlCard

/-- THE TIED CARD OF 'laws.FnExactSenderOf'. -/
def fnExactSenderOfCard : Claim7 := { stood := { row := fnExactSenderOfRow, standIns := [], harness := (true, "8458b1b0d1af341da98c86618066273f9c2061d289ad0ef8c4000ad9f789289f"), looks := false }, kinds := [], alts := [], laidByText := true, laidKinds := [.data, .pinned], laidTests := true, laidLooks := .later }
def FnExactSenderOfCardSaid : Prop := Claim7.holds Tryz.pinned (.plain (OpenSpec.ofChange fnExactSenderOfSpec)) fnExactSenderOfCard

/-- THE TIED CARD OF 'laws.FnExactBelongsTo'. -/
def fnExactBelongsToCard : Claim7 := { stood := { row := fnExactBelongsToRow, standIns := [], harness := (true, "8458b1b0d1af341da98c86618066273f9c2061d289ad0ef8c4000ad9f789289f"), looks := false }, kinds := [], alts := [], laidByText := true, laidKinds := [.data, .pinned], laidTests := true, laidLooks := .later }
def FnExactBelongsToCardSaid : Prop := Claim7.holds Tryz.pinned (.plain (OpenSpec.ofChange fnExactBelongsToSpec)) fnExactBelongsToCard

/-- THE TIED CARD OF 'laws.FnExactCycleTime'. -/
def fnExactCycleTimeCard : Claim7 := { stood := { row := fnExactCycleTimeRow, standIns := [], harness := (true, "8458b1b0d1af341da98c86618066273f9c2061d289ad0ef8c4000ad9f789289f"), looks := false }, kinds := [], alts := [], laidByText := true, laidKinds := [.data, .pinned], laidTests := true, laidLooks := .later }
def FnExactCycleTimeCardSaid : Prop := Claim7.holds Tryz.pinned (.plain (OpenSpec.ofChange fnExactCycleTimeSpec)) fnExactCycleTimeCard

/-- THE TIED CARD OF 'laws.FnExactRoundTime'. -/
def fnExactRoundTimeCard : Claim7 := { stood := { row := fnExactRoundTimeRow, standIns := [], harness := (true, "8458b1b0d1af341da98c86618066273f9c2061d289ad0ef8c4000ad9f789289f"), looks := false }, kinds := [], alts := [], laidByText := true, laidKinds := [.data, .pinned], laidTests := true, laidLooks := .later }
def FnExactRoundTimeCardSaid : Prop := Claim7.holds Tryz.pinned (.plain (OpenSpec.ofChange fnExactRoundTimeSpec)) fnExactRoundTimeCard

/-- THE TIED CARD OF 'laws.FnExactSlotAt'. -/
def fnExactSlotAtCard : Claim7 := { stood := { row := fnExactSlotAtRow, standIns := [], harness := (true, "8458b1b0d1af341da98c86618066273f9c2061d289ad0ef8c4000ad9f789289f"), looks := false }, kinds := [], alts := [], laidByText := true, laidKinds := [.data, .pinned], laidTests := true, laidLooks := .later }
def FnExactSlotAtCardSaid : Prop := Claim7.holds Tryz.pinned (.plain (OpenSpec.ofChange fnExactSlotAtSpec)) fnExactSlotAtCard

/-- THE TIED CARD OF 'laws.FnExactDescriptorFor'. -/
def fnExactDescriptorForCard : Claim7 := { stood := { row := fnExactDescriptorForRow, standIns := [], harness := (true, "8458b1b0d1af341da98c86618066273f9c2061d289ad0ef8c4000ad9f789289f"), looks := false }, kinds := [], alts := [], laidByText := true, laidKinds := [.data, .pinned], laidTests := true, laidLooks := .later }
def FnExactDescriptorForCardSaid : Prop := Claim7.holds Tryz.pinned (.plain (OpenSpec.ofChange fnExactDescriptorForSpec)) fnExactDescriptorForCard

/-- THE TIED CARD OF 'laws.FnExactSlotStart'. -/
def fnExactSlotStartCard : Claim7 := { stood := { row := fnExactSlotStartRow, standIns := [], harness := (true, "8458b1b0d1af341da98c86618066273f9c2061d289ad0ef8c4000ad9f789289f"), looks := false }, kinds := [], alts := [], laidByText := true, laidKinds := [.data, .pinned], laidTests := true, laidLooks := .later }
def FnExactSlotStartCardSaid : Prop := Claim7.holds Tryz.pinned (.plain (OpenSpec.ofChange fnExactSlotStartSpec)) fnExactSlotStartCard

/-- THE TIED CARD OF 'laws.FnExactNextStateOf'. -/
def fnExactNextStateOfCard : Claim7 := { stood := { row := fnExactNextStateOfRow, standIns := [], harness := (true, "8458b1b0d1af341da98c86618066273f9c2061d289ad0ef8c4000ad9f789289f"), looks := false }, kinds := [], alts := [], laidByText := true, laidKinds := [.data, .pinned], laidTests := true, laidLooks := .later }
def FnExactNextStateOfCardSaid : Prop := Claim7.holds Tryz.pinned (.plain (OpenSpec.ofChange fnExactNextStateOfSpec)) fnExactNextStateOfCard

/-- THE TIED CARD OF 'laws.FnExactChangeMode'. -/
def fnExactChangeModeCard : Claim7 := { stood := { row := fnExactChangeModeRow, standIns := [], harness := (true, "8458b1b0d1af341da98c86618066273f9c2061d289ad0ef8c4000ad9f789289f"), looks := false }, kinds := [], alts := [], laidByText := true, laidKinds := [.data, .pinned], laidTests := true, laidLooks := .later }
def FnExactChangeModeCardSaid : Prop := Claim7.holds Tryz.pinned (.plain (OpenSpec.ofChange fnExactChangeModeSpec)) fnExactChangeModeCard

/-- THE SECOND FORM's CARD OF 'laws.FnExactFirstFault'. -/
def fnExactFirstFaultUptoCard : Claim7 := { stood := { row := fnExactFirstFaultUptoRow, standIns := [], harness := (true, "8458b1b0d1af341da98c86618066273f9c2061d289ad0ef8c4000ad9f789289f"), looks := false }, kinds := [], alts := [], laidByText := true, laidKinds := [.data, .pinned], laidTests := true, laidLooks := .later }
def FnExactFirstFaultUptoCardSaid : Prop := Claim7.holds Tryz.pinned (.plain (OpenSpec.upto fnExactFirstFaultSpec)) fnExactFirstFaultUptoCard

/-- THE SECOND FORM's CARD OF 'laws.FnExactIsMedl'. -/
def fnExactIsMedlUptoCard : Claim7 := { stood := { row := fnExactIsMedlUptoRow, standIns := [], harness := (true, "8458b1b0d1af341da98c86618066273f9c2061d289ad0ef8c4000ad9f789289f"), looks := false }, kinds := [], alts := [], laidByText := true, laidKinds := [.data, .pinned], laidTests := true, laidLooks := .later }
def FnExactIsMedlUptoCardSaid : Prop := Claim7.holds Tryz.pinned (.plain (OpenSpec.upto fnExactIsMedlSpec)) fnExactIsMedlUptoCard

/-- THE SECOND FORM's CARD OF 'laws.FnExactSenderOf'. -/
def fnExactSenderOfUptoCard : Claim7 := { stood := { row := fnExactSenderOfUptoRow, standIns := [], harness := (true, "8458b1b0d1af341da98c86618066273f9c2061d289ad0ef8c4000ad9f789289f"), looks := false }, kinds := [], alts := [], laidByText := true, laidKinds := [.data, .pinned], laidTests := true, laidLooks := .later }
def FnExactSenderOfUptoCardSaid : Prop := Claim7.holds Tryz.pinned (.plain (OpenSpec.upto fnExactSenderOfSpec)) fnExactSenderOfUptoCard

/-- THE SECOND FORM's CARD OF 'laws.FnExactBelongsTo'. -/
def fnExactBelongsToUptoCard : Claim7 := { stood := { row := fnExactBelongsToUptoRow, standIns := [], harness := (true, "8458b1b0d1af341da98c86618066273f9c2061d289ad0ef8c4000ad9f789289f"), looks := false }, kinds := [], alts := [], laidByText := true, laidKinds := [.data, .pinned], laidTests := true, laidLooks := .later }
def FnExactBelongsToUptoCardSaid : Prop := Claim7.holds Tryz.pinned (.plain (OpenSpec.upto fnExactBelongsToSpec)) fnExactBelongsToUptoCard

/-- THE SECOND FORM's CARD OF 'laws.FnExactCycleTime'. -/
def fnExactCycleTimeUptoCard : Claim7 := { stood := { row := fnExactCycleTimeUptoRow, standIns := [], harness := (true, "8458b1b0d1af341da98c86618066273f9c2061d289ad0ef8c4000ad9f789289f"), looks := false }, kinds := [], alts := [], laidByText := true, laidKinds := [.data, .pinned], laidTests := true, laidLooks := .later }
def FnExactCycleTimeUptoCardSaid : Prop := Claim7.holds Tryz.pinned (.plain (OpenSpec.upto fnExactCycleTimeSpec)) fnExactCycleTimeUptoCard

/-- THE SECOND FORM's CARD OF 'laws.FnExactRoundTime'. -/
def fnExactRoundTimeUptoCard : Claim7 := { stood := { row := fnExactRoundTimeUptoRow, standIns := [], harness := (true, "8458b1b0d1af341da98c86618066273f9c2061d289ad0ef8c4000ad9f789289f"), looks := false }, kinds := [], alts := [], laidByText := true, laidKinds := [.data, .pinned], laidTests := true, laidLooks := .later }
def FnExactRoundTimeUptoCardSaid : Prop := Claim7.holds Tryz.pinned (.plain (OpenSpec.upto fnExactRoundTimeSpec)) fnExactRoundTimeUptoCard

/-- THE SECOND FORM's CARD OF 'laws.FnExactSlotAt'. -/
def fnExactSlotAtUptoCard : Claim7 := { stood := { row := fnExactSlotAtUptoRow, standIns := [], harness := (true, "8458b1b0d1af341da98c86618066273f9c2061d289ad0ef8c4000ad9f789289f"), looks := false }, kinds := [], alts := [], laidByText := true, laidKinds := [.data, .pinned], laidTests := true, laidLooks := .later }
def FnExactSlotAtUptoCardSaid : Prop := Claim7.holds Tryz.pinned (.plain (OpenSpec.upto fnExactSlotAtSpec)) fnExactSlotAtUptoCard

/-- THE SECOND FORM's CARD OF 'laws.FnExactDescriptorFor'. -/
def fnExactDescriptorForUptoCard : Claim7 := { stood := { row := fnExactDescriptorForUptoRow, standIns := [], harness := (true, "8458b1b0d1af341da98c86618066273f9c2061d289ad0ef8c4000ad9f789289f"), looks := false }, kinds := [], alts := [], laidByText := true, laidKinds := [.data, .pinned], laidTests := true, laidLooks := .later }
def FnExactDescriptorForUptoCardSaid : Prop := Claim7.holds Tryz.pinned (.plain (OpenSpec.upto fnExactDescriptorForSpec)) fnExactDescriptorForUptoCard

/-- THE SECOND FORM's CARD OF 'laws.FnExactSlotStart'. -/
def fnExactSlotStartUptoCard : Claim7 := { stood := { row := fnExactSlotStartUptoRow, standIns := [], harness := (true, "8458b1b0d1af341da98c86618066273f9c2061d289ad0ef8c4000ad9f789289f"), looks := false }, kinds := [], alts := [], laidByText := true, laidKinds := [.data, .pinned], laidTests := true, laidLooks := .later }
def FnExactSlotStartUptoCardSaid : Prop := Claim7.holds Tryz.pinned (.plain (OpenSpec.upto fnExactSlotStartSpec)) fnExactSlotStartUptoCard

/-- THE SECOND FORM's CARD OF 'laws.FnExactNextStateOf'. -/
def fnExactNextStateOfUptoCard : Claim7 := { stood := { row := fnExactNextStateOfUptoRow, standIns := [], harness := (true, "8458b1b0d1af341da98c86618066273f9c2061d289ad0ef8c4000ad9f789289f"), looks := false }, kinds := [], alts := [], laidByText := true, laidKinds := [.data, .pinned], laidTests := true, laidLooks := .later }
def FnExactNextStateOfUptoCardSaid : Prop := Claim7.holds Tryz.pinned (.plain (OpenSpec.upto fnExactNextStateOfSpec)) fnExactNextStateOfUptoCard

/-- THE SECOND FORM's CARD OF 'laws.FnExactChangeMode'. -/
def fnExactChangeModeUptoCard : Claim7 := { stood := { row := fnExactChangeModeUptoRow, standIns := [], harness := (true, "8458b1b0d1af341da98c86618066273f9c2061d289ad0ef8c4000ad9f789289f"), looks := false }, kinds := [], alts := [], laidByText := true, laidKinds := [.data, .pinned], laidTests := true, laidLooks := .later }
def FnExactChangeModeUptoCardSaid : Prop := Claim7.holds Tryz.pinned (.plain (OpenSpec.upto fnExactChangeModeSpec)) fnExactChangeModeUptoCard
end Rows
end Go.Proofs.YtfmihehpdfmgfaaGreatDoor
