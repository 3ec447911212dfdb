/-
  DERIVED. GIVEN WITH THE SEED: THE CARDS: each row of YtdoibplhbdkapaaGreatDoorRows.lean that lists a variable, with what it lists TIED to the program's text (the seventh form; the later family's looks); each row that meets fmt, with fmt's text TOLD by the authors' own Lean function (tested against real Go, not proved from fmt's source: count such statements apart). THE CARD IS WHAT COUNTS. Prove the row's statement (the work); the ties are given (YtdoibplhbdkapaaGreatDoorTie.lean); close each card by the builder's one call (the guide's Derived/Test/ToyasCard.lean, 'card_holds'). Laid BY PROGRAM, IN A SANDBOX (cutbox-door.mjs). By AI agents, Wed Nov 11 2026. No macro, syntax, notation, axiom, sorry.
-/
import Derived.Test.YtdoibplhbdkapaaGreatDoorRows
import GoSem.ClaimSeven
namespace Go.Proofs.YtdoibplhbdkapaaGreatDoor
namespace Rows

/-- THE TIED CARD OF 'laws.FnSchedules'. -/
def fnSchedulesCard : Claim7 := { stood := { row := fnSchedulesRow, standIns := [], harness := (true, "9d3b8bcd3f057db7ce87d49064bbf274986517e6a2e4614acdb81aa3eaa2e189"), looks := false }, kinds := [], alts := [], laidByText := true, laidKinds := [.data, .pinned], laidTests := true, laidLooks := .later }
def FnSchedulesCardSaid : Prop := Claim7.holds Tryz.pinned (.plain (OpenSpec.ofChange fnSchedulesSpec)) fnSchedulesCard

/-- THE TIED CARD OF 'laws.FnExactDecodeImage'. -/
def fnExactDecodeImageCard : Claim7 := { stood := { row := fnExactDecodeImageRow, standIns := [], harness := (true, "9d3b8bcd3f057db7ce87d49064bbf274986517e6a2e4614acdb81aa3eaa2e189"), looks := false }, kinds := [], alts := [], laidByText := true, laidKinds := [.data, .pinned], laidTests := true, laidLooks := .later }
def FnExactDecodeImageCardSaid : Prop := Claim7.holds Tryz.pinned (.plain (OpenSpec.ofChange fnExactDecodeImageSpec)) fnExactDecodeImageCard

/-- THE TIED CARD OF 'laws.FnDecoded'. -/
def fnDecodedCard : Claim7 := { stood := { row := fnDecodedRow, standIns := [], harness := (true, "9d3b8bcd3f057db7ce87d49064bbf274986517e6a2e4614acdb81aa3eaa2e189"), looks := false }, kinds := [], alts := [], laidByText := true, laidKinds := [.data, .pinned], laidTests := true, laidLooks := .later }
def FnDecodedCardSaid : Prop := Claim7.holds Tryz.pinned (.plain (OpenSpec.ofChange fnDecodedSpec)) fnDecodedCard

/-- THE TIED CARD OF 'laws.FnSenders'. -/
def fnSendersCard : Claim7 := { stood := { row := fnSendersRow, standIns := [], harness := (true, "9d3b8bcd3f057db7ce87d49064bbf274986517e6a2e4614acdb81aa3eaa2e189"), looks := false }, kinds := [], alts := [], laidByText := true, laidKinds := [.data, .pinned], laidTests := true, laidLooks := .later }
def FnSendersCardSaid : Prop := Claim7.holds Tryz.pinned (.plain (OpenSpec.ofChange fnSendersSpec)) fnSendersCard

/-- THE TIED CARD OF 'laws.FnSlotAt'. -/
def fnSlotAtCard : Claim7 := { stood := { row := fnSlotAtRow, standIns := [], harness := (true, "9d3b8bcd3f057db7ce87d49064bbf274986517e6a2e4614acdb81aa3eaa2e189"), looks := false }, kinds := [], alts := [], laidByText := true, laidKinds := [.data, .pinned], laidTests := true, laidLooks := .later }
def FnSlotAtCardSaid : Prop := Claim7.holds Tryz.pinned (.plain (OpenSpec.ofChange fnSlotAtSpec)) fnSlotAtCard

/-- THE TIED CARD OF 'laws.FnSlotTimes'. -/
def fnSlotTimesCard : Claim7 := { stood := { row := fnSlotTimesRow, standIns := [], harness := (true, "9d3b8bcd3f057db7ce87d49064bbf274986517e6a2e4614acdb81aa3eaa2e189"), looks := false }, kinds := [], alts := [], laidByText := true, laidKinds := [.data, .pinned], laidTests := true, laidLooks := .later }
def FnSlotTimesCardSaid : Prop := Claim7.holds Tryz.pinned (.plain (OpenSpec.ofChange fnSlotTimesSpec)) fnSlotTimesCard

/-- THE TIED CARD OF 'laws.FnExactScheduleFromBytes'. -/
def fnExactScheduleFromBytesCard : Claim7 := { stood := { row := fnExactScheduleFromBytesRow, standIns := [], harness := (true, "9d3b8bcd3f057db7ce87d49064bbf274986517e6a2e4614acdb81aa3eaa2e189"), looks := false }, kinds := [], alts := [], laidByText := true, laidKinds := [.data, .pinned], laidTests := true, laidLooks := .later }
def FnExactScheduleFromBytesCardSaid : Prop := Claim7.holds Tryz.pinned (.plain (OpenSpec.ofChange fnExactScheduleFromBytesSpec)) fnExactScheduleFromBytesCard

/-- THE TIED CARD OF 'laws.FnExactEncodeImage'. -/
def fnExactEncodeImageCard : Claim7 := { stood := { row := fnExactEncodeImageRow, standIns := [], harness := (true, "9d3b8bcd3f057db7ce87d49064bbf274986517e6a2e4614acdb81aa3eaa2e189"), looks := false }, kinds := [], alts := [], laidByText := true, laidKinds := [.data, .pinned], laidTests := true, laidLooks := .later }
def FnExactEncodeImageCardSaid : Prop := Claim7.holds Tryz.pinned (.plain (OpenSpec.ofChange fnExactEncodeImageSpec)) fnExactEncodeImageCard

/-- THE SECOND FORM's CARD OF 'laws.FnSchedules'. -/
def fnSchedulesUptoCard : Claim7 := { stood := { row := fnSchedulesUptoRow, standIns := [], harness := (true, "9d3b8bcd3f057db7ce87d49064bbf274986517e6a2e4614acdb81aa3eaa2e189"), looks := false }, kinds := [], alts := [], laidByText := true, laidKinds := [.data, .pinned], laidTests := true, laidLooks := .later }
def FnSchedulesUptoCardSaid : Prop := Claim7.holds Tryz.pinned (.plain (OpenSpec.upto fnSchedulesSpec)) fnSchedulesUptoCard

/-- THE SECOND FORM's CARD OF 'laws.FnExactDecodeImage'. -/
def fnExactDecodeImageUptoCard : Claim7 := { stood := { row := fnExactDecodeImageUptoRow, standIns := [], harness := (true, "9d3b8bcd3f057db7ce87d49064bbf274986517e6a2e4614acdb81aa3eaa2e189"), looks := false }, kinds := [], alts := [], laidByText := true, laidKinds := [.data, .pinned], laidTests := true, laidLooks := .later }
def FnExactDecodeImageUptoCardSaid : Prop := Claim7.holds Tryz.pinned (.plain (OpenSpec.upto fnExactDecodeImageSpec)) fnExactDecodeImageUptoCard

/-- THE SECOND FORM's CARD OF 'laws.FnDecoded'. -/
def fnDecodedUptoCard : Claim7 := { stood := { row := fnDecodedUptoRow, standIns := [], harness := (true, "9d3b8bcd3f057db7ce87d49064bbf274986517e6a2e4614acdb81aa3eaa2e189"), looks := false }, kinds := [], alts := [], laidByText := true, laidKinds := [.data, .pinned], laidTests := true, laidLooks := .later }
def FnDecodedUptoCardSaid : Prop := Claim7.holds Tryz.pinned (.plain (OpenSpec.upto fnDecodedSpec)) fnDecodedUptoCard

/-- THE SECOND FORM's CARD OF 'laws.FnSenders'. -/
def fnSendersUptoCard : Claim7 := { stood := { row := fnSendersUptoRow, standIns := [], harness := (true, "9d3b8bcd3f057db7ce87d49064bbf274986517e6a2e4614acdb81aa3eaa2e189"), looks := false }, kinds := [], alts := [], laidByText := true, laidKinds := [.data, .pinned], laidTests := true, laidLooks := .later }
def FnSendersUptoCardSaid : Prop := Claim7.holds Tryz.pinned (.plain (OpenSpec.upto fnSendersSpec)) fnSendersUptoCard

/-- THE SECOND FORM's CARD OF 'laws.FnSlotAt'. -/
def fnSlotAtUptoCard : Claim7 := { stood := { row := fnSlotAtUptoRow, standIns := [], harness := (true, "9d3b8bcd3f057db7ce87d49064bbf274986517e6a2e4614acdb81aa3eaa2e189"), looks := false }, kinds := [], alts := [], laidByText := true, laidKinds := [.data, .pinned], laidTests := true, laidLooks := .later }
def FnSlotAtUptoCardSaid : Prop := Claim7.holds Tryz.pinned (.plain (OpenSpec.upto fnSlotAtSpec)) fnSlotAtUptoCard

/-- THE SECOND FORM's CARD OF 'laws.FnSlotTimes'. -/
def fnSlotTimesUptoCard : Claim7 := { stood := { row := fnSlotTimesUptoRow, standIns := [], harness := (true, "9d3b8bcd3f057db7ce87d49064bbf274986517e6a2e4614acdb81aa3eaa2e189"), looks := false }, kinds := [], alts := [], laidByText := true, laidKinds := [.data, .pinned], laidTests := true, laidLooks := .later }
def FnSlotTimesUptoCardSaid : Prop := Claim7.holds Tryz.pinned (.plain (OpenSpec.upto fnSlotTimesSpec)) fnSlotTimesUptoCard

/-- THE SECOND FORM's CARD OF 'laws.FnExactScheduleFromBytes'. -/
def fnExactScheduleFromBytesUptoCard : Claim7 := { stood := { row := fnExactScheduleFromBytesUptoRow, standIns := [], harness := (true, "9d3b8bcd3f057db7ce87d49064bbf274986517e6a2e4614acdb81aa3eaa2e189"), looks := false }, kinds := [], alts := [], laidByText := true, laidKinds := [.data, .pinned], laidTests := true, laidLooks := .later }
def FnExactScheduleFromBytesUptoCardSaid : Prop := Claim7.holds Tryz.pinned (.plain (OpenSpec.upto fnExactScheduleFromBytesSpec)) fnExactScheduleFromBytesUptoCard

/-- THE SECOND FORM's CARD OF 'laws.FnExactEncodeImage'. -/
def fnExactEncodeImageUptoCard : Claim7 := { stood := { row := fnExactEncodeImageUptoRow, standIns := [], harness := (true, "9d3b8bcd3f057db7ce87d49064bbf274986517e6a2e4614acdb81aa3eaa2e189"), looks := false }, kinds := [], alts := [], laidByText := true, laidKinds := [.data, .pinned], laidTests := true, laidLooks := .later }
def FnExactEncodeImageUptoCardSaid : Prop := Claim7.holds Tryz.pinned (.plain (OpenSpec.upto fnExactEncodeImageSpec)) fnExactEncodeImageUptoCard
end Rows
end Go.Proofs.YtdoibplhbdkapaaGreatDoor
