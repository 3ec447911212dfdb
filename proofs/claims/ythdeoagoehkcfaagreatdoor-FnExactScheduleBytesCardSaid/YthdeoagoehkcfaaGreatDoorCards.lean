/-
  DERIVED. GIVEN WITH THE SEED: THE CARDS: each row of YthdeoagoehkcfaaGreatDoorRows.lean that lists a variable, with what it lists TIED to the program's text (the seventh form; the later family's looks); each row that meets fmt, with fmt's text TOLD by the authors' own Lean function (tested against real Go, not proved from fmt's source: count such statements apart). THE CARD IS WHAT COUNTS. Prove the row's statement (the work); the ties are given (YthdeoagoehkcfaaGreatDoorTie.lean); close each card by the builder's one call (the guide's Derived/Test/ToyasCard.lean, 'card_holds'). Laid BY PROGRAM, IN A SANDBOX (cutbox-door.mjs). By AI agents, Wed Nov 11 2026. No macro, syntax, notation, axiom, sorry.
-/
import Derived.Test.YthdeoagoehkcfaaGreatDoorRows
import GoSem.ClaimSeven
namespace Go.Proofs.YthdeoagoehkcfaaGreatDoor
namespace Rows

/-- THE TIED CARD OF 'laws.FnExactDecodeImage'. -/
def fnExactDecodeImageCard : Claim7 := { stood := { row := fnExactDecodeImageRow, standIns := [], harness := (true, "b6b7e603f212adf66d38a31277ea0e5470f44d1e94511ff54ca58fd51d3f0bd9"), looks := false }, kinds := [], alts := [], laidByText := true, laidKinds := [.data, .pinned], laidTests := true, laidLooks := .later }
def FnExactDecodeImageCardSaid : Prop := Claim7.holds Tryz.pinned (.plain (OpenSpec.ofChange fnExactDecodeImageSpec)) fnExactDecodeImageCard

/-- THE TIED CARD OF 'laws.FnExactSendTimes'. -/
def fnExactSendTimesCard : Claim7 := { stood := { row := fnExactSendTimesRow, standIns := [], harness := (true, "b6b7e603f212adf66d38a31277ea0e5470f44d1e94511ff54ca58fd51d3f0bd9"), looks := false }, kinds := [], alts := [], laidByText := true, laidKinds := [.data, .pinned], laidTests := true, laidLooks := .later }
def FnExactSendTimesCardSaid : Prop := Claim7.holds Tryz.pinned (.plain (OpenSpec.ofChange fnExactSendTimesSpec)) fnExactSendTimesCard

/-- THE TIED CARD OF 'laws.FnExactScheduleBytes'. -/
def fnExactScheduleBytesCard : Claim7 := { stood := { row := fnExactScheduleBytesRow, standIns := [], harness := (true, "b6b7e603f212adf66d38a31277ea0e5470f44d1e94511ff54ca58fd51d3f0bd9"), looks := false }, kinds := [], alts := [], laidByText := true, laidKinds := [.data, .pinned], laidTests := true, laidLooks := .later }
def FnExactScheduleBytesCardSaid : Prop := Claim7.holds Tryz.pinned (.plain (OpenSpec.ofChange fnExactScheduleBytesSpec)) fnExactScheduleBytesCard

/-- THE TIED CARD OF 'laws.FnExactWithId'. -/
def fnExactWithIdCard : Claim7 := { stood := { row := fnExactWithIdRow, standIns := [], harness := (true, "b6b7e603f212adf66d38a31277ea0e5470f44d1e94511ff54ca58fd51d3f0bd9"), looks := false }, kinds := [], alts := [], laidByText := true, laidKinds := [.data, .pinned], laidTests := true, laidLooks := .later }
def FnExactWithIdCardSaid : Prop := Claim7.holds Tryz.pinned (.plain (OpenSpec.ofChange fnExactWithIdSpec)) fnExactWithIdCard

/-- THE TIED CARD OF 'laws.FnExactStatesOfCycle'. -/
def fnExactStatesOfCycleCard : Claim7 := { stood := { row := fnExactStatesOfCycleRow, standIns := [], harness := (true, "b6b7e603f212adf66d38a31277ea0e5470f44d1e94511ff54ca58fd51d3f0bd9"), looks := false }, kinds := [], alts := [], laidByText := true, laidKinds := [.data, .pinned], laidTests := true, laidLooks := .later }
def FnExactStatesOfCycleCardSaid : Prop := Claim7.holds Tryz.pinned (.plain (OpenSpec.ofChange fnExactStatesOfCycleSpec)) fnExactStatesOfCycleCard

/-- THE TIED CARD OF 'laws.FnExactScheduleFromBytes'. -/
def fnExactScheduleFromBytesCard : Claim7 := { stood := { row := fnExactScheduleFromBytesRow, standIns := [], harness := (true, "b6b7e603f212adf66d38a31277ea0e5470f44d1e94511ff54ca58fd51d3f0bd9"), looks := false }, kinds := [], alts := [], laidByText := true, laidKinds := [.data, .pinned], laidTests := true, laidLooks := .later }
def FnExactScheduleFromBytesCardSaid : Prop := Claim7.holds Tryz.pinned (.plain (OpenSpec.ofChange fnExactScheduleFromBytesSpec)) fnExactScheduleFromBytesCard

/-- THE TIED CARD OF 'laws.FnExactEncodeImage'. -/
def fnExactEncodeImageCard : Claim7 := { stood := { row := fnExactEncodeImageRow, standIns := [], harness := (true, "b6b7e603f212adf66d38a31277ea0e5470f44d1e94511ff54ca58fd51d3f0bd9"), looks := false }, kinds := [], alts := [], laidByText := true, laidKinds := [.data, .pinned], laidTests := true, laidLooks := .later }
def FnExactEncodeImageCardSaid : Prop := Claim7.holds Tryz.pinned (.plain (OpenSpec.ofChange fnExactEncodeImageSpec)) fnExactEncodeImageCard

/-- THE SECOND FORM's CARD OF 'laws.FnExactDecodeImage'. -/
def fnExactDecodeImageUptoCard : Claim7 := { stood := { row := fnExactDecodeImageUptoRow, standIns := [], harness := (true, "b6b7e603f212adf66d38a31277ea0e5470f44d1e94511ff54ca58fd51d3f0bd9"), looks := false }, kinds := [], alts := [], laidByText := true, laidKinds := [.data, .pinned], laidTests := true, laidLooks := .later }
def FnExactDecodeImageUptoCardSaid : Prop := Claim7.holds Tryz.pinned (.plain (OpenSpec.upto fnExactDecodeImageSpec)) fnExactDecodeImageUptoCard

/-- THE SECOND FORM's CARD OF 'laws.FnExactSendTimes'. -/
def fnExactSendTimesUptoCard : Claim7 := { stood := { row := fnExactSendTimesUptoRow, standIns := [], harness := (true, "b6b7e603f212adf66d38a31277ea0e5470f44d1e94511ff54ca58fd51d3f0bd9"), looks := false }, kinds := [], alts := [], laidByText := true, laidKinds := [.data, .pinned], laidTests := true, laidLooks := .later }
def FnExactSendTimesUptoCardSaid : Prop := Claim7.holds Tryz.pinned (.plain (OpenSpec.upto fnExactSendTimesSpec)) fnExactSendTimesUptoCard

/-- THE SECOND FORM's CARD OF 'laws.FnExactScheduleBytes'. -/
def fnExactScheduleBytesUptoCard : Claim7 := { stood := { row := fnExactScheduleBytesUptoRow, standIns := [], harness := (true, "b6b7e603f212adf66d38a31277ea0e5470f44d1e94511ff54ca58fd51d3f0bd9"), looks := false }, kinds := [], alts := [], laidByText := true, laidKinds := [.data, .pinned], laidTests := true, laidLooks := .later }
def FnExactScheduleBytesUptoCardSaid : Prop := Claim7.holds Tryz.pinned (.plain (OpenSpec.upto fnExactScheduleBytesSpec)) fnExactScheduleBytesUptoCard

/-- THE SECOND FORM's CARD OF 'laws.FnExactWithId'. -/
def fnExactWithIdUptoCard : Claim7 := { stood := { row := fnExactWithIdUptoRow, standIns := [], harness := (true, "b6b7e603f212adf66d38a31277ea0e5470f44d1e94511ff54ca58fd51d3f0bd9"), looks := false }, kinds := [], alts := [], laidByText := true, laidKinds := [.data, .pinned], laidTests := true, laidLooks := .later }
def FnExactWithIdUptoCardSaid : Prop := Claim7.holds Tryz.pinned (.plain (OpenSpec.upto fnExactWithIdSpec)) fnExactWithIdUptoCard

/-- THE SECOND FORM's CARD OF 'laws.FnExactStatesOfCycle'. -/
def fnExactStatesOfCycleUptoCard : Claim7 := { stood := { row := fnExactStatesOfCycleUptoRow, standIns := [], harness := (true, "b6b7e603f212adf66d38a31277ea0e5470f44d1e94511ff54ca58fd51d3f0bd9"), looks := false }, kinds := [], alts := [], laidByText := true, laidKinds := [.data, .pinned], laidTests := true, laidLooks := .later }
def FnExactStatesOfCycleUptoCardSaid : Prop := Claim7.holds Tryz.pinned (.plain (OpenSpec.upto fnExactStatesOfCycleSpec)) fnExactStatesOfCycleUptoCard

/-- THE SECOND FORM's CARD OF 'laws.FnExactScheduleFromBytes'. -/
def fnExactScheduleFromBytesUptoCard : Claim7 := { stood := { row := fnExactScheduleFromBytesUptoRow, standIns := [], harness := (true, "b6b7e603f212adf66d38a31277ea0e5470f44d1e94511ff54ca58fd51d3f0bd9"), looks := false }, kinds := [], alts := [], laidByText := true, laidKinds := [.data, .pinned], laidTests := true, laidLooks := .later }
def FnExactScheduleFromBytesUptoCardSaid : Prop := Claim7.holds Tryz.pinned (.plain (OpenSpec.upto fnExactScheduleFromBytesSpec)) fnExactScheduleFromBytesUptoCard

/-- THE SECOND FORM's CARD OF 'laws.FnExactEncodeImage'. -/
def fnExactEncodeImageUptoCard : Claim7 := { stood := { row := fnExactEncodeImageUptoRow, standIns := [], harness := (true, "b6b7e603f212adf66d38a31277ea0e5470f44d1e94511ff54ca58fd51d3f0bd9"), looks := false }, kinds := [], alts := [], laidByText := true, laidKinds := [.data, .pinned], laidTests := true, laidLooks := .later }
def FnExactEncodeImageUptoCardSaid : Prop := Claim7.holds Tryz.pinned (.plain (OpenSpec.upto fnExactEncodeImageSpec)) fnExactEncodeImageUptoCard
end Rows
end Go.Proofs.YthdeoagoehkcfaaGreatDoor
