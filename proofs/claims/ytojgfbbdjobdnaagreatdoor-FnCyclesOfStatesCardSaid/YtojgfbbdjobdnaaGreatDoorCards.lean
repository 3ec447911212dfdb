/-
  DERIVED. GIVEN WITH THE SEED: THE CARDS: each row of YtojgfbbdjobdnaaGreatDoorRows.lean that lists a variable, with what it lists TIED to the program's text (the seventh form; the later family's looks); each row that meets fmt, with fmt's text TOLD by the authors' own Lean function (tested against real Go, not proved from fmt's source: count such statements apart). THE CARD IS WHAT COUNTS. Prove the row's statement (the work); the ties are given (YtojgfbbdjobdnaaGreatDoorTie.lean); close each card by the builder's one call (the guide's Derived/Test/ToyasCard.lean, 'card_holds'). Laid BY PROGRAM, IN A SANDBOX (cutbox-door.mjs). By AI agents, Wed Nov 11 2026. No macro, syntax, notation, axiom, sorry.
-/
import Derived.Test.YtojgfbbdjobdnaaGreatDoorRows
import GoSem.ClaimSeven
namespace Go.Proofs.YtojgfbbdjobdnaaGreatDoor
namespace Rows

/-- THE TIED CARD OF 'laws.FnSchedules'. -/
def fnSchedulesCard : Claim7 := { stood := { row := fnSchedulesRow, standIns := [], harness := (true, "a3d70ef78196423dfcdef9bd2e3aaa75f1e6bd02bbefc60196699ec7a33f8f22"), looks := false }, kinds := [], alts := [], laidByText := true, laidKinds := [.data, .pinned], laidTests := true, laidLooks := .later }
def FnSchedulesCardSaid : Prop := Claim7.holds Tryz.pinned (.plain (OpenSpec.ofChange fnSchedulesSpec)) fnSchedulesCard

/-- THE TIED CARD OF 'laws.FnDecoded'. -/
def fnDecodedCard : Claim7 := { stood := { row := fnDecodedRow, standIns := [], harness := (true, "a3d70ef78196423dfcdef9bd2e3aaa75f1e6bd02bbefc60196699ec7a33f8f22"), looks := false }, kinds := [], alts := [], laidByText := true, laidKinds := [.data, .pinned], laidTests := true, laidLooks := .later }
def FnDecodedCardSaid : Prop := Claim7.holds Tryz.pinned (.plain (OpenSpec.ofChange fnDecodedSpec)) fnDecodedCard

/-- THE TIED CARD OF 'laws.FnWellFormed'. -/
def fnWellFormedCard : Claim7 := { stood := { row := fnWellFormedRow, standIns := [], harness := (true, "a3d70ef78196423dfcdef9bd2e3aaa75f1e6bd02bbefc60196699ec7a33f8f22"), looks := false }, kinds := [], alts := [], laidByText := true, laidKinds := [.data, .pinned], laidTests := true, laidLooks := .later }
def FnWellFormedCardSaid : Prop := Claim7.holds Tryz.pinned (.plain (OpenSpec.ofChange fnWellFormedSpec)) fnWellFormedCard

/-- THE TIED CARD OF 'laws.FnSenders'. -/
def fnSendersCard : Claim7 := { stood := { row := fnSendersRow, standIns := [], harness := (true, "a3d70ef78196423dfcdef9bd2e3aaa75f1e6bd02bbefc60196699ec7a33f8f22"), looks := false }, kinds := [], alts := [], laidByText := true, laidKinds := [.data, .pinned], laidTests := true, laidLooks := .later }
def FnSendersCardSaid : Prop := Claim7.holds Tryz.pinned (.plain (OpenSpec.ofChange fnSendersSpec)) fnSendersCard

/-- THE TIED CARD OF 'laws.FnChanged'. -/
def fnChangedCard : Claim7 := { stood := { row := fnChangedRow, standIns := [], harness := (true, "a3d70ef78196423dfcdef9bd2e3aaa75f1e6bd02bbefc60196699ec7a33f8f22"), looks := false }, kinds := [], alts := [], laidByText := true, laidKinds := [.data, .pinned], laidTests := true, laidLooks := .later }
def FnChangedCardSaid : Prop := Claim7.holds Tryz.pinned (.plain (OpenSpec.ofChange fnChangedSpec)) fnChangedCard

/-- THE TIED CARD OF 'laws.FnSlotAt'. -/
def fnSlotAtCard : Claim7 := { stood := { row := fnSlotAtRow, standIns := [], harness := (true, "a3d70ef78196423dfcdef9bd2e3aaa75f1e6bd02bbefc60196699ec7a33f8f22"), looks := false }, kinds := [], alts := [], laidByText := true, laidKinds := [.data, .pinned], laidTests := true, laidLooks := .later }
def FnSlotAtCardSaid : Prop := Claim7.holds Tryz.pinned (.plain (OpenSpec.ofChange fnSlotAtSpec)) fnSlotAtCard

/-- THE TIED CARD OF 'laws.FnCyclesOfStates'. -/
def fnCyclesOfStatesCard : Claim7 := { stood := { row := fnCyclesOfStatesRow, standIns := [], harness := (true, "a3d70ef78196423dfcdef9bd2e3aaa75f1e6bd02bbefc60196699ec7a33f8f22"), looks := false }, kinds := [], alts := [], laidByText := true, laidKinds := [.data, .pinned], laidTests := true, laidLooks := .later }
def FnCyclesOfStatesCardSaid : Prop := Claim7.holds Tryz.pinned (.plain (OpenSpec.ofChange fnCyclesOfStatesSpec)) fnCyclesOfStatesCard

/-- THE TIED CARD OF 'laws.FnSlotTimes'. -/
def fnSlotTimesCard : Claim7 := { stood := { row := fnSlotTimesRow, standIns := [], harness := (true, "a3d70ef78196423dfcdef9bd2e3aaa75f1e6bd02bbefc60196699ec7a33f8f22"), looks := false }, kinds := [], alts := [], laidByText := true, laidKinds := [.data, .pinned], laidTests := true, laidLooks := .later }
def FnSlotTimesCardSaid : Prop := Claim7.holds Tryz.pinned (.plain (OpenSpec.ofChange fnSlotTimesSpec)) fnSlotTimesCard

/-- THE SECOND FORM's CARD OF 'laws.FnSchedules'. -/
def fnSchedulesUptoCard : Claim7 := { stood := { row := fnSchedulesUptoRow, standIns := [], harness := (true, "a3d70ef78196423dfcdef9bd2e3aaa75f1e6bd02bbefc60196699ec7a33f8f22"), looks := false }, kinds := [], alts := [], laidByText := true, laidKinds := [.data, .pinned], laidTests := true, laidLooks := .later }
def FnSchedulesUptoCardSaid : Prop := Claim7.holds Tryz.pinned (.plain (OpenSpec.upto fnSchedulesSpec)) fnSchedulesUptoCard

/-- THE SECOND FORM's CARD OF 'laws.FnDecoded'. -/
def fnDecodedUptoCard : Claim7 := { stood := { row := fnDecodedUptoRow, standIns := [], harness := (true, "a3d70ef78196423dfcdef9bd2e3aaa75f1e6bd02bbefc60196699ec7a33f8f22"), looks := false }, kinds := [], alts := [], laidByText := true, laidKinds := [.data, .pinned], laidTests := true, laidLooks := .later }
def FnDecodedUptoCardSaid : Prop := Claim7.holds Tryz.pinned (.plain (OpenSpec.upto fnDecodedSpec)) fnDecodedUptoCard

/-- THE SECOND FORM's CARD OF 'laws.FnWellFormed'. -/
def fnWellFormedUptoCard : Claim7 := { stood := { row := fnWellFormedUptoRow, standIns := [], harness := (true, "a3d70ef78196423dfcdef9bd2e3aaa75f1e6bd02bbefc60196699ec7a33f8f22"), looks := false }, kinds := [], alts := [], laidByText := true, laidKinds := [.data, .pinned], laidTests := true, laidLooks := .later }
def FnWellFormedUptoCardSaid : Prop := Claim7.holds Tryz.pinned (.plain (OpenSpec.upto fnWellFormedSpec)) fnWellFormedUptoCard

/-- THE SECOND FORM's CARD OF 'laws.FnSenders'. -/
def fnSendersUptoCard : Claim7 := { stood := { row := fnSendersUptoRow, standIns := [], harness := (true, "a3d70ef78196423dfcdef9bd2e3aaa75f1e6bd02bbefc60196699ec7a33f8f22"), looks := false }, kinds := [], alts := [], laidByText := true, laidKinds := [.data, .pinned], laidTests := true, laidLooks := .later }
def FnSendersUptoCardSaid : Prop := Claim7.holds Tryz.pinned (.plain (OpenSpec.upto fnSendersSpec)) fnSendersUptoCard

/-- THE SECOND FORM's CARD OF 'laws.FnChanged'. -/
def fnChangedUptoCard : Claim7 := { stood := { row := fnChangedUptoRow, standIns := [], harness := (true, "a3d70ef78196423dfcdef9bd2e3aaa75f1e6bd02bbefc60196699ec7a33f8f22"), looks := false }, kinds := [], alts := [], laidByText := true, laidKinds := [.data, .pinned], laidTests := true, laidLooks := .later }
def FnChangedUptoCardSaid : Prop := Claim7.holds Tryz.pinned (.plain (OpenSpec.upto fnChangedSpec)) fnChangedUptoCard

/-- THE SECOND FORM's CARD OF 'laws.FnSlotAt'. -/
def fnSlotAtUptoCard : Claim7 := { stood := { row := fnSlotAtUptoRow, standIns := [], harness := (true, "a3d70ef78196423dfcdef9bd2e3aaa75f1e6bd02bbefc60196699ec7a33f8f22"), looks := false }, kinds := [], alts := [], laidByText := true, laidKinds := [.data, .pinned], laidTests := true, laidLooks := .later }
def FnSlotAtUptoCardSaid : Prop := Claim7.holds Tryz.pinned (.plain (OpenSpec.upto fnSlotAtSpec)) fnSlotAtUptoCard

/-- THE SECOND FORM's CARD OF 'laws.FnCyclesOfStates'. -/
def fnCyclesOfStatesUptoCard : Claim7 := { stood := { row := fnCyclesOfStatesUptoRow, standIns := [], harness := (true, "a3d70ef78196423dfcdef9bd2e3aaa75f1e6bd02bbefc60196699ec7a33f8f22"), looks := false }, kinds := [], alts := [], laidByText := true, laidKinds := [.data, .pinned], laidTests := true, laidLooks := .later }
def FnCyclesOfStatesUptoCardSaid : Prop := Claim7.holds Tryz.pinned (.plain (OpenSpec.upto fnCyclesOfStatesSpec)) fnCyclesOfStatesUptoCard

/-- THE SECOND FORM's CARD OF 'laws.FnSlotTimes'. -/
def fnSlotTimesUptoCard : Claim7 := { stood := { row := fnSlotTimesUptoRow, standIns := [], harness := (true, "a3d70ef78196423dfcdef9bd2e3aaa75f1e6bd02bbefc60196699ec7a33f8f22"), looks := false }, kinds := [], alts := [], laidByText := true, laidKinds := [.data, .pinned], laidTests := true, laidLooks := .later }
def FnSlotTimesUptoCardSaid : Prop := Claim7.holds Tryz.pinned (.plain (OpenSpec.upto fnSlotTimesSpec)) fnSlotTimesUptoCard
end Rows
end Go.Proofs.YtojgfbbdjobdnaaGreatDoor
