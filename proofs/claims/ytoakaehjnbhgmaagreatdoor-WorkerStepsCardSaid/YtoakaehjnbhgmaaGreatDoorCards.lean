/-
  DERIVED. GIVEN WITH THE SEED: THE CARDS: each row of YtoakaehjnbhgmaaGreatDoorRows.lean that lists a variable, with what it lists TIED to the program's text (the seventh form; the later family's looks); each row that meets fmt, with fmt's text TOLD by the authors' own Lean function (tested against real Go, not proved from fmt's source: count such statements apart). THE CARD IS WHAT COUNTS. Prove the row's statement (the work); the ties are given (YtoakaehjnbhgmaaGreatDoorTie.lean); close each card by the builder's one call (the guide's Derived/Test/ToyasCard.lean, 'card_holds'). Laid BY PROGRAM, IN A SANDBOX (cutbox-door.mjs). By AI agents, Wed Nov 11 2026. No macro, syntax, notation, axiom, sorry.
-/
import Derived.Test.YtoakaehjnbhgmaaGreatDoorRows
import GoSem.ClaimSeven
namespace Go.Proofs.YtoakaehjnbhgmaaGreatDoor
namespace Rows

/-- THE TIED CARD OF 'modillionlaw13.WorkerPlays'. -/
def workerPlaysCard : Claim7 := { stood := { row := workerPlaysRow, standIns := [], harness := (true, "45f1bac6c7ebfcf3a540ffd99f73086aab75adbf0a57b5ee21ae0fff1483bb23"), looks := false }, kinds := [], alts := [], laidByText := true, laidKinds := [.data, .data], laidTests := true, laidLooks := .later }
def WorkerPlaysCardSaid : Prop := Claim7.holds Tryz.pinned (.plain (OpenSpec.ofChange workerPlaysSpec)) workerPlaysCard

/-- THE TIED CARD OF 'modillionlaw13.WorkerLoads'. -/
def workerLoadsCard : Claim7 := { stood := { row := workerLoadsRow, standIns := [], harness := (true, "45f1bac6c7ebfcf3a540ffd99f73086aab75adbf0a57b5ee21ae0fff1483bb23"), looks := false }, kinds := [], alts := [], laidByText := true, laidKinds := [.data, .data], laidTests := true, laidLooks := .later }
def WorkerLoadsCardSaid : Prop := Claim7.holds Tryz.pinned (.plain (OpenSpec.ofChange workerLoadsSpec)) workerLoadsCard

/-- THE TIED CARD OF 'modillionlaw13.WorkerOrder'. -/
def workerOrderCard : Claim7 := { stood := { row := workerOrderRow, standIns := [], harness := (true, "45f1bac6c7ebfcf3a540ffd99f73086aab75adbf0a57b5ee21ae0fff1483bb23"), looks := false }, kinds := [], alts := [], laidByText := true, laidKinds := [.data, .data], laidTests := true, laidLooks := .later }
def WorkerOrderCardSaid : Prop := Claim7.holds Tryz.pinned (.plain (OpenSpec.ofChange workerOrderSpec)) workerOrderCard

/-- THE TIED CARD OF 'modillionlaw13.WorkerSteps'. -/
def workerStepsCard : Claim7 := { stood := { row := workerStepsRow, standIns := [], harness := (true, "45f1bac6c7ebfcf3a540ffd99f73086aab75adbf0a57b5ee21ae0fff1483bb23"), looks := false }, kinds := [], alts := [], laidByText := true, laidKinds := [.data, .data], laidTests := true, laidLooks := .later }
def WorkerStepsCardSaid : Prop := Claim7.holds Tryz.pinned (.plain (OpenSpec.ofChange workerStepsSpec)) workerStepsCard

/-- THE TIED CARD OF 'modillionlaw13.WorkerFirst'. -/
def workerFirstCard : Claim7 := { stood := { row := workerFirstRow, standIns := [], harness := (true, "45f1bac6c7ebfcf3a540ffd99f73086aab75adbf0a57b5ee21ae0fff1483bb23"), looks := false }, kinds := [], alts := [], laidByText := true, laidKinds := [.data, .data], laidTests := true, laidLooks := .later }
def WorkerFirstCardSaid : Prop := Claim7.holds Tryz.pinned (.plain (OpenSpec.ofChange workerFirstSpec)) workerFirstCard

/-- THE TIED CARD OF 'modillionlaw13.WorkerKeeps'. -/
def workerKeepsCard : Claim7 := { stood := { row := workerKeepsRow, standIns := [], harness := (true, "45f1bac6c7ebfcf3a540ffd99f73086aab75adbf0a57b5ee21ae0fff1483bb23"), looks := false }, kinds := [], alts := [], laidByText := true, laidKinds := [.data, .data], laidTests := true, laidLooks := .later }
def WorkerKeepsCardSaid : Prop := Claim7.holds Tryz.pinned (.plain (OpenSpec.ofChange workerKeepsSpec)) workerKeepsCard

/-- THE TIED CARD OF 'modillionlaw13.WorkerAll'. -/
def workerAllCard : Claim7 := { stood := { row := workerAllRow, standIns := [], harness := (true, "45f1bac6c7ebfcf3a540ffd99f73086aab75adbf0a57b5ee21ae0fff1483bb23"), looks := false }, kinds := [], alts := [], laidByText := true, laidKinds := [.data, .data], laidTests := true, laidLooks := .later }
def WorkerAllCardSaid : Prop := Claim7.holds Tryz.pinned (.plain (OpenSpec.ofChange workerAllSpec)) workerAllCard

/-- THE SECOND FORM's CARD OF 'modillionlaw13.WorkerPlays'. -/
def workerPlaysUptoCard : Claim7 := { stood := { row := workerPlaysUptoRow, standIns := [], harness := (true, "45f1bac6c7ebfcf3a540ffd99f73086aab75adbf0a57b5ee21ae0fff1483bb23"), looks := false }, kinds := [], alts := [], laidByText := true, laidKinds := [.data, .data], laidTests := true, laidLooks := .later }
def WorkerPlaysUptoCardSaid : Prop := Claim7.holds Tryz.pinned (.plain (OpenSpec.upto workerPlaysSpec)) workerPlaysUptoCard

/-- THE SECOND FORM's CARD OF 'modillionlaw13.WorkerLoads'. -/
def workerLoadsUptoCard : Claim7 := { stood := { row := workerLoadsUptoRow, standIns := [], harness := (true, "45f1bac6c7ebfcf3a540ffd99f73086aab75adbf0a57b5ee21ae0fff1483bb23"), looks := false }, kinds := [], alts := [], laidByText := true, laidKinds := [.data, .data], laidTests := true, laidLooks := .later }
def WorkerLoadsUptoCardSaid : Prop := Claim7.holds Tryz.pinned (.plain (OpenSpec.upto workerLoadsSpec)) workerLoadsUptoCard

/-- THE SECOND FORM's CARD OF 'modillionlaw13.WorkerOrder'. -/
def workerOrderUptoCard : Claim7 := { stood := { row := workerOrderUptoRow, standIns := [], harness := (true, "45f1bac6c7ebfcf3a540ffd99f73086aab75adbf0a57b5ee21ae0fff1483bb23"), looks := false }, kinds := [], alts := [], laidByText := true, laidKinds := [.data, .data], laidTests := true, laidLooks := .later }
def WorkerOrderUptoCardSaid : Prop := Claim7.holds Tryz.pinned (.plain (OpenSpec.upto workerOrderSpec)) workerOrderUptoCard

/-- THE SECOND FORM's CARD OF 'modillionlaw13.WorkerSteps'. -/
def workerStepsUptoCard : Claim7 := { stood := { row := workerStepsUptoRow, standIns := [], harness := (true, "45f1bac6c7ebfcf3a540ffd99f73086aab75adbf0a57b5ee21ae0fff1483bb23"), looks := false }, kinds := [], alts := [], laidByText := true, laidKinds := [.data, .data], laidTests := true, laidLooks := .later }
def WorkerStepsUptoCardSaid : Prop := Claim7.holds Tryz.pinned (.plain (OpenSpec.upto workerStepsSpec)) workerStepsUptoCard

/-- THE SECOND FORM's CARD OF 'modillionlaw13.WorkerFirst'. -/
def workerFirstUptoCard : Claim7 := { stood := { row := workerFirstUptoRow, standIns := [], harness := (true, "45f1bac6c7ebfcf3a540ffd99f73086aab75adbf0a57b5ee21ae0fff1483bb23"), looks := false }, kinds := [], alts := [], laidByText := true, laidKinds := [.data, .data], laidTests := true, laidLooks := .later }
def WorkerFirstUptoCardSaid : Prop := Claim7.holds Tryz.pinned (.plain (OpenSpec.upto workerFirstSpec)) workerFirstUptoCard

/-- THE SECOND FORM's CARD OF 'modillionlaw13.WorkerKeeps'. -/
def workerKeepsUptoCard : Claim7 := { stood := { row := workerKeepsUptoRow, standIns := [], harness := (true, "45f1bac6c7ebfcf3a540ffd99f73086aab75adbf0a57b5ee21ae0fff1483bb23"), looks := false }, kinds := [], alts := [], laidByText := true, laidKinds := [.data, .data], laidTests := true, laidLooks := .later }
def WorkerKeepsUptoCardSaid : Prop := Claim7.holds Tryz.pinned (.plain (OpenSpec.upto workerKeepsSpec)) workerKeepsUptoCard

/-- THE SECOND FORM's CARD OF 'modillionlaw13.WorkerAll'. -/
def workerAllUptoCard : Claim7 := { stood := { row := workerAllUptoRow, standIns := [], harness := (true, "45f1bac6c7ebfcf3a540ffd99f73086aab75adbf0a57b5ee21ae0fff1483bb23"), looks := false }, kinds := [], alts := [], laidByText := true, laidKinds := [.data, .data], laidTests := true, laidLooks := .later }
def WorkerAllUptoCardSaid : Prop := Claim7.holds Tryz.pinned (.plain (OpenSpec.upto workerAllSpec)) workerAllUptoCard
end Rows
end Go.Proofs.YtoakaehjnbhgmaaGreatDoor
