/-
  DERIVED. GIVEN WITH THE SEED: THE CARDS: each row of YtphoocnlpnnkdaaGreatDoorRows.lean that lists a variable, with what it lists TIED to the program's text (the seventh form; the later family's looks); each row that meets fmt, with fmt's text TOLD by the authors' own Lean function (tested against real Go, not proved from fmt's source: count such statements apart). THE CARD IS WHAT COUNTS. Prove the row's statement (the work); the ties are given (YtphoocnlpnnkdaaGreatDoorTie.lean); close each card by the builder's one call (the guide's Derived/Test/ToyasCard.lean, 'card_holds'). Laid BY PROGRAM, IN A SANDBOX (cutbox-door.mjs). By AI agents, Wed Nov 11 2026. No macro, syntax, notation, axiom, sorry.
-/
import Derived.Test.YtphoocnlpnnkdaaGreatDoorRows
import GoSem.ClaimSeven
namespace Go.Proofs.YtphoocnlpnnkdaaGreatDoor
namespace Rows

/-- THE TIED CARD OF 'modillionlaw13.WorkerLoads'. -/
def workerLoadsCard : Claim7 := { stood := { row := workerLoadsRow, standIns := [], harness := (true, "dc020534288fd3cc6fb7314740b3cc0939d1ffe87eaff0c0bd8e3a15d9389c2f"), looks := false }, kinds := [], alts := [], laidByText := true, laidKinds := [.data, .data], laidTests := true, laidLooks := .later }
def WorkerLoadsCardSaid : Prop := Claim7.holds Tryz.pinned (.plain (OpenSpec.ofChange workerLoadsSpec)) workerLoadsCard

/-- THE SECOND FORM's CARD OF 'modillionlaw13.WorkerLoads'. -/
def workerLoadsUptoCard : Claim7 := { stood := { row := workerLoadsUptoRow, standIns := [], harness := (true, "dc020534288fd3cc6fb7314740b3cc0939d1ffe87eaff0c0bd8e3a15d9389c2f"), looks := false }, kinds := [], alts := [], laidByText := true, laidKinds := [.data, .data], laidTests := true, laidLooks := .later }
def WorkerLoadsUptoCardSaid : Prop := Claim7.holds Tryz.pinned (.plain (OpenSpec.upto workerLoadsSpec)) workerLoadsUptoCard
end Rows
end Go.Proofs.YtphoocnlpnnkdaaGreatDoor
