/-
  DERIVED. GIVEN WITH THE SEED: THE CARDS: each row of YtmjocdbdbofcbaaDoorRows.lean that lists a variable, with what it lists TIED to the program's text (the seventh form; the later family's looks); each row that meets fmt, with fmt's text TOLD by the authors' own Lean function (tested against real Go, not proved from fmt's source: count such statements apart). THE CARD IS WHAT COUNTS. Prove the row's statement (the work); the ties are given (YtmjocdbdbofcbaaDoorTie.lean); close each card by the builder's one call (the guide's Derived/Test/ToyasCard.lean, 'card_holds'). Laid BY PROGRAM, IN A SANDBOX (cutbox-door.mjs). By AI agents, Wed Nov 11 2026. No macro, syntax, notation, axiom, sorry.
-/
import Derived.Test.YtmjocdbdbofcbaaDoorRows
import GoSem.ClaimSeven
namespace Go.Proofs.YtmjocdbdbofcbaaDoor
namespace Rows

/-- THE TIED CARD OF 'modillionlaw11.BatchGets'. -/
def batchGetsCard : Claim7 := { stood := { row := batchGetsRow, standIns := [], harness := (true, "85dc6a1f3990168966b49cdf3a8798e87e24cc64bf50147d24655c9e3ce53151"), looks := false }, kinds := [], alts := [], laidByText := true, laidKinds := [.data, .data], laidTests := true, laidLooks := .later }
def BatchGetsCardSaid : Prop := Claim7.holds Tryd.pinned (.plain (OpenSpec.ofChange batchGetsSpec)) batchGetsCard

/-- THE TIED CARD OF 'modillionlaw11.BatchBack'. -/
def batchBackCard : Claim7 := { stood := { row := batchBackRow, standIns := [], harness := (true, "85dc6a1f3990168966b49cdf3a8798e87e24cc64bf50147d24655c9e3ce53151"), looks := false }, kinds := [], alts := [], laidByText := true, laidKinds := [.data, .data], laidTests := true, laidLooks := .later }
def BatchBackCardSaid : Prop := Claim7.holds Tryd.pinned (.plain (OpenSpec.ofChange batchBackSpec)) batchBackCard

/-- THE TIED CARD OF 'modillionlaw11.BatchTurned'. -/
def batchTurnedCard : Claim7 := { stood := { row := batchTurnedRow, standIns := [], harness := (true, "85dc6a1f3990168966b49cdf3a8798e87e24cc64bf50147d24655c9e3ce53151"), looks := false }, kinds := [], alts := [], laidByText := true, laidKinds := [.data, .data], laidTests := true, laidLooks := .later }
def BatchTurnedCardSaid : Prop := Claim7.holds Tryd.pinned (.plain (OpenSpec.ofChange batchTurnedSpec)) batchTurnedCard

/-- THE TIED CARD OF 'modillionlaw11.BatchApart'. -/
def batchApartCard : Claim7 := { stood := { row := batchApartRow, standIns := [], harness := (true, "85dc6a1f3990168966b49cdf3a8798e87e24cc64bf50147d24655c9e3ce53151"), looks := false }, kinds := [], alts := [], laidByText := true, laidKinds := [.data, .data], laidTests := true, laidLooks := .later }
def BatchApartCardSaid : Prop := Claim7.holds Tryd.pinned (.plain (OpenSpec.ofChange batchApartSpec)) batchApartCard

/-- THE TIED CARD OF 'modillionlaw11.BatchLess'. -/
def batchLessCard : Claim7 := { stood := { row := batchLessRow, standIns := [], harness := (true, "85dc6a1f3990168966b49cdf3a8798e87e24cc64bf50147d24655c9e3ce53151"), looks := false }, kinds := [], alts := [], laidByText := true, laidKinds := [.data, .data], laidTests := true, laidLooks := .later }
def BatchLessCardSaid : Prop := Claim7.holds Tryd.pinned (.plain (OpenSpec.ofChange batchLessSpec)) batchLessCard

/-- THE TIED CARD OF 'modillionlaw12.CommitPuts'. -/
def commitPutsCard : Claim7 := { stood := { row := commitPutsRow, standIns := [], harness := (true, "85dc6a1f3990168966b49cdf3a8798e87e24cc64bf50147d24655c9e3ce53151"), looks := false }, kinds := [], alts := [], laidByText := true, laidKinds := [.data, .data], laidTests := true, laidLooks := .later }
def CommitPutsCardSaid : Prop := Claim7.holds Tryd.pinned (.plain (OpenSpec.ofChange commitPutsSpec)) commitPutsCard

/-- THE TIED CARD OF 'modillionlaw12.CommitGets'. -/
def commitGetsCard : Claim7 := { stood := { row := commitGetsRow, standIns := [], harness := (true, "85dc6a1f3990168966b49cdf3a8798e87e24cc64bf50147d24655c9e3ce53151"), looks := false }, kinds := [], alts := [], laidByText := true, laidKinds := [.data, .data], laidTests := true, laidLooks := .later }
def CommitGetsCardSaid : Prop := Claim7.holds Tryd.pinned (.plain (OpenSpec.ofChange commitGetsSpec)) commitGetsCard

/-- THE TIED CARD OF 'modillionlaw12.CommitApart'. -/
def commitApartCard : Claim7 := { stood := { row := commitApartRow, standIns := [], harness := (true, "85dc6a1f3990168966b49cdf3a8798e87e24cc64bf50147d24655c9e3ce53151"), looks := false }, kinds := [], alts := [], laidByText := true, laidKinds := [.data, .data], laidTests := true, laidLooks := .later }
def CommitApartCardSaid : Prop := Claim7.holds Tryd.pinned (.plain (OpenSpec.ofChange commitApartSpec)) commitApartCard

/-- THE TIED CARD OF 'modillionlaw12.CommitKept'. -/
def commitKeptCard : Claim7 := { stood := { row := commitKeptRow, standIns := [], harness := (true, "85dc6a1f3990168966b49cdf3a8798e87e24cc64bf50147d24655c9e3ce53151"), looks := false }, kinds := [], alts := [], laidByText := true, laidKinds := [.data, .data], laidTests := true, laidLooks := .later }
def CommitKeptCardSaid : Prop := Claim7.holds Tryd.pinned (.plain (OpenSpec.ofChange commitKeptSpec)) commitKeptCard

/-- THE TIED CARD OF 'modillionlaw12.CommitCuts'. -/
def commitCutsCard : Claim7 := { stood := { row := commitCutsRow, standIns := [], harness := (true, "85dc6a1f3990168966b49cdf3a8798e87e24cc64bf50147d24655c9e3ce53151"), looks := false }, kinds := [], alts := [], laidByText := true, laidKinds := [.data, .data], laidTests := true, laidLooks := .later }
def CommitCutsCardSaid : Prop := Claim7.holds Tryd.pinned (.plain (OpenSpec.ofChange commitCutsSpec)) commitCutsCard

/-- THE SECOND FORM's CARD OF 'modillionlaw11.BatchGets'. -/
def batchGetsUptoCard : Claim7 := { stood := { row := batchGetsUptoRow, standIns := [], harness := (true, "85dc6a1f3990168966b49cdf3a8798e87e24cc64bf50147d24655c9e3ce53151"), looks := false }, kinds := [], alts := [], laidByText := true, laidKinds := [.data, .data], laidTests := true, laidLooks := .later }
def BatchGetsUptoCardSaid : Prop := Claim7.holds Tryd.pinned (.plain (OpenSpec.upto batchGetsSpec)) batchGetsUptoCard

/-- THE SECOND FORM's CARD OF 'modillionlaw11.BatchBack'. -/
def batchBackUptoCard : Claim7 := { stood := { row := batchBackUptoRow, standIns := [], harness := (true, "85dc6a1f3990168966b49cdf3a8798e87e24cc64bf50147d24655c9e3ce53151"), looks := false }, kinds := [], alts := [], laidByText := true, laidKinds := [.data, .data], laidTests := true, laidLooks := .later }
def BatchBackUptoCardSaid : Prop := Claim7.holds Tryd.pinned (.plain (OpenSpec.upto batchBackSpec)) batchBackUptoCard

/-- THE SECOND FORM's CARD OF 'modillionlaw11.BatchTurned'. -/
def batchTurnedUptoCard : Claim7 := { stood := { row := batchTurnedUptoRow, standIns := [], harness := (true, "85dc6a1f3990168966b49cdf3a8798e87e24cc64bf50147d24655c9e3ce53151"), looks := false }, kinds := [], alts := [], laidByText := true, laidKinds := [.data, .data], laidTests := true, laidLooks := .later }
def BatchTurnedUptoCardSaid : Prop := Claim7.holds Tryd.pinned (.plain (OpenSpec.upto batchTurnedSpec)) batchTurnedUptoCard

/-- THE SECOND FORM's CARD OF 'modillionlaw11.BatchApart'. -/
def batchApartUptoCard : Claim7 := { stood := { row := batchApartUptoRow, standIns := [], harness := (true, "85dc6a1f3990168966b49cdf3a8798e87e24cc64bf50147d24655c9e3ce53151"), looks := false }, kinds := [], alts := [], laidByText := true, laidKinds := [.data, .data], laidTests := true, laidLooks := .later }
def BatchApartUptoCardSaid : Prop := Claim7.holds Tryd.pinned (.plain (OpenSpec.upto batchApartSpec)) batchApartUptoCard

/-- THE SECOND FORM's CARD OF 'modillionlaw11.BatchLess'. -/
def batchLessUptoCard : Claim7 := { stood := { row := batchLessUptoRow, standIns := [], harness := (true, "85dc6a1f3990168966b49cdf3a8798e87e24cc64bf50147d24655c9e3ce53151"), looks := false }, kinds := [], alts := [], laidByText := true, laidKinds := [.data, .data], laidTests := true, laidLooks := .later }
def BatchLessUptoCardSaid : Prop := Claim7.holds Tryd.pinned (.plain (OpenSpec.upto batchLessSpec)) batchLessUptoCard

/-- THE SECOND FORM's CARD OF 'modillionlaw12.CommitPuts'. -/
def commitPutsUptoCard : Claim7 := { stood := { row := commitPutsUptoRow, standIns := [], harness := (true, "85dc6a1f3990168966b49cdf3a8798e87e24cc64bf50147d24655c9e3ce53151"), looks := false }, kinds := [], alts := [], laidByText := true, laidKinds := [.data, .data], laidTests := true, laidLooks := .later }
def CommitPutsUptoCardSaid : Prop := Claim7.holds Tryd.pinned (.plain (OpenSpec.upto commitPutsSpec)) commitPutsUptoCard

/-- THE SECOND FORM's CARD OF 'modillionlaw12.CommitGets'. -/
def commitGetsUptoCard : Claim7 := { stood := { row := commitGetsUptoRow, standIns := [], harness := (true, "85dc6a1f3990168966b49cdf3a8798e87e24cc64bf50147d24655c9e3ce53151"), looks := false }, kinds := [], alts := [], laidByText := true, laidKinds := [.data, .data], laidTests := true, laidLooks := .later }
def CommitGetsUptoCardSaid : Prop := Claim7.holds Tryd.pinned (.plain (OpenSpec.upto commitGetsSpec)) commitGetsUptoCard

/-- THE SECOND FORM's CARD OF 'modillionlaw12.CommitApart'. -/
def commitApartUptoCard : Claim7 := { stood := { row := commitApartUptoRow, standIns := [], harness := (true, "85dc6a1f3990168966b49cdf3a8798e87e24cc64bf50147d24655c9e3ce53151"), looks := false }, kinds := [], alts := [], laidByText := true, laidKinds := [.data, .data], laidTests := true, laidLooks := .later }
def CommitApartUptoCardSaid : Prop := Claim7.holds Tryd.pinned (.plain (OpenSpec.upto commitApartSpec)) commitApartUptoCard

/-- THE SECOND FORM's CARD OF 'modillionlaw12.CommitKept'. -/
def commitKeptUptoCard : Claim7 := { stood := { row := commitKeptUptoRow, standIns := [], harness := (true, "85dc6a1f3990168966b49cdf3a8798e87e24cc64bf50147d24655c9e3ce53151"), looks := false }, kinds := [], alts := [], laidByText := true, laidKinds := [.data, .data], laidTests := true, laidLooks := .later }
def CommitKeptUptoCardSaid : Prop := Claim7.holds Tryd.pinned (.plain (OpenSpec.upto commitKeptSpec)) commitKeptUptoCard

/-- THE SECOND FORM's CARD OF 'modillionlaw12.CommitCuts'. -/
def commitCutsUptoCard : Claim7 := { stood := { row := commitCutsUptoRow, standIns := [], harness := (true, "85dc6a1f3990168966b49cdf3a8798e87e24cc64bf50147d24655c9e3ce53151"), looks := false }, kinds := [], alts := [], laidByText := true, laidKinds := [.data, .data], laidTests := true, laidLooks := .later }
def CommitCutsUptoCardSaid : Prop := Claim7.holds Tryd.pinned (.plain (OpenSpec.upto commitCutsSpec)) commitCutsUptoCard
end Rows
end Go.Proofs.YtmjocdbdbofcbaaDoor
