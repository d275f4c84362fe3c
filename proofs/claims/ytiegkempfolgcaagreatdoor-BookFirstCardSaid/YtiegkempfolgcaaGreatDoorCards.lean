/-
  DERIVED. GIVEN WITH THE SEED: THE CARDS: each row of YtiegkempfolgcaaGreatDoorRows.lean that lists a variable, with what it lists TIED to the program's text (the seventh form; the later family's looks); each row that meets fmt, with fmt's text TOLD by the authors' own Lean function (tested against real Go, not proved from fmt's source: count such statements apart). THE CARD IS WHAT COUNTS. Prove the row's statement (the work); the ties are given (YtiegkempfolgcaaGreatDoorTie.lean); close each card by the builder's one call (the guide's Derived/Test/ToyasCard.lean, 'card_holds'). Laid BY PROGRAM, IN A SANDBOX (cutbox-door.mjs). By AI agents, Wed Nov 11 2026. No macro, syntax, notation, axiom, sorry.
-/
import Derived.Test.YtiegkempfolgcaaGreatDoorRows
import GoSem.ClaimSeven
namespace Go.Proofs.YtiegkempfolgcaaGreatDoor
namespace Rows

/-- THE TIED CARD OF 'modillionlaw17.BookNew'. -/
def bookNewCard : Claim7 := { stood := { row := bookNewRow, standIns := [], harness := (true, "32b8747855bc8e7a35c6d2a2261dcd6d30221cc733f0168402a427f24618980d"), looks := false }, kinds := [], alts := [], laidByText := true, laidKinds := [.data, .data], laidTests := true, laidLooks := .later }
def BookNewCardSaid : Prop := Claim7.holds Tryz.pinned (.plain (OpenSpec.ofChange bookNewSpec)) bookNewCard

/-- THE TIED CARD OF 'modillionlaw17.BookRecords'. -/
def bookRecordsCard : Claim7 := { stood := { row := bookRecordsRow, standIns := [], harness := (true, "32b8747855bc8e7a35c6d2a2261dcd6d30221cc733f0168402a427f24618980d"), looks := false }, kinds := [], alts := [], laidByText := true, laidKinds := [.data, .data], laidTests := true, laidLooks := .later }
def BookRecordsCardSaid : Prop := Claim7.holds Tryz.pinned (.plain (OpenSpec.ofChange bookRecordsSpec)) bookRecordsCard

/-- THE TIED CARD OF 'modillionlaw17.BookBack'. -/
def bookBackCard : Claim7 := { stood := { row := bookBackRow, standIns := [], harness := (true, "32b8747855bc8e7a35c6d2a2261dcd6d30221cc733f0168402a427f24618980d"), looks := false }, kinds := [], alts := [], laidByText := true, laidKinds := [.data, .data], laidTests := true, laidLooks := .later }
def BookBackCardSaid : Prop := Claim7.holds Tryz.pinned (.plain (OpenSpec.ofChange bookBackSpec)) bookBackCard

/-- THE TIED CARD OF 'modillionlaw17.BookRecovers'. -/
def bookRecoversCard : Claim7 := { stood := { row := bookRecoversRow, standIns := [], harness := (true, "32b8747855bc8e7a35c6d2a2261dcd6d30221cc733f0168402a427f24618980d"), looks := false }, kinds := [], alts := [], laidByText := true, laidKinds := [.data, .data], laidTests := true, laidLooks := .later }
def BookRecoversCardSaid : Prop := Claim7.holds Tryz.pinned (.plain (OpenSpec.ofChange bookRecoversSpec)) bookRecoversCard

/-- THE TIED CARD OF 'modillionlaw17.BookOnce'. -/
def bookOnceCard : Claim7 := { stood := { row := bookOnceRow, standIns := [], harness := (true, "32b8747855bc8e7a35c6d2a2261dcd6d30221cc733f0168402a427f24618980d"), looks := false }, kinds := [], alts := [], laidByText := true, laidKinds := [.data, .data], laidTests := true, laidLooks := .later }
def BookOnceCardSaid : Prop := Claim7.holds Tryz.pinned (.plain (OpenSpec.ofChange bookOnceSpec)) bookOnceCard

/-- THE TIED CARD OF 'modillionlaw17.BookFirst'. -/
def bookFirstCard : Claim7 := { stood := { row := bookFirstRow, standIns := [], harness := (true, "32b8747855bc8e7a35c6d2a2261dcd6d30221cc733f0168402a427f24618980d"), looks := false }, kinds := [], alts := [], laidByText := true, laidKinds := [.data, .data], laidTests := true, laidLooks := .later }
def BookFirstCardSaid : Prop := Claim7.holds Tryz.pinned (.plain (OpenSpec.ofChange bookFirstSpec)) bookFirstCard

/-- THE SECOND FORM's CARD OF 'modillionlaw17.BookNew'. -/
def bookNewUptoCard : Claim7 := { stood := { row := bookNewUptoRow, standIns := [], harness := (true, "32b8747855bc8e7a35c6d2a2261dcd6d30221cc733f0168402a427f24618980d"), looks := false }, kinds := [], alts := [], laidByText := true, laidKinds := [.data, .data], laidTests := true, laidLooks := .later }
def BookNewUptoCardSaid : Prop := Claim7.holds Tryz.pinned (.plain (OpenSpec.upto bookNewSpec)) bookNewUptoCard

/-- THE SECOND FORM's CARD OF 'modillionlaw17.BookRecords'. -/
def bookRecordsUptoCard : Claim7 := { stood := { row := bookRecordsUptoRow, standIns := [], harness := (true, "32b8747855bc8e7a35c6d2a2261dcd6d30221cc733f0168402a427f24618980d"), looks := false }, kinds := [], alts := [], laidByText := true, laidKinds := [.data, .data], laidTests := true, laidLooks := .later }
def BookRecordsUptoCardSaid : Prop := Claim7.holds Tryz.pinned (.plain (OpenSpec.upto bookRecordsSpec)) bookRecordsUptoCard

/-- THE SECOND FORM's CARD OF 'modillionlaw17.BookBack'. -/
def bookBackUptoCard : Claim7 := { stood := { row := bookBackUptoRow, standIns := [], harness := (true, "32b8747855bc8e7a35c6d2a2261dcd6d30221cc733f0168402a427f24618980d"), looks := false }, kinds := [], alts := [], laidByText := true, laidKinds := [.data, .data], laidTests := true, laidLooks := .later }
def BookBackUptoCardSaid : Prop := Claim7.holds Tryz.pinned (.plain (OpenSpec.upto bookBackSpec)) bookBackUptoCard

/-- THE SECOND FORM's CARD OF 'modillionlaw17.BookRecovers'. -/
def bookRecoversUptoCard : Claim7 := { stood := { row := bookRecoversUptoRow, standIns := [], harness := (true, "32b8747855bc8e7a35c6d2a2261dcd6d30221cc733f0168402a427f24618980d"), looks := false }, kinds := [], alts := [], laidByText := true, laidKinds := [.data, .data], laidTests := true, laidLooks := .later }
def BookRecoversUptoCardSaid : Prop := Claim7.holds Tryz.pinned (.plain (OpenSpec.upto bookRecoversSpec)) bookRecoversUptoCard

/-- THE SECOND FORM's CARD OF 'modillionlaw17.BookOnce'. -/
def bookOnceUptoCard : Claim7 := { stood := { row := bookOnceUptoRow, standIns := [], harness := (true, "32b8747855bc8e7a35c6d2a2261dcd6d30221cc733f0168402a427f24618980d"), looks := false }, kinds := [], alts := [], laidByText := true, laidKinds := [.data, .data], laidTests := true, laidLooks := .later }
def BookOnceUptoCardSaid : Prop := Claim7.holds Tryz.pinned (.plain (OpenSpec.upto bookOnceSpec)) bookOnceUptoCard

/-- THE SECOND FORM's CARD OF 'modillionlaw17.BookFirst'. -/
def bookFirstUptoCard : Claim7 := { stood := { row := bookFirstUptoRow, standIns := [], harness := (true, "32b8747855bc8e7a35c6d2a2261dcd6d30221cc733f0168402a427f24618980d"), looks := false }, kinds := [], alts := [], laidByText := true, laidKinds := [.data, .data], laidTests := true, laidLooks := .later }
def BookFirstUptoCardSaid : Prop := Claim7.holds Tryz.pinned (.plain (OpenSpec.upto bookFirstSpec)) bookFirstUptoCard
end Rows
end Go.Proofs.YtiegkempfolgcaaGreatDoor
