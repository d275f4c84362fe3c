/-
  DERIVED. GIVEN WITH THE SEED: THE CARDS: each row of YtkelgdjhpgefnaaGreatDoorRows.lean that lists a variable, with what it lists TIED to the program's text (the seventh form; the later family's looks); each row that meets fmt, with fmt's text TOLD by the authors' own Lean function (tested against real Go, not proved from fmt's source: count such statements apart). THE CARD IS WHAT COUNTS. Prove the row's statement (the work); the ties are given (YtkelgdjhpgefnaaGreatDoorTie.lean); close each card by the builder's one call (the guide's Derived/Test/ToyasCard.lean, 'card_holds'). Laid BY PROGRAM, IN A SANDBOX (cutbox-door.mjs). By AI agents, Wed Nov 11 2026. No macro, syntax, notation, axiom, sorry.
-/
import Derived.Test.YtkelgdjhpgefnaaGreatDoorRows
import GoSem.ClaimSeven
namespace Go.Proofs.YtkelgdjhpgefnaaGreatDoor
namespace Rows

/-- THE TIED CARD OF 'modillionlaw14.AuditPlaces'. -/
def auditPlacesCard : Claim7 := { stood := { row := auditPlacesRow, standIns := [], harness := (true, "471dc2519363e0193793cd475c9115eec3482249eb256db7892077c545ac0501"), looks := false }, kinds := [], alts := [], laidByText := true, laidKinds := [.data, .data], laidTests := true, laidLooks := .later }
def AuditPlacesCardSaid : Prop := Claim7.holds Tryz.pinned (.plain (OpenSpec.ofChange auditPlacesSpec)) auditPlacesCard

/-- THE TIED CARD OF 'modillionlaw14.AuditFew'. -/
def auditFewCard : Claim7 := { stood := { row := auditFewRow, standIns := [], harness := (true, "471dc2519363e0193793cd475c9115eec3482249eb256db7892077c545ac0501"), looks := false }, kinds := [], alts := [], laidByText := true, laidKinds := [.data, .data], laidTests := true, laidLooks := .later }
def AuditFewCardSaid : Prop := Claim7.holds Tryz.pinned (.plain (OpenSpec.ofChange auditFewSpec)) auditFewCard

/-- THE SECOND FORM's CARD OF 'modillionlaw14.AuditPlaces'. -/
def auditPlacesUptoCard : Claim7 := { stood := { row := auditPlacesUptoRow, standIns := [], harness := (true, "471dc2519363e0193793cd475c9115eec3482249eb256db7892077c545ac0501"), looks := false }, kinds := [], alts := [], laidByText := true, laidKinds := [.data, .data], laidTests := true, laidLooks := .later }
def AuditPlacesUptoCardSaid : Prop := Claim7.holds Tryz.pinned (.plain (OpenSpec.upto auditPlacesSpec)) auditPlacesUptoCard

/-- THE SECOND FORM's CARD OF 'modillionlaw14.AuditFew'. -/
def auditFewUptoCard : Claim7 := { stood := { row := auditFewUptoRow, standIns := [], harness := (true, "471dc2519363e0193793cd475c9115eec3482249eb256db7892077c545ac0501"), looks := false }, kinds := [], alts := [], laidByText := true, laidKinds := [.data, .data], laidTests := true, laidLooks := .later }
def AuditFewUptoCardSaid : Prop := Claim7.holds Tryz.pinned (.plain (OpenSpec.upto auditFewSpec)) auditFewUptoCard
end Rows
end Go.Proofs.YtkelgdjhpgefnaaGreatDoor
