/-
  Part of the proof of a statement about the given program: an abstract machine over its code, the simulation, its functions' equations, what they compute.
-/
import Derived.Test.YtiegkempfolgcaaGreatDoorMg25
import Derived.Test.YtiegkempfolgcaaGreatDoorMg31
set_option linter.unusedVariables false
set_option linter.unusedSimpArgs false
set_option linter.unusedSectionVars false
noncomputable section
namespace Go.Proofs.YtiegkempfolgcaaGreatDoor
section
open Go AM
theorem bookRecords_said:Rows.BookRecordsCardSaid:=RowBookRecords.card fun vs h=>by
 obtain⟨a,us,rfl,ha,h⟩:=CW h
 obtain⟨b,us,rfl,hb,h⟩:=CW h
 obtain⟨c,us,rfl,hc,h⟩:=CW h
 obtain rfl:=Pe h
 obtain⟨bk,rfl,hbk⟩:=ADl (n:=3) ha
 obtain⟨l,rfl,hl,hn⟩:=decl AML (fun v h=>AI9 (n:=1) h) hb
 obtain⟨w,rfl,_⟩:=EM K_3 N8 hc
 exact⟨_,Ov hbk hl hn w⟩
#print axioms bookRecords_said
end
end Go.Proofs.YtiegkempfolgcaaGreatDoor
