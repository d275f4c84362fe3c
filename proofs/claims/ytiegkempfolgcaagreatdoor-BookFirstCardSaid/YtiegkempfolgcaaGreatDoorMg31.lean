/-
  Part of the proof of a statement about the given program: an abstract machine over its code, the simulation, its functions' equations, what they compute.
-/
import Derived.Test.YtiegkempfolgcaaGreatDoorMg12
import Derived.Test.YtiegkempfolgcaaGreatDoorMg24
import Derived.Test.YtiegkempfolgcaaGreatDoorMg30
set_option linter.unusedVariables false
set_option linter.unusedSimpArgs false
set_option linter.unusedSectionVars false
noncomputable section
namespace Go.Proofs.YtiegkempfolgcaaGreatDoor
section
open Go AM
theorem bookFirst_said:Rows.BookFirstCardSaid:=RowBookFirst.card fun vs h=>by
 obtain⟨a,us,rfl,ha,h⟩:=ET h
 obtain⟨b,us,rfl,hb,h⟩:=ET h
 obtain⟨c,us,rfl,hc,h⟩:=ET h
 obtain rfl:=QW h
 obtain⟨g,rfl,_,_,_⟩:=AAV (n:=4) ha
 obtain⟨j,rfl,_⟩:=ACT (n:=6) hb
 obtain⟨w,rfl,_⟩:=FN K_3 OQ hc
 exact⟨_,QJ g j w⟩
#print axioms bookFirst_said
end
end Go.Proofs.YtiegkempfolgcaaGreatDoor
