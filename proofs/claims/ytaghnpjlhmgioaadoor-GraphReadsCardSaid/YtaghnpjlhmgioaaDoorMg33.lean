/-
  Part of the proof of a statement about the given program: an abstract machine over its code, the simulation, its functions' equations, what they compute.
-/
import Derived.Test.YtaghnpjlhmgioaaDoorMg15
import Derived.Test.YtaghnpjlhmgioaaDoorMg27
import Derived.Test.YtaghnpjlhmgioaaDoorMg32
set_option linter.unusedVariables false
set_option linter.unusedSimpArgs false
set_option linter.unusedSectionVars false
noncomputable section
namespace Go.Proofs.YtaghnpjlhmgioaaDoor
section
open Go AM
theorem graphReads_said:Rows.GraphReadsCardSaid:=RowGraphReads.card fun vs h=>by
 obtain⟨a,us,rfl,ha,h⟩:=AGX h
 obtain rfl:=AGY h
 obtain⟨s,rfl,_⟩:=AEQ (n:=7) K_9 AEf ha
 exact⟨_,ACG s⟩
#print axioms graphReads_said
end
end Go.Proofs.YtaghnpjlhmgioaaDoor
