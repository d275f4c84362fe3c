/-
  Part of the proof of a statement about the given program: an abstract machine over its code, the simulation, its functions' equations, what they compute.
-/
import Derived.Test.YtoakaehjnbhgmaaGreatDoorMg12
import Derived.Test.YtoakaehjnbhgmaaGreatDoorMg24
import Derived.Test.YtoakaehjnbhgmaaGreatDoorMg30
set_option linter.unusedVariables false
set_option linter.unusedSimpArgs false
set_option linter.unusedSectionVars false
noncomputable section
namespace Go.Proofs.YtoakaehjnbhgmaaGreatDoor
section
open Go AM
theorem workerFirst_said:Rows.WorkerFirstCardSaid:=RowWorkerFirst.card fun vs h=>by
 obtain⟨a,us,rfl,ha,h⟩:=EP h
 obtain⟨b,us,rfl,hb,h⟩:=EP h
 obtain⟨c,us,rfl,hc,h⟩:=EP h
 obtain⟨d,us,rfl,hd,h⟩:=EP h
 obtain rfl:=TR h
 obtain⟨g,rfl,_,_,_⟩:=ADj (n:=4) ha
 obtain⟨j,rfl,_⟩:=AGS (n:=6) hb
 obtain⟨n,rfl,_⟩:=FP K_3 OY hc
 obtain⟨w,rfl,_⟩:=FP K_3 OY hd
 exact⟨_,O3 g j n w⟩
#print axioms workerFirst_said
end
end Go.Proofs.YtoakaehjnbhgmaaGreatDoor
