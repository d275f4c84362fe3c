/-
  Part of the proof of a statement about the given program: an abstract machine over its code, the simulation, its functions' equations, what they compute.
-/
import Derived.Test.YtoakaehjnbhgmaaGreatDoorMg13
import Derived.Test.YtoakaehjnbhgmaaGreatDoorMg25
import Derived.Test.YtoakaehjnbhgmaaGreatDoorMg31
set_option linter.unusedVariables false
set_option linter.unusedSimpArgs false
set_option linter.unusedSectionVars false
noncomputable section
namespace Go.Proofs.YtoakaehjnbhgmaaGreatDoor
section
open Go AM
theorem workerSteps_said:Rows.WorkerStepsCardSaid:=RowWorkerSteps.card fun vs h=>by
 obtain⟨a,us,rfl,ha,h⟩:=D5 h
 obtain⟨b,us,rfl,hb,h⟩:=D5 h
 obtain⟨c,us,rfl,hc,h⟩:=D5 h
 obtain⟨d,us,rfl,hd,h⟩:=D5 h
 obtain⟨e,us,rfl,he,h⟩:=D5 h
 obtain⟨f,us,rfl,hf,h⟩:=D5 h
 obtain rfl:=Rw h
 obtain⟨g,rfl,_,_,_⟩:=AG2 (n:=4) ha
 obtain⟨j,rfl,_⟩:=AKJ (n:=6) hb
 obtain⟨n,rfl,_⟩:=EF K_3 Jb hc
 obtain⟨w,rfl,_⟩:=EF K_3 Jb hd
 obtain⟨ins,rfl,_,_⟩:=decl (n:=7) (c:=Bl .sh) (p:=fun _=>True) ARA (fun v h=>by
  obtain⟨l,rfl,_,_⟩:=decl (n:=6) (c:=Aa) (p:=MOk) Y8 (fun v h=>AKK (n:=4) h) h
  exact⟨l,rfl,trivial⟩) he
 obtain⟨x,rfl,_⟩:=EF K_3 Jb hf
 exact⟨_,RF g j n w ins x⟩
#print axioms workerSteps_said
end
end Go.Proofs.YtoakaehjnbhgmaaGreatDoor
