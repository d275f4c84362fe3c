/-
  Part of the proof of a statement about the given program: an abstract machine over its code, the simulation, its functions' equations, what they compute.
-/
import Derived.Test.YtoakaehjnbhgmaaGreatDoorMg13
import Derived.Test.YtoakaehjnbhgmaaGreatDoorMg25
import Derived.Test.YtoakaehjnbhgmaaGreatDoorMg31
set_option linter.unusedVariables false
set_option linter.unusedSimpArgs false
set_option linter.unusedSectionVars false
noncomputable section
namespace Go.Proofs.YtoakaehjnbhgmaaGreatDoor
section
open Go AM
theorem workerOrder_said:Rows.WorkerOrderCardSaid:=RowWorkerOrder.card fun vs h=>by
 obtain⟨a,us,rfl,ha,h⟩:=Dz h
 obtain⟨b,us,rfl,hb,h⟩:=Dz h
 obtain⟨c,us,rfl,hc,h⟩:=Dz h
 obtain⟨d,us,rfl,hd,h⟩:=Dz h
 obtain⟨e,us,rfl,he,h⟩:=Dz h
 obtain⟨f,us,rfl,hf,h⟩:=Dz h
 obtain rfl:=SG h
 obtain⟨g,rfl,_,_,_⟩:=AHN (n:=4) ha
 obtain⟨j,rfl,_⟩:=AKj (n:=6) hb
 obtain⟨n,rfl,_⟩:=ED K_3 KY hc
 obtain⟨w,rfl,_⟩:=ED K_3 KY hd
 obtain⟨ins,rfl,_,_⟩:=decl (n:=7) (c:=Bd .sh) (p:=fun _=>True) ARc (fun v h=>by
  obtain⟨l,rfl,_,_⟩:=decl (n:=6) (c:=Aa) (p:=MOk) ZO (fun v h=>AKk (n:=4) h) h
  exact⟨l,rfl,trivial⟩) he
 obtain⟨x,rfl,x1,x2⟩:=ED K_5 NQ hf
 obtain⟨a8,rfl,ha8⟩:=ANu x1 x2
 exact⟨_,RS g j n w ins ha8⟩
#print axioms workerOrder_said
end
end Go.Proofs.YtoakaehjnbhgmaaGreatDoor
