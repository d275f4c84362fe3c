/-
  A part.
-/
import Derived.Test.YtphoocnlpnnkdaaGreatDoorMg13
import Derived.Test.YtphoocnlpnnkdaaGreatDoorMg25
import Derived.Test.YtphoocnlpnnkdaaGreatDoorMg31
set_option linter.unusedVariables false
set_option linter.unusedSimpArgs false
set_option linter.unusedSectionVars false
noncomputable section
namespace Go.Proofs.YtphoocnlpnnkdaaGreatDoor
section
open Go AM
theorem workerLoads_said:Rows.WorkerLoadsCardSaid:=RowWorkerLoads.card fun vs h=>by
 obtain⟨a,us,rfl,ha,h⟩:=EU h
 obtain⟨b,us,rfl,hb,h⟩:=EU h
 obtain⟨c,us,rfl,hc,h⟩:=EU h
 obtain⟨d,us,rfl,hd,h⟩:=EU h
 obtain⟨e,us,rfl,he,h⟩:=EU h
 obtain⟨f,us,rfl,hf,h⟩:=EU h
 obtain rfl:=TG h
 obtain⟨g,rfl,_,_,_⟩:=AJ8 (n:=4) ha
 obtain⟨j,rfl,_⟩:=ANA (n:=6) hb
 obtain⟨n,rfl,_⟩:=Ee K_3 JV hc
 obtain⟨w,rfl,_⟩:=Ee K_3 JV hd
 obtain⟨ins,rfl,_,_⟩:=decl (n:=7) (c:=BZ .sh) (p:=fun _=>True) AU0 (fun v h=>by
  obtain⟨l,rfl,_,_⟩:=decl (n:=6) (c:=Ac) (p:=MOk) AAT (fun v h=>ANB (n:=4) h) h
  exact⟨l,rfl,trivial⟩) he
 obtain⟨x,rfl,x1,x2⟩:=Ee K_5 Ob hf
 obtain⟨a8,rfl,ha8⟩:=ARB x1 x2
 exact⟨_,SB g j n w ins ha8⟩
end
end Go.Proofs.YtphoocnlpnnkdaaGreatDoor
