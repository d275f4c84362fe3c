/-
  Part of the proof of a statement about the given program: an abstract machine over its code, the simulation, its functions' equations, what they compute.
-/
import Derived.Test.YtkelgdjhpgefnaaGreatDoorMg10
import Derived.Test.YtkelgdjhpgefnaaGreatDoorMg23
import Derived.Test.YtkelgdjhpgefnaaGreatDoorMg29
set_option linter.unusedVariables false
set_option linter.unusedSimpArgs false
set_option linter.unusedSectionVars false
noncomputable section
namespace Go.Proofs.YtkelgdjhpgefnaaGreatDoor
section
open Go AM
theorem ZL {x:Int} (h1:(IntKind.u32).min≤x) (h2:x≤(IntKind.u32).max):∃a:Nat,x=(a:Int)∧a<4294967296:=by
 have e1:(IntKind.u32).min=0:=by decide
 have e2:(IntKind.u32).max=4294967295:=by decide
 exact⟨x.toNat,by omega,by omega⟩
theorem auditPlaces_said:Rows.AuditPlacesCardSaid:=RowAuditPlaces.card fun vs h=>by
 obtain⟨a,us,rfl,ha,h⟩:=RN h
 obtain⟨b,us,rfl,hb,h⟩:=RN h
 obtain⟨c,us,rfl,hc,h⟩:=RN h
 obtain rfl:=AAb h
 obtain⟨n,rfl,_⟩:=OB K_3 ZT ha
 obtain⟨k,rfl,_⟩:=OB K_3 ZT hb
 obtain⟨D,rfl,hD,_⟩:=decl (n:=7) (c:=fun(d:Nat)=>V.int .u32 (d:Int)) (p:=fun d=>d<4294967296) ADq (fun v h=>by
  obtain⟨x,rfl,x1,x2⟩:=OB (n:=6) AAE NZ h
  obtain⟨a,rfl,ha⟩:=ZL x1 x2
  exact⟨a,rfl,ha⟩) hc
 exact⟨_,KN n k hD⟩
#print axioms auditPlaces_said
end
end Go.Proofs.YtkelgdjhpgefnaaGreatDoor
