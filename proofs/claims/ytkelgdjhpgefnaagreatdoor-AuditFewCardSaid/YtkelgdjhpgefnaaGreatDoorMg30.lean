/-
  Part of the proof of a statement about the given program: an abstract machine over its code, the simulation, its functions' equations, what they compute.
-/
import Derived.Test.YtkelgdjhpgefnaaGreatDoorMg10
import Derived.Test.YtkelgdjhpgefnaaGreatDoorMg23
import Derived.Test.YtkelgdjhpgefnaaGreatDoorMg29
set_option linter.unusedVariables false
set_option linter.unusedSimpArgs false
set_option linter.unusedSectionVars false
noncomputable section
namespace Go.Proofs.YtkelgdjhpgefnaaGreatDoor
section
open Go AM
theorem ZI {x:Int} (h1:(IntKind.u32).min≤x) (h2:x≤(IntKind.u32).max):∃a:Nat,x=(a:Int)∧a<4294967296:=by
 have e1:(IntKind.u32).min=0:=by decide
 have e2:(IntKind.u32).max=4294967295:=by decide
 exact⟨x.toNat,by omega,by omega⟩
theorem auditFew_said:Rows.AuditFewCardSaid:=RowAuditFew.card fun vs h=>by
 obtain⟨a,us,rfl,ha,h⟩:=RG h
 obtain⟨b,us,rfl,hb,h⟩:=RG h
 obtain⟨c,us,rfl,hc,h⟩:=RG h
 obtain rfl:=AAZ h
 obtain⟨n,rfl,_⟩:=Nz K_3 ZP ha
 obtain⟨k,rfl,_⟩:=Nz K_3 ZP hb
 obtain⟨D,rfl,hD,_⟩:=decl (n:=7) (c:=fun(d:Nat)=>V.int .u32 (d:Int)) (p:=fun d=>d<4294967296) ADo (fun v h=>by
  obtain⟨x,rfl,x1,x2⟩:=Nz (n:=6) AAB NS h
  obtain⟨a,rfl,ha⟩:=ZI x1 x2
  exact⟨a,rfl,ha⟩) hc
 exact⟨_,PX n k hD⟩
#print axioms auditFew_said
end
end Go.Proofs.YtkelgdjhpgefnaaGreatDoor
