/-
  Part of the proof of a statement about the given program: an abstract machine over its code, the simulation, its functions' equations, what they compute.
-/
import Derived.Test.YtiegkempfolgcaaGreatDoorMg13
import Derived.Test.YtiegkempfolgcaaGreatDoorMg25
import Derived.Test.YtiegkempfolgcaaGreatDoorMg31
set_option linter.unusedVariables false
set_option linter.unusedSimpArgs false
set_option linter.unusedSectionVars false
noncomputable section
namespace Go.Proofs.YtiegkempfolgcaaGreatDoor
section
open Go AM
theorem bookBack_said:Rows.BookBackCardSaid:=RowBookBack.card fun vs h=>by
 obtain⟨a,us,rfl,ha,h⟩:=Bf h
 obtain⟨b,us,rfl,hb,h⟩:=Bf h
 obtain⟨c,us,rfl,hc,h⟩:=Bf h
 obtain⟨d,us,rfl,hd,h⟩:=Bf h
 obtain⟨e,us,rfl,he,h⟩:=Bf h
 obtain rfl:=I5 h
 obtain⟨g,rfl,_,_,_⟩:=AHD (n:=4) ha
 obtain⟨j,rfl,_⟩:=AJh (n:=6) hb
 obtain⟨bk,rfl,hbk⟩:=AHE (n:=3) hc
 obtain⟨l,rfl,hl,hn⟩:=decl AQO (fun v h=>AMy (n:=1) h) hd
 obtain⟨w,rfl,_⟩:=DL K_3 FB he
 exact⟨_,Xj hbk hl hn w⟩
#print axioms bookBack_said
end
end Go.Proofs.YtiegkempfolgcaaGreatDoor
