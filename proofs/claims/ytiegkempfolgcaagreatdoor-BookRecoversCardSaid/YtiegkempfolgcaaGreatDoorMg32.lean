/-
  Part of the proof of a statement about the given program: an abstract machine over its code, the simulation, its functions' equations, what they compute.
-/
import Derived.Test.YtiegkempfolgcaaGreatDoorMg13
import Derived.Test.YtiegkempfolgcaaGreatDoorMg25
import Derived.Test.YtiegkempfolgcaaGreatDoorMg31
set_option linter.unusedVariables false
set_option linter.unusedSimpArgs false
set_option linter.unusedSectionVars false
noncomputable section
namespace Go.Proofs.YtiegkempfolgcaaGreatDoor
section
open Go AM
theorem bookRecovers_said:Rows.BookRecoversCardSaid:=RowBookRecovers.card fun vs h=>by
 obtain⟨a,us,rfl,ha,h⟩:=Ef h
 obtain⟨b,us,rfl,hb,h⟩:=Ef h
 obtain⟨c,us,rfl,hc,h⟩:=Ef h
 obtain⟨d,us,rfl,hd,h⟩:=Ef h
 obtain⟨e,us,rfl,he,h⟩:=Ef h
 obtain rfl:=WR h
 obtain⟨g,rfl,_,_,_⟩:=AIm (n:=4) ha
 obtain⟨j,rfl,_⟩:=ALd (n:=6) hb
 obtain⟨w,rfl,_⟩:=GV K_3 IG hc
 obtain⟨rs,rfl,hr⟩:=AIl (n:=6) hd
 obtain⟨cut,rfl,_⟩:=GV K_3 IG he
 exact⟨_,Ns w hr⟩
#print axioms bookRecovers_said
end
end Go.Proofs.YtiegkempfolgcaaGreatDoor
