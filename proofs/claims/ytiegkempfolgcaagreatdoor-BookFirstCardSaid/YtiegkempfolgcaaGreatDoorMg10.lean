/-
  Part of the proof of a statement about the given program: an abstract machine over its code, the simulation, its functions' equations, what they compute.
-/
import Derived.Test.YtiegkempfolgcaaGreatDoorMg8
import Derived.Test.YtiegkempfolgcaaGreatDoorMg9
set_option linter.unusedVariables false
set_option linter.unusedSimpArgs false
set_option linter.unusedSectionVars false
noncomputable section
namespace Go.Proofs.YtiegkempfolgcaaGreatDoor
section
open Go AM
theorem SC {B:Type} {p:Prop} [Decidable p] {a b:Option B} {r:Option B} (h:p→a=r) (h2:¬p→b=r):V.ite (.bool (decide p)) a b=r:=by
 by_cases hp:p
 ·rw[decide_eq_true hp];exact h hp
 ·rw[decide_eq_false hp];exact h2 hp
theorem SE {B:Type} {p:Bool} {a b:Option B} {r:Option B} (h:p=true→a=r) (h2:p=false→b=r):V.ite (.bool p) a b=r:=by
 cases p
 ·exact h2 rfl
 ·exact h rfl
@[go_sem] theorem AE4 (id:Nat) (p:List Nat) (t:TypeId):V.capOk (.ref id p t)=true:=(rfl)
@[go_sem] theorem AE5 {B:Type} (a b:B):(if(true:Bool)=true then a else b)=a:=(rfl)
theorem Oj {R:Type} {f:FuncId} {cs vs h:List V} (k:V→List V→Option R) (he:CZ.ext f=false) (hp:CZ.pure f=false) {r:V} {h':List V} (e:Cl f (AU (vs++cs)) h=some (r,h')) (hs:(CZ.seq f).1=0:=by kernel_rfl):CP P CZ W (.clo f cs) vs h k=k r h':=by
 rw[Rl k he hp hs,e];rfl
end
end Go.Proofs.YtiegkempfolgcaaGreatDoor
