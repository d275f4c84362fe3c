/-
  Part of the proof of a statement about the given program: an abstract machine over its code, the simulation, its functions' equations, what they compute.
-/
import Derived.Test.YtoakaehjnbhgmaaGreatDoorMg8
import Derived.Test.YtoakaehjnbhgmaaGreatDoorMg9
set_option linter.unusedVariables false
set_option linter.unusedSimpArgs false
set_option linter.unusedSectionVars false
noncomputable section
namespace Go.Proofs.YtoakaehjnbhgmaaGreatDoor
section
open Go AM
theorem SI {B:Type} {p:Prop} [Decidable p] {a b:Option B} {r:Option B} (h:p→a=r) (h2:¬p→b=r):V.ite (.bool (decide p)) a b=r:=by
 by_cases hp:p
 ·rw[decide_eq_true hp];exact h hp
 ·rw[decide_eq_false hp];exact h2 hp
theorem SK {B:Type} {p:Bool} {a b:Option B} {r:Option B} (h:p=true→a=r) (h2:p=false→b=r):V.ite (.bool p) a b=r:=by
 cases p
 ·exact h2 rfl
 ·exact h rfl
@[go_sem] theorem AJT (id:Nat) (p:List Nat) (t:TypeId):V.capOk (.ref id p t)=true:=(rfl)
@[go_sem] theorem AJU {B:Type} (a b:B):(if(true:Bool)=true then a else b)=a:=(rfl)
theorem Qh {R:Type} {f:FuncId} {cs vs h:List V} (k:V→List V→Option R) (he:DU.ext f=false) (hp:DU.pure f=false) {r:V} {h':List V} (e:Cl f (AY (vs++cs)) h=some (r,h')) (hs:(DU.seq f).1=0:=by kernel_rfl):Cj P DU W (.clo f cs) vs h k=k r h':=by
 rw[ABh k he hp hs,e];rfl
end
end Go.Proofs.YtoakaehjnbhgmaaGreatDoor
