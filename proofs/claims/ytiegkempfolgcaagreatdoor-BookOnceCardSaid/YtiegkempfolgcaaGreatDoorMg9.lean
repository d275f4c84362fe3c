/-
  Part of the proof of a statement about the given program: an abstract machine over its code, the simulation, its functions' equations, what they compute.
-/
import Derived.Test.YtiegkempfolgcaaGreatDoorMg7
import Derived.Test.YtiegkempfolgcaaGreatDoorMg8
section
set_option linter.unusedVariables false
namespace Go.Proofs.YtiegkempfolgcaaGreatDoor
open Go AM
theorem br_d {B : Type} {p : Prop} [Decidable p] {a b : Option B} {r : Option B} (h : p → a = r) (h2 : ¬ p → b = r) : V.ite (.bool (decide p)) a b = r := by
 by_cases hp : p
 · rw [decide_eq_true hp]; exact h hp
 · rw [decide_eq_false hp]; exact h2 hp
theorem br_b {B : Type} {p : Bool} {a b : Option B} {r : Option B} (h : p = true → a = r) (h2 : p = false → b = r) : V.ite (.bool p) a b = r := by
 cases p
 · exact h2 rfl
 · exact h rfl
@[go_sem] theorem capOk_ref (id : Nat) (p : List Nat) (t : TypeId) : V.capOk (.ref id p t) = true := (rfl)
@[go_sem] theorem ite_true' {B : Type} (a b : B) : (if (true : Bool) = true then a else b) = a := (rfl)
theorem callV_np2 {R : Type} {f : FuncId} {cs vs h : List V} (k : V → List V → Option R) (he : ann.ext f = false) (hp : ann.pure f = false) {r : V} {h' : List V} (e : Cl f (normL (vs ++ cs)) h = some (r, h')) (hs : (ann.seq f).1 = 0 := by kernel_rfl) : callV P ann W (.clo f cs) vs h k = k r h' := by
 rw [callV_np k he hp hs, e]; rfl
end Go.Proofs.YtiegkempfolgcaaGreatDoor
end
