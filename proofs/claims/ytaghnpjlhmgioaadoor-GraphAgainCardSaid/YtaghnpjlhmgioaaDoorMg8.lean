/-
  Part of the proof of a statement about the given program: an abstract machine over its code, the simulation, its functions' equations, what they compute.
-/
import Derived.Test.YtaghnpjlhmgioaaDoorMg6
import Derived.Test.YtaghnpjlhmgioaaDoorMg7
section
set_option linter.unusedVariables false
set_option linter.unusedSimpArgs false
namespace Go.Proofs.YtaghnpjlhmgioaaDoor
open Go AM
section
variable {P : Program}
theorem ldP_ref {h : List V} {t : TypeId} {id : Nat} {p : List Nat} {v : V} (hr : rd h id p = some v) : ldP h t (.ref id p t) = some v := by simp [ldP, hr]
theorem rd_nil {h : List V} {id : Nat} {v : V} (hv : h[id]? = some v) : rd h id [] = some v := by simp [rd, hv, V.at]
theorem rd_row {h : List V} {id i : Nat} {u : TypeId} {fs : List V} {v : V} (hv : h[id]? = some (.row u fs)) (hi : fs[i]? = some v) : rd h id [i] = some v := by simp [rd, hv, V.at, hi]
theorem sto_nil {h : List V} {t : TypeId} {id : Nat} {v w : V} (hw : h[id]? = some w) (ht : tyOk P t v = true) (hu : v.under (id + 1) = true) : sto P h t (.ref id [] t) v = some (h.set id v) := by
 simp [sto, ht, hu, wr, hw, V.upd]
theorem sto_row {h : List V} {t u : TypeId} {id i : Nat} {fs : List V} {v x : V} (hw : h[id]? = some (.row u fs)) (hi : fs[i]? = some x) (ht : tyOk P t v = true) (hu : v.under (id + 1) = true) : sto P h t (.ref id [i] t) v = some (h.set id (.row u (fs.set i v))) := by
 simp [sto, ht, hu, wr, hw, V.upd, hi]
end
theorem get_last {α : Type} (h : List α) (z : α) : (h ++ [z])[h.length]? = some z := by simp
theorem get_old {α : Type} {h : List α} {i : Nat} {x : α} (z : List α) (hx : h[i]? = some x) : (h ++ z)[i]? = some x := by
 have hi : i < h.length := by
  rcases Nat.lt_or_ge i h.length with h' | h'
  · exact h'
  · rw [List.getElem?_eq_none h'] at hx; cases hx
 rw [List.getElem?_append_left hi]; exact hx
theorem get_set {α : Type} {h : List α} {i : Nat} {x : α} (y : α) (hx : h[i]? = some x) : (h.set i y)[i]? = some y := by
 have hi : i < h.length := by
  rcases Nat.lt_or_ge i h.length with h' | h'
  · exact h'
  · rw [List.getElem?_eq_none h'] at hx; cases hx
 rw [List.getElem?_set]; simp [hi]
theorem get_set_ne {α : Type} {h : List α} {i j : Nat} (y : α) (hij : j ≠ i) : (h.set i y)[j]? = h[j]? := by
 rw [List.getElem?_set]; simp [Ne.symm hij]
theorem set_get {α : Type} {l : List α} {i : Nat} {a : α} (h : l[i]? = some a) : l.set i a = l := by
 apply List.ext_getElem?
 intro j
 by_cases hj : j = i
 · subst hj; rw [get_set a h, h]
 · rw [get_set_ne a hj]
theorem set_last {α : Type} (h : List α) (z y : α) : (h ++ [z]).set h.length y = h ++ [y] := by simp
theorem set_old {α : Type} {h : List α} {i : Nat} (z : List α) (y : α) (hi : i < h.length) : (h ++ z).set i y = h.set i y ++ z := by rw [List.set_append_left _ _ hi]
theorem take_old {α : Type} (h z : List α) : (h ++ z).take h.length = h := by simp
theorem take_set {α : Type} (h z : List α) (i : Nat) (y : α) : (h.set i y ++ z).take h.length = h.set i y := by
 have : (h.set i y).length = h.length := by simp
 rw [← this]; simp
theorem callV_np {R : Type} {f : FuncId} {cs vs h : List V} (k : V → List V → Option R) (he : ann.ext f = false) (hp : ann.pure f = false) (hs : (ann.seq f).1 = 0 := by kernel_rfl) : callV P ann W (.clo f cs) vs h k = (Cl f (normL (vs ++ cs)) h).bind fun r => k r.1 r.2 := by
 simp only [callV, callF, he, hp, hs, ne_eq, not_true_eq_false, Bool.false_eq_true, if_false, if_true]; rfl
theorem callV_p {R : Type} {f : FuncId} {cs vs h : List V} (k : V → List V → Option R) (he : ann.ext f = false) (hp : ann.pure f = true) (hs : (ann.seq f).1 = 0 := by kernel_rfl) : callV P ann W (.clo f cs) vs h k = (Cl f (reifyL h (vs ++ cs)) []).bind fun r => k r.1 h := by
 simp only [callV, callF, he, hp, hs, ne_eq, not_true_eq_false, Bool.false_eq_true, if_false, if_true]; rfl
end Go.Proofs.YtaghnpjlhmgioaaDoor
end
