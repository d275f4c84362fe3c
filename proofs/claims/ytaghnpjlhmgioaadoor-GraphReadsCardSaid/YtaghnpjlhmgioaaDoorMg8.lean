/-
  Part of the proof of a statement about the given program: an abstract machine over its code, the simulation, its functions' equations, what they compute.
-/
import Derived.Test.YtaghnpjlhmgioaaDoorMg6
import Derived.Test.YtaghnpjlhmgioaaDoorMg7
set_option linter.unusedVariables false
set_option linter.unusedSimpArgs false
set_option linter.unusedSectionVars false
noncomputable section
namespace Go.Proofs.YtaghnpjlhmgioaaDoor
section
open Go AM
section
variable {P:Program}
theorem Md {h:List V} {t:TypeId} {id:Nat} {p:List Nat} {v:V} (hr:rd h id p=some v):A8 h t (.ref id p t)=some v:=by simp[A8,hr]
theorem WO {h:List V} {id:Nat} {v:V} (hv:h[id]?=some v):rd h id []=some v:=by simp[rd,hv,V.at]
theorem AFn {h:List V} {id i:Nat} {u:TypeId} {fs:List V} {v:V} (hv:h[id]?=some (.row u fs)) (hi:fs[i]?=some v):rd h id [i]=some v:=by simp[rd,hv,V.at,hi]
theorem TU {h:List V} {t:TypeId} {id:Nat} {v w:V} (hw:h[id]?=some w) (ht:Ee P t v=true) (hu:v.under (id+1)=true):EY P h t (.ref id [] t) v=some (h.set id v):=by
 simp[EY,ht,hu,wr,hw,V.upd]
theorem ADL {h:List V} {t u:TypeId} {id i:Nat} {fs:List V} {v x:V} (hw:h[id]?=some (.row u fs)) (hi:fs[i]?=some x) (ht:Ee P t v=true) (hu:v.under (id+1)=true):EY P h t (.ref id [i] t) v=some (h.set id (.row u (fs.set i v))):=by
 simp[EY,ht,hu,wr,hw,V.upd,hi]
end
theorem Nh {α:Type} (h:List α) (z:α):(h++[z])[h.length]?=some z:=by simp
theorem Xo {α:Type} {h:List α} {i:Nat} {x:α} (z:List α) (hx:h[i]?=some x):(h++z)[i]?=some x:=by
 have hi:i<h.length:=by
  rcases Nat.lt_or_ge i h.length with h'|h'
  ·exact h'
  ·rw[List.getElem?_eq_none h']at hx;cases hx
 rw[List.getElem?_append_left hi];exact hx
theorem Ii {α:Type} {h:List α} {i:Nat} {x:α} (y:α) (hx:h[i]?=some x):(h.set i y)[i]?=some y:=by
 have hi:i<h.length:=by
  rcases Nat.lt_or_ge i h.length with h'|h'
  ·exact h'
  ·rw[List.getElem?_eq_none h']at hx;cases hx
 rw[List.getElem?_set];simp[hi]
theorem Nj {α:Type} {h:List α} {i j:Nat} (y:α) (hij:j≠i):(h.set i y)[j]?=h[j]?:=by
 rw[List.getElem?_set];simp[Ne.symm hij]
theorem ADM {α:Type} {l:List α} {i:Nat} {a:α} (h:l[i]?=some a):l.set i a=l:=by
 apply List.ext_getElem?
 intro j
 by_cases hj:j=i
 ·subst hj;rw[Ii a h,h]
 ·rw[Nj a hj]
theorem Nk {α:Type} (h:List α) (z y:α):(h++[z]).set h.length y=h++[y]:=by simp
theorem ADN {α:Type} {h:List α} {i:Nat} (z:List α) (y:α) (hi:i<h.length):(h++z).set i y=h.set i y++z:=by rw[List.set_append_left _ _ hi]
theorem Jz {α:Type} (h z:List α):(h++z).take h.length=h:=by simp
theorem take_set {α:Type} (h z:List α) (i:Nat) (y:α):(h.set i y++z).take h.length=h.set i y:=by
 have:(h.set i y).length=h.length:=by simp
 rw[←this];simp
theorem Uc {R:Type} {f:FuncId} {cs vs h:List V} (k:V→List V→Option R) (he:Df.ext f=false) (hp:Df.pure f=false) (hs:(Df.seq f).1=0:=by kernel_rfl):BQ P Df W (.clo f cs) vs h k=(Cl f (Ac (vs++cs)) h).bind fun r=>k r.1 r.2:=by
 simp only[BQ,G5,he,hp,hs,ne_eq,not_true_eq_false,Bool.false_eq_true,if_false,if_true];rfl
theorem ADO {R:Type} {f:FuncId} {cs vs h:List V} (k:V→List V→Option R) (he:Df.ext f=false) (hp:Df.pure f=true) (hs:(Df.seq f).1=0:=by kernel_rfl):BQ P Df W (.clo f cs) vs h k=(Cl f (AZ h (vs++cs)) []).bind fun r=>k r.1 h:=by
 simp only[BQ,G5,he,hp,hs,ne_eq,not_true_eq_false,Bool.false_eq_true,if_false,if_true];rfl
end
end Go.Proofs.YtaghnpjlhmgioaaDoor
