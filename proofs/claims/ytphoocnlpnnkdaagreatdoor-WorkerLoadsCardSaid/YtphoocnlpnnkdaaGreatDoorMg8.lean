/-
  Part of the proof of a statement about the given program: an abstract machine over its code, the simulation, its functions' equations, what they compute.
-/
import Derived.Test.YtphoocnlpnnkdaaGreatDoorMg6
import Derived.Test.YtphoocnlpnnkdaaGreatDoorMg7
set_option linter.unusedVariables false
set_option linter.unusedSimpArgs false
set_option linter.unusedSectionVars false
noncomputable section
namespace Go.Proofs.YtphoocnlpnnkdaaGreatDoor
section
open Go AM
section
variable {P:Program}
theorem Ip {t u:TypeId} {fs:List TypeId} {f:Nat} {ft:TypeId} (hk:K P t= .struct u fs) (hf:fs[f]?=some ft) (hc:P.cellsOf ft≠0) (id:Nat) (p:List Nat):Af P t f (.ref id p t)=some (.ref id (p++[f]) ft):=by
 simp[Af,hk,hf,hc]
theorem CG {h:List V} {t:TypeId} {id:Nat} {p:List Nat} {v:V} (hr:rd h id p=some v):AX h t (.ref id p t)=some v:=by simp[AX,hr]
theorem EK {h:List V} {t:TypeId} {v:V}:AX h t (.rop t v)=some v:=by simp[AX]
theorem Eg {h:List V} {id:Nat} {v:V} (hv:h[id]?=some v):rd h id []=some v:=by simp[rd,hv,V.at]
theorem Iq {h:List V} {id i:Nat} {u:TypeId} {fs:List V} {v:V} (hv:h[id]?=some (.agg u fs)) (hi:fs[i]?=some v):rd h id [i]=some v:=by simp[rd,hv,V.at,hi]
theorem APa {h:List V} {id i:Nat} {u:TypeId} {fs:List V} {v:V} (hv:h[id]?=some (.row u fs)) (hi:fs[i]?=some v):rd h id [i]=some v:=by simp[rd,hv,V.at,hi]
theorem EM {h:List V} {t:TypeId} {id:Nat} {v w:V} (hw:h[id]?=some w) (ht:Bc P t v=true) (hu:v.under (id+1)=true):FW P h t (.ref id [] t) v=some (h.set id v):=by
 simp[FW,ht,hu,wr,hw,V.upd]
theorem J6 {h:List V} {t u:TypeId} {id i:Nat} {fs:List V} {v x:V} (hw:h[id]?=some (.agg u fs)) (hi:fs[i]?=some x) (ht:Bc P t v=true) (hu:v.under (id+1)=true):FW P h t (.ref id [i] t) v=some (h.set id (.agg u (fs.set i v))):=by
 simp[FW,ht,hu,wr,hw,V.upd,hi]
theorem AK2 {h:List V} {t u:TypeId} {id i:Nat} {fs:List V} {v x:V} (hw:h[id]?=some (.row u fs)) (hi:fs[i]?=some x) (ht:Bc P t v=true) (hu:v.under (id+1)=true):FW P h t (.ref id [i] t) v=some (h.set id (.row u (fs.set i v))):=by
 simp[FW,ht,hu,wr,hw,V.upd,hi]
end
theorem DW {α:Type} (h:List α) (z:α):(h++[z])[h.length]?=some z:=by simp
theorem Ir {α:Type} {h:List α} {i:Nat} {x:α} (z:List α) (hx:h[i]?=some x):(h++z)[i]?=some x:=by
 have hi:i<h.length:=by
  rcases Nat.lt_or_ge i h.length with h'|h'
  ·exact h'
  ·rw[List.getElem?_eq_none h']at hx;cases hx
 rw[List.getElem?_append_left hi];exact hx
theorem GN {α:Type} {h:List α} {i:Nat} {x:α} (y:α) (hx:h[i]?=some x):(h.set i y)[i]?=some y:=by
 have hi:i<h.length:=by
  rcases Nat.lt_or_ge i h.length with h'|h'
  ·exact h'
  ·rw[List.getElem?_eq_none h']at hx;cases hx
 rw[List.getElem?_set];simp[hi]
theorem AAW {α:Type} {h:List α} {i j:Nat} (y:α) (hij:j≠i):(h.set i y)[j]?=h[j]?:=by
 rw[List.getElem?_set];simp[Ne.symm hij]
theorem Wn {α:Type} {l:List α} {i:Nat} {a:α} (h:l[i]?=some a):l.set i a=l:=by
 apply List.ext_getElem?
 intro j
 by_cases hj:j=i
 ·subst hj;rw[GN a h,h]
 ·rw[AAW a hj]
theorem IB {α:Type} {h:List α} {i:Nat} {x:α} (hx:h[i]?=some x):i<h.length:=by
 rcases Nat.lt_or_ge i h.length with h'|h'
 ·exact h'
 ·rw[List.getElem?_eq_none h']at hx;cases hx
theorem FB {α:Type} (h:List α) (z y:α):(h++[z]).set h.length y=h++[y]:=by simp
theorem Pm {α:Type} {h:List α} {i:Nat} (z:List α) (y:α) (hi:i<h.length):(h++z).set i y=h.set i y++z:=by rw[List.set_append_left _ _ hi]
theorem Gn {α:Type} (h z:List α):(h++z).take h.length=h:=by simp
theorem take_len {α:Type} (h:List α):h.take h.length=h:=by simp
theorem take_set {α:Type} (h z:List α) (i:Nat) (y:α):(h.set i y++z).take h.length=h.set i y:=by
 have:(h.set i y).length=h.length:=by simp
 rw[←this];simp
theorem APb (id:Nat) (p:List Nat) (t:TypeId):List.all [V.ref id p t] V.capOk=true:=rfl
theorem FC {R:Type} {f:FuncId} {cs vs h:List V} (k:V→List V→Option R) (he:CX.ext f=false) (hp:CX.pure f=false) (hs:(CX.seq f).1=0:=by kernel_rfl):BH P CX W (.clo f cs) vs h k=(Cl f (AP (vs++cs)) h).bind fun r=>k r.1 r.2:=by
 simp only[BH,JK,he,hp,hs,ne_eq,not_true_eq_false,Bool.false_eq_true,if_false,if_true];rfl
theorem AK3 {f:FuncId} {vs:List V} (ht:CX.two f=false):Hr CX W f vs=Cl f vs []:=by
 unfold Hr
 rw[ht];rfl
theorem J7 {R:Type} {f:FuncId} {cs vs h:List V} (k:V→List V→Option R) (he:CX.ext f=false) (hp:CX.pure f=true) (hs:(CX.seq f).1=0:=by kernel_rfl) (ht:CX.two f=false:=by kernel_rfl):BH P CX W (.clo f cs) vs h k=(Cl f (AB h (vs++cs)) []).bind fun r=>k r.1 h:=by
 simp only[BH,JK,he,hp,hs,ne_eq,not_true_eq_false,Bool.false_eq_true,if_false,if_true,AK3 ht]
end
end Go.Proofs.YtphoocnlpnnkdaaGreatDoor
