/-
  Part of the proof of a statement about the given program: an abstract machine over its code, the simulation, its functions' equations, what they compute.
-/
import Derived.Test.YtaghnpjlhmgioaaDoorMg15
import Derived.Test.YtaghnpjlhmgioaaDoorMg22
import Derived.Test.YtaghnpjlhmgioaaDoorMg24
import Derived.Test.YtaghnpjlhmgioaaDoorMg26
import Derived.Test.YtaghnpjlhmgioaaDoorMg4
import Derived.Test.YtaghnpjlhmgioaaDoorMg6
set_option linter.unusedVariables false
set_option linter.unusedSimpArgs false
set_option linter.unusedSectionVars false
set_option maxRecDepth 100000
noncomputable section
namespace Go.Proofs.YtaghnpjlhmgioaaDoor
section
open Go AM
theorem AGX {f:TypeId→V→Bool} {t:TypeId} {ts:List TypeId} {vs:List V} (h:Jq f (t::ts) vs=true):∃a us,vs=a::us∧f t a=true∧Jq f ts us=true:=by
 match vs,h with
 |a::us,h=>simp only[Jq,Bool.and_eq_true]at h;exact⟨a,us,rfl,h.1,h.2⟩
theorem AGY {f:TypeId→V→Bool} {vs:List V} (h:Jq f [] vs=true):vs=[]:=by
 match vs,h with
 |[],_=>rfl
theorem AEQ {n:Nat} {t:TypeId} {v:V} (hk:K P t= .scal) (hu:P.underlying t=some .string) (h:Qy P (n+1) t v=true):∃s:List UInt8,v= .str s∧s.length<9223372036854775808:=by
 cases v<;>simp only[Qy,hk,hu,Bool.false_eq_true,decide_eq_true_eq]at h
 rename_i s
 have:maxLen=9223372036854775807:=by decide
 exact⟨s,rfl,by omega⟩
end
section
open Go AM
theorem follows:P.follows .mixedOrders=true:=by kernel_rfl
theorem AGZ:UG P=true:=by kernel_rfl
theorem lay:Lay P:=AGR AGZ
theorem ACu:YN P=true:=by kernel_rfl
theorem AER:ACq P Df=true:=by kernel_rfl
theorem AES:O4 P Df=true:=by kernel_rfl
end
end Go.Proofs.YtaghnpjlhmgioaaDoor
