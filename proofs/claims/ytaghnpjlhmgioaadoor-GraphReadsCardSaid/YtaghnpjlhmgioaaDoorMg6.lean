/-
  Part of the proof of a statement about the given program: an abstract machine over its code, the simulation, its functions' equations, what they compute.
-/
import Derived.Test.YtaghnpjlhmgioaaDoorMg4
set_option linter.unusedVariables false
set_option linter.unusedSimpArgs false
set_option linter.unusedSectionVars false
set_option maxRecDepth 100000
noncomputable section
namespace Go.Proofs.YtaghnpjlhmgioaaDoor
section
open Go AM
theorem ABY:P.underlying 3=some (.int .i64):=by kernel_rfl
theorem K_3:K P 3= .scal:=by kernel_rfl
theorem AJP:zero P 3=(V.int .i64 0):=by kernel_rfl
theorem AHA:P.underlying 5=some (.int .u8):=by kernel_rfl
theorem AEf:P.underlying 9=some .string:=by kernel_rfl
theorem K_9:K P 9= .scal:=by kernel_rfl
theorem AFk:P.underlying 22=some (.slice 45):=by kernel_rfl
theorem AJQ:K P 22= .slice 45:=by kernel_rfl
theorem AJR:K P 45= .struct 44 [3,3,2]:=by kernel_rfl
theorem ABZ:P.underlying 77=some (.int .u64):=by kernel_rfl
theorem Xm:P.underlying 103=some (.int .u64):=by kernel_rfl
theorem AHB:K P 103= .scal:=by kernel_rfl
end
end Go.Proofs.YtaghnpjlhmgioaaDoor
