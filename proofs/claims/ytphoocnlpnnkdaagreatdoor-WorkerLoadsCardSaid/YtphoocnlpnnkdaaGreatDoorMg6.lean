/-
  Part of the proof of a statement about the given program: an abstract machine over its code, the simulation, its functions' equations, what they compute.
-/
import Derived.Test.YtphoocnlpnnkdaaGreatDoorMg4
set_option linter.unusedVariables false
set_option linter.unusedSimpArgs false
set_option linter.unusedSectionVars false
set_option maxRecDepth 100000
noncomputable section
namespace Go.Proofs.YtphoocnlpnnkdaaGreatDoor
section
open Go AM
theorem ACp:P.underlying 2=some (.int .i64):=by kernel_rfl
theorem K_2:K P 2= .scal:=by kernel_rfl
theorem ASB:P.cellsOf 2=1:=by kernel_rfl
theorem JV:P.underlying 3=some (.int .i64):=by kernel_rfl
theorem K_3:K P 3= .scal:=by kernel_rfl
theorem ACq:P.cellsOf 3=1:=by kernel_rfl
theorem Ob:P.underlying 5=some (.int .u8):=by kernel_rfl
theorem K_5:K P 5= .scal:=by kernel_rfl
theorem YR:CS P depth 5=false:=by kernel_rfl
theorem Gj:P.underlying 9=some .string:=by kernel_rfl
theorem K_9:K P 9= .scal:=by kernel_rfl
theorem APQ:CS P depth 9=false:=by kernel_rfl
theorem ASC:P.cellsOf 9=1:=by kernel_rfl
theorem AUx:K P 22= .slice 52:=by kernel_rfl
theorem AUy:K P 24= .struct 23 [3,22]:=by kernel_rfl
theorem AUz:K P 26= .struct 25 [9,3,3]:=by kernel_rfl
theorem AU0:K P 27= .slice 36:=by kernel_rfl
theorem APR:P.underlying 31=some (.int .i64):=by kernel_rfl
theorem AU1:K P 31= .scal:=by kernel_rfl
theorem APS:P.cellsOf 31=1:=by kernel_rfl
theorem Wj:P.underlying 36=some (.slice 103):=by kernel_rfl
theorem AAT:K P 36= .slice 103:=by kernel_rfl
theorem APT:P.underlying 39=some (.slice 9):=by kernel_rfl
theorem APU:K P 39= .slice 9:=by kernel_rfl
theorem APV:K P 45= .array 44 32 5:=by kernel_rfl
theorem ASD:zero P 45=(V.agg 44 (List.replicate 32 (V.int .u8 0))):=by kernel_rfl
theorem AU2:K P 52= .struct 51 [3,3,2]:=by kernel_rfl
theorem Ef:P.underlying 75=some (.int .u64):=by kernel_rfl
theorem AHM:K P 75= .scal:=by kernel_rfl
theorem UO:CS P depth 75=false:=by kernel_rfl
theorem ACr:K P 103= .struct 102 [3,3,2]:=by kernel_rfl
theorem AHN:CS P depth 103=false:=by kernel_rfl
theorem J5:P.underlying 117=some (.slice 5):=by kernel_rfl
theorem Ea:K P 117= .slice 5:=by kernel_rfl
theorem AHO:CS P depth 117=true:=by kernel_rfl
theorem AK0:P.cellsOf 117=1:=by kernel_rfl
theorem AHP:K P 119= .struct 118 [117]:=by kernel_rfl
theorem APW:zero P 119=(V.agg 118 [(V.lst 5 .nil [])]):=by kernel_rfl
theorem Ph:P.underlying 120=some (.int .u64):=by kernel_rfl
theorem ACs:K P 122= .struct 121 [9,31]:=by kernel_rfl
theorem APX:zero P 122=(V.agg 121 [(V.str []),(V.int .i64 0)]):=by kernel_rfl
theorem Wl:P.underlying 166=some (.int .u32):=by kernel_rfl
theorem ANP:K P 166= .scal:=by kernel_rfl
theorem AHQ:CS P depth 166=false:=by kernel_rfl
theorem Oc:K P 181= .slice 75:=by kernel_rfl
theorem Pj:P.underlying 195=some (.slice 117):=by kernel_rfl
theorem RF:K P 195= .slice 117:=by kernel_rfl
theorem Oe:K P 197= .array 197 8 166:=by kernel_rfl
theorem AAU:zero P 197=(V.agg 197 (List.replicate 8 (V.int .u32 0))):=by kernel_rfl
theorem ANQ:K P 211= .array 211 64 166:=by kernel_rfl
theorem APY:zero P 211=(V.agg 211 (List.replicate 64 (V.int .u32 0))):=by kernel_rfl
end
end Go.Proofs.YtphoocnlpnnkdaaGreatDoor
