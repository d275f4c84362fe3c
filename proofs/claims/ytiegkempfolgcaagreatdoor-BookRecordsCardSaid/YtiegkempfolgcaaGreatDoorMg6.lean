/-
  Part of the proof of a statement about the given program: an abstract machine over its code, the simulation, its functions' equations, what they compute.
-/
import Derived.Test.YtiegkempfolgcaaGreatDoorMg4
set_option linter.unusedVariables false
set_option linter.unusedSimpArgs false
set_option linter.unusedSectionVars false
set_option maxRecDepth 100000
noncomputable section
namespace Go.Proofs.YtiegkempfolgcaaGreatDoor
section
open Go AM
theorem AJl:P.underlying 2=some (.int .i64):=by kernel_rfl
theorem K_2:K P 2= .scal:=by kernel_rfl
theorem AJm:P.cellsOf 2=1:=by kernel_rfl
theorem N8:P.underlying 3=some (.int .i64):=by kernel_rfl
theorem K_3:K P 3= .scal:=by kernel_rfl
theorem Yi:P.cellsOf 3=1:=by kernel_rfl
theorem AJn:P.underlying 4=some .bool:=by kernel_rfl
theorem K_4:K P 4= .scal:=by kernel_rfl
theorem KY:P.underlying 5=some (.int .u8):=by kernel_rfl
theorem K_5:K P 5= .scal:=by kernel_rfl
theorem Zj:BN P depth 5=false:=by kernel_rfl
theorem QW:P.underlying 9=some .string:=by kernel_rfl
theorem K_9:K P 9= .scal:=by kernel_rfl
theorem AHt:BN P depth 9=false:=by kernel_rfl
theorem AMH:K P 28= .slice 4:=by kernel_rfl
theorem AJo:K P 29= .slice 55:=by kernel_rfl
theorem AMI:K P 30= .slice 58:=by kernel_rfl
theorem Si:P.underlying 31=some (.slice 108):=by kernel_rfl
theorem Sj:K P 31= .slice 108:=by kernel_rfl
theorem AMJ:K P 33= .struct 32 [3,28,29,30,31]:=by kernel_rfl
theorem AHu:P.underlying 34=some (.int .i64):=by kernel_rfl
theorem AMK:K P 34= .scal:=by kernel_rfl
theorem AML:K P 41= .slice 60:=by kernel_rfl
theorem AES:K P 55= .array 54 32 5:=by kernel_rfl
theorem AJp:zero P 55=(V.agg 54 (List.replicate 32 (V.int .u8 0))):=by kernel_rfl
theorem AMM:K P 57= .struct 56 [3,3,55,29]:=by kernel_rfl
theorem AHv:P.underlying 58=some (.slice 9):=by kernel_rfl
theorem AET:K P 58= .slice 9:=by kernel_rfl
theorem AMN:K P 60= .struct 59 [34,3,57,31,58]:=by kernel_rfl
theorem J9:P.underlying 68=some (.slice 5):=by kernel_rfl
theorem Gf:K P 68= .slice 5:=by kernel_rfl
theorem AGO:BN P depth 68=true:=by kernel_rfl
theorem AHw:P.cellsOf 68=1:=by kernel_rfl
theorem N9:P.underlying 93=some (.int .u64):=by kernel_rfl
theorem Yj:K P 108= .struct 107 [3,3,2]:=by kernel_rfl
theorem AB1:BN P depth 108=false:=by kernel_rfl
theorem AB2:K P 125= .struct 124 [68]:=by kernel_rfl
theorem AHx:zero P 125=(V.agg 124 [(V.lst 5 .nil [])]):=by kernel_rfl
theorem Sm:P.underlying 126=some (.int .u64):=by kernel_rfl
theorem AGP:K P 130= .struct 129 [9,34]:=by kernel_rfl
theorem AHy:zero P 130=(V.agg 129 [(V.str []),(V.int .i64 0)]):=by kernel_rfl
theorem Sr:P.underlying 149=some (.int .u32):=by kernel_rfl
theorem AGQ:K P 149= .scal:=by kernel_rfl
theorem AB3:BN P depth 149=false:=by kernel_rfl
theorem L8:P.underlying 182=some (.slice 68):=by kernel_rfl
theorem OA:K P 182= .slice 68:=by kernel_rfl
theorem KZ:K P 184= .array 184 8 149:=by kernel_rfl
theorem Wj:zero P 184=(V.agg 184 (List.replicate 8 (V.int .u32 0))):=by kernel_rfl
theorem AGR:K P 204= .array 204 64 149:=by kernel_rfl
theorem AHz:zero P 204=(V.agg 204 (List.replicate 64 (V.int .u32 0))):=by kernel_rfl
end
end Go.Proofs.YtiegkempfolgcaaGreatDoor
