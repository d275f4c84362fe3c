/-
  Part of the proof of a statement about the given program: an abstract machine over its code, the simulation, its functions' equations, what they compute.
-/
import Derived.Test.YtiegkempfolgcaaGreatDoorMg4
set_option linter.unusedVariables false
set_option linter.unusedSimpArgs false
set_option linter.unusedSectionVars false
set_option maxRecDepth 100000
noncomputable section
namespace Go.Proofs.YtiegkempfolgcaaGreatDoor
section
open Go AM
theorem AFK:P.underlying 2=some (.int .i64):=by kernel_rfl
theorem K_2:K P 2= .scal:=by kernel_rfl
theorem OQ:P.underlying 3=some (.int .i64):=by kernel_rfl
theorem K_3:K P 3= .scal:=by kernel_rfl
theorem OT:P.underlying 5=some (.int .u8):=by kernel_rfl
theorem K_5:K P 5= .scal:=by kernel_rfl
theorem Yv:Az P depth 5=false:=by kernel_rfl
theorem Yw:P.underlying 9=some .string:=by kernel_rfl
theorem K_9:K P 9= .scal:=by kernel_rfl
theorem AHk:Az P depth 9=false:=by kernel_rfl
theorem AHl:K P 22= .slice 112:=by kernel_rfl
theorem AHm:K P 24= .struct 23 [3,22]:=by kernel_rfl
theorem AHn:K P 26= .struct 25 [9,3,3]:=by kernel_rfl
theorem ADu:K P 55= .array 54 32 5:=by kernel_rfl
theorem AFL:zero P 55=(V.agg 54 (List.replicate 32 (V.int .u8 0))):=by kernel_rfl
theorem Ll:P.underlying 68=some (.slice 5):=by kernel_rfl
theorem Gw:K P 68= .slice 5:=by kernel_rfl
theorem ACj:Az P depth 68=true:=by kernel_rfl
theorem ADv:P.cellsOf 68=1:=by kernel_rfl
theorem Pj:P.underlying 93=some (.int .u64):=by kernel_rfl
theorem AFM:K P 112= .struct 111 [3,3,2]:=by kernel_rfl
theorem Yx:K P 125= .struct 124 [68]:=by kernel_rfl
theorem ADw:zero P 125=(V.agg 124 [(V.lst 5 .nil [])]):=by kernel_rfl
theorem Pm:P.underlying 126=some (.int .u64):=by kernel_rfl
theorem ACk:K P 130= .struct 129 [9,34]:=by kernel_rfl
theorem ADx:zero P 130=(V.agg 129 [(V.str []),(V.int .i64 0)]):=by kernel_rfl
theorem Pn:P.underlying 149=some (.int .u32):=by kernel_rfl
theorem ACl:K P 149= .scal:=by kernel_rfl
theorem Yy:Az P depth 149=false:=by kernel_rfl
theorem KD:P.underlying 182=some (.slice 68):=by kernel_rfl
theorem Lm:K P 182= .slice 68:=by kernel_rfl
theorem JX:K P 184= .array 184 8 149:=by kernel_rfl
theorem UR:zero P 184=(V.agg 184 (List.replicate 8 (V.int .u32 0))):=by kernel_rfl
theorem ACm:K P 204= .array 204 64 149:=by kernel_rfl
theorem ADy:zero P 204=(V.agg 204 (List.replicate 64 (V.int .u32 0))):=by kernel_rfl
end
end Go.Proofs.YtiegkempfolgcaaGreatDoor
