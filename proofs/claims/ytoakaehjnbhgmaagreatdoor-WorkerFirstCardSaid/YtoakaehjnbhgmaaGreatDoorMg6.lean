/-
  Part of the proof of a statement about the given program: an abstract machine over its code, the simulation, its functions' equations, what they compute.
-/
import Derived.Test.YtoakaehjnbhgmaaGreatDoorMg4
set_option linter.unusedVariables false
set_option linter.unusedSimpArgs false
set_option linter.unusedSectionVars false
set_option maxRecDepth 100000
noncomputable section
namespace Go.Proofs.YtoakaehjnbhgmaaGreatDoor
section
open Go AM
theorem AJk:P.underlying 2=some (.int .i64):=by kernel_rfl
theorem K_2:K P 2= .scal:=by kernel_rfl
theorem OY:P.underlying 3=some (.int .i64):=by kernel_rfl
theorem K_3:K P 3= .scal:=by kernel_rfl
theorem LH:P.underlying 5=some (.int .u8):=by kernel_rfl
theorem K_5:K P 5= .scal:=by kernel_rfl
theorem WX:BK P depth 5=false:=by kernel_rfl
theorem OZ:P.underlying 9=some .string:=by kernel_rfl
theorem K_9:K P 9= .scal:=by kernel_rfl
theorem AMD:K P 22= .slice 96:=by kernel_rfl
theorem AME:K P 24= .struct 23 [3,22]:=by kernel_rfl
theorem AMF:K P 26= .struct 25 [9,3,3]:=by kernel_rfl
theorem AEm:K P 66= .array 65 32 5:=by kernel_rfl
theorem AGh:zero P 66=(V.agg 65 (List.replicate 32 (V.int .u8 0))):=by kernel_rfl
theorem AMG:K P 96= .struct 95 [3,3,2]:=by kernel_rfl
theorem ES:P.underlying 132=some (.int .u64):=by kernel_rfl
theorem ABa:K P 132= .scal:=by kernel_rfl
theorem KE:BK P depth 132=false:=by kernel_rfl
theorem F6:P.underlying 172=some (.slice 5):=by kernel_rfl
theorem Dc:K P 172= .slice 5:=by kernel_rfl
theorem ABb:BK P depth 172=true:=by kernel_rfl
theorem AEn:P.cellsOf 172=1:=by kernel_rfl
theorem ABc:K P 191= .struct 190 [172]:=by kernel_rfl
theorem AH3:zero P 191=(V.agg 190 [(V.lst 5 .nil [])]):=by kernel_rfl
theorem Rx:P.underlying 192=some (.int .u64):=by kernel_rfl
theorem Ry:P.underlying 203=some (.int .u32):=by kernel_rfl
theorem AGi:K P 203= .scal:=by kernel_rfl
theorem ABd:BK P depth 203=false:=by kernel_rfl
theorem LJ:K P 231= .slice 132:=by kernel_rfl
theorem MS:P.underlying 245=some (.slice 172):=by kernel_rfl
theorem Oa:K P 245= .slice 172:=by kernel_rfl
theorem LK:K P 247= .array 247 8 203:=by kernel_rfl
theorem WY:zero P 247=(V.agg 247 (List.replicate 8 (V.int .u32 0))):=by kernel_rfl
theorem AGj:K P 261= .array 261 64 203:=by kernel_rfl
theorem AH4:zero P 261=(V.agg 261 (List.replicate 64 (V.int .u32 0))):=by kernel_rfl
end
end Go.Proofs.YtoakaehjnbhgmaaGreatDoor
