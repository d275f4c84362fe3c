/-
  Part of the proof of a statement about the given program: an abstract machine over its code, the simulation, its functions' equations, what they compute.
-/
import Derived.Test.YtkelgdjhpgefnaaGreatDoorMg6
set_option linter.unusedVariables false
set_option linter.unusedSimpArgs false
set_option linter.unusedSectionVars false
set_option maxRecDepth 100000
noncomputable section
namespace Go.Proofs.YtkelgdjhpgefnaaGreatDoor
section
open Go AM
theorem ZP:P.underlying 3=some (.int .i64):=by kernel_rfl
theorem K_3:K P 3= .scal:=by kernel_rfl
theorem VP:P.underlying 5=some (.int .u8):=by kernel_rfl
theorem K_5:K P 5= .scal:=by kernel_rfl
theorem VQ:BF P depth 5=false:=by kernel_rfl
theorem ADo:K P 22= .slice 58:=by kernel_rfl
theorem ABp:K P 40= .array 39 32 5:=by kernel_rfl
theorem ABq:zero P 40=(V.agg 39 (List.replicate 32 (V.int .u8 0))):=by kernel_rfl
theorem NS:P.underlying 58=some (.int .u32):=by kernel_rfl
theorem AAB:K P 58= .scal:=by kernel_rfl
theorem ZQ:BF P depth 58=false:=by kernel_rfl
theorem X0:P.underlying 112=some (.int .u64):=by kernel_rfl
theorem NT:P.underlying 167=some (.slice 5):=by kernel_rfl
theorem ET:K P 167= .slice 5:=by kernel_rfl
theorem NU:P.underlying 169=some (.int .u64):=by kernel_rfl
theorem JR:P.underlying 198=some (.slice 167):=by kernel_rfl
theorem O9:K P 198= .slice 167:=by kernel_rfl
theorem Ip:K P 200= .array 200 8 58:=by kernel_rfl
theorem QZ:zero P 200=(V.agg 200 (List.replicate 8 (V.int .u32 0))):=by kernel_rfl
theorem ZR:K P 210= .array 210 64 58:=by kernel_rfl
theorem AAC:zero P 210=(V.agg 210 (List.replicate 64 (V.int .u32 0))):=by kernel_rfl
end
end Go.Proofs.YtkelgdjhpgefnaaGreatDoor
