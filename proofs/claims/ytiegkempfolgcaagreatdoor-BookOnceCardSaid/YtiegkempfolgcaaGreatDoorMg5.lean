/-
  Part of the proof of a statement about the given program: an abstract machine over its code, the simulation, its functions' equations, what they compute.
-/
import Derived.Test.YtiegkempfolgcaaGreatDoorMg3
section
set_option maxRecDepth 100000
namespace Go.Proofs.YtiegkempfolgcaaGreatDoor
open Go AM
theorem und_2 : P.underlying 2 = some (.int .i64) := by kernel_rfl
theorem K_2 : K P 2 = .scal := by kernel_rfl
theorem und_3 : P.underlying 3 = some (.int .i64) := by kernel_rfl
theorem K_3 : K P 3 = .scal := by kernel_rfl
theorem zr_3 : zero P 3 = (V.int .i64 0) := by kernel_rfl
theorem und_4 : P.underlying 4 = some .bool := by kernel_rfl
theorem K_4 : K P 4 = .scal := by kernel_rfl
theorem und_5 : P.underlying 5 = some (.int .u8) := by kernel_rfl
theorem K_5 : K P 5 = .scal := by kernel_rfl
theorem hs_5 : hasSl P depth 5 = false := by kernel_rfl
theorem und_9 : P.underlying 9 = some .string := by kernel_rfl
theorem K_9 : K P 9 = .scal := by kernel_rfl
theorem hs_9 : hasSl P depth 9 = false := by kernel_rfl
theorem cel_9 : P.cellsOf 9 = 1 := by kernel_rfl
theorem und_22 : P.underlying 22 = some (.slice 112) := by kernel_rfl
theorem K_22 : K P 22 = .slice 112 := by kernel_rfl
theorem K_24 : K P 24 = .struct 23 [3, 22] := by kernel_rfl
theorem K_26 : K P 26 = .struct 25 [9, 3, 3] := by kernel_rfl
theorem K_28 : K P 28 = .slice 4 := by kernel_rfl
theorem cel_28 : P.cellsOf 28 = 1 := by kernel_rfl
theorem K_33 : K P 33 = .struct 32 [3, 28, 29, 30, 31] := by kernel_rfl
theorem und_34 : P.underlying 34 = some (.int .i64) := by kernel_rfl
theorem K_34 : K P 34 = .scal := by kernel_rfl
theorem cel_34 : P.cellsOf 34 = 1 := by kernel_rfl
theorem K_55 : K P 55 = .array 54 32 5 := by kernel_rfl
theorem zr_55 : zero P 55 = (V.agg 54 (List.replicate 32 (V.int .u8 0))) := by kernel_rfl
theorem und_68 : P.underlying 68 = some (.slice 5) := by kernel_rfl
theorem K_68 : K P 68 = .slice 5 := by kernel_rfl
theorem hs_68 : hasSl P depth 68 = true := by kernel_rfl
theorem cel_68 : P.cellsOf 68 = 1 := by kernel_rfl
theorem und_93 : P.underlying 93 = some (.int .u64) := by kernel_rfl
theorem K_93 : K P 93 = .scal := by kernel_rfl
theorem K_112 : K P 112 = .struct 111 [3, 3, 2] := by kernel_rfl
theorem K_125 : K P 125 = .struct 124 [68] := by kernel_rfl
theorem zr_125 : zero P 125 = (V.agg 124 [(V.lst 5 .nil [])]) := by kernel_rfl
theorem und_126 : P.underlying 126 = some (.int .u64) := by kernel_rfl
theorem K_130 : K P 130 = .struct 129 [9, 34] := by kernel_rfl
theorem zr_130 : zero P 130 = (V.agg 129 [(V.str []), (V.int .i64 0)]) := by kernel_rfl
theorem und_149 : P.underlying 149 = some (.int .u32) := by kernel_rfl
theorem K_149 : K P 149 = .scal := by kernel_rfl
theorem hs_149 : hasSl P depth 149 = false := by kernel_rfl
theorem und_182 : P.underlying 182 = some (.slice 68) := by kernel_rfl
theorem K_182 : K P 182 = .slice 68 := by kernel_rfl
theorem K_184 : K P 184 = .array 184 8 149 := by kernel_rfl
theorem zr_184 : zero P 184 = (V.agg 184 (List.replicate 8 (V.int .u32 0))) := by kernel_rfl
theorem K_204 : K P 204 = .array 204 64 149 := by kernel_rfl
theorem zr_204 : zero P 204 = (V.agg 204 (List.replicate 64 (V.int .u32 0))) := by kernel_rfl
theorem und_211 : P.underlying 211 = some (.int .u64) := by kernel_rfl
theorem K_211 : K P 211 = .scal := by kernel_rfl
end Go.Proofs.YtiegkempfolgcaaGreatDoor
end
