/-
  Part of the proof of a statement about the given program: an abstract machine over its code, the simulation, its functions' equations, what they compute.
-/
import Derived.Test.YtmjocdbdbofcbaaDoorMg3
section
set_option maxRecDepth 100000
namespace Go.Proofs.YtmjocdbdbofcbaaDoor
open Go AM

theorem cel_2 : P.cellsOf 2 = 1 := by kernel_rfl
theorem und_3 : P.underlying 3 = some (.int .i64) := by kernel_rfl
theorem K_3 : K P 3 = .scal := by kernel_rfl
theorem zr_3 : zero P 3 = (V.int .i64 0) := by kernel_rfl
theorem hs_3 : hasSl P depth 3 = false := by kernel_rfl
theorem cel_3 : P.cellsOf 3 = 1 := by kernel_rfl
theorem und_5 : P.underlying 5 = some (.int .u8) := by kernel_rfl
theorem K_5 : K P 5 = .scal := by kernel_rfl
theorem hs_5 : hasSl P depth 5 = false := by kernel_rfl
theorem und_9 : P.underlying 9 = some .string := by kernel_rfl
theorem K_9 : K P 9 = .scal := by kernel_rfl
theorem hs_9 : hasSl P depth 9 = false := by kernel_rfl
theorem cel_9 : P.cellsOf 9 = 1 := by kernel_rfl
theorem und_23 : P.underlying 23 = some (.slice 38) := by kernel_rfl
theorem K_23 : K P 23 = .slice 38 := by kernel_rfl
theorem und_24 : P.underlying 24 = some (.int .i64) := by kernel_rfl
theorem K_24 : K P 24 = .scal := by kernel_rfl
theorem cel_24 : P.cellsOf 24 = 1 := by kernel_rfl
theorem K_33 : K P 33 = .array 32 32 5 := by kernel_rfl
theorem zr_33 : zero P 33 = (V.agg 32 (List.replicate 32 (V.int .u8 0))) := by kernel_rfl
theorem K_38 : K P 38 = .struct 37 [3, 3, 2] := by kernel_rfl
theorem hs_38 : hasSl P depth 38 = false := by kernel_rfl
theorem und_55 : P.underlying 55 = some (.slice 5) := by kernel_rfl
theorem K_55 : K P 55 = .slice 5 := by kernel_rfl
theorem hs_55 : hasSl P depth 55 = true := by kernel_rfl
theorem cel_55 : P.cellsOf 55 = 1 := by kernel_rfl
theorem K_57 : K P 57 = .slice 9 := by kernel_rfl
theorem und_61 : P.underlying 61 = some (.int .u64) := by kernel_rfl
theorem K_61 : K P 61 = .scal := by kernel_rfl
theorem und_83 : P.underlying 83 = some (.slice 3) := by kernel_rfl
theorem K_83 : K P 83 = .slice 3 := by kernel_rfl
theorem K_88 : K P 88 = .struct 87 [9, 24] := by kernel_rfl
theorem zr_88 : zero P 88 = (V.agg 87 [(V.str []), (V.int .i64 0)]) := by kernel_rfl
theorem K_97 : K P 97 = .struct 96 [55] := by kernel_rfl
theorem zr_97 : zero P 97 = (V.agg 96 [(V.lst 5 .nil [])]) := by kernel_rfl
theorem und_98 : P.underlying 98 = some (.int .u64) := by kernel_rfl
theorem und_123 : P.underlying 123 = some (.slice 55) := by kernel_rfl
theorem K_123 : K P 123 = .slice 55 := by kernel_rfl
theorem und_125 : P.underlying 125 = some (.int .u32) := by kernel_rfl
theorem K_125 : K P 125 = .scal := by kernel_rfl
theorem hs_125 : hasSl P depth 125 = false := by kernel_rfl
theorem K_126 : K P 126 = .array 126 8 125 := by kernel_rfl
theorem zr_126 : zero P 126 = (V.agg 126 (List.replicate 8 (V.int .u32 0))) := by kernel_rfl
theorem K_145 : K P 145 = .array 145 64 125 := by kernel_rfl
theorem zr_145 : zero P 145 = (V.agg 145 (List.replicate 64 (V.int .u32 0))) := by kernel_rfl
theorem und_147 : P.underlying 147 = some (.int .u64) := by kernel_rfl
theorem K_147 : K P 147 = .scal := by kernel_rfl
end Go.Proofs.YtmjocdbdbofcbaaDoor
end
