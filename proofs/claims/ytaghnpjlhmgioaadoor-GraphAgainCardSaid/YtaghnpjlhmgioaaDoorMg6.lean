/-
  Part of the proof of a statement about the given program: an abstract machine over its code, the simulation, its functions' equations, what they compute.
-/
import Derived.Test.YtaghnpjlhmgioaaDoorMg4
section
set_option maxRecDepth 100000
namespace Go.Proofs.YtaghnpjlhmgioaaDoor
open Go AM
theorem und_3 : P.underlying 3 = some (.int .i64) := by kernel_rfl
theorem K_3 : K P 3 = .scal := by kernel_rfl
theorem zr_3 : zero P 3 = (V.int .i64 0) := by kernel_rfl
theorem und_5 : P.underlying 5 = some (.int .u8) := by kernel_rfl
theorem und_9 : P.underlying 9 = some .string := by kernel_rfl
theorem K_9 : K P 9 = .scal := by kernel_rfl
theorem und_22 : P.underlying 22 = some (.slice 45) := by kernel_rfl
theorem K_22 : K P 22 = .slice 45 := by kernel_rfl
theorem K_45 : K P 45 = .struct 44 [3, 3, 2] := by kernel_rfl
theorem und_77 : P.underlying 77 = some (.int .u64) := by kernel_rfl
theorem und_103 : P.underlying 103 = some (.int .u64) := by kernel_rfl
theorem K_103 : K P 103 = .scal := by kernel_rfl
end Go.Proofs.YtaghnpjlhmgioaaDoor
end
