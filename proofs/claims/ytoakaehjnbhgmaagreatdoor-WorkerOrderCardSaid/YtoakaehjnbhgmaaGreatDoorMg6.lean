/-
  Part of the proof of a statement about the given program: an abstract machine over its code, the simulation, its functions' equations, what they compute.
-/
import Derived.Test.YtoakaehjnbhgmaaGreatDoorMg4
set_option linter.unusedVariables false
set_option linter.unusedSimpArgs false
set_option linter.unusedSectionVars false
set_option maxRecDepth 100000
noncomputable section
namespace Go.Proofs.YtoakaehjnbhgmaaGreatDoor
section
open Go AM
theorem AKy:P.underlying 2=some (.int .i64):=by kernel_rfl
theorem K_2:K P 2= .scal:=by kernel_rfl
theorem AOm:P.cellsOf 2=1:=by kernel_rfl
theorem KY:P.underlying 3=some (.int .i64):=by kernel_rfl
theorem K_3:K P 3= .scal:=by kernel_rfl
theorem ABw:P.cellsOf 3=1:=by kernel_rfl
theorem NQ:P.underlying 5=some (.int .u8):=by kernel_rfl
theorem K_5:K P 5= .scal:=by kernel_rfl
theorem Xc:Ba P depth 5=false:=by kernel_rfl
theorem TS:P.underlying 9=some .string:=by kernel_rfl
theorem K_9:K P 9= .scal:=by kernel_rfl
theorem AOn:Ba P depth 9=false:=by kernel_rfl
theorem ARZ:K P 22= .slice 96:=by kernel_rfl
theorem ARa:K P 24= .struct 23 [3,22]:=by kernel_rfl
theorem ARb:K P 26= .struct 25 [9,3,3]:=by kernel_rfl
theorem VH:P.underlying 39=some (.slice 152):=by kernel_rfl
theorem ZO:K P 39= .slice 152:=by kernel_rfl
theorem AMG:P.underlying 42=some (.slice 9):=by kernel_rfl
theorem AMH:K P 42= .slice 9:=by kernel_rfl
theorem AMI:K P 66= .array 65 32 5:=by kernel_rfl
theorem AOo:zero P 66=(V.agg 65 (List.replicate 32 (V.int .u8 0))):=by kernel_rfl
theorem ARc:K P 70= .slice 39:=by kernel_rfl
theorem ARd:K P 96= .struct 95 [3,3,2]:=by kernel_rfl
theorem En:P.underlying 132=some (.int .u64):=by kernel_rfl
theorem AEv:K P 132= .scal:=by kernel_rfl
theorem MC:Ba P depth 132=false:=by kernel_rfl
theorem ABx:K P 152= .struct 151 [3,3,2]:=by kernel_rfl
theorem AEw:Ba P depth 152=false:=by kernel_rfl
theorem JF:P.underlying 172=some (.slice 5):=by kernel_rfl
theorem D9:K P 172= .slice 5:=by kernel_rfl
theorem AEx:Ba P depth 172=true:=by kernel_rfl
theorem AIk:P.cellsOf 172=1:=by kernel_rfl
theorem AEy:K P 191= .struct 190 [172]:=by kernel_rfl
theorem AMJ:zero P 191=(V.agg 190 [(V.lst 5 .nil [])]):=by kernel_rfl
theorem VI:P.underlying 192=some (.int .u64):=by kernel_rfl
theorem VJ:P.underlying 203=some (.int .u32):=by kernel_rfl
theorem AKz:K P 203= .scal:=by kernel_rfl
theorem AEz:Ba P depth 203=false:=by kernel_rfl
theorem NR:K P 231= .slice 132:=by kernel_rfl
theorem OW:P.underlying 245=some (.slice 172):=by kernel_rfl
theorem Qj:K P 245= .slice 172:=by kernel_rfl
theorem NS:K P 247= .array 247 8 203:=by kernel_rfl
theorem ZP:zero P 247=(V.agg 247 (List.replicate 8 (V.int .u32 0))):=by kernel_rfl
theorem AK0:K P 261= .array 261 64 203:=by kernel_rfl
theorem AMK:zero P 261=(V.agg 261 (List.replicate 64 (V.int .u32 0))):=by kernel_rfl
end
end Go.Proofs.YtoakaehjnbhgmaaGreatDoor
