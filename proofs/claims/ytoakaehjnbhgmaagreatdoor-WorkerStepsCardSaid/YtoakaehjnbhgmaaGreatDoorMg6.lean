/-
  Part of the proof of a statement about the given program: an abstract machine over its code, the simulation, its functions' equations, what they compute.
-/
import Derived.Test.YtoakaehjnbhgmaaGreatDoorMg4
set_option linter.unusedVariables false
set_option linter.unusedSimpArgs false
set_option linter.unusedSectionVars false
set_option maxRecDepth 100000
noncomputable section
namespace Go.Proofs.YtoakaehjnbhgmaaGreatDoor
section
open Go AM
theorem AKY:P.underlying 2=some (.int .i64):=by kernel_rfl
theorem K_2:K P 2= .scal:=by kernel_rfl
theorem AOQ:P.cellsOf 2=1:=by kernel_rfl
theorem Jb:P.underlying 3=some (.int .i64):=by kernel_rfl
theorem K_3:K P 3= .scal:=by kernel_rfl
theorem ABh:P.cellsOf 3=1:=by kernel_rfl
theorem Qa:P.underlying 5=some (.int .u8):=by kernel_rfl
theorem K_5:K P 5= .scal:=by kernel_rfl
theorem XR:Ba P depth 5=false:=by kernel_rfl
theorem TL:P.underlying 9=some .string:=by kernel_rfl
theorem K_9:K P 9= .scal:=by kernel_rfl
theorem AOR:Ba P depth 9=false:=by kernel_rfl
theorem AQ7:K P 22= .slice 96:=by kernel_rfl
theorem AQ8:K P 24= .struct 23 [3,22]:=by kernel_rfl
theorem AQ9:K P 26= .struct 25 [9,3,3]:=by kernel_rfl
theorem U9:P.underlying 39=some (.slice 152):=by kernel_rfl
theorem Y8:K P 39= .slice 152:=by kernel_rfl
theorem ALr:P.underlying 42=some (.slice 9):=by kernel_rfl
theorem ALs:K P 42= .slice 9:=by kernel_rfl
theorem ALt:K P 66= .array 65 32 5:=by kernel_rfl
theorem AOS:zero P 66=(V.agg 65 (List.replicate 32 (V.int .u8 0))):=by kernel_rfl
theorem ARA:K P 70= .slice 39:=by kernel_rfl
theorem ARB:K P 96= .struct 95 [3,3,2]:=by kernel_rfl
theorem Em:P.underlying 132=some (.int .u64):=by kernel_rfl
theorem AEj:K P 132= .scal:=by kernel_rfl
theorem Lu:Ba P depth 132=false:=by kernel_rfl
theorem ABi:K P 152= .struct 151 [3,3,2]:=by kernel_rfl
theorem AEk:Ba P depth 152=false:=by kernel_rfl
theorem JD:P.underlying 172=some (.slice 5):=by kernel_rfl
theorem EC:K P 172= .slice 5:=by kernel_rfl
theorem AEl:Ba P depth 172=true:=by kernel_rfl
theorem AIM:P.cellsOf 172=1:=by kernel_rfl
theorem AEm:K P 191= .struct 190 [172]:=by kernel_rfl
theorem ALu:zero P 191=(V.agg 190 [(V.lst 5 .nil [])]):=by kernel_rfl
theorem VA:P.underlying 192=some (.int .u64):=by kernel_rfl
theorem VB:P.underlying 203=some (.int .u32):=by kernel_rfl
theorem AKZ:K P 203= .scal:=by kernel_rfl
theorem AEn:Ba P depth 203=false:=by kernel_rfl
theorem NI:K P 231= .slice 132:=by kernel_rfl
theorem OO:P.underlying 245=some (.slice 172):=by kernel_rfl
theorem Qb:K P 245= .slice 172:=by kernel_rfl
theorem NJ:K P 247= .array 247 8 203:=by kernel_rfl
theorem Y9:zero P 247=(V.agg 247 (List.replicate 8 (V.int .u32 0))):=by kernel_rfl
theorem AKa:K P 261= .array 261 64 203:=by kernel_rfl
theorem ALv:zero P 261=(V.agg 261 (List.replicate 64 (V.int .u32 0))):=by kernel_rfl
end
end Go.Proofs.YtoakaehjnbhgmaaGreatDoor
