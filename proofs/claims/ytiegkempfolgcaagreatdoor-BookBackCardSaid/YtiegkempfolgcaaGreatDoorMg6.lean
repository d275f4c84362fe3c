/-
  Part of the proof of a statement about the given program: an abstract machine over its code, the simulation, its functions' equations, what they compute.
-/
import Derived.Test.YtiegkempfolgcaaGreatDoorMg4
set_option linter.unusedVariables false
set_option linter.unusedSimpArgs false
set_option linter.unusedSectionVars false
set_option maxRecDepth 100000
noncomputable section
namespace Go.Proofs.YtiegkempfolgcaaGreatDoor
section
open Go AM
theorem WX:P.underlying 2=some (.int .i64):=by kernel_rfl
theorem K_2:K P 2= .scal:=by kernel_rfl
theorem AQI:Bg P depth 2=false:=by kernel_rfl
theorem ANd:P.cellsOf 2=1:=by kernel_rfl
theorem FB:P.underlying 3=some (.int .i64):=by kernel_rfl
theorem K_3:K P 3= .scal:=by kernel_rfl
theorem AQJ:Bg P depth 3=false:=by kernel_rfl
theorem ABB:P.cellsOf 3=1:=by kernel_rfl
theorem AJw:P.underlying 4=some .bool:=by kernel_rfl
theorem K_4:K P 4= .scal:=by kernel_rfl
theorem PO:P.underlying 5=some (.int .u8):=by kernel_rfl
theorem K_5:K P 5= .scal:=by kernel_rfl
theorem Yj:Bg P depth 5=false:=by kernel_rfl
theorem GH:P.underlying 9=some .string:=by kernel_rfl
theorem K_9:K P 9= .scal:=by kernel_rfl
theorem ALX:Bg P depth 9=false:=by kernel_rfl
theorem ANe:P.cellsOf 9=1:=by kernel_rfl
theorem AQK:K P 22= .slice 112:=by kernel_rfl
theorem AQL:K P 24= .struct 23 [3,22]:=by kernel_rfl
theorem AQM:K P 26= .struct 25 [9,3,3]:=by kernel_rfl
theorem ANf:K P 28= .slice 4:=by kernel_rfl
theorem ALY:P.cellsOf 28=1:=by kernel_rfl
theorem ANg:K P 29= .slice 55:=by kernel_rfl
theorem AQN:K P 30= .slice 58:=by kernel_rfl
theorem Uo:P.underlying 31=some (.slice 108):=by kernel_rfl
theorem PS:K P 31= .slice 108:=by kernel_rfl
theorem ANh:K P 33= .struct 32 [3,28,29,30,31]:=by kernel_rfl
theorem AE9:P.underlying 34=some (.int .i64):=by kernel_rfl
theorem ANi:K P 34= .scal:=by kernel_rfl
theorem ALZ:P.cellsOf 34=1:=by kernel_rfl
theorem AQO:K P 41= .slice 60:=by kernel_rfl
theorem AHv:K P 55= .array 54 32 5:=by kernel_rfl
theorem ANj:zero P 55=(V.agg 54 (List.replicate 32 (V.int .u8 0))):=by kernel_rfl
theorem AQP:K P 57= .struct 56 [3,3,55,29]:=by kernel_rfl
theorem ALa:P.underlying 58=some (.slice 9):=by kernel_rfl
theorem AHw:K P 58= .slice 9:=by kernel_rfl
theorem AQQ:K P 60= .struct 59 [34,3,57,31,58]:=by kernel_rfl
theorem PU:P.underlying 68=some (.slice 5):=by kernel_rfl
theorem H6:K P 68= .slice 5:=by kernel_rfl
theorem AJx:Bg P depth 68=true:=by kernel_rfl
theorem ALb:P.cellsOf 68=1:=by kernel_rfl
theorem GZ:P.underlying 93=some (.int .u64):=by kernel_rfl
theorem ANk:K P 93= .scal:=by kernel_rfl
theorem Ru:K P 108= .struct 107 [3,3,2]:=by kernel_rfl
theorem Yk:zero P 108=(V.agg 107 [(V.int .i64 0),(V.int .i64 0),(V.int .i64 0)]):=by kernel_rfl
theorem Ur:Bg P depth 108=false:=by kernel_rfl
theorem ANl:K P 112= .struct 111 [3,3,2]:=by kernel_rfl
theorem AFA:K P 125= .struct 124 [68]:=by kernel_rfl
theorem ALc:zero P 125=(V.agg 124 [(V.lst 5 .nil [])]):=by kernel_rfl
theorem Nw:P.underlying 126=some (.int .u64):=by kernel_rfl
theorem ABC:K P 130= .struct 129 [9,34]:=by kernel_rfl
theorem ALd:zero P 130=(V.agg 129 [(V.str []),(V.int .i64 0)]):=by kernel_rfl
theorem Us:P.underlying 149=some (.int .u32):=by kernel_rfl
theorem AJy:K P 149= .scal:=by kernel_rfl
theorem AFB:Bg P depth 149=false:=by kernel_rfl
theorem Ny:P.underlying 182=some (.slice 68):=by kernel_rfl
theorem PV:K P 182= .slice 68:=by kernel_rfl
theorem MR:K P 184= .array 184 8 149:=by kernel_rfl
theorem Yl:zero P 184=(V.agg 184 (List.replicate 8 (V.int .u32 0))):=by kernel_rfl
theorem AJz:K P 204= .array 204 64 149:=by kernel_rfl
theorem ALe:zero P 204=(V.agg 204 (List.replicate 64 (V.int .u32 0))):=by kernel_rfl
end
end Go.Proofs.YtiegkempfolgcaaGreatDoor
