/-
  Part of the proof of a statement about the given program: an abstract machine over its code, the simulation, its functions' equations, what they compute.
-/
import Derived.Test.YtiegkempfolgcaaGreatDoorMg4
set_option linter.unusedVariables false
set_option linter.unusedSimpArgs false
set_option linter.unusedSectionVars false
set_option maxRecDepth 100000
noncomputable section
namespace Go.Proofs.YtiegkempfolgcaaGreatDoor
section
open Go AM
theorem ACc:P.underlying 2=some (.int .i64):=by kernel_rfl
theorem K_2:K P 2= .scal:=by kernel_rfl
theorem ASc:Ba P depth 2=false:=by kernel_rfl
theorem APq:P.cellsOf 2=1:=by kernel_rfl
theorem IG:P.underlying 3=some (.int .i64):=by kernel_rfl
theorem K_3:K P 3= .scal:=by kernel_rfl
theorem ASd:Ba P depth 3=false:=by kernel_rfl
theorem ACd:P.cellsOf 3=1:=by kernel_rfl
theorem APr:P.underlying 4=some .bool:=by kernel_rfl
theorem K_4:K P 4= .scal:=by kernel_rfl
theorem NH:P.underlying 5=some (.int .u8):=by kernel_rfl
theorem K_5:K P 5= .scal:=by kernel_rfl
theorem Vf:Ba P depth 5=false:=by kernel_rfl
theorem EJ:P.underlying 9=some .string:=by kernel_rfl
theorem K_9:K P 9= .scal:=by kernel_rfl
theorem ANU:Ba P depth 9=false:=by kernel_rfl
theorem APs:P.cellsOf 9=1:=by kernel_rfl
theorem ASe:K P 22= .slice 112:=by kernel_rfl
theorem ASf:K P 24= .struct 23 [3,22]:=by kernel_rfl
theorem ASg:K P 26= .struct 25 [9,3,3]:=by kernel_rfl
theorem ASh:K P 28= .slice 4:=by kernel_rfl
theorem ANV:P.cellsOf 28=1:=by kernel_rfl
theorem Vg:P.underlying 31=some (.slice 108):=by kernel_rfl
theorem Xw:K P 31= .slice 108:=by kernel_rfl
theorem ASi:K P 33= .struct 32 [3,28,29,30,31]:=by kernel_rfl
theorem ANW:P.underlying 34=some (.int .i64):=by kernel_rfl
theorem ASj:K P 34= .scal:=by kernel_rfl
theorem ANX:P.cellsOf 34=1:=by kernel_rfl
theorem AJf:K P 55= .array 54 32 5:=by kernel_rfl
theorem ALr:zero P 55=(V.agg 54 (List.replicate 32 (V.int .u8 0))):=by kernel_rfl
theorem ANZ:P.underlying 58=some (.slice 9):=by kernel_rfl
theorem AJg:K P 58= .slice 9:=by kernel_rfl
theorem J3:P.underlying 68=some (.slice 5):=by kernel_rfl
theorem F5:K P 68= .slice 5:=by kernel_rfl
theorem ALs:Ba P depth 68=true:=by kernel_rfl
theorem ANa:P.cellsOf 68=1:=by kernel_rfl
theorem D5:P.underlying 93=some (.int .u64):=by kernel_rfl
theorem AGb:K P 93= .scal:=by kernel_rfl
theorem Ti:Ba P depth 93=false:=by kernel_rfl
theorem Xx:K P 108= .struct 107 [3,3,2]:=by kernel_rfl
theorem Zf:zero P 108=(V.agg 107 [(V.int .i64 0),(V.int .i64 0),(V.int .i64 0)]):=by kernel_rfl
theorem Vh:Ba P depth 108=false:=by kernel_rfl
theorem APt:K P 112= .struct 111 [3,3,2]:=by kernel_rfl
theorem AGc:K P 125= .struct 124 [68]:=by kernel_rfl
theorem ANb:zero P 125=(V.agg 124 [(V.lst 5 .nil [])]):=by kernel_rfl
theorem OQ:P.underlying 126=some (.int .u64):=by kernel_rfl
theorem ACe:K P 130= .struct 129 [9,34]:=by kernel_rfl
theorem ANc:zero P 130=(V.agg 129 [(V.str []),(V.int .i64 0)]):=by kernel_rfl
theorem Vj:P.underlying 149=some (.int .u32):=by kernel_rfl
theorem ALt:K P 149= .scal:=by kernel_rfl
theorem AGd:Ba P depth 149=false:=by kernel_rfl
theorem OT:P.underlying 182=some (.slice 68):=by kernel_rfl
theorem QM:K P 182= .slice 68:=by kernel_rfl
theorem NI:K P 184= .array 184 8 149:=by kernel_rfl
theorem Zg:zero P 184=(V.agg 184 (List.replicate 8 (V.int .u32 0))):=by kernel_rfl
theorem NJ:K P 187= .slice 93:=by kernel_rfl
theorem ALu:K P 204= .array 204 64 149:=by kernel_rfl
theorem ANd:zero P 204=(V.agg 204 (List.replicate 64 (V.int .u32 0))):=by kernel_rfl
end
end Go.Proofs.YtiegkempfolgcaaGreatDoor
