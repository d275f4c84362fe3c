/-
  Part of the proof of a statement about the given program: an abstract machine over its code, the simulation, its functions' equations, what they compute.
-/
import Derived.Test.YtkelgdjhpgefnaaGreatDoorChecked
import Derived.Test.YtkelgdjhpgefnaaGreatDoorMg25
import Derived.Test.YtkelgdjhpgefnaaGreatDoorMg6
set_option linter.unusedVariables false
set_option linter.unusedSimpArgs false
set_option linter.unusedSectionVars false
set_option maxRecDepth 100000
noncomputable section
namespace Go.Proofs.YtkelgdjhpgefnaaGreatDoor
section
open Go AM Go.RowKit Go.Shelf
def QM:Go.Shelf.Ren:=⟨fun|6=>124|15=>110|14=>143|28=>135|29=>136|20=>151|21=>152|22=>153|23=>154|24=>155|25=>156|26=>157|27=>158|46=>161|47=>145|48=>146|49=>162|50=>163|57=>164|n=>n,fun|22=>30|24=>29|25=>159|3=>3|39=>169|0=>0|53=>58|55=>112|4=>4|46=>189|45=>188|50=>193|5=>5|9=>9|66=>204|70=>207|76=>217|77=>218|n=>n,fun|n=>n⟩
theorem ZB:Go.Proofs.SlLaysF0.n6 Tryz.prog QM where
 mixed:=by kernel_rfl
 f6:=⟨Tryz.f124.name,by kernel_rfl,Tryz.func124.trans (congrArg some (by kernel_rfl))⟩
 f14:=⟨Tryz.f143.name,by kernel_rfl,Tryz.func143.trans (congrArg some (by kernel_rfl))⟩
 f15:=Tryz.func110.trans (congrArg some (by kernel_rfl))
 f20:=⟨Tryz.f151.name,by kernel_rfl,Tryz.func151.trans (congrArg some (by kernel_rfl))⟩
 f21:=⟨Tryz.f152.name,by kernel_rfl,Tryz.func152.trans (congrArg some (by kernel_rfl))⟩
 f22:=⟨Tryz.f153.name,by kernel_rfl,Tryz.func153.trans (congrArg some (by kernel_rfl))⟩
 f23:=⟨Tryz.f154.name,by kernel_rfl,Tryz.func154.trans (congrArg some (by kernel_rfl))⟩
 f24:=⟨Tryz.f155.name,by kernel_rfl,Tryz.func155.trans (congrArg some (by kernel_rfl))⟩
 f25:=⟨Tryz.f156.name,by kernel_rfl,Tryz.func156.trans (congrArg some (by kernel_rfl))⟩
 f26:=⟨Tryz.f157.name,by kernel_rfl,Tryz.func157.trans (congrArg some (by kernel_rfl))⟩
 f27:=⟨Tryz.f158.name,by kernel_rfl,Tryz.func158.trans (congrArg some (by kernel_rfl))⟩
 f28:=Tryz.func135.trans (congrArg some (by kernel_rfl))
 f29:=Tryz.func136.trans (congrArg some (by kernel_rfl))
 f46:=⟨Tryz.f161.name,by kernel_rfl,Tryz.func161.trans (congrArg some (by kernel_rfl))⟩
 f47:=Tryz.func145.trans (congrArg some (by kernel_rfl))
 f48:=Tryz.func146.trans (congrArg some (by kernel_rfl))
 f49:=⟨Tryz.f162.name,by kernel_rfl,Tryz.func162.trans (congrArg some (by kernel_rfl))⟩
 f50:=⟨Tryz.f163.name,by kernel_rfl,Tryz.func163.trans (congrArg some (by kernel_rfl))⟩
 f57:=⟨Tryz.f164.name,by kernel_rfl,Tryz.func164.trans (congrArg some (by kernel_rfl))⟩
 t0:=Tryz.underlying0
 a0:=Tryz.isAgg0
 z0:=Tryz.sizeOf0
 v0:=Tryz.zeroValue0
 t3:=Tryz.underlying3
 a3:=Tryz.isAgg3
 z3:=Tryz.sizeOf3
 v3:=Tryz.zeroValue3
 t4:=Tryz.underlying4
 a4:=Tryz.isAgg4
 z4:=Tryz.sizeOf4
 v4:=Tryz.zeroValue4
 t5:=Tryz.underlying5
 a5:=Tryz.isAgg5
 z5:=Tryz.sizeOf5
 v5:=Tryz.zeroValue5
 t9:=Tryz.underlying9
 a9:=Tryz.isAgg9
 z9:=Tryz.sizeOf9
 v9:=Tryz.zeroValue9
 t22:=Tryz.underlying30
 a22:=Tryz.isAgg30
 z22:=Tryz.sizeOf30
 v22:=Tryz.zeroValue30
 t25:=Tryz.underlying159
 a25:=Tryz.isAgg159
 z25:=Tryz.sizeOf159
 v25:=Tryz.zeroValue159
 t39:=Tryz.underlying169
 a39:=Tryz.isAgg169
 z39:=Tryz.sizeOf169
 v39:=Tryz.zeroValue169
 t45:=Tryz.underlying188
 a45:=Tryz.isAgg188
 z45:=Tryz.sizeOf188
 v45:=Tryz.zeroValue188
 t46:=Tryz.underlying189
 a46:=Tryz.isAgg189
 z46:=Tryz.sizeOf189
 v46:=Tryz.zeroValue189
 t50:=Tryz.underlying193
 a50:=Tryz.isAgg193
 z50:=Tryz.sizeOf193
 v50:=Tryz.zeroValue193
 t53:=Tryz.underlying58
 a53:=Tryz.isAgg58
 z53:=Tryz.sizeOf58
 v53:=Tryz.zeroValue58
 t55:=Tryz.underlying112
 a55:=Tryz.isAgg112
 z55:=Tryz.sizeOf112
 v55:=Tryz.zeroValue112
 t66:=Tryz.underlying204
 a66:=Tryz.isAgg204
 z66:=Tryz.sizeOf204
 v66:=Tryz.zeroValue204
 t70:=Tryz.underlying207
 a70:=Tryz.isAgg207
 z70:=Tryz.sizeOf207
 v70:=Tryz.zeroValue207
 t76:=Tryz.underlying217
 a76:=Tryz.isAgg217
 z76:=Tryz.sizeOf217
 v76:=Tryz.zeroValue217
 t77:=Tryz.underlying218
 a77:=Tryz.isAgg218
 z77:=Tryz.sizeOf218
 v77:=Tryz.zeroValue218
set_option maxHeartbeats 2000000 in
theorem Ut (x y:Bq) (hx:N9 1 x=true) (hy:N9 1 y=true) (W:World):Calls Tryz.prog 99 #[.agg #[.int .i64 x.1,.int .i64 x.2.1,.int .i64 x.2.2],.agg #[.int .i64 y.1,.int .i64 y.2.1,.int .i64 y.2.2]] W
 fun e w'=>e= .returned (.int .i64 (cf3 1 x y))∧∃q os',w'=Sort.grow (W.drewN q) os':=by
 have h1:=Zm hx
 have h2:=Zm hy
 clear hx hy
 obtain⟨a,b,c⟩:=x
 obtain⟨a',b',c'⟩:=y
 simp only at h1 h2
 have e1:¬a=a'→cf3 1 (a,b,c) (a',b',c')=a-a':=fun h=>by unfold cf3;rw[if_pos (by rfl),if_neg h]
 have e2:a=a'→cf3 1 (a,b,c) (a',b',c')=b-b':=fun h=>by unfold cf3;rw[if_pos (by rfl),if_pos h]
 go_enter Tryz.func99,Tryz.ntmps99
 go_wp2
 ·rename_i h
  go_ret
  refine⟨?_,0,_,by rw[Sort.alloc_eq_grow,Sort.alloc_eq_grow,Sort.grow_grow];rfl⟩
  rw[e1 (by simpa using h)];rfl
 ·rename_i h
  go_ret
  refine⟨?_,0,_,by rw[Sort.alloc_eq_grow,Sort.alloc_eq_grow,Sort.grow_grow];rfl⟩
  rw[e2 (by simpa using h)];rfl
theorem ZC:SeqOk P EQ 124:=by
 have e:(EQ.seq 124)=(1000000+99,29):=by kernel_rfl
 refine⟨⟨_,_,Tryz.func124,rfl⟩,fun h=> ?_,fun h=> ?_,fun _=>by rw[e];kernel_rfl,fun _ _=> ?_,fun _ h=> ?_⟩
 ·rw[e]at h;cases h
 ·rw[e]at h;cases h
 ·rw[e]
  exact QL ZB 1 99 Tryz.isAgg29 Tryz.sizeOf29 (enters_of Tryz.func99 (by kernel_rfl) rfl) Ut
 ·rw[e]at h;exact absurd h (by decide)
end
end Go.Proofs.YtkelgdjhpgefnaaGreatDoor
