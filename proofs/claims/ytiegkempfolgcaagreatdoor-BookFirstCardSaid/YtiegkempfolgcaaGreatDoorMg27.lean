/-
  Part of the proof of a statement about the given program: an abstract machine over its code, the simulation, its functions' equations, what they compute.
-/
import Derived.Test.YtiegkempfolgcaaGreatDoorChecked
import Derived.Test.YtiegkempfolgcaaGreatDoorMg26
import Derived.Test.YtiegkempfolgcaaGreatDoorMg4
set_option linter.unusedVariables false
set_option linter.unusedSimpArgs false
set_option linter.unusedSectionVars false
set_option maxRecDepth 100000
noncomputable section
namespace Go.Proofs.YtiegkempfolgcaaGreatDoor
section
open Go AM Go.RowKit Go.Shelf
def Tv:Go.Shelf.Ren:=⟨fun|6=>114|15=>134|14=>133|28=>153|29=>154|20=>145|21=>146|22=>147|23=>148|24=>149|25=>150|26=>151|27=>152|46=>167|47=>168|48=>169|49=>170|50=>171|57=>176|n=>n,fun|22=>22|24=>112|25=>147|3=>3|39=>126|0=>0|53=>149|55=>93|4=>4|46=>196|45=>195|50=>200|5=>5|9=>9|66=>211|70=>214|76=>218|77=>219|n=>n,fun|n=>n⟩
theorem ACa:Go.Proofs.SlLaysF0.n6 Tryz.prog Tv where
 mixed:=by kernel_rfl
 f6:=⟨Tryz.f114.name,by kernel_rfl,Tryz.func114.trans (congrArg some (by kernel_rfl))⟩
 f14:=⟨Tryz.f133.name,by kernel_rfl,Tryz.func133.trans (congrArg some (by kernel_rfl))⟩
 f15:=Tryz.func134.trans (congrArg some (by kernel_rfl))
 f20:=⟨Tryz.f145.name,by kernel_rfl,Tryz.func145.trans (congrArg some (by kernel_rfl))⟩
 f21:=⟨Tryz.f146.name,by kernel_rfl,Tryz.func146.trans (congrArg some (by kernel_rfl))⟩
 f22:=⟨Tryz.f147.name,by kernel_rfl,Tryz.func147.trans (congrArg some (by kernel_rfl))⟩
 f23:=⟨Tryz.f148.name,by kernel_rfl,Tryz.func148.trans (congrArg some (by kernel_rfl))⟩
 f24:=⟨Tryz.f149.name,by kernel_rfl,Tryz.func149.trans (congrArg some (by kernel_rfl))⟩
 f25:=⟨Tryz.f150.name,by kernel_rfl,Tryz.func150.trans (congrArg some (by kernel_rfl))⟩
 f26:=⟨Tryz.f151.name,by kernel_rfl,Tryz.func151.trans (congrArg some (by kernel_rfl))⟩
 f27:=⟨Tryz.f152.name,by kernel_rfl,Tryz.func152.trans (congrArg some (by kernel_rfl))⟩
 f28:=Tryz.func153.trans (congrArg some (by kernel_rfl))
 f29:=Tryz.func154.trans (congrArg some (by kernel_rfl))
 f46:=⟨Tryz.f167.name,by kernel_rfl,Tryz.func167.trans (congrArg some (by kernel_rfl))⟩
 f47:=Tryz.func168.trans (congrArg some (by kernel_rfl))
 f48:=Tryz.func169.trans (congrArg some (by kernel_rfl))
 f49:=⟨Tryz.f170.name,by kernel_rfl,Tryz.func170.trans (congrArg some (by kernel_rfl))⟩
 f50:=⟨Tryz.f171.name,by kernel_rfl,Tryz.func171.trans (congrArg some (by kernel_rfl))⟩
 f57:=⟨Tryz.f176.name,by kernel_rfl,Tryz.func176.trans (congrArg some (by kernel_rfl))⟩
 t0:=Tryz.underlying0
 a0:=Tryz.isAgg0
 z0:=Tryz.sizeOf0
 v0:=Tryz.zeroValue0
 t3:=Tryz.underlying3
 a3:=Tryz.isAgg3
 z3:=Tryz.sizeOf3
 v3:=Tryz.zeroValue3
 t4:=Tryz.underlying4
 a4:=Tryz.isAgg4
 z4:=Tryz.sizeOf4
 v4:=Tryz.zeroValue4
 t5:=Tryz.underlying5
 a5:=Tryz.isAgg5
 z5:=Tryz.sizeOf5
 v5:=Tryz.zeroValue5
 t9:=Tryz.underlying9
 a9:=Tryz.isAgg9
 z9:=Tryz.sizeOf9
 v9:=Tryz.zeroValue9
 t22:=Tryz.underlying22
 a22:=Tryz.isAgg22
 z22:=Tryz.sizeOf22
 v22:=Tryz.zeroValue22
 t25:=Tryz.underlying147
 a25:=Tryz.isAgg147
 z25:=Tryz.sizeOf147
 v25:=Tryz.zeroValue147
 t39:=Tryz.underlying126
 a39:=Tryz.isAgg126
 z39:=Tryz.sizeOf126
 v39:=Tryz.zeroValue126
 t45:=Tryz.underlying195
 a45:=Tryz.isAgg195
 z45:=Tryz.sizeOf195
 v45:=Tryz.zeroValue195
 t46:=Tryz.underlying196
 a46:=Tryz.isAgg196
 z46:=Tryz.sizeOf196
 v46:=Tryz.zeroValue196
 t50:=Tryz.underlying200
 a50:=Tryz.isAgg200
 z50:=Tryz.sizeOf200
 v50:=Tryz.zeroValue200
 t53:=Tryz.underlying149
 a53:=Tryz.isAgg149
 z53:=Tryz.sizeOf149
 v53:=Tryz.zeroValue149
 t55:=Tryz.underlying93
 a55:=Tryz.isAgg93
 z55:=Tryz.sizeOf93
 v55:=Tryz.zeroValue93
 t66:=Tryz.underlying211
 a66:=Tryz.isAgg211
 z66:=Tryz.sizeOf211
 v66:=Tryz.zeroValue211
 t70:=Tryz.underlying214
 a70:=Tryz.isAgg214
 z70:=Tryz.sizeOf214
 v70:=Tryz.zeroValue214
 t76:=Tryz.underlying218
 a76:=Tryz.isAgg218
 z76:=Tryz.sizeOf218
 v76:=Tryz.zeroValue218
 t77:=Tryz.underlying219
 a77:=Tryz.isAgg219
 z77:=Tryz.sizeOf219
 v77:=Tryz.zeroValue219
set_option maxHeartbeats 2000000 in
theorem YF (x y:CJ) (hx:N9 1 x=true) (hy:N9 1 y=true) (W:World):Calls Tryz.prog 91 #[.agg #[.int .i64 x.1,.int .i64 x.2.1,.int .i64 x.2.2],.agg #[.int .i64 y.1,.int .i64 y.2.1,.int .i64 y.2.2]] W
 fun e w'=>e= .returned (.int .i64 (cf3 1 x y))∧∃q os',w'=Sort.grow (W.drewN q) os':=by
 have h1:=ADB hx
 have h2:=ADB hy
 clear hx hy
 obtain⟨a,b,c⟩:=x
 obtain⟨a',b',c'⟩:=y
 simp only at h1 h2
 have e1:¬a=a'→cf3 1 (a,b,c) (a',b',c')=a-a':=fun h=>by unfold cf3;rw[if_pos (by rfl),if_neg h]
 have e2:a=a'→cf3 1 (a,b,c) (a',b',c')=b-b':=fun h=>by unfold cf3;rw[if_pos (by rfl),if_pos h]
 go_enter Tryz.func91,Tryz.ntmps91
 go_wp2
 ·rename_i h
  go_ret
  refine⟨?_,0,_,by rw[Sort.alloc_eq_grow,Sort.alloc_eq_grow,Sort.grow_grow];rfl⟩
  rw[e1 (by simpa using h)];rfl
 ·rename_i h
  go_ret
  refine⟨?_,0,_,by rw[Sort.alloc_eq_grow,Sort.alloc_eq_grow,Sort.grow_grow];rfl⟩
  rw[e2 (by simpa using h)];rfl
theorem ACb:SeqOk P CZ 114:=by
 have e:(CZ.seq 114)=(1000000+91,112):=by kernel_rfl
 refine⟨⟨_,_,Tryz.func114,rfl⟩,fun h=> ?_,fun h=> ?_,fun _=>by rw[e];kernel_rfl,fun _ _=> ?_,fun _ h=> ?_⟩
 ·rw[e]at h;cases h
 ·rw[e]at h;cases h
 ·rw[e]
  exact Tt ACa 1 91 Tryz.isAgg112 Tryz.sizeOf112 (enters_of Tryz.func91 (by kernel_rfl) rfl) YF
 ·rw[e]at h;exact absurd h (by decide)
end
end Go.Proofs.YtiegkempfolgcaaGreatDoor
