/-
  Part of the proof of a statement about the given program: an abstract machine over its code, the simulation, its functions' equations, what they compute.
-/
import Derived.Test.YtphoocnlpnnkdaaGreatDoorChecked
import Derived.Test.YtphoocnlpnnkdaaGreatDoorMg27
import Derived.Test.YtphoocnlpnnkdaaGreatDoorMg4
set_option linter.unusedVariables false
set_option linter.unusedSimpArgs false
set_option linter.unusedSectionVars false
set_option maxRecDepth 100000
noncomputable section
namespace Go.Proofs.YtphoocnlpnnkdaaGreatDoor
section
open Go AM Go.RowKit Go.Shelf
def Zy:Go.Shelf.Ren:=⟨fun|6=>123|15=>128|14=>135|28=>144|29=>145|20=>150|21=>151|22=>152|23=>153|24=>154|25=>155|26=>156|27=>157|46=>164|47=>159|48=>160|49=>165|50=>166|57=>168|n=>n,fun|22=>22|24=>52|25=>164|3=>3|39=>120|0=>0|53=>166|55=>75|4=>4|46=>203|45=>202|50=>207|5=>5|9=>9|66=>218|70=>221|76=>225|77=>226|n=>n,fun|n=>n⟩
theorem ANJ:Go.Proofs.SlLaysF0.n6 Tryz.prog Zy where
 mixed:=by kernel_rfl
 f6:=⟨Tryz.f123.name,by kernel_rfl,Tryz.func123.trans (congrArg some (by kernel_rfl))⟩
 f14:=⟨Tryz.f135.name,by kernel_rfl,Tryz.func135.trans (congrArg some (by kernel_rfl))⟩
 f15:=Tryz.func128.trans (congrArg some (by kernel_rfl))
 f20:=⟨Tryz.f150.name,by kernel_rfl,Tryz.func150.trans (congrArg some (by kernel_rfl))⟩
 f21:=⟨Tryz.f151.name,by kernel_rfl,Tryz.func151.trans (congrArg some (by kernel_rfl))⟩
 f22:=⟨Tryz.f152.name,by kernel_rfl,Tryz.func152.trans (congrArg some (by kernel_rfl))⟩
 f23:=⟨Tryz.f153.name,by kernel_rfl,Tryz.func153.trans (congrArg some (by kernel_rfl))⟩
 f24:=⟨Tryz.f154.name,by kernel_rfl,Tryz.func154.trans (congrArg some (by kernel_rfl))⟩
 f25:=⟨Tryz.f155.name,by kernel_rfl,Tryz.func155.trans (congrArg some (by kernel_rfl))⟩
 f26:=⟨Tryz.f156.name,by kernel_rfl,Tryz.func156.trans (congrArg some (by kernel_rfl))⟩
 f27:=⟨Tryz.f157.name,by kernel_rfl,Tryz.func157.trans (congrArg some (by kernel_rfl))⟩
 f28:=Tryz.func144.trans (congrArg some (by kernel_rfl))
 f29:=Tryz.func145.trans (congrArg some (by kernel_rfl))
 f46:=⟨Tryz.f164.name,by kernel_rfl,Tryz.func164.trans (congrArg some (by kernel_rfl))⟩
 f47:=Tryz.func159.trans (congrArg some (by kernel_rfl))
 f48:=Tryz.func160.trans (congrArg some (by kernel_rfl))
 f49:=⟨Tryz.f165.name,by kernel_rfl,Tryz.func165.trans (congrArg some (by kernel_rfl))⟩
 f50:=⟨Tryz.f166.name,by kernel_rfl,Tryz.func166.trans (congrArg some (by kernel_rfl))⟩
 f57:=⟨Tryz.f168.name,by kernel_rfl,Tryz.func168.trans (congrArg some (by kernel_rfl))⟩
 t0:=Tryz.underlying0
 a0:=Tryz.isAgg0
 z0:=Tryz.sizeOf0
 v0:=Tryz.zeroValue0
 t3:=Tryz.underlying3
 a3:=Tryz.isAgg3
 z3:=Tryz.sizeOf3
 v3:=Tryz.zeroValue3
 t4:=Tryz.underlying4
 a4:=Tryz.isAgg4
 z4:=Tryz.sizeOf4
 v4:=Tryz.zeroValue4
 t5:=Tryz.underlying5
 a5:=Tryz.isAgg5
 z5:=Tryz.sizeOf5
 v5:=Tryz.zeroValue5
 t9:=Tryz.underlying9
 a9:=Tryz.isAgg9
 z9:=Tryz.sizeOf9
 v9:=Tryz.zeroValue9
 t22:=Tryz.underlying22
 a22:=Tryz.isAgg22
 z22:=Tryz.sizeOf22
 v22:=Tryz.zeroValue22
 t25:=Tryz.underlying164
 a25:=Tryz.isAgg164
 z25:=Tryz.sizeOf164
 v25:=Tryz.zeroValue164
 t39:=Tryz.underlying120
 a39:=Tryz.isAgg120
 z39:=Tryz.sizeOf120
 v39:=Tryz.zeroValue120
 t45:=Tryz.underlying202
 a45:=Tryz.isAgg202
 z45:=Tryz.sizeOf202
 v45:=Tryz.zeroValue202
 t46:=Tryz.underlying203
 a46:=Tryz.isAgg203
 z46:=Tryz.sizeOf203
 v46:=Tryz.zeroValue203
 t50:=Tryz.underlying207
 a50:=Tryz.isAgg207
 z50:=Tryz.sizeOf207
 v50:=Tryz.zeroValue207
 t53:=Tryz.underlying166
 a53:=Tryz.isAgg166
 z53:=Tryz.sizeOf166
 v53:=Tryz.zeroValue166
 t55:=Tryz.underlying75
 a55:=Tryz.isAgg75
 z55:=Tryz.sizeOf75
 v55:=Tryz.zeroValue75
 t66:=Tryz.underlying218
 a66:=Tryz.isAgg218
 z66:=Tryz.sizeOf218
 v66:=Tryz.zeroValue218
 t70:=Tryz.underlying221
 a70:=Tryz.isAgg221
 z70:=Tryz.sizeOf221
 v70:=Tryz.zeroValue221
 t76:=Tryz.underlying225
 a76:=Tryz.isAgg225
 z76:=Tryz.sizeOf225
 v76:=Tryz.zeroValue225
 t77:=Tryz.underlying226
 a77:=Tryz.isAgg226
 z77:=Tryz.sizeOf226
 v77:=Tryz.zeroValue226
set_option maxHeartbeats 2000000 in
theorem AFC (x y:EG) (hx:QJ 1 x=true) (hy:QJ 1 y=true) (W:World):Calls Tryz.prog 98 #[.agg #[.int .i64 x.1,.int .i64 x.2.1,.int .i64 x.2.2],.agg #[.int .i64 y.1,.int .i64 y.2.1,.int .i64 y.2.2]] W
 fun e w'=>e= .returned (.int .i64 (cf3 1 x y))∧∃q os',w'=Sort.grow (W.drewN q) os':=by
 have h1:=AOG hx
 have h2:=AOG hy
 clear hx hy
 obtain⟨a,b,c⟩:=x
 obtain⟨a',b',c'⟩:=y
 simp only at h1 h2
 have e1:¬a=a'→cf3 1 (a,b,c) (a',b',c')=a-a':=fun h=>by unfold cf3;rw[if_pos (by rfl),if_neg h]
 have e2:a=a'→cf3 1 (a,b,c) (a',b',c')=b-b':=fun h=>by unfold cf3;rw[if_pos (by rfl),if_pos h]
 go_enter Tryz.func98,Tryz.ntmps98
 go_wp2
 ·rename_i h
  go_ret
  refine⟨?_,0,_,by rw[Sort.alloc_eq_grow,Sort.alloc_eq_grow,Sort.grow_grow];rfl⟩
  rw[e1 (by simpa using h)];rfl
 ·rename_i h
  go_ret
  refine⟨?_,0,_,by rw[Sort.alloc_eq_grow,Sort.alloc_eq_grow,Sort.grow_grow];rfl⟩
  rw[e2 (by simpa using h)];rfl
theorem ANK:SeqOk P CX 123:=by
 have e:(CX.seq 123)=(1000000+98,52):=by kernel_rfl
 refine⟨⟨_,_,Tryz.func123,rfl⟩,fun h=> ?_,fun h=> ?_,fun _=>by rw[e];kernel_rfl,fun _ _=> ?_,fun _ h=> ?_⟩
 ·rw[e]at h;cases h
 ·rw[e]at h;cases h
 ·rw[e]
  exact Zx ANJ 1 98 Tryz.isAgg52 Tryz.sizeOf52 (enters_of Tryz.func98 (by kernel_rfl) rfl) AFC
 ·rw[e]at h;exact absurd h (by decide)
end
end Go.Proofs.YtphoocnlpnnkdaaGreatDoor
