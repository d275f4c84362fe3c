/-
  Part of the proof of a statement about the given program: an abstract machine over its code, the simulation, its functions' equations, what they compute.
-/
import Derived.Test.YtoakaehjnbhgmaaGreatDoorChecked
import Derived.Test.YtoakaehjnbhgmaaGreatDoorMg27
import Derived.Test.YtoakaehjnbhgmaaGreatDoorMg4
set_option linter.unusedVariables false
set_option linter.unusedSimpArgs false
set_option linter.unusedSectionVars false
set_option maxRecDepth 100000
noncomputable section
namespace Go.Proofs.YtoakaehjnbhgmaaGreatDoor
section
open Go AM Go.RowKit Go.Shelf
def Yp:Go.Shelf.Ren:=⟨fun|6=>190|15=>184|14=>209|28=>204|29=>205|20=>217|21=>218|22=>219|23=>220|24=>221|25=>222|26=>223|27=>224|46=>227|47=>213|48=>214|49=>228|50=>229|57=>230|n=>n,fun|22=>22|24=>96|25=>218|3=>3|39=>192|0=>0|53=>203|55=>132|4=>4|46=>251|45=>250|50=>255|5=>5|9=>9|66=>263|70=>266|76=>273|77=>274|n=>n,fun|n=>n⟩
theorem AKR:Go.Proofs.SlLaysF0.n6 Tryz.prog Yp where
 mixed:=by kernel_rfl
 f6:=⟨Tryz.f190.name,by kernel_rfl,Tryz.func190.trans (congrArg some (by kernel_rfl))⟩
 f14:=⟨Tryz.f209.name,by kernel_rfl,Tryz.func209.trans (congrArg some (by kernel_rfl))⟩
 f15:=Tryz.func184.trans (congrArg some (by kernel_rfl))
 f20:=⟨Tryz.f217.name,by kernel_rfl,Tryz.func217.trans (congrArg some (by kernel_rfl))⟩
 f21:=⟨Tryz.f218.name,by kernel_rfl,Tryz.func218.trans (congrArg some (by kernel_rfl))⟩
 f22:=⟨Tryz.f219.name,by kernel_rfl,Tryz.func219.trans (congrArg some (by kernel_rfl))⟩
 f23:=⟨Tryz.f220.name,by kernel_rfl,Tryz.func220.trans (congrArg some (by kernel_rfl))⟩
 f24:=⟨Tryz.f221.name,by kernel_rfl,Tryz.func221.trans (congrArg some (by kernel_rfl))⟩
 f25:=⟨Tryz.f222.name,by kernel_rfl,Tryz.func222.trans (congrArg some (by kernel_rfl))⟩
 f26:=⟨Tryz.f223.name,by kernel_rfl,Tryz.func223.trans (congrArg some (by kernel_rfl))⟩
 f27:=⟨Tryz.f224.name,by kernel_rfl,Tryz.func224.trans (congrArg some (by kernel_rfl))⟩
 f28:=Tryz.func204.trans (congrArg some (by kernel_rfl))
 f29:=Tryz.func205.trans (congrArg some (by kernel_rfl))
 f46:=⟨Tryz.f227.name,by kernel_rfl,Tryz.func227.trans (congrArg some (by kernel_rfl))⟩
 f47:=Tryz.func213.trans (congrArg some (by kernel_rfl))
 f48:=Tryz.func214.trans (congrArg some (by kernel_rfl))
 f49:=⟨Tryz.f228.name,by kernel_rfl,Tryz.func228.trans (congrArg some (by kernel_rfl))⟩
 f50:=⟨Tryz.f229.name,by kernel_rfl,Tryz.func229.trans (congrArg some (by kernel_rfl))⟩
 f57:=⟨Tryz.f230.name,by kernel_rfl,Tryz.func230.trans (congrArg some (by kernel_rfl))⟩
 t0:=Tryz.underlying0
 a0:=Tryz.isAgg0
 z0:=Tryz.sizeOf0
 v0:=Tryz.zeroValue0
 t3:=Tryz.underlying3
 a3:=Tryz.isAgg3
 z3:=Tryz.sizeOf3
 v3:=Tryz.zeroValue3
 t4:=Tryz.underlying4
 a4:=Tryz.isAgg4
 z4:=Tryz.sizeOf4
 v4:=Tryz.zeroValue4
 t5:=Tryz.underlying5
 a5:=Tryz.isAgg5
 z5:=Tryz.sizeOf5
 v5:=Tryz.zeroValue5
 t9:=Tryz.underlying9
 a9:=Tryz.isAgg9
 z9:=Tryz.sizeOf9
 v9:=Tryz.zeroValue9
 t22:=Tryz.underlying22
 a22:=Tryz.isAgg22
 z22:=Tryz.sizeOf22
 v22:=Tryz.zeroValue22
 t25:=Tryz.underlying218
 a25:=Tryz.isAgg218
 z25:=Tryz.sizeOf218
 v25:=Tryz.zeroValue218
 t39:=Tryz.underlying192
 a39:=Tryz.isAgg192
 z39:=Tryz.sizeOf192
 v39:=Tryz.zeroValue192
 t45:=Tryz.underlying250
 a45:=Tryz.isAgg250
 z45:=Tryz.sizeOf250
 v45:=Tryz.zeroValue250
 t46:=Tryz.underlying251
 a46:=Tryz.isAgg251
 z46:=Tryz.sizeOf251
 v46:=Tryz.zeroValue251
 t50:=Tryz.underlying255
 a50:=Tryz.isAgg255
 z50:=Tryz.sizeOf255
 v50:=Tryz.zeroValue255
 t53:=Tryz.underlying203
 a53:=Tryz.isAgg203
 z53:=Tryz.sizeOf203
 v53:=Tryz.zeroValue203
 t55:=Tryz.underlying132
 a55:=Tryz.isAgg132
 z55:=Tryz.sizeOf132
 v55:=Tryz.zeroValue132
 t66:=Tryz.underlying263
 a66:=Tryz.isAgg263
 z66:=Tryz.sizeOf263
 v66:=Tryz.zeroValue263
 t70:=Tryz.underlying266
 a70:=Tryz.isAgg266
 z70:=Tryz.sizeOf266
 v70:=Tryz.zeroValue266
 t76:=Tryz.underlying273
 a76:=Tryz.isAgg273
 z76:=Tryz.sizeOf273
 v76:=Tryz.zeroValue273
 t77:=Tryz.underlying274
 a77:=Tryz.isAgg274
 z77:=Tryz.sizeOf274
 v77:=Tryz.zeroValue274
set_option maxHeartbeats 2000000 in
theorem ADt (x y:Dl) (hx:Oj 1 x=true) (hy:Oj 1 y=true) (W:World):Calls Tryz.prog 158 #[.agg #[.int .i64 x.1,.int .i64 x.2.1,.int .i64 x.2.2],.agg #[.int .i64 y.1,.int .i64 y.2.1,.int .i64 y.2.2]] W
 fun e w'=>e= .returned (.int .i64 (cf3 1 x y))∧∃q os',w'=Sort.grow (W.drewN q) os':=by
 have h1:=ALH hx
 have h2:=ALH hy
 clear hx hy
 obtain⟨a,b,c⟩:=x
 obtain⟨a',b',c'⟩:=y
 simp only at h1 h2
 have e1:¬a=a'→cf3 1 (a,b,c) (a',b',c')=a-a':=fun h=>by unfold cf3;rw[if_pos (by rfl),if_neg h]
 have e2:a=a'→cf3 1 (a,b,c) (a',b',c')=b-b':=fun h=>by unfold cf3;rw[if_pos (by rfl),if_pos h]
 go_enter Tryz.func158,Tryz.ntmps158
 go_wp2
 ·rename_i h
  go_ret
  refine⟨?_,0,_,by rw[Sort.alloc_eq_grow,Sort.alloc_eq_grow,Sort.grow_grow];rfl⟩
  rw[e1 (by simpa using h)];rfl
 ·rename_i h
  go_ret
  refine⟨?_,0,_,by rw[Sort.alloc_eq_grow,Sort.alloc_eq_grow,Sort.grow_grow];rfl⟩
  rw[e2 (by simpa using h)];rfl
theorem AKS:SeqOk P CJ 190:=by
 have e:(CJ.seq 190)=(1000000+158,96):=by kernel_rfl
 refine⟨⟨_,_,Tryz.func190,rfl⟩,fun h=> ?_,fun h=> ?_,fun _=>by rw[e];kernel_rfl,fun _ _=> ?_,fun _ h=> ?_⟩
 ·rw[e]at h;cases h
 ·rw[e]at h;cases h
 ·rw[e]
  exact Yo AKR 1 158 Tryz.isAgg96 Tryz.sizeOf96 (enters_of Tryz.func158 (by kernel_rfl) rfl) ADt
 ·rw[e]at h;exact absurd h (by decide)
end
end Go.Proofs.YtoakaehjnbhgmaaGreatDoor
