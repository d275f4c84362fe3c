/-
  Part of the proof of a statement about the given program: an abstract machine over its code, the simulation, its functions' equations, what they compute.
-/
import Derived.StillTailTactics
import Derived.Test.YtoakaehjnbhgmaaGreatDoorChecked
import Derived.Test.YtoakaehjnbhgmaaGreatDoorMg27
import Derived.Test.YtoakaehjnbhgmaaGreatDoorMg4
set_option linter.unusedVariables false
set_option linter.unusedSimpArgs false
set_option linter.unusedSectionVars false
set_option maxRecDepth 100000
noncomputable section
namespace Go.Proofs.YtoakaehjnbhgmaaGreatDoor
section
open Go AM Go.RowKit Go.Shelf
def Yq:Go.Shelf.Ren:=⟨fun|6=>152|15=>184|14=>183|28=>204|29=>205|20=>196|21=>197|22=>198|23=>199|24=>200|25=>201|26=>202|27=>203|46=>212|47=>213|48=>214|49=>215|50=>216|57=>226|n=>n,fun|22=>39|24=>152|25=>211|3=>3|39=>192|0=>0|53=>203|55=>132|4=>4|46=>251|45=>250|50=>255|5=>5|9=>9|66=>263|70=>266|76=>273|77=>274|n=>n,fun|n=>n⟩
theorem AKT:Go.Proofs.SlLaysF0.n6 Tryz.prog Yq where
 mixed:=by kernel_rfl
 f6:=⟨Tryz.f152.name,by kernel_rfl,Tryz.func152.trans (congrArg some (by kernel_rfl))⟩
 f14:=⟨Tryz.f183.name,by kernel_rfl,Tryz.func183.trans (congrArg some (by kernel_rfl))⟩
 f15:=Tryz.func184.trans (congrArg some (by kernel_rfl))
 f20:=⟨Tryz.f196.name,by kernel_rfl,Tryz.func196.trans (congrArg some (by kernel_rfl))⟩
 f21:=⟨Tryz.f197.name,by kernel_rfl,Tryz.func197.trans (congrArg some (by kernel_rfl))⟩
 f22:=⟨Tryz.f198.name,by kernel_rfl,Tryz.func198.trans (congrArg some (by kernel_rfl))⟩
 f23:=⟨Tryz.f199.name,by kernel_rfl,Tryz.func199.trans (congrArg some (by kernel_rfl))⟩
 f24:=⟨Tryz.f200.name,by kernel_rfl,Tryz.func200.trans (congrArg some (by kernel_rfl))⟩
 f25:=⟨Tryz.f201.name,by kernel_rfl,Tryz.func201.trans (congrArg some (by kernel_rfl))⟩
 f26:=⟨Tryz.f202.name,by kernel_rfl,Tryz.func202.trans (congrArg some (by kernel_rfl))⟩
 f27:=⟨Tryz.f203.name,by kernel_rfl,Tryz.func203.trans (congrArg some (by kernel_rfl))⟩
 f28:=Tryz.func204.trans (congrArg some (by kernel_rfl))
 f29:=Tryz.func205.trans (congrArg some (by kernel_rfl))
 f46:=⟨Tryz.f212.name,by kernel_rfl,Tryz.func212.trans (congrArg some (by kernel_rfl))⟩
 f47:=Tryz.func213.trans (congrArg some (by kernel_rfl))
 f48:=Tryz.func214.trans (congrArg some (by kernel_rfl))
 f49:=⟨Tryz.f215.name,by kernel_rfl,Tryz.func215.trans (congrArg some (by kernel_rfl))⟩
 f50:=⟨Tryz.f216.name,by kernel_rfl,Tryz.func216.trans (congrArg some (by kernel_rfl))⟩
 f57:=⟨Tryz.f226.name,by kernel_rfl,Tryz.func226.trans (congrArg some (by kernel_rfl))⟩
 t0:=Tryz.underlying0
 a0:=Tryz.isAgg0
 z0:=Tryz.sizeOf0
 v0:=Tryz.zeroValue0
 t3:=Tryz.underlying3
 a3:=Tryz.isAgg3
 z3:=Tryz.sizeOf3
 v3:=Tryz.zeroValue3
 t4:=Tryz.underlying4
 a4:=Tryz.isAgg4
 z4:=Tryz.sizeOf4
 v4:=Tryz.zeroValue4
 t5:=Tryz.underlying5
 a5:=Tryz.isAgg5
 z5:=Tryz.sizeOf5
 v5:=Tryz.zeroValue5
 t9:=Tryz.underlying9
 a9:=Tryz.isAgg9
 z9:=Tryz.sizeOf9
 v9:=Tryz.zeroValue9
 t22:=Tryz.underlying39
 a22:=Tryz.isAgg39
 z22:=Tryz.sizeOf39
 v22:=Tryz.zeroValue39
 t25:=Tryz.underlying211
 a25:=Tryz.isAgg211
 z25:=Tryz.sizeOf211
 v25:=Tryz.zeroValue211
 t39:=Tryz.underlying192
 a39:=Tryz.isAgg192
 z39:=Tryz.sizeOf192
 v39:=Tryz.zeroValue192
 t45:=Tryz.underlying250
 a45:=Tryz.isAgg250
 z45:=Tryz.sizeOf250
 v45:=Tryz.zeroValue250
 t46:=Tryz.underlying251
 a46:=Tryz.isAgg251
 z46:=Tryz.sizeOf251
 v46:=Tryz.zeroValue251
 t50:=Tryz.underlying255
 a50:=Tryz.isAgg255
 z50:=Tryz.sizeOf255
 v50:=Tryz.zeroValue255
 t53:=Tryz.underlying203
 a53:=Tryz.isAgg203
 z53:=Tryz.sizeOf203
 v53:=Tryz.zeroValue203
 t55:=Tryz.underlying132
 a55:=Tryz.isAgg132
 z55:=Tryz.sizeOf132
 v55:=Tryz.zeroValue132
 t66:=Tryz.underlying263
 a66:=Tryz.isAgg263
 z66:=Tryz.sizeOf263
 v66:=Tryz.zeroValue263
 t70:=Tryz.underlying266
 a70:=Tryz.isAgg266
 z70:=Tryz.sizeOf266
 v70:=Tryz.zeroValue266
 t76:=Tryz.underlying273
 a76:=Tryz.isAgg273
 z76:=Tryz.sizeOf273
 v76:=Tryz.zeroValue273
 t77:=Tryz.underlying274
 a77:=Tryz.isAgg274
 z77:=Tryz.sizeOf274
 v77:=Tryz.zeroValue274
theorem ADu (x:Int) (W:World):Calls Tryz.prog 206 #[.int .i64 x] W fun e w'=>e= .returned (.bool false)∧w'=W:=by
 go_enter Tryz.func206,Tryz.ntmps206
 go_wp2
 go_ret
 exact⟨by simp,rfl⟩
theorem ADv (x:Int) (W:World):Calls Tryz.prog 207 #[.int .i64 x] W fun e w'=>e= .returned (.bool false)∧w'=W:=by
 go_enter Tryz.func207,Tryz.ntmps207
 go_wp2
 go_ret
 exact⟨by simp,rfl⟩
set_option maxHeartbeats 2000000 in
theorem Uc (x y:Int) (W:World):Calls Tryz.prog 186 #[.int .i64 x,.int .i64 y] W fun e w'=>e= .returned (.int .i64 (sg3 x y))∧w'=W:=by
 go_enter Tryz.func186,Tryz.ntmps186
 go_wp2_with (go_at_call 206;refine(ADu _ _).mono ?_;rintro e w' ⟨rfl,hw⟩;rw[hw])
 all_goals (go_ret;refine⟨?_,rfl⟩;unfold sg3;(repeat' split)<;>first|rfl|(exfalso;omega))
set_option maxHeartbeats 2000000 in
theorem ADw (x y:Int) (W:World):Calls Tryz.prog 187 #[.int .i64 x,.int .i64 y] W fun e w'=>e= .returned (.int .i64 (sg3 x y))∧w'=W:=by
 go_enter Tryz.func187,Tryz.ntmps187
 go_wp2_with (go_at_call 207;refine(ADv _ _).mono ?_;rintro e w' ⟨rfl,hw⟩;rw[hw])
 all_goals (go_ret;refine⟨?_,rfl⟩;unfold sg3;(repeat' split)<;>first|rfl|(exfalso;omega))
set_option maxHeartbeats 4000000 in
theorem AKU (a b c:Int) (bk cap:Nat) (W:World) (h0:W.cell? ⟨bk,0,none⟩=some (.int .i64 a)) (h1:W.cell? ⟨bk,1,none⟩=some (.int .i64 b)) (h2:W.cell? ⟨bk,2,none⟩=some (.int .i64 c)):
 Calls Tryz.prog 185 #[.slice (some ⟨bk,0,none⟩) 3 cap] W fun e w'=>e= .returned (.int .i64 (Vr a (Vr b c)))∧w'=W:=by
 have e1:(a !=0)=true→Vr a (Vr b c)=a:=fun h=>by unfold Vr;rw[if_neg (by simpa using h)]
 have e2:(a !=0)=false→(b !=0)=true→Vr a (Vr b c)=b:=fun h h'=>by unfold Vr;rw[if_pos (by simpa using h),if_neg (by simpa using h')]
 have e3:(a !=0)=false→(b !=0)=false→Vr a (Vr b c)=c:=fun h h'=>by unfold Vr;rw[if_pos (by simpa using h),if_pos (by simpa using h')]
 generalize Vr a (Vr b c)=r at*
 go_enter Tryz.func185,Tryz.ntmps185
 go_wp2
 refine wp_loop_rounds 4 ?_
 rw[rounds_succ]
 go_wp2
 ·go_ret
  rw[e1 (by assumption)];exact⟨rfl,rfl⟩
 ·rw[rounds_succ]
  go_wp2
  ·go_ret
   rw[e2 (by assumption) (by assumption)];exact⟨rfl,rfl⟩
  ·rw[rounds_succ]
   go_wp2
   ·go_ret
    rw[e3 (by assumption) (by assumption)];exact⟨rfl,rfl⟩
   ·rename_i hc _
    have hc0:c=0:=by simpa using ‹(c !=0)=false›
    rw[rounds_succ]
    go_wp2
    go_ret
    rw[e3 (by assumption) (by assumption),hc0];exact⟨rfl,rfl⟩
set_option maxHeartbeats 4000000 in
theorem ADx (x y:Int×Int×Int) (hx:Oj 2 x=true) (hy:Oj 2 y=true) (W:World):Calls Tryz.prog 153 #[.agg #[.int .i64 x.1,.int .i64 x.2.1,.int .i64 x.2.2],.agg #[.int .i64 y.1,.int .i64 y.2.1,.int .i64 y.2.2]] W
 fun e w'=>e= .returned (.int .i64 (cf3 2 x y))∧∃q os',w'=Sort.grow (W.drewN q) os':=by
 clear hx hy
 obtain⟨a,b,c⟩:=x
 obtain⟨a',b',c'⟩:=y
 simp only
 have e:cf3 2 (a,b,c) (a',b',c')=Vr (sg3 b b') (Vr (sg3 a a') (sg3 c c')):=by unfold cf3;rw[if_neg (by decide)]
 rw[e]
 go_enter Tryz.func153,Tryz.ntmps153
 go_wp2
 obtain⟨X,hX⟩:∃X,X=(W.alloc (.cells #[.int .i64 a,.int .i64 b,.int .i64 c] 152)).alloc (.cells #[.int .i64 a',.int .i64 b',.int .i64 c'] 152):=⟨_,rfl⟩
 obtain⟨w1,hw1⟩:∃w1,w1=X.drew:=⟨_,rfl⟩
 have hg:w1=Sort.grow (W.drewN 1) #[.cells #[.int .i64 a,.int .i64 b,.int .i64 c] 152,.cells #[.int .i64 a',.int .i64 b',.int .i64 c'] 152]:=by
  rw[hw1,hX,Sort.alloc_eq_grow,Sort.alloc_eq_grow,Sort.grow_grow];rfl
 have e0:w1.heap[W.heap.size]?=some (.cells #[.int .i64 a,.int .i64 b,.int .i64 c] 152 (0,0)):=by
  rw[hg];show(W.heap++ #[_,_])[W.heap.size]?=_
  rw[Array.getElem?_append_right (Nat.le_refl _),Nat.sub_self];rfl
 have e1:w1.heap[W.heap.size+1]?=some (.cells #[.int .i64 a',.int .i64 b',.int .i64 c'] 152 (0,0)):=by
  rw[hg];show(W.heap++ #[_,_])[W.heap.size+1]?=_
  rw[Array.getElem?_append_right (show W.heap.size≤W.heap.size+1 by omega),show W.heap.size+1-W.heap.size=1 by omega];rfl
 have g0:∀(j:Nat) (v:Value),#[Value.int .i64 a,.int .i64 b,.int .i64 c][j]?=some v→w1.cell? ⟨W.heap.size,j,none⟩=some v:=fun j v h=>by simp only[World.cell?,e0];exact h
 have g1:∀(j:Nat) (v:Value),#[Value.int .i64 a',.int .i64 b',.int .i64 c'][j]?=some v→w1.cell? ⟨W.heap.size+1,j,none⟩=some v:=fun j v h=>by simp only[World.cell?,e1];exact h
 have a0:=g0 0 (.int .i64 a) rfl;have a1:=g0 1 (.int .i64 b) rfl;have a2:=g0 2 (.int .i64 c) rfl
 have b0:=g1 0 (.int .i64 a') rfl;have b1:=g1 1 (.int .i64 b') rfl;have b2:=g1 2 (.int .i64 c') rfl
 clear g0 g1 e0 e1
 rw[←hX]
 refine wp_region_still_tail 15 (by kernel_rfl) (by kernel_rfl) ?_
 rw[show({X with drawn:=X.drawn+1}:World)=w1 from hw1.symm]
 have hg':∃os,w1=Sort.grow (W.drewN 1) os:=⟨_,hg⟩
 clear hg hw1 hX X
 simp only[List.take_succ_cons,List.take_zero,List.drop_succ_cons,List.drop_zero]
 still_step
 still_step
 still_step
 still_step
 still_call (Uc _ _ _)
 still_step
 still_step
 still_step
 still_step
 still_call (Uc _ _ _)
 still_step
 still_step
 still_step
 still_step
 still_call (ADw _ _ _)
 refine wpStill_nil ?_
 have nw:∀(o:Obj) (j:Nat) (cs:Array Value) (t:TypeId),o= .cells cs t (0,0)→(w1.alloc o).cell? ⟨w1.heap.size,j,none⟩=cs[j]?:=fun o j cs t ho=>by
  subst ho
  have e:(w1.alloc (.cells cs t (0,0))).heap[w1.heap.size]?=some (.cells cs t (0,0)):=by show(w1.heap.push _)[w1.heap.size]?=_;simp
  simp only[World.cell?,e];rfl
 go_wp2_with (go_at_call 185;refine(AKU _ _ _ w1.heap.size _ _ (nw _ 0 _ _ rfl) (nw _ 1 _ _ rfl) (nw _ 2 _ _ rfl)).mono ?_;rintro e w' ⟨rfl,hw⟩;rw[hw])
 go_ret
 obtain⟨os,hos⟩:=hg'
 exact⟨rfl,1,_,by rw[hos,Sort.alloc_eq_grow,Sort.grow_grow]⟩
theorem AKV:SeqOk P CJ 152:=by
 have e:(CJ.seq 152)=(2000000+153,152):=by kernel_rfl
 refine⟨⟨_,_,Tryz.func152,rfl⟩,fun h=> ?_,fun h=> ?_,fun _=>by rw[e];kernel_rfl,fun _ _=> ?_,fun _ h=> ?_⟩
 ·rw[e]at h;cases h
 ·rw[e]at h;cases h
 ·rw[e]
  exact Yo AKT 2 153 Tryz.isAgg152 Tryz.sizeOf152 (enters_of Tryz.func153 (by kernel_rfl) rfl) ADx
 ·rw[e]at h;exact absurd h (by decide)
end
end Go.Proofs.YtoakaehjnbhgmaaGreatDoor
