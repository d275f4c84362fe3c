/-
  Part of the proof of a statement about the given program: an abstract machine over its code, the simulation, its functions' equations, what they compute.
-/
import Derived.StillTailTactics
import Derived.Test.YtiegkempfolgcaaGreatDoorChecked
import Derived.Test.YtiegkempfolgcaaGreatDoorMg26
import Derived.Test.YtiegkempfolgcaaGreatDoorMg4
set_option linter.unusedVariables false
set_option linter.unusedSimpArgs false
set_option linter.unusedSectionVars false
set_option maxRecDepth 100000
noncomputable section
namespace Go.Proofs.YtiegkempfolgcaaGreatDoor
section
open Go AM Go.RowKit Go.Shelf
def Tz:Go.Shelf.Ren:=⟨fun|6=>127|15=>134|14=>141|28=>153|29=>154|20=>157|21=>158|22=>159|23=>160|24=>161|25=>162|26=>163|27=>164|46=>173|47=>168|48=>169|49=>174|50=>175|57=>177|n=>n,fun|22=>31|24=>108|25=>175|3=>3|39=>126|0=>0|53=>149|55=>93|4=>4|46=>196|45=>195|50=>200|5=>5|9=>9|66=>211|70=>214|76=>218|77=>219|n=>n,fun|n=>n⟩
theorem ACc:Go.Proofs.SlLaysF0.n6 Tryz.prog Tz where
 mixed:=by kernel_rfl
 f6:=⟨Tryz.f127.name,by kernel_rfl,Tryz.func127.trans (congrArg some (by kernel_rfl))⟩
 f14:=⟨Tryz.f141.name,by kernel_rfl,Tryz.func141.trans (congrArg some (by kernel_rfl))⟩
 f15:=Tryz.func134.trans (congrArg some (by kernel_rfl))
 f20:=⟨Tryz.f157.name,by kernel_rfl,Tryz.func157.trans (congrArg some (by kernel_rfl))⟩
 f21:=⟨Tryz.f158.name,by kernel_rfl,Tryz.func158.trans (congrArg some (by kernel_rfl))⟩
 f22:=⟨Tryz.f159.name,by kernel_rfl,Tryz.func159.trans (congrArg some (by kernel_rfl))⟩
 f23:=⟨Tryz.f160.name,by kernel_rfl,Tryz.func160.trans (congrArg some (by kernel_rfl))⟩
 f24:=⟨Tryz.f161.name,by kernel_rfl,Tryz.func161.trans (congrArg some (by kernel_rfl))⟩
 f25:=⟨Tryz.f162.name,by kernel_rfl,Tryz.func162.trans (congrArg some (by kernel_rfl))⟩
 f26:=⟨Tryz.f163.name,by kernel_rfl,Tryz.func163.trans (congrArg some (by kernel_rfl))⟩
 f27:=⟨Tryz.f164.name,by kernel_rfl,Tryz.func164.trans (congrArg some (by kernel_rfl))⟩
 f28:=Tryz.func153.trans (congrArg some (by kernel_rfl))
 f29:=Tryz.func154.trans (congrArg some (by kernel_rfl))
 f46:=⟨Tryz.f173.name,by kernel_rfl,Tryz.func173.trans (congrArg some (by kernel_rfl))⟩
 f47:=Tryz.func168.trans (congrArg some (by kernel_rfl))
 f48:=Tryz.func169.trans (congrArg some (by kernel_rfl))
 f49:=⟨Tryz.f174.name,by kernel_rfl,Tryz.func174.trans (congrArg some (by kernel_rfl))⟩
 f50:=⟨Tryz.f175.name,by kernel_rfl,Tryz.func175.trans (congrArg some (by kernel_rfl))⟩
 f57:=⟨Tryz.f177.name,by kernel_rfl,Tryz.func177.trans (congrArg some (by kernel_rfl))⟩
 t0:=Tryz.underlying0
 a0:=Tryz.isAgg0
 z0:=Tryz.sizeOf0
 v0:=Tryz.zeroValue0
 t3:=Tryz.underlying3
 a3:=Tryz.isAgg3
 z3:=Tryz.sizeOf3
 v3:=Tryz.zeroValue3
 t4:=Tryz.underlying4
 a4:=Tryz.isAgg4
 z4:=Tryz.sizeOf4
 v4:=Tryz.zeroValue4
 t5:=Tryz.underlying5
 a5:=Tryz.isAgg5
 z5:=Tryz.sizeOf5
 v5:=Tryz.zeroValue5
 t9:=Tryz.underlying9
 a9:=Tryz.isAgg9
 z9:=Tryz.sizeOf9
 v9:=Tryz.zeroValue9
 t22:=Tryz.underlying31
 a22:=Tryz.isAgg31
 z22:=Tryz.sizeOf31
 v22:=Tryz.zeroValue31
 t25:=Tryz.underlying175
 a25:=Tryz.isAgg175
 z25:=Tryz.sizeOf175
 v25:=Tryz.zeroValue175
 t39:=Tryz.underlying126
 a39:=Tryz.isAgg126
 z39:=Tryz.sizeOf126
 v39:=Tryz.zeroValue126
 t45:=Tryz.underlying195
 a45:=Tryz.isAgg195
 z45:=Tryz.sizeOf195
 v45:=Tryz.zeroValue195
 t46:=Tryz.underlying196
 a46:=Tryz.isAgg196
 z46:=Tryz.sizeOf196
 v46:=Tryz.zeroValue196
 t50:=Tryz.underlying200
 a50:=Tryz.isAgg200
 z50:=Tryz.sizeOf200
 v50:=Tryz.zeroValue200
 t53:=Tryz.underlying149
 a53:=Tryz.isAgg149
 z53:=Tryz.sizeOf149
 v53:=Tryz.zeroValue149
 t55:=Tryz.underlying93
 a55:=Tryz.isAgg93
 z55:=Tryz.sizeOf93
 v55:=Tryz.zeroValue93
 t66:=Tryz.underlying211
 a66:=Tryz.isAgg211
 z66:=Tryz.sizeOf211
 v66:=Tryz.zeroValue211
 t70:=Tryz.underlying214
 a70:=Tryz.isAgg214
 z70:=Tryz.sizeOf214
 v70:=Tryz.zeroValue214
 t76:=Tryz.underlying218
 a76:=Tryz.isAgg218
 z76:=Tryz.sizeOf218
 v76:=Tryz.zeroValue218
 t77:=Tryz.underlying219
 a77:=Tryz.isAgg219
 z77:=Tryz.sizeOf219
 v77:=Tryz.zeroValue219
theorem YG (x:Int) (W:World):Calls Tryz.prog 165 #[.int .i64 x] W fun e w'=>e= .returned (.bool false)∧w'=W:=by
 go_enter Tryz.func165,Tryz.ntmps165
 go_wp2
 go_ret
 exact⟨by simp,rfl⟩
theorem YH (x:Int) (W:World):Calls Tryz.prog 166 #[.int .i64 x] W fun e w'=>e= .returned (.bool false)∧w'=W:=by
 go_enter Tryz.func166,Tryz.ntmps166
 go_wp2
 go_ret
 exact⟨by simp,rfl⟩
set_option maxHeartbeats 2000000 in
theorem PK (x y:Int) (W:World):Calls Tryz.prog 143 #[.int .i64 x,.int .i64 y] W fun e w'=>e= .returned (.int .i64 (YR x y))∧w'=W:=by
 go_enter Tryz.func143,Tryz.ntmps143
 go_wp2_with (go_at_call 165;refine(YG _ _).mono ?_;rintro e w' ⟨rfl,hw⟩;rw[hw])
 all_goals (go_ret;refine⟨?_,rfl⟩;unfold YR;(repeat' split)<;>first|rfl|(exfalso;omega))
set_option maxHeartbeats 2000000 in
theorem YI (x y:Int) (W:World):Calls Tryz.prog 144 #[.int .i64 x,.int .i64 y] W fun e w'=>e= .returned (.int .i64 (YR x y))∧w'=W:=by
 go_enter Tryz.func144,Tryz.ntmps144
 go_wp2_with (go_at_call 166;refine(YH _ _).mono ?_;rintro e w' ⟨rfl,hw⟩;rw[hw])
 all_goals (go_ret;refine⟨?_,rfl⟩;unfold YR;(repeat' split)<;>first|rfl|(exfalso;omega))
set_option maxHeartbeats 4000000 in
theorem ACd (a b c:Int) (bk cap:Nat) (W:World) (h0:W.cell? ⟨bk,0,none⟩=some (.int .i64 a)) (h1:W.cell? ⟨bk,1,none⟩=some (.int .i64 b)) (h2:W.cell? ⟨bk,2,none⟩=some (.int .i64 c)):
 Calls Tryz.prog 142 #[.slice (some ⟨bk,0,none⟩) 3 cap] W fun e w'=>e= .returned (.int .i64 (QZ a (QZ b c)))∧w'=W:=by
 have e1:(a !=0)=true→QZ a (QZ b c)=a:=fun h=>by unfold QZ;rw[if_neg (by simpa using h)]
 have e2:(a !=0)=false→(b !=0)=true→QZ a (QZ b c)=b:=fun h h'=>by unfold QZ;rw[if_pos (by simpa using h),if_neg (by simpa using h')]
 have e3:(a !=0)=false→(b !=0)=false→QZ a (QZ b c)=c:=fun h h'=>by unfold QZ;rw[if_pos (by simpa using h),if_pos (by simpa using h')]
 generalize QZ a (QZ b c)=r at*
 go_enter Tryz.func142,Tryz.ntmps142
 go_wp2
 refine wp_loop_rounds 4 ?_
 rw[rounds_succ]
 go_wp2
 ·go_ret
  rw[e1 (by assumption)];exact⟨rfl,rfl⟩
 ·rw[rounds_succ]
  go_wp2
  ·go_ret
   rw[e2 (by assumption) (by assumption)];exact⟨rfl,rfl⟩
  ·rw[rounds_succ]
   go_wp2
   ·go_ret
    rw[e3 (by assumption) (by assumption)];exact⟨rfl,rfl⟩
   ·rename_i hc _
    have hc0:c=0:=by simpa using ‹(c !=0)=false›
    rw[rounds_succ]
    go_wp2
    go_ret
    rw[e3 (by assumption) (by assumption),hc0];exact⟨rfl,rfl⟩
set_option maxHeartbeats 4000000 in
theorem YJ (x y:Int×Int×Int) (hx:N9 2 x=true) (hy:N9 2 y=true) (W:World):Calls Tryz.prog 128 #[.agg #[.int .i64 x.1,.int .i64 x.2.1,.int .i64 x.2.2],.agg #[.int .i64 y.1,.int .i64 y.2.1,.int .i64 y.2.2]] W
 fun e w'=>e= .returned (.int .i64 (cf3 2 x y))∧∃q os',w'=Sort.grow (W.drewN q) os':=by
 clear hx hy
 obtain⟨a,b,c⟩:=x
 obtain⟨a',b',c'⟩:=y
 simp only
 have e:cf3 2 (a,b,c) (a',b',c')=QZ (YR b b') (QZ (YR a a') (YR c c')):=by unfold cf3;rw[if_neg (by decide)]
 rw[e]
 go_enter Tryz.func128,Tryz.ntmps128
 go_wp2
 obtain⟨X,hX⟩:∃X,X=(W.alloc (.cells #[.int .i64 a,.int .i64 b,.int .i64 c] 108)).alloc (.cells #[.int .i64 a',.int .i64 b',.int .i64 c'] 108):=⟨_,rfl⟩
 obtain⟨w1,hw1⟩:∃w1,w1=X.drew:=⟨_,rfl⟩
 have hg:w1=Sort.grow (W.drewN 1) #[.cells #[.int .i64 a,.int .i64 b,.int .i64 c] 108,.cells #[.int .i64 a',.int .i64 b',.int .i64 c'] 108]:=by
  rw[hw1,hX,Sort.alloc_eq_grow,Sort.alloc_eq_grow,Sort.grow_grow];rfl
 have e0:w1.heap[W.heap.size]?=some (.cells #[.int .i64 a,.int .i64 b,.int .i64 c] 108 (0,0)):=by
  rw[hg];show(W.heap++ #[_,_])[W.heap.size]?=_
  rw[Array.getElem?_append_right (Nat.le_refl _),Nat.sub_self];rfl
 have e1:w1.heap[W.heap.size+1]?=some (.cells #[.int .i64 a',.int .i64 b',.int .i64 c'] 108 (0,0)):=by
  rw[hg];show(W.heap++ #[_,_])[W.heap.size+1]?=_
  rw[Array.getElem?_append_right (show W.heap.size≤W.heap.size+1 by omega),show W.heap.size+1-W.heap.size=1 by omega];rfl
 have g0:∀(j:Nat) (v:Value),#[Value.int .i64 a,.int .i64 b,.int .i64 c][j]?=some v→w1.cell? ⟨W.heap.size,j,none⟩=some v:=fun j v h=>by simp only[World.cell?,e0];exact h
 have g1:∀(j:Nat) (v:Value),#[Value.int .i64 a',.int .i64 b',.int .i64 c'][j]?=some v→w1.cell? ⟨W.heap.size+1,j,none⟩=some v:=fun j v h=>by simp only[World.cell?,e1];exact h
 have a0:=g0 0 (.int .i64 a) rfl;have a1:=g0 1 (.int .i64 b) rfl;have a2:=g0 2 (.int .i64 c) rfl
 have b0:=g1 0 (.int .i64 a') rfl;have b1:=g1 1 (.int .i64 b') rfl;have b2:=g1 2 (.int .i64 c') rfl
 clear g0 g1 e0 e1
 rw[←hX]
 refine wp_region_still_tail 15 (by kernel_rfl) (by kernel_rfl) ?_
 rw[show({X with drawn:=X.drawn+1}:World)=w1 from hw1.symm]
 have hg':∃os,w1=Sort.grow (W.drewN 1) os:=⟨_,hg⟩
 clear hg hw1 hX X
 simp only[List.take_succ_cons,List.take_zero,List.drop_succ_cons,List.drop_zero]
 still_step
 still_step
 still_step
 still_step
 still_call (PK _ _ _)
 still_step
 still_step
 still_step
 still_step
 still_call (PK _ _ _)
 still_step
 still_step
 still_step
 still_step
 still_call (YI _ _ _)
 refine wpStill_nil ?_
 have nw:∀(o:Obj) (j:Nat) (cs:Array Value) (t:TypeId),o= .cells cs t (0,0)→(w1.alloc o).cell? ⟨w1.heap.size,j,none⟩=cs[j]?:=fun o j cs t ho=>by
  subst ho
  have e:(w1.alloc (.cells cs t (0,0))).heap[w1.heap.size]?=some (.cells cs t (0,0)):=by show(w1.heap.push _)[w1.heap.size]?=_;simp
  simp only[World.cell?,e];rfl
 go_wp2_with (go_at_call 142;refine(ACd _ _ _ w1.heap.size _ _ (nw _ 0 _ _ rfl) (nw _ 1 _ _ rfl) (nw _ 2 _ _ rfl)).mono ?_;rintro e w' ⟨rfl,hw⟩;rw[hw])
 go_ret
 obtain⟨os,hos⟩:=hg'
 exact⟨rfl,1,_,by rw[hos,Sort.alloc_eq_grow,Sort.grow_grow]⟩
theorem ACe:SeqOk P CZ 127:=by
 have e:(CZ.seq 127)=(2000000+128,108):=by kernel_rfl
 refine⟨⟨_,_,Tryz.func127,rfl⟩,fun h=> ?_,fun h=> ?_,fun _=>by rw[e];kernel_rfl,fun _ _=> ?_,fun _ h=> ?_⟩
 ·rw[e]at h;cases h
 ·rw[e]at h;cases h
 ·rw[e]
  exact Tt ACc 2 128 Tryz.isAgg108 Tryz.sizeOf108 (enters_of Tryz.func128 (by kernel_rfl) rfl) YJ
 ·rw[e]at h;exact absurd h (by decide)
end
end Go.Proofs.YtiegkempfolgcaaGreatDoor
