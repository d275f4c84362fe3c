/-
  Part of the proof of a statement about the given program: an abstract machine over its code, the simulation, its functions' equations, what they compute.
-/
import Derived.StillTailTactics
import Derived.Test.YtkelgdjhpgefnaaGreatDoorChecked
import Derived.Test.YtkelgdjhpgefnaaGreatDoorMg25
import Derived.Test.YtkelgdjhpgefnaaGreatDoorMg6
set_option linter.unusedVariables false
set_option linter.unusedSimpArgs false
set_option linter.unusedSectionVars false
set_option maxRecDepth 100000
noncomputable section
namespace Go.Proofs.YtkelgdjhpgefnaaGreatDoor
section
open Go AM Go.RowKit Go.Shelf
def QN:Go.Shelf.Ren:=⟨fun|6=>65|15=>110|14=>109|28=>135|29=>136|20=>127|21=>128|22=>129|23=>130|24=>131|25=>132|26=>133|27=>134|46=>144|47=>145|48=>146|49=>147|50=>148|57=>159|n=>n,fun|22=>45|24=>76|25=>124|3=>3|39=>169|0=>0|53=>58|55=>112|4=>4|46=>189|45=>188|50=>193|5=>5|9=>9|66=>204|70=>207|76=>217|77=>218|n=>n,fun|n=>n⟩
theorem ZE:Go.Proofs.SlLaysF0.n6 Tryz.prog QN where
 mixed:=by kernel_rfl
 f6:=⟨Tryz.f65.name,by kernel_rfl,Tryz.func65.trans (congrArg some (by kernel_rfl))⟩
 f14:=⟨Tryz.f109.name,by kernel_rfl,Tryz.func109.trans (congrArg some (by kernel_rfl))⟩
 f15:=Tryz.func110.trans (congrArg some (by kernel_rfl))
 f20:=⟨Tryz.f127.name,by kernel_rfl,Tryz.func127.trans (congrArg some (by kernel_rfl))⟩
 f21:=⟨Tryz.f128.name,by kernel_rfl,Tryz.func128.trans (congrArg some (by kernel_rfl))⟩
 f22:=⟨Tryz.f129.name,by kernel_rfl,Tryz.func129.trans (congrArg some (by kernel_rfl))⟩
 f23:=⟨Tryz.f130.name,by kernel_rfl,Tryz.func130.trans (congrArg some (by kernel_rfl))⟩
 f24:=⟨Tryz.f131.name,by kernel_rfl,Tryz.func131.trans (congrArg some (by kernel_rfl))⟩
 f25:=⟨Tryz.f132.name,by kernel_rfl,Tryz.func132.trans (congrArg some (by kernel_rfl))⟩
 f26:=⟨Tryz.f133.name,by kernel_rfl,Tryz.func133.trans (congrArg some (by kernel_rfl))⟩
 f27:=⟨Tryz.f134.name,by kernel_rfl,Tryz.func134.trans (congrArg some (by kernel_rfl))⟩
 f28:=Tryz.func135.trans (congrArg some (by kernel_rfl))
 f29:=Tryz.func136.trans (congrArg some (by kernel_rfl))
 f46:=⟨Tryz.f144.name,by kernel_rfl,Tryz.func144.trans (congrArg some (by kernel_rfl))⟩
 f47:=Tryz.func145.trans (congrArg some (by kernel_rfl))
 f48:=Tryz.func146.trans (congrArg some (by kernel_rfl))
 f49:=⟨Tryz.f147.name,by kernel_rfl,Tryz.func147.trans (congrArg some (by kernel_rfl))⟩
 f50:=⟨Tryz.f148.name,by kernel_rfl,Tryz.func148.trans (congrArg some (by kernel_rfl))⟩
 f57:=⟨Tryz.f159.name,by kernel_rfl,Tryz.func159.trans (congrArg some (by kernel_rfl))⟩
 t0:=Tryz.underlying0
 a0:=Tryz.isAgg0
 z0:=Tryz.sizeOf0
 v0:=Tryz.zeroValue0
 t3:=Tryz.underlying3
 a3:=Tryz.isAgg3
 z3:=Tryz.sizeOf3
 v3:=Tryz.zeroValue3
 t4:=Tryz.underlying4
 a4:=Tryz.isAgg4
 z4:=Tryz.sizeOf4
 v4:=Tryz.zeroValue4
 t5:=Tryz.underlying5
 a5:=Tryz.isAgg5
 z5:=Tryz.sizeOf5
 v5:=Tryz.zeroValue5
 t9:=Tryz.underlying9
 a9:=Tryz.isAgg9
 z9:=Tryz.sizeOf9
 v9:=Tryz.zeroValue9
 t22:=Tryz.underlying45
 a22:=Tryz.isAgg45
 z22:=Tryz.sizeOf45
 v22:=Tryz.zeroValue45
 t25:=Tryz.underlying124
 a25:=Tryz.isAgg124
 z25:=Tryz.sizeOf124
 v25:=Tryz.zeroValue124
 t39:=Tryz.underlying169
 a39:=Tryz.isAgg169
 z39:=Tryz.sizeOf169
 v39:=Tryz.zeroValue169
 t45:=Tryz.underlying188
 a45:=Tryz.isAgg188
 z45:=Tryz.sizeOf188
 v45:=Tryz.zeroValue188
 t46:=Tryz.underlying189
 a46:=Tryz.isAgg189
 z46:=Tryz.sizeOf189
 v46:=Tryz.zeroValue189
 t50:=Tryz.underlying193
 a50:=Tryz.isAgg193
 z50:=Tryz.sizeOf193
 v50:=Tryz.zeroValue193
 t53:=Tryz.underlying58
 a53:=Tryz.isAgg58
 z53:=Tryz.sizeOf58
 v53:=Tryz.zeroValue58
 t55:=Tryz.underlying112
 a55:=Tryz.isAgg112
 z55:=Tryz.sizeOf112
 v55:=Tryz.zeroValue112
 t66:=Tryz.underlying204
 a66:=Tryz.isAgg204
 z66:=Tryz.sizeOf204
 v66:=Tryz.zeroValue204
 t70:=Tryz.underlying207
 a70:=Tryz.isAgg207
 z70:=Tryz.sizeOf207
 v70:=Tryz.zeroValue207
 t76:=Tryz.underlying217
 a76:=Tryz.isAgg217
 z76:=Tryz.sizeOf217
 v76:=Tryz.zeroValue217
 t77:=Tryz.underlying218
 a77:=Tryz.isAgg218
 z77:=Tryz.sizeOf218
 v77:=Tryz.zeroValue218
theorem Uu (x:Int) (W:World):Calls Tryz.prog 137 #[.int .i64 x] W fun e w'=>e= .returned (.bool false)∧w'=W:=by
 go_enter Tryz.func137,Tryz.ntmps137
 go_wp2
 go_ret
 exact⟨by simp,rfl⟩
theorem Uw (x:Int) (W:World):Calls Tryz.prog 138 #[.int .i64 x] W fun e w'=>e= .returned (.bool false)∧w'=W:=by
 go_enter Tryz.func138,Tryz.ntmps138
 go_wp2
 go_ret
 exact⟨by simp,rfl⟩
set_option maxHeartbeats 2000000 in
theorem NF (x y:Int) (W:World):Calls Tryz.prog 112 #[.int .i64 x,.int .i64 y] W fun e w'=>e= .returned (.int .i64 (U4 x y))∧w'=W:=by
 go_enter Tryz.func112,Tryz.ntmps112
 go_wp2_with (go_at_call 137;refine(Uu _ _).mono ?_;rintro e w' ⟨rfl,hw⟩;rw[hw])
 all_goals (go_ret;refine⟨?_,rfl⟩;unfold U4;(repeat' split)<;>first|rfl|(exfalso;omega))
set_option maxHeartbeats 2000000 in
theorem Ux (x y:Int) (W:World):Calls Tryz.prog 113 #[.int .i64 x,.int .i64 y] W fun e w'=>e= .returned (.int .i64 (U4 x y))∧w'=W:=by
 go_enter Tryz.func113,Tryz.ntmps113
 go_wp2_with (go_at_call 138;refine(Uw _ _).mono ?_;rintro e w' ⟨rfl,hw⟩;rw[hw])
 all_goals (go_ret;refine⟨?_,rfl⟩;unfold U4;(repeat' split)<;>first|rfl|(exfalso;omega))
set_option maxHeartbeats 4000000 in
theorem ZF (a b c:Int) (bk cap:Nat) (W:World) (h0:W.cell? ⟨bk,0,none⟩=some (.int .i64 a)) (h1:W.cell? ⟨bk,1,none⟩=some (.int .i64 b)) (h2:W.cell? ⟨bk,2,none⟩=some (.int .i64 c)):
 Calls Tryz.prog 111 #[.slice (some ⟨bk,0,none⟩) 3 cap] W fun e w'=>e= .returned (.int .i64 (OA a (OA b c)))∧w'=W:=by
 have e1:(a !=0)=true→OA a (OA b c)=a:=fun h=>by unfold OA;rw[if_neg (by simpa using h)]
 have e2:(a !=0)=false→(b !=0)=true→OA a (OA b c)=b:=fun h h'=>by unfold OA;rw[if_pos (by simpa using h),if_neg (by simpa using h')]
 have e3:(a !=0)=false→(b !=0)=false→OA a (OA b c)=c:=fun h h'=>by unfold OA;rw[if_pos (by simpa using h),if_pos (by simpa using h')]
 generalize OA a (OA b c)=r at*
 go_enter Tryz.func111,Tryz.ntmps111
 go_wp2
 refine wp_loop_rounds 4 ?_
 rw[rounds_succ]
 go_wp2
 ·go_ret
  rw[e1 (by assumption)];exact⟨rfl,rfl⟩
 ·rw[rounds_succ]
  go_wp2
  ·go_ret
   rw[e2 (by assumption) (by assumption)];exact⟨rfl,rfl⟩
  ·rw[rounds_succ]
   go_wp2
   ·go_ret
    rw[e3 (by assumption) (by assumption)];exact⟨rfl,rfl⟩
   ·rename_i hc _
    have hc0:c=0:=by simpa using ‹(c !=0)=false›
    rw[rounds_succ]
    go_wp2
    go_ret
    rw[e3 (by assumption) (by assumption),hc0];exact⟨rfl,rfl⟩
set_option maxHeartbeats 4000000 in
theorem Uy (x y:Int×Int×Int) (hx:N9 2 x=true) (hy:N9 2 y=true) (W:World):Calls Tryz.prog 66 #[.agg #[.int .i64 x.1,.int .i64 x.2.1,.int .i64 x.2.2],.agg #[.int .i64 y.1,.int .i64 y.2.1,.int .i64 y.2.2]] W
 fun e w'=>e= .returned (.int .i64 (cf3 2 x y))∧∃q os',w'=Sort.grow (W.drewN q) os':=by
 clear hx hy
 obtain⟨a,b,c⟩:=x
 obtain⟨a',b',c'⟩:=y
 simp only
 have e:cf3 2 (a,b,c) (a',b',c')=OA (U4 b b') (OA (U4 a a') (U4 c c')):=by unfold cf3;rw[if_neg (by decide)]
 rw[e]
 go_enter Tryz.func66,Tryz.ntmps66
 go_wp2
 obtain⟨X,hX⟩:∃X,X=(W.alloc (.cells #[.int .i64 a,.int .i64 b,.int .i64 c] 76)).alloc (.cells #[.int .i64 a',.int .i64 b',.int .i64 c'] 76):=⟨_,rfl⟩
 obtain⟨w1,hw1⟩:∃w1,w1=X.drew:=⟨_,rfl⟩
 have hg:w1=Sort.grow (W.drewN 1) #[.cells #[.int .i64 a,.int .i64 b,.int .i64 c] 76,.cells #[.int .i64 a',.int .i64 b',.int .i64 c'] 76]:=by
  rw[hw1,hX,Sort.alloc_eq_grow,Sort.alloc_eq_grow,Sort.grow_grow];rfl
 have e0:w1.heap[W.heap.size]?=some (.cells #[.int .i64 a,.int .i64 b,.int .i64 c] 76 (0,0)):=by
  rw[hg];show(W.heap++ #[_,_])[W.heap.size]?=_
  rw[Array.getElem?_append_right (Nat.le_refl _),Nat.sub_self];rfl
 have e1:w1.heap[W.heap.size+1]?=some (.cells #[.int .i64 a',.int .i64 b',.int .i64 c'] 76 (0,0)):=by
  rw[hg];show(W.heap++ #[_,_])[W.heap.size+1]?=_
  rw[Array.getElem?_append_right (show W.heap.size≤W.heap.size+1 by omega),show W.heap.size+1-W.heap.size=1 by omega];rfl
 have g0:∀(j:Nat) (v:Value),#[Value.int .i64 a,.int .i64 b,.int .i64 c][j]?=some v→w1.cell? ⟨W.heap.size,j,none⟩=some v:=fun j v h=>by simp only[World.cell?,e0];exact h
 have g1:∀(j:Nat) (v:Value),#[Value.int .i64 a',.int .i64 b',.int .i64 c'][j]?=some v→w1.cell? ⟨W.heap.size+1,j,none⟩=some v:=fun j v h=>by simp only[World.cell?,e1];exact h
 have a0:=g0 0 (.int .i64 a) rfl;have a1:=g0 1 (.int .i64 b) rfl;have a2:=g0 2 (.int .i64 c) rfl
 have b0:=g1 0 (.int .i64 a') rfl;have b1:=g1 1 (.int .i64 b') rfl;have b2:=g1 2 (.int .i64 c') rfl
 clear g0 g1 e0 e1
 rw[←hX]
 refine wp_region_still_tail 15 (by kernel_rfl) (by kernel_rfl) ?_
 rw[show({X with drawn:=X.drawn+1}:World)=w1 from hw1.symm]
 have hg':∃os,w1=Sort.grow (W.drewN 1) os:=⟨_,hg⟩
 clear hg hw1 hX X
 simp only[List.take_succ_cons,List.take_zero,List.drop_succ_cons,List.drop_zero]
 still_step
 still_step
 still_step
 still_step
 still_call (NF _ _ _)
 still_step
 still_step
 still_step
 still_step
 still_call (NF _ _ _)
 still_step
 still_step
 still_step
 still_step
 still_call (Ux _ _ _)
 refine wpStill_nil ?_
 have nw:∀(o:Obj) (j:Nat) (cs:Array Value) (t:TypeId),o= .cells cs t (0,0)→(w1.alloc o).cell? ⟨w1.heap.size,j,none⟩=cs[j]?:=fun o j cs t ho=>by
  subst ho
  have e:(w1.alloc (.cells cs t (0,0))).heap[w1.heap.size]?=some (.cells cs t (0,0)):=by show(w1.heap.push _)[w1.heap.size]?=_;simp
  simp only[World.cell?,e];rfl
 go_wp2_with (go_at_call 111;refine(ZF _ _ _ w1.heap.size _ _ (nw _ 0 _ _ rfl) (nw _ 1 _ _ rfl) (nw _ 2 _ _ rfl)).mono ?_;rintro e w' ⟨rfl,hw⟩;rw[hw])
 go_ret
 obtain⟨os,hos⟩:=hg'
 exact⟨rfl,1,_,by rw[hos,Sort.alloc_eq_grow,Sort.grow_grow]⟩
theorem ZG:SeqOk P EQ 65:=by
 have e:(EQ.seq 65)=(2000000+66,76):=by kernel_rfl
 refine⟨⟨_,_,Tryz.func65,rfl⟩,fun h=> ?_,fun h=> ?_,fun _=>by rw[e];kernel_rfl,fun _ _=> ?_,fun _ h=> ?_⟩
 ·rw[e]at h;cases h
 ·rw[e]at h;cases h
 ·rw[e]
  exact QL ZE 2 66 Tryz.isAgg76 Tryz.sizeOf76 (enters_of Tryz.func66 (by kernel_rfl) rfl) Uy
 ·rw[e]at h;exact absurd h (by decide)
end
end Go.Proofs.YtkelgdjhpgefnaaGreatDoor
