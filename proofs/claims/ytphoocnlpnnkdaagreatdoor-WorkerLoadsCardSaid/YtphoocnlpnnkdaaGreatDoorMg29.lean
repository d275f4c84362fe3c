/-
  Part of the proof of a statement about the given program: an abstract machine over its code, the simulation, its functions' equations, what they compute.
-/
import Derived.StillTailTactics
import Derived.Test.YtphoocnlpnnkdaaGreatDoorChecked
import Derived.Test.YtphoocnlpnnkdaaGreatDoorMg27
import Derived.Test.YtphoocnlpnnkdaaGreatDoorMg4
set_option linter.unusedVariables false
set_option linter.unusedSimpArgs false
set_option linter.unusedSectionVars false
set_option maxRecDepth 100000
noncomputable section
namespace Go.Proofs.YtphoocnlpnnkdaaGreatDoor
section
open Go AM Go.RowKit Go.Shelf
def Zz:Go.Shelf.Ren:=⟨fun|6=>108|15=>128|14=>127|28=>144|29=>145|20=>136|21=>137|22=>138|23=>139|24=>140|25=>141|26=>142|27=>143|46=>158|47=>159|48=>160|49=>161|50=>162|57=>167|n=>n,fun|22=>36|24=>103|25=>174|3=>3|39=>120|0=>0|53=>166|55=>75|4=>4|46=>203|45=>202|50=>207|5=>5|9=>9|66=>218|70=>221|76=>225|77=>226|n=>n,fun|n=>n⟩
theorem ANL:Go.Proofs.SlLaysF0.n6 Tryz.prog Zz where
 mixed:=by kernel_rfl
 f6:=⟨Tryz.f108.name,by kernel_rfl,Tryz.func108.trans (congrArg some (by kernel_rfl))⟩
 f14:=⟨Tryz.f127.name,by kernel_rfl,Tryz.func127.trans (congrArg some (by kernel_rfl))⟩
 f15:=Tryz.func128.trans (congrArg some (by kernel_rfl))
 f20:=⟨Tryz.f136.name,by kernel_rfl,Tryz.func136.trans (congrArg some (by kernel_rfl))⟩
 f21:=⟨Tryz.f137.name,by kernel_rfl,Tryz.func137.trans (congrArg some (by kernel_rfl))⟩
 f22:=⟨Tryz.f138.name,by kernel_rfl,Tryz.func138.trans (congrArg some (by kernel_rfl))⟩
 f23:=⟨Tryz.f139.name,by kernel_rfl,Tryz.func139.trans (congrArg some (by kernel_rfl))⟩
 f24:=⟨Tryz.f140.name,by kernel_rfl,Tryz.func140.trans (congrArg some (by kernel_rfl))⟩
 f25:=⟨Tryz.f141.name,by kernel_rfl,Tryz.func141.trans (congrArg some (by kernel_rfl))⟩
 f26:=⟨Tryz.f142.name,by kernel_rfl,Tryz.func142.trans (congrArg some (by kernel_rfl))⟩
 f27:=⟨Tryz.f143.name,by kernel_rfl,Tryz.func143.trans (congrArg some (by kernel_rfl))⟩
 f28:=Tryz.func144.trans (congrArg some (by kernel_rfl))
 f29:=Tryz.func145.trans (congrArg some (by kernel_rfl))
 f46:=⟨Tryz.f158.name,by kernel_rfl,Tryz.func158.trans (congrArg some (by kernel_rfl))⟩
 f47:=Tryz.func159.trans (congrArg some (by kernel_rfl))
 f48:=Tryz.func160.trans (congrArg some (by kernel_rfl))
 f49:=⟨Tryz.f161.name,by kernel_rfl,Tryz.func161.trans (congrArg some (by kernel_rfl))⟩
 f50:=⟨Tryz.f162.name,by kernel_rfl,Tryz.func162.trans (congrArg some (by kernel_rfl))⟩
 f57:=⟨Tryz.f167.name,by kernel_rfl,Tryz.func167.trans (congrArg some (by kernel_rfl))⟩
 t0:=Tryz.underlying0
 a0:=Tryz.isAgg0
 z0:=Tryz.sizeOf0
 v0:=Tryz.zeroValue0
 t3:=Tryz.underlying3
 a3:=Tryz.isAgg3
 z3:=Tryz.sizeOf3
 v3:=Tryz.zeroValue3
 t4:=Tryz.underlying4
 a4:=Tryz.isAgg4
 z4:=Tryz.sizeOf4
 v4:=Tryz.zeroValue4
 t5:=Tryz.underlying5
 a5:=Tryz.isAgg5
 z5:=Tryz.sizeOf5
 v5:=Tryz.zeroValue5
 t9:=Tryz.underlying9
 a9:=Tryz.isAgg9
 z9:=Tryz.sizeOf9
 v9:=Tryz.zeroValue9
 t22:=Tryz.underlying36
 a22:=Tryz.isAgg36
 z22:=Tryz.sizeOf36
 v22:=Tryz.zeroValue36
 t25:=Tryz.underlying174
 a25:=Tryz.isAgg174
 z25:=Tryz.sizeOf174
 v25:=Tryz.zeroValue174
 t39:=Tryz.underlying120
 a39:=Tryz.isAgg120
 z39:=Tryz.sizeOf120
 v39:=Tryz.zeroValue120
 t45:=Tryz.underlying202
 a45:=Tryz.isAgg202
 z45:=Tryz.sizeOf202
 v45:=Tryz.zeroValue202
 t46:=Tryz.underlying203
 a46:=Tryz.isAgg203
 z46:=Tryz.sizeOf203
 v46:=Tryz.zeroValue203
 t50:=Tryz.underlying207
 a50:=Tryz.isAgg207
 z50:=Tryz.sizeOf207
 v50:=Tryz.zeroValue207
 t53:=Tryz.underlying166
 a53:=Tryz.isAgg166
 z53:=Tryz.sizeOf166
 v53:=Tryz.zeroValue166
 t55:=Tryz.underlying75
 a55:=Tryz.isAgg75
 z55:=Tryz.sizeOf75
 v55:=Tryz.zeroValue75
 t66:=Tryz.underlying218
 a66:=Tryz.isAgg218
 z66:=Tryz.sizeOf218
 v66:=Tryz.zeroValue218
 t70:=Tryz.underlying221
 a70:=Tryz.isAgg221
 z70:=Tryz.sizeOf221
 v70:=Tryz.zeroValue221
 t76:=Tryz.underlying225
 a76:=Tryz.isAgg225
 z76:=Tryz.sizeOf225
 v76:=Tryz.zeroValue225
 t77:=Tryz.underlying226
 a77:=Tryz.isAgg226
 z77:=Tryz.sizeOf226
 v77:=Tryz.zeroValue226
theorem AFD (x:Int) (W:World):Calls Tryz.prog 146 #[.int .i64 x] W fun e w'=>e= .returned (.bool false)∧w'=W:=by
 go_enter Tryz.func146,Tryz.ntmps146
 go_wp2
 go_ret
 exact⟨by simp,rfl⟩
theorem AFE (x:Int) (W:World):Calls Tryz.prog 147 #[.int .i64 x] W fun e w'=>e= .returned (.bool false)∧w'=W:=by
 go_enter Tryz.func147,Tryz.ntmps147
 go_wp2
 go_ret
 exact⟨by simp,rfl⟩
set_option maxHeartbeats 2000000 in
theorem VL (x y:Int) (W:World):Calls Tryz.prog 130 #[.int .i64 x,.int .i64 y] W fun e w'=>e= .returned (.int .i64 (sg3 x y))∧w'=W:=by
 go_enter Tryz.func130,Tryz.ntmps130
 go_wp2_with (go_at_call 146;refine(AFD _ _).mono ?_;rintro e w' ⟨rfl,hw⟩;rw[hw])
 all_goals (go_ret;refine⟨?_,rfl⟩;unfold sg3;(repeat' split)<;>first|rfl|(exfalso;omega))
set_option maxHeartbeats 2000000 in
theorem AFF (x y:Int) (W:World):Calls Tryz.prog 131 #[.int .i64 x,.int .i64 y] W fun e w'=>e= .returned (.int .i64 (sg3 x y))∧w'=W:=by
 go_enter Tryz.func131,Tryz.ntmps131
 go_wp2_with (go_at_call 147;refine(AFE _ _).mono ?_;rintro e w' ⟨rfl,hw⟩;rw[hw])
 all_goals (go_ret;refine⟨?_,rfl⟩;unfold sg3;(repeat' split)<;>first|rfl|(exfalso;omega))
set_option maxHeartbeats 4000000 in
theorem ANM (a b c:Int) (bk cap:Nat) (W:World) (h0:W.cell? ⟨bk,0,none⟩=some (.int .i64 a)) (h1:W.cell? ⟨bk,1,none⟩=some (.int .i64 b)) (h2:W.cell? ⟨bk,2,none⟩=some (.int .i64 c)):
 Calls Tryz.prog 129 #[.slice (some ⟨bk,0,none⟩) 3 cap] W fun e w'=>e= .returned (.int .i64 (Xe a (Xe b c)))∧w'=W:=by
 have e1:(a !=0)=true→Xe a (Xe b c)=a:=fun h=>by unfold Xe;rw[if_neg (by simpa using h)]
 have e2:(a !=0)=false→(b !=0)=true→Xe a (Xe b c)=b:=fun h h'=>by unfold Xe;rw[if_pos (by simpa using h),if_neg (by simpa using h')]
 have e3:(a !=0)=false→(b !=0)=false→Xe a (Xe b c)=c:=fun h h'=>by unfold Xe;rw[if_pos (by simpa using h),if_pos (by simpa using h')]
 generalize Xe a (Xe b c)=r at*
 go_enter Tryz.func129,Tryz.ntmps129
 go_wp2
 refine wp_loop_rounds 4 ?_
 rw[rounds_succ]
 go_wp2
 ·go_ret
  rw[e1 (by assumption)];exact⟨rfl,rfl⟩
 ·rw[rounds_succ]
  go_wp2
  ·go_ret
   rw[e2 (by assumption) (by assumption)];exact⟨rfl,rfl⟩
  ·rw[rounds_succ]
   go_wp2
   ·go_ret
    rw[e3 (by assumption) (by assumption)];exact⟨rfl,rfl⟩
   ·rename_i hc _
    have hc0:c=0:=by simpa using ‹(c !=0)=false›
    rw[rounds_succ]
    go_wp2
    go_ret
    rw[e3 (by assumption) (by assumption),hc0];exact⟨rfl,rfl⟩
set_option maxHeartbeats 4000000 in
theorem AFG (x y:Int×Int×Int) (hx:QJ 2 x=true) (hy:QJ 2 y=true) (W:World):Calls Tryz.prog 109 #[.agg #[.int .i64 x.1,.int .i64 x.2.1,.int .i64 x.2.2],.agg #[.int .i64 y.1,.int .i64 y.2.1,.int .i64 y.2.2]] W
 fun e w'=>e= .returned (.int .i64 (cf3 2 x y))∧∃q os',w'=Sort.grow (W.drewN q) os':=by
 clear hx hy
 obtain⟨a,b,c⟩:=x
 obtain⟨a',b',c'⟩:=y
 simp only
 have e:cf3 2 (a,b,c) (a',b',c')=Xe (sg3 b b') (Xe (sg3 a a') (sg3 c c')):=by unfold cf3;rw[if_neg (by decide)]
 rw[e]
 go_enter Tryz.func109,Tryz.ntmps109
 go_wp2
 obtain⟨X,hX⟩:∃X,X=(W.alloc (.cells #[.int .i64 a,.int .i64 b,.int .i64 c] 103)).alloc (.cells #[.int .i64 a',.int .i64 b',.int .i64 c'] 103):=⟨_,rfl⟩
 obtain⟨w1,hw1⟩:∃w1,w1=X.drew:=⟨_,rfl⟩
 have hg:w1=Sort.grow (W.drewN 1) #[.cells #[.int .i64 a,.int .i64 b,.int .i64 c] 103,.cells #[.int .i64 a',.int .i64 b',.int .i64 c'] 103]:=by
  rw[hw1,hX,Sort.alloc_eq_grow,Sort.alloc_eq_grow,Sort.grow_grow];rfl
 have e0:w1.heap[W.heap.size]?=some (.cells #[.int .i64 a,.int .i64 b,.int .i64 c] 103 (0,0)):=by
  rw[hg];show(W.heap++ #[_,_])[W.heap.size]?=_
  rw[Array.getElem?_append_right (Nat.le_refl _),Nat.sub_self];rfl
 have e1:w1.heap[W.heap.size+1]?=some (.cells #[.int .i64 a',.int .i64 b',.int .i64 c'] 103 (0,0)):=by
  rw[hg];show(W.heap++ #[_,_])[W.heap.size+1]?=_
  rw[Array.getElem?_append_right (show W.heap.size≤W.heap.size+1 by omega),show W.heap.size+1-W.heap.size=1 by omega];rfl
 have g0:∀(j:Nat) (v:Value),#[Value.int .i64 a,.int .i64 b,.int .i64 c][j]?=some v→w1.cell? ⟨W.heap.size,j,none⟩=some v:=fun j v h=>by simp only[World.cell?,e0];exact h
 have g1:∀(j:Nat) (v:Value),#[Value.int .i64 a',.int .i64 b',.int .i64 c'][j]?=some v→w1.cell? ⟨W.heap.size+1,j,none⟩=some v:=fun j v h=>by simp only[World.cell?,e1];exact h
 have a0:=g0 0 (.int .i64 a) rfl;have a1:=g0 1 (.int .i64 b) rfl;have a2:=g0 2 (.int .i64 c) rfl
 have b0:=g1 0 (.int .i64 a') rfl;have b1:=g1 1 (.int .i64 b') rfl;have b2:=g1 2 (.int .i64 c') rfl
 clear g0 g1 e0 e1
 rw[←hX]
 refine wp_region_still_tail 15 (by kernel_rfl) (by kernel_rfl) ?_
 rw[show({X with drawn:=X.drawn+1}:World)=w1 from hw1.symm]
 have hg':∃os,w1=Sort.grow (W.drewN 1) os:=⟨_,hg⟩
 clear hg hw1 hX X
 simp only[List.take_succ_cons,List.take_zero,List.drop_succ_cons,List.drop_zero]
 still_step
 still_step
 still_step
 still_step
 still_call (VL _ _ _)
 still_step
 still_step
 still_step
 still_step
 still_call (VL _ _ _)
 still_step
 still_step
 still_step
 still_step
 still_call (AFF _ _ _)
 refine wpStill_nil ?_
 have nw:∀(o:Obj) (j:Nat) (cs:Array Value) (t:TypeId),o= .cells cs t (0,0)→(w1.alloc o).cell? ⟨w1.heap.size,j,none⟩=cs[j]?:=fun o j cs t ho=>by
  subst ho
  have e:(w1.alloc (.cells cs t (0,0))).heap[w1.heap.size]?=some (.cells cs t (0,0)):=by show(w1.heap.push _)[w1.heap.size]?=_;simp
  simp only[World.cell?,e];rfl
 go_wp2_with (go_at_call 129;refine(ANM _ _ _ w1.heap.size _ _ (nw _ 0 _ _ rfl) (nw _ 1 _ _ rfl) (nw _ 2 _ _ rfl)).mono ?_;rintro e w' ⟨rfl,hw⟩;rw[hw])
 go_ret
 obtain⟨os,hos⟩:=hg'
 exact⟨rfl,1,_,by rw[hos,Sort.alloc_eq_grow,Sort.grow_grow]⟩
theorem ANN:SeqOk P CX 108:=by
 have e:(CX.seq 108)=(2000000+109,103):=by kernel_rfl
 refine⟨⟨_,_,Tryz.func108,rfl⟩,fun h=> ?_,fun h=> ?_,fun _=>by rw[e];kernel_rfl,fun _ _=> ?_,fun _ h=> ?_⟩
 ·rw[e]at h;cases h
 ·rw[e]at h;cases h
 ·rw[e]
  exact Zx ANL 2 109 Tryz.isAgg103 Tryz.sizeOf103 (enters_of Tryz.func109 (by kernel_rfl) rfl) AFG
 ·rw[e]at h;exact absurd h (by decide)
end
end Go.Proofs.YtphoocnlpnnkdaaGreatDoor
