/-
  Part of the proof of a statement about the given program: an abstract machine over its code, the simulation, its functions' equations, what they compute.
-/
import Derived.LoopIn
import Derived.LoopNIn
import Derived.Maps.AppendAt
import Derived.OwnWalkIn
import Derived.RangeFuncBox
import Derived.RangeFuncLeaves
import Derived.RangeFuncNested
import Derived.Shelf.Abstract
import Derived.TacticsInMore
import Derived.Test.YtphoocnlpnnkdaaGreatDoorMg21
import Derived.Test.YtphoocnlpnnkdaaGreatDoorMg4
import Derived.WalkKit
set_option linter.unusedVariables false
set_option linter.unusedSimpArgs false
set_option linter.unusedSectionVars false
set_option maxRecDepth 100000
noncomputable section
namespace Go.Proofs.YtphoocnlpnnkdaaGreatDoor
section
open Go AM Go.RowKit Go.Shelf
attribute [local go_sem] Oper.semAt_some
def TI (z:EG):Value:= .agg #[.int .i64 z.1,.int .i64 z.2.1,.int .i64 z.2.2]
theorem grownBy_alloc (w:World) (o:Obj):w.grownBy (w.alloc o) none:=⟨rfl,rfl,rfl,by simp,fun k hk _=>Below.heap_alloc w o k hk⟩
theorem ANF (zs:List EG) {k:Nat} (h:k<zs.length):(zs.flatMap tc)[k*3]?=some (.int .i64 zs[k].1)∧(zs.flatMap tc)[k*3+1]?=some (.int .i64 zs[k].2.1)∧(zs.flatMap tc)[k*3+2]?=some (.int .i64 zs[k].2.2):=by
 induction zs generalizing k with
 |nil=>simp at h
 |cons z zs ih=>
  cases k with
  |zero=>exact⟨rfl,rfl,rfl⟩
  |succ k=>simpa [Nat.succ_mul,tc]using ih (by simpa using h)
set_option maxHeartbeats 4000000 in
theorem ANG (F:Fence) (n:Nat) (h7:F.fn 124) (hro:F.round=none) (hn:1≤n) (l Bs n₀ b off cap:Nat) (zs:List EG) (hreach:zs.length≤2147483648) (hb:b<n₀) (J Jx:List EG→World→Prop)
 (W:World) (hJ:AbidesFrom W.heap.size J) (hY:∀pre x W,J pre W→pre.length<zs.length→YieldAt F (n-1) Tryz.prog l #[TI x] W fun e W'=>
  (e= .returned (.bool true)∧J (pre++[x]) W'∧Below n₀ W W')∨(e= .returned (.bool false)∧Jx (pre++[x]) W'))
 (hn₀:n₀≤W.heap.size) (hBs:W.cell? ⟨Bs,0,none⟩=some (.slice (some ⟨b,off,none⟩) zs.length cap)) (hc:∀(j:Nat) (c:Value),(zs.flatMap tc)[j]?=some c→W.cell? ⟨b,off+j,none⟩=some c) (h0:J [] W):
 CallsIn F n Tryz.prog 124 #[.func (.yield l) #[] #[],.pointer (some ⟨Bs,0,none⟩)] W fun e W'=>(∃v,e= .returned v)∧(J zs W'∨∃pre,Jx pre W'):=by
 refine callsIn_of_wp Tryz.func124 rfl h7 ?_ hro
 simp only[Tryz.ntmps124,List.size_toArray,List.length_cons,List.length_nil,Nat.reduceAdd,Nat.reduceSub,Array.replicate_succ,Array.replicate_zero,List.push_toArray,List.append_toArray,List.nil_append,List.cons_append]
 gi_wp2
 gi_loopw [7] (fun i wr=>∃k:Nat,k≤zs.length∧i= .int .i64 k∧J (zs.take k) wr∧Below n₀ W wr)
  (fun i _=>zs.length-(intOf i).toNat)
 case atStart=>exact⟨0,Nat.zero_le _,rfl,h0,Below.refl _ _⟩
 case round=>
  obtain⟨k,hk,rfl,hJs,hnx⟩:=hrel
  by_cases hlt:k<zs.length
  ·obtain⟨g0,g1,g2⟩:=ANF zs hlt
   have cc:∀(j:Nat) (c:Value),(zs.flatMap tc)[j]?=some c→wr.cell? ⟨b,off+j,none⟩=some c:=fun j c hj=>(hnx.cell (p:=⟨b,off+j,none⟩) hb).trans (hc j c hj)
   have c0:wr.cell? ⟨b,off+k*3,none⟩=some (.int .i64 zs[k].1):=cc _ _ g0
   have c1:wr.cell? ⟨b,off+k*3+1,none⟩=some (.int .i64 zs[k].2.1):=cc _ _ g1
   have c2:wr.cell? ⟨b,off+k*3+2,none⟩=some (.int .i64 zs[k].2.2):=cc _ _ g2
   have hs:W.heap.size≤wr.heap.size:=hnx.size
   have hg:=grownBy_alloc wr (.cells #[.int .i64 zs[k].1,.int .i64 zs[k].2.1,.int .i64 zs[k].2.2] 52)
   obtain⟨fn,tmps,assign,body,hy,hR⟩:=hY _ zs[k] _ (hJ _ _ _ none hJs hg (fun r e=>by cases e)) (by simp;omega)
   unfold TI at hy
   gi_wp2
   refine hR.mono ?_
   rintro e W3 (⟨rfl,hJ3,hk3⟩|⟨rfl,hJx3⟩)
   ·gi_wp2
    go_roundw
    case rel=>exact⟨k+1,by omega,by simp,by rw[List.take_add_one,List.getElem?_eq_getElem hlt];exact hJ3,(hnx.trans ((Below.refl _ wr).alloc (by omega) _)).trans hk3⟩
    case measure=>simp[intOf];omega
   ·gi_wp2
    refine bodyPost_ret (results_none rfl _ _ _) rfl ?_
    exact⟨⟨_,rfl⟩,.inr ⟨_,hJx3⟩⟩
  ·obtain rfl:k=zs.length:=by omega
   gi_wp2
   go_end0
   refine⟨⟨_,rfl⟩,.inl ?_⟩
   rw[List.take_length]at hJs;exact hJs
set_option maxHeartbeats 4000000 in
theorem ANH (F:Fence) (n:Nat) (h7:F.fn 124) (hro:F.round=none) (l Bs:Nat) (a:Option Addr) (cap:Nat) (J:List EG→World→Prop) (W:World) (hBs:W.cell? ⟨Bs,0,none⟩=some (.slice a 0 cap)) (h0:J [] W):
 CallsIn F n Tryz.prog 124 #[.func (.yield l) #[] #[],.pointer (some ⟨Bs,0,none⟩)] W fun e W'=>(∃v,e= .returned v)∧J [] W':=by
 refine callsIn_of_wp Tryz.func124 rfl h7 ?_ hro
 simp only[Tryz.ntmps124,List.size_toArray,List.length_cons,List.length_nil,Nat.reduceAdd,Nat.reduceSub,Array.replicate_succ,Array.replicate_zero,List.push_toArray,List.append_toArray,List.nil_append,List.cons_append]
 gi_wp2
 gi_loopw [7] (fun i wr=>i= .int .i64 0∧J [] wr) (fun _ _=>0)
 case atStart=>exact⟨rfl,h0⟩
 case round=>
  obtain⟨rfl,hJs⟩:=hrel
  gi_wp2
  go_end0
  exact⟨⟨_,rfl⟩,hJs⟩
theorem values_stops (F:Fence) (n:Nat) (h7:F.fn 124) (hro:F.round=none) (hn:1≤n) (Bs n₀:Nat) (sv:Value) (zs:List EG) (hreach:zs.length≤2147483648) (w:World) (hBs:Bs<w.heap.size) (hn₀:n₀≤w.heap.size)
 (hc:w.cell? ⟨Bs,0,none⟩=some sv) (hI:SlI w sv zs) (hlow:w.heap.size≤n₀):
 SeqStopsK F n Tryz.prog 124 #[.pointer (some ⟨Bs,0,none⟩)] (fun x:EG=> #[TI x]) (Below n₀) (fun ys=>ys=zs) (fun _=>True) zs.length w:=fun l J Jx W hW hJ _ hY h0=>by
 have hc':=(hW.cell (p:=⟨Bs,0,none⟩) hBs).trans hc
 rcases hI with⟨a,cap,rfl,rfl⟩|⟨b,off,cap,rfl,hb,hcs⟩
 ·exact(ANH F n h7 hro l Bs a cap J W hc' h0).mono fun e W' ⟨he,hj⟩=>⟨he,.inl ⟨_,rfl,hj⟩⟩
 ·refine(ANG F n h7 hro hn l Bs n₀ b off cap zs hreach (Nat.lt_of_lt_of_le hb hlow) J Jx W hJ hY (Nat.le_trans hn₀ hW.size) hc' (fun j c hj=>(hW.cell (p:=⟨b,off+j,none⟩) hb).trans (hcs j c hj)) h0).mono ?_
  rintro e W' ⟨he,hj|⟨pre,hj⟩⟩
  ·exact⟨he,.inl ⟨_,rfl,hj⟩⟩
  ·exact⟨he,.inr ⟨_,trivial,hj⟩⟩
theorem AT3:(Tryz.prog.info? 52).map (fun i=>(i.zero,i.size,i.bytes))=some (some (.agg #[.int .i64 0,.int .i64 0,.int .i64 0]),3,24):=by kernel_rfl
theorem ownsRow_ne {W:World} {base:Nat} {e:TypeId} {size:Nat} {v:Value} {k:Nat} {xs:List Value} (h:W.ownsRow base e size v k xs) {j:Nat} {o:Obj} (hj:W.heap[j]?=some o) (hno:∀cur,o≠ .cells cur e (0,0)):v.ownBlock=none∨v.ownBlock≠some j:=by
 rcases h.2 with⟨rfl,_⟩|⟨g,cap,cur,rfl,_,hgb,_⟩
 ·exact .inl rfl
 ·refine .inr fun e'=> ?_
  have:g=j:=by simpa [Value.ownBlock]using e'
  subst this;rw[hgb]at hj;cases hj;exact hno cur rfl
theorem LP {W:World} {base:Nat} {e:TypeId} {size:Nat} {v:Value} {k:Nat} {xs:List Value} (h:W.ownsRow base e size v k xs):∀(j:Nat) (o:Obj),v.ownBlock=some j→W.heap[j]?=some o→o.isCells=true∧base≤j:=by
 intro j o hj ho
 rcases h.2 with⟨rfl,_⟩|⟨g,cap,cur,rfl,hg,hgb,_⟩
 ·simp[Value.ownBlock]at hj
 ·have:g=j:=by simpa [Value.ownBlock]using hj
  subst this;rw[hgb]at ho;cases ho;exact⟨rfl,hg⟩
theorem Td {W:World} {B:Nat} {v:Value} {t:TypeId} (v':Value) (h:W.heap[B]?=some (.cells #[v] t (0,0))):(W.setCell ⟨B,0,none⟩ v').heap[B]?=some (.cells #[v'] t (0,0)):=by
 obtain⟨hlt,hk⟩:=Array.getElem?_eq_some_iff.1 h
 show(W.heap.modify B _)[B]?=_
 rw[Array.getElem?_eq_getElem (by rw[Array.size_modify];exact hlt),Array.getElem_modify_self,hk]
 rfl
theorem grownBy_setCell (W:World) (b:Nat) (v:Value):W.grownBy (W.setCell ⟨b,0,none⟩ v) (some b):=
 ⟨rfl,rfl,rfl,(KeepsWalks.setCell W _ v).size,fun k _ hk=>Below.heap_setCell _ _ _ k (fun e=>hk (by rw[e]))⟩
theorem AFA (w:World) (t:TypeId) (a b c:Value):∀j u,[a,b,c][j]?=some u→(w.alloc (.cells #[a,b,c] t)).cell? ((⟨w.heap.size,0,none⟩:Addr).add j)=some u:=by
 intro j u hj
 have e:=World.alloc_heap_new w (.cells #[a,b,c] t)
 match j,hj with
 |0,hj=>cases hj;show World.cell? _ ⟨w.heap.size,0,none⟩=_;simp only[World.cell?,e];rfl
 |1,hj=>cases hj;show World.cell? _ ⟨w.heap.size,1,none⟩=_;simp only[World.cell?,e];rfl
 |2,hj=>cases hj;show World.cell? _ ⟨w.heap.size,2,none⟩=_;simp only[World.cell?,e];rfl
structure ApI (w0:World) (pre:List EG) (W:World):Prop where
 box:∃v,W.heap[w0.heap.size]?=some (.cells #[v] 22 (0,0))∧W.ownsRow w0.heap.size 52 3 v pre.length (pre.flatMap tc)
 below:Below w0.heap.size w0 W
def ApX (w0:World) (sv:Value) (z:EG) (a':Act) (W:World):Prop:=
 ∃b,w0.heap.size<b∧W.heap[b]?=some (.cells #[.int .i64 z.1,.int .i64 z.2.1,.int .i64 z.2.2] 52 (0,0))∧
  a'={tmps:= #[.slice none 0 0,sv,.pointer (some ⟨w0.heap.size,0,none⟩),undef,.slice none 0 0,.pointer (some ⟨b,0,none⟩),sv,TI z,undef,undef,undef,undef,undef],defers:=[]}
theorem ADo (w0:World) (B:Nat) (hB:w0.heap.size≤B):OwnFrom B (ApI w0):=by
 intro s W W' row h hg hr
 obtain⟨v,hv,ho⟩:=h.box
 refine⟨⟨v,?_,ho.kept hg ?_⟩,h.below.grown hg h.below.size (fun k e=>Nat.le_trans hB (hr k e).1)⟩
 ·refine(hg.block _ (Array.getElem?_eq_some_iff.1 hv).1 fun e=> ?_).trans hv
  obtain⟨_,o,h1,h2⟩:=hr _ e.symm
  rw[hv]at h1;cases h1;cases h2
 ·cases row with
  |none=>
   cases hb:v.ownBlock with
   |none=>exact .inl rfl
   |some j=>exact .inr (by simp)
  |some r=>
   obtain⟨_,o,h1,h2⟩:=hr r rfl
   exact ownsRow_ne ho h1 (fun cur e=>by rw[e]at h2;cases h2)
theorem ANI (w0:World) (sv:Value) (B:Nat) (z:EG) (a':Act):OwnFrom B (fun(_:Unit) W=>ApX w0 sv z a' W):=by
 intro s W W' row h hg hr
 obtain⟨b,h1,h2,h3⟩:=h
 refine⟨b,h1,(hg.block _ (Array.getElem?_eq_some_iff.1 h2).1 fun e=> ?_).trans h2,h3⟩
 obtain⟨_,o,h4,h5⟩:=hr _ e.symm
 rw[h2]at h4;cases h4;cases h5
set_option maxHeartbeats 4000000 in
theorem AFB (F:Fence) (n:Nat) (hF:∀f,F.fn f) (hro:F.round=none) (hn:4≤n) (Bs:Nat) (sv:Value) (zs:List EG) (hreach:zs.length≤2147483648) (w:World) (hBs:Bs<w.heap.size) (hc:w.cell? ⟨Bs,0,none⟩=some sv) (hI:SlI w sv zs):
 CallsIn F n Tryz.prog 134 #[.slice none 0 0,.func (.func 124) #[] #[.pointer (some ⟨Bs,0,none⟩)]] w fun e w'=>∃v,e= .returned v∧w'.ownsRow w.heap.size 52 3 v zs.length (zs.flatMap tc)∧Below w.heap.size w w':=by
 have h1:1≤n:=by omega
 refine callsIn_of_wp_marks Tryz.func134 rfl (hF _) ?_ hro
 simp only[Tryz.ntmps134,List.size_toArray,List.length_cons,List.length_nil,Nat.reduceAdd,Nat.reduceSub,Array.replicate_succ,Array.replicate_zero,List.push_toArray,List.append_toArray,List.nil_append,List.cons_append]
 gi_wp2
 obtain⟨w1,hw1⟩:∃w1,w.alloc (.cells #[.slice none 0 0] 22)=w1:=⟨_,rfl⟩
 have hs1:w1.heap.size=w.heap.size+1:=by rw[←hw1];simp
 have hb1:Below w.heap.size w w1:=by rw[←hw1];exact(Below.refl _ w).alloc (Nat.le_refl _) _
 have h0:ApI w [] w1:=⟨⟨.slice none 0 0,by rw[←hw1];exact World.alloc_heap_new w _,by simp[World.ownsRow]⟩,hb1⟩
 rw[hw1]
 refine wpIn_rangeFunc_ownH (w0:=w) (α:=EG) (encs:=fun x=> #[TI x]) (Kp:=Below w.heap.size) (S:=fun ys=>ys=zs) (Sp:=fun _=>True) (N:=zs.length) (gf:=124) (lb:= #[.pointer (some ⟨Bs,0,none⟩)]) hro h1 rfl (hF _) (enters_of Tryz.func124 (by kernel_rfl) rfl)
  (values_stops F (n-1) (hF _) hro (by omega) Bs w.heap.size sv zs hreach w hBs (Nat.le_refl _) hc hI (Nat.le_refl _)) (fun h k=>h.trans k) (fun W l o o' hl h1 h2 h3=>belowK_b (by omega) W l o o' hl h1 h2 h3) hb1 (fun x=>rfl)
  (ApI w) (fun _ _ _=>False) (ADo w _ (by omega)) (fun c s W W' row h=>h.elim) h0 (ApX w (.func (.func 124) #[] #[.pointer (some ⟨Bs,0,none⟩)])) (fun x a'=>ANI w _ _ x a') ?_ ?_ ?_ ?_
 ·intro l pre x W K hi hK
  have ez:(#[7]:Array Tmp).zip #[TI x]= #[(7,TI x)]:=by simp
  rw[ez]
  simp only[List.size_toArray,List.length_cons,List.length_nil,List.foldl_toArray',List.foldl_cons,List.foldl_nil]
  show Code.wpIn (F.inRound l) (n-1-1) Tryz.prog _ _ {tmps:= #[.slice none 0 0,.func (.func 124) #[] #[.pointer (some ⟨Bs,0,none⟩)],.pointer (some ⟨w.heap.size,0,none⟩),undef,.slice none 0 0,undef,.func (.func 124) #[] #[.pointer (some ⟨Bs,0,none⟩)],TI x,undef,undef,undef,undef,undef],defers:=[]} W
  have hsz:=hi.below.size
  have hg:=grownBy_alloc W (.cells #[.int .i64 x.1,.int .i64 x.2.1,.int .i64 x.2.2] 52)
  have hlt:w.heap.size<W.heap.size:=by
   obtain⟨v,hv,_⟩:=hi.box
   exact(Array.getElem?_eq_some_iff.1 hv).1
  have hX:ApX w (.func (.func 124) #[] #[.pointer (some ⟨Bs,0,none⟩)]) x {tmps:= #[.slice none 0 0,.func (.func 124) #[] #[.pointer (some ⟨Bs,0,none⟩)],.pointer (some ⟨w.heap.size,0,none⟩),undef,.slice none 0 0,.pointer (some ⟨W.heap.size,0,none⟩),.func (.func 124) #[] #[.pointer (some ⟨Bs,0,none⟩)],TI x,undef,undef,undef,undef,undef],defers:=[]} (W.alloc (.cells #[.int .i64 x.1,.int .i64 x.2.1,.int .i64 x.2.2] 52)):=
   ⟨W.heap.size,hlt,World.alloc_heap_new W _,rfl⟩
  unfold TI at hX⊢
  gi_wp2
  exact hK _ _ ((KeepsOthers.alloc W _).from _) ((Below.refl _ W).alloc (by omega) _) (ADo w w1.heap.size (by omega) _ _ _ none hi hg (fun r e=>by cases e)) hX
 ·rintro l pre x a' W hl ⟨r,hr⟩ hi ⟨b,hb,hbc,rfl⟩ hlen
  obtain⟨i0,hii,hz0,hz1,hz2⟩:=info_parts AT3
  obtain⟨v,hv,hrow⟩:=hi.box
  have hsz:=hi.below.size
  have hlt:=(Array.getElem?_eq_some_iff.1 hv).1
  have hltb:=(Array.getElem?_eq_some_iff.1 hbc).1
  have hcv:W.cell? ⟨w.heap.size,0,none⟩=some v∧W.frozen? ⟨w.heap.size,0,none⟩=false:=by constructor<;>simp[World.cell?,World.frozen?,hv]
  obtain⟨hc2,hf2⟩:=hcv
  have hne:some w.heap.size≠v.ownBlock:=by
   intro e
   rcases ownsRow_ne hrow hv (fun cur e=>by cases e)with h|h
   ·rw[h]at e;cases e
   ·exact h e.symm
  have d0:W.cell? ⟨b,0,none⟩=some (.int .i64 x.1):=by simp[World.cell?,hbc]
  have d1:W.cell? ⟨b,0+1,none⟩=some (.int .i64 x.2.1):=by simp[World.cell?,hbc]
  have d2:W.cell? ⟨b,0+2,none⟩=some (.int .i64 x.2.2):=by simp[World.cell?,hbc]
  have nx:=AFA W 52 (.int .i64 x.1) (.int .i64 x.2.1) (.int .i64 x.2.2)
  unfold TI
  gi_wp2_with (first
   |(gi_at_builtin;refine wpListIn_append_own _ rfl _ _ 22 rfl w.heap.size 52 i0 _ 3 24 Tryz.underlying22 hii hz0 hz1 hz2 rfl (by decide) _ _ _ rfl (hrow.alloc _) ⟨W.heap.size,0,none⟩ 1 1 [.int .i64 x.1,.int .i64 x.2.1,.int .i64 x.2.2] rfl rfl nx (by simp[Value.oneCell']) (by simp[maxLen];omega) (by omega) (by simp;omega) ?_;intro v' w3 hown' hg3 _
     have hv3:w3.heap[w.heap.size]?=some (.cells #[v] 22 (0,0)):=(hg3.block _ (by simp;omega) hne).trans ((Below.heap_alloc _ _ _ hlt).trans hv)
     have hc3:w3.cell? ⟨w.heap.size,0,none⟩=some v:=by simp[World.cell?,hv3]
     have hf3:w3.frozen? ⟨w.heap.size,0,none⟩=false:=by simp[World.frozen?,hv3]
     obtain⟨g',cap',cur',rfl,hbase',hgb'⟩:∃g' cap' cur',v'= .slice (some ⟨g',0,none⟩) (pre.length+1) cap'∧w.heap.size≤g'∧w3.heap[g']?=some (.cells cur' 52 (0,0)):=by
      rcases hown'.2 with⟨_,h0⟩|⟨g',cap',cur',a1,a2,a3,_⟩
      ·exact absurd h0 (by omega)
      ·exact⟨g',cap',cur',a1,a2,a3⟩
     simp only[Act.put,List.setIfInBounds_toArray,List.set_cons_succ,List.set_cons_zero])
   |gi_in)
  have hg4:=grownBy_setCell w3 w.heap.size (.slice (some ⟨g',0,none⟩) (pre.length+1) cap')
  have hv4:=Td (.slice (some ⟨g',0,none⟩) (pre.length+1) cap') hv3
  have hK2:KeepsOthers W w3:=(KeepsOthers.alloc W _).trans (KeepsOthers.of_grownBy hg3 fun j o h1 h2=>by
   rcases Nat.lt_or_ge j W.heap.size with h|h
   ·exact(LP hrow j o h1 ((Below.heap_alloc W _ j h).symm.trans h2)).1
   ·exact(LP (hrow.alloc (.cells #[.int .i64 x.1,.int .i64 x.2.1,.int .i64 x.2.2] 52)) j o h1 h2).1)
  have hB3:Below w.heap.size W w3:=((Below.refl _ W).alloc hsz _).grown hg3 (by simp;omega) (fun k e=>(hrow.lt k e).1)
  refine⟨(hK2.trans (KeepsOthers.setCell _ _ _)).from _,hB3.grown hg4 (by have:=hg3.size;simp at this;omega) (fun k e=>by cases e;exact Nat.le_refl _),⟨_,hv4,?_⟩,(hi.below.trans hB3).grown hg4 (by have:=hg3.size;simp at this;omega) (fun k e=>by cases e;exact Nat.le_refl _)⟩
  have:=hown'.kept hg4 (ownsRow_ne hown' hv3 (fun cur e=>by cases e))
  simpa [tc]using this
 ·rintro D ys W hD rfl hi hD2
  obtain⟨v,hv,hrow⟩:=hi.box
  have hcv:W.cell? ⟨w.heap.size,0,none⟩=some v:=by simp[World.cell?,hv]
  have hfv:W.frozen? ⟨w.heap.size,0,none⟩=false:=by simp[World.frozen?,hv]
  gi_wp2
  refine⟨by simp,.inl ⟨_,_,rfl,run_takeDeferred hD2,?_⟩⟩
  exact⟨_,results_tmp rfl _ _ _,v,rfl,hrow.kept (grownBy_putObj' _ _ _) (ownsRow_ne hrow hD2 (fun cur e=>by cases e)),hi.below.grown (grownBy_putObj' _ _ _) hi.below.size (fun k e=>by cases e;omega)⟩
 ·intro D c pre W _ _ h;exact h.elim
theorem ARF:SeqOk P CX 134 where
 code:=⟨_,_,Tryz.func134,rfl⟩
 itoa:=fun h=>by rw[show(CX.seq 134).2=52 by kernel_rfl]at h;cases h
 atoi:=fun h=>by rw[show(CX.seq 134).2=52 by kernel_rfl]at h;cases h
 sort:=fun _ h=>by rw[show(CX.seq 134).1=124 by kernel_rfl]at h;exact absurd h (by decide)
 size:=fun _=>by kernel_rfl
 run:=by
  intro _ _ w B c zs hc hI hm
  have e:(CX.seq 134)=(124,52):=by kernel_rfl
  rw[e]
  have hB:B<w.heap.size:=by
   rcases Nat.lt_or_ge B w.heap.size with h|h
   ·exact h
   ·simp[World.cell?,Array.getElem?_eq_none h]at hc
  refine callsIn_wide.1 (AFB Fence.wide 4 (fun _=>trivial) rfl (by omega) B c zs (by simpa [EI]using hm) w hB hc hI)
end
end Go.Proofs.YtphoocnlpnnkdaaGreatDoor
