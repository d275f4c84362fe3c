/-
  Part of the proof of a statement about the given program: an abstract machine over its code, the simulation, its functions' equations, what they compute.
-/
import Derived.Shelf.Strconv.Itoa3
import Derived.Test.YtaghnpjlhmgioaaDoorMg23
import Derived.Test.YtaghnpjlhmgioaaDoorMg4
set_option linter.unusedVariables false
set_option linter.unusedSimpArgs false
set_option linter.unusedSectionVars false
set_option maxRecDepth 100000
noncomputable section
namespace Go.Proofs.YtaghnpjlhmgioaaDoor
section
open Go AM Go.RowKit
def VZ:Go.Shelf.Ren:=⟨fun|171=>44|243=>52|246=>67|283=>85|284=>86|285=>87|286=>88|129=>66|317=>98|318=>99|319=>100|320=>101|337=>105|338=>106|n=>n,fun|3=>3|9=>9|2=>2|4=>4|171=>109|0=>0|53=>92|37=>73|5=>5|173=>111|212=>128|51=>90|20=>20|213=>129|46=>77|232=>140|233=>141|n=>n,fun|17=>3|18=>6|19=>7|n=>n⟩
theorem AEY:Go.Proofs.LaysM.n171 Tryd.prog VZ where
 mixed:=by kernel_rfl
 f129:=Tryd.func66.trans (congrArg some (by kernel_rfl))
 f171:=Tryd.func44.trans (congrArg some (by kernel_rfl))
 f243:=Tryd.func52.trans (congrArg some (by kernel_rfl))
 f246:=Tryd.func67.trans (congrArg some (by kernel_rfl))
 f283:=Tryd.func85.trans (congrArg some (by kernel_rfl))
 f284:=Tryd.func86.trans (congrArg some (by kernel_rfl))
 f285:=Tryd.func87.trans (congrArg some (by kernel_rfl))
 f286:=Tryd.func88.trans (congrArg some (by kernel_rfl))
 f317:=Tryd.func98.trans (congrArg some (by kernel_rfl))
 f318:=Tryd.func99.trans (congrArg some (by kernel_rfl))
 f319:=Tryd.func100.trans (congrArg some (by kernel_rfl))
 f320:=Tryd.func101.trans (congrArg some (by kernel_rfl))
 f337:=Tryd.func105.trans (congrArg some (by kernel_rfl))
 f338:=Tryd.func106.trans (congrArg some (by kernel_rfl))
 t0:=Tryd.underlying0
 a0:=Tryd.isAgg0
 z0:=Tryd.sizeOf0
 v0:=Tryd.zeroValue0
 t2:=Tryd.underlying2
 a2:=Tryd.isAgg2
 z2:=Tryd.sizeOf2
 v2:=Tryd.zeroValue2
 t3:=Tryd.underlying3
 a3:=Tryd.isAgg3
 z3:=Tryd.sizeOf3
 v3:=Tryd.zeroValue3
 t4:=Tryd.underlying4
 a4:=Tryd.isAgg4
 z4:=Tryd.sizeOf4
 v4:=Tryd.zeroValue4
 t5:=Tryd.underlying5
 a5:=Tryd.isAgg5
 z5:=Tryd.sizeOf5
 v5:=Tryd.zeroValue5
 t9:=Tryd.underlying9
 a9:=Tryd.isAgg9
 z9:=Tryd.sizeOf9
 v9:=Tryd.zeroValue9
 t20:=Tryd.underlying20
 a20:=Tryd.isAgg20
 z20:=Tryd.sizeOf20
 v20:=Tryd.zeroValue20
 t37:=Tryd.underlying73
 a37:=Tryd.isAgg73
 z37:=Tryd.sizeOf73
 v37:=Tryd.zeroValue73
 t46:=Tryd.underlying77
 a46:=Tryd.isAgg77
 z46:=Tryd.sizeOf77
 v46:=Tryd.zeroValue77
 t51:=Tryd.underlying90
 a51:=Tryd.isAgg90
 z51:=Tryd.sizeOf90
 v51:=Tryd.zeroValue90
 t53:=Tryd.underlying92
 a53:=Tryd.isAgg92
 z53:=Tryd.sizeOf92
 v53:=Tryd.zeroValue92
 t171:=Tryd.underlying109
 a171:=Tryd.isAgg109
 z171:=Tryd.sizeOf109
 v171:=Tryd.zeroValue109
 t173:=Tryd.underlying111
 a173:=Tryd.isAgg111
 z173:=Tryd.sizeOf111
 v173:=Tryd.zeroValue111
 t212:=Tryd.underlying128
 a212:=Tryd.isAgg128
 z212:=Tryd.sizeOf128
 v212:=Tryd.zeroValue128
 t213:=Tryd.underlying129
 a213:=Tryd.isAgg129
 z213:=Tryd.sizeOf129
 t232:=Tryd.underlying140
 a232:=Tryd.isAgg140
 z232:=Tryd.sizeOf140
 v232:=Tryd.zeroValue140
 t233:=Tryd.underlying141
 a233:=Tryd.isAgg141
 z233:=Tryd.sizeOf141
 v233:=Tryd.zeroValue141
 g17:=by kernel_rfl
 g18:=by kernel_rfl
 g19:=by kernel_rfl
 i0:=by kernel_rfl
 i2:=by kernel_rfl
 i3:=by kernel_rfl
 i4:=by kernel_rfl
 i5:=by kernel_rfl
 i9:=by kernel_rfl
 i20:=by kernel_rfl
 i37:=by kernel_rfl
 i46:=by kernel_rfl
 i51:=by kernel_rfl
 i53:=by kernel_rfl
 i171:=by kernel_rfl
 i173:=by kernel_rfl
 i212:=by kernel_rfl
 i232:=by kernel_rfl
 i233:=by kernel_rfl
 m17:=by kernel_rfl
 m18:=by kernel_rfl
 m19:=by kernel_rfl
theorem ACv {w:World} {nm:String} {i:Nat} {k:IntKind} {zs:List Int} (hn:P.globalNamed nm=some i) (hs:Ag w i=zs.length) (hz:0<zs.length) (hc:∀(j:Nat) (m:Int),zs[j]?=some m→w.cell? ⟨i,j,none⟩=some (.int k m)):Lib.TabIs P w nm k zs:=by
 have h0:=hc 0 _ (List.getElem?_eq_getElem hz)
 obtain⟨cs,e,fz,hh⟩:∃cs e fz,w.heap[i]?=some (.cells cs e fz):=by
  simp only[World.cell?]at h0
  split at h0
  ·rename_i cc e1 e2 hh;exact⟨cc,e1,e2,hh⟩
  ·cases h0
 have hsz:cs.size=zs.length:=by rw[←hs];simp only[Ag,hh]
 have hce:∀(j:Nat) (m:Int),zs[j]?=some m→cs[j]?=some (.int k m):=by
  intro j m hj
  have:=hc j m hj
  simp only[World.cell?,hh]at this
  simpa using this
 simp only[Lib.TabIs,World.var?,hn,Option.bind_some,hh]
 have ez:∀j:Nat,(zs.map fun z=>Value.int k z).toArray[j]?=(zs[j]?).map fun z=>Value.int k z:=by intro j;simp
 refine congrArg some (Array.ext_getElem? fun j=> ?_)
 rw[ez]
 rcases Nat.lt_or_ge j zs.length with hj|hj
 ·rw[hce j _ (List.getElem?_eq_getElem hj),List.getElem?_eq_getElem hj];rfl
 ·rw[List.getElem?_eq_none hj,Array.getElem?_eq_none (by omega)];rfl
theorem O7:∀(k n:Nat),n<10^(k+1)→Ez (k+1) n=Lib.decDigits n
 |k,n,h=>by
  unfold Ez
  by_cases h1:n<10
  ·rw[if_pos h1,Lib.decDigits_one h1]
  ·rw[if_neg h1,Lib.decDigits,dif_neg h1]
   match k,h with
   |0,h=>omega
   |k+1,h=>rw[O7 k (n/10) (by rw[Nat.pow_succ]at h;omega)]
theorem ACw {n:Int} (h0: -9223372036854775808≤n) (h1:n≤9223372036854775807):Du n=Lib.itoa n:=by
 unfold Du Lib.itoa
 rw[O7 19 _ (by omega),O7 19 _ (by omega)]
theorem AEZ:SeqOk P Df 44 where
 code:=⟨_,_,Tryd.func44,rfl⟩
 size:=fun h=>(h (by kernel_rfl)).elim
 run:=fun h=>(h (by kernel_rfl)).elim
 atoi:=fun _ h=>by rw[show(Df.seq 44).1=2 by kernel_rfl]at h;cases h
 itoa:=by
  intro _ _ n w hg h0 h1
  obtain⟨⟨b,_,e1,e2⟩,hc⟩:=hg 3 128 UZ (by kernel_rfl)
  have hf:UZ.fl=Lib.pow10Tab.map (V.int .u64):=by kernel_rfl
  have tab:Lib.TabIs P w "internal/strconv.uint64pow10" .u64 Lib.pow10Tab:=by
   refine ACv (i:=3) (by kernel_rfl) (by rw[←e1,e2,hf,List.length_map]) (by decide) fun j m hj=>hc j .u64 m ?_
   rw[hf,List.getElem?_map,hj];rfl
  rw[ACw h0 h1]
  refine Calls.mono (Any.strconv_Itoa AEY n h0 h1 w tab) fun e w' h=> ?_
  obtain⟨rfl,k,os,rfl⟩:=h
  refine⟨⟨rfl,rfl,rfl,by simp[Sort.grow],fun j hj=> ?_⟩,rfl⟩
  simp only[Sort.grow,World.heap_drewN]
  exact Array.getElem?_append_left hj
end
end Go.Proofs.YtaghnpjlhmgioaaDoor
