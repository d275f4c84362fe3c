/-
  Part of the proof of a statement about the given program: an abstract machine over its code, the simulation, its functions' equations, what they compute.
-/
import Derived.Shelf.Strconv.AtoiAll
import Derived.Test.YtaghnpjlhmgioaaDoorMg23
import Derived.Test.YtaghnpjlhmgioaaDoorMg4
set_option linter.unusedVariables false
set_option linter.unusedSimpArgs false
set_option linter.unusedSectionVars false
set_option maxRecDepth 100000
noncomputable section
namespace Go.Proofs.YtaghnpjlhmgioaaDoor
section
open Go AM Go.RowKit
def VY:Go.Shelf.Ren:=⟨fun|172=>47|244=>55|245=>56|247=>75|279=>76|280=>77|281=>78|282=>79|287=>94|316=>95|171=>44|205=>96|321=>103|322=>104|243=>52|246=>67|283=>85|284=>86|285=>87|286=>88|129=>66|317=>98|318=>99|319=>100|320=>101|337=>105|338=>106|n=>n,fun|9=>9|3=>3|75=>69|76=>70|4=>4|5=>5|167=>97|37=>73|0=>0|85=>98|2=>2|168=>100|53=>92|175=>118|46=>77|210=>122|127=>132|145=>135|143=>133|21=>21|171=>109|173=>111|212=>128|51=>90|20=>20|213=>129|232=>140|233=>141|80=>142|n=>n,fun|15=>1|16=>2|17=>3|18=>6|19=>7|n=>n⟩
theorem UN:Go.Proofs.LaysC.n172 Tryd.prog VY where
 mixed:=by kernel_rfl
 f129:=Tryd.func66.trans (congrArg some (by kernel_rfl))
 f171:=Tryd.func44.trans (congrArg some (by kernel_rfl))
 f172:=Tryd.func47.trans (congrArg some (by kernel_rfl))
 f205:=Tryd.func96.trans (congrArg some (by kernel_rfl))
 f243:=Tryd.func52.trans (congrArg some (by kernel_rfl))
 f244:=Tryd.func55.trans (congrArg some (by kernel_rfl))
 f245:=Tryd.func56.trans (congrArg some (by kernel_rfl))
 f246:=Tryd.func67.trans (congrArg some (by kernel_rfl))
 f247:=Tryd.func75.trans (congrArg some (by kernel_rfl))
 f279:=Tryd.func76.trans (congrArg some (by kernel_rfl))
 f280:=Tryd.func77.trans (congrArg some (by kernel_rfl))
 f281:=Tryd.func78.trans (congrArg some (by kernel_rfl))
 f282:=Tryd.func79.trans (congrArg some (by kernel_rfl))
 f283:=Tryd.func85.trans (congrArg some (by kernel_rfl))
 f284:=Tryd.func86.trans (congrArg some (by kernel_rfl))
 f285:=Tryd.func87.trans (congrArg some (by kernel_rfl))
 f286:=Tryd.func88.trans (congrArg some (by kernel_rfl))
 f287:=Tryd.func94.trans (congrArg some (by kernel_rfl))
 f316:=Tryd.func95.trans (congrArg some (by kernel_rfl))
 f317:=Tryd.func98.trans (congrArg some (by kernel_rfl))
 f318:=Tryd.func99.trans (congrArg some (by kernel_rfl))
 f319:=Tryd.func100.trans (congrArg some (by kernel_rfl))
 f320:=Tryd.func101.trans (congrArg some (by kernel_rfl))
 f321:=Tryd.func103.trans (congrArg some (by kernel_rfl))
 f322:=Tryd.func104.trans (congrArg some (by kernel_rfl))
 f337:=Tryd.func105.trans (congrArg some (by kernel_rfl))
 f338:=Tryd.func106.trans (congrArg some (by kernel_rfl))
 t0:=Tryd.underlying0
 a0:=Tryd.isAgg0
 z0:=Tryd.sizeOf0
 v0:=Tryd.zeroValue0
 t2:=Tryd.underlying2
 a2:=Tryd.isAgg2
 z2:=Tryd.sizeOf2
 v2:=Tryd.zeroValue2
 t3:=Tryd.underlying3
 a3:=Tryd.isAgg3
 z3:=Tryd.sizeOf3
 v3:=Tryd.zeroValue3
 t4:=Tryd.underlying4
 a4:=Tryd.isAgg4
 z4:=Tryd.sizeOf4
 v4:=Tryd.zeroValue4
 t5:=Tryd.underlying5
 a5:=Tryd.isAgg5
 z5:=Tryd.sizeOf5
 v5:=Tryd.zeroValue5
 t9:=Tryd.underlying9
 a9:=Tryd.isAgg9
 z9:=Tryd.sizeOf9
 v9:=Tryd.zeroValue9
 t20:=Tryd.underlying20
 a20:=Tryd.isAgg20
 z20:=Tryd.sizeOf20
 v20:=Tryd.zeroValue20
 t21:=Tryd.underlying21
 a21:=Tryd.isAgg21
 z21:=Tryd.sizeOf21
 v21:=Tryd.zeroValue21
 t37:=Tryd.underlying73
 a37:=Tryd.isAgg73
 z37:=Tryd.sizeOf73
 v37:=Tryd.zeroValue73
 t46:=Tryd.underlying77
 a46:=Tryd.isAgg77
 z46:=Tryd.sizeOf77
 v46:=Tryd.zeroValue77
 t51:=Tryd.underlying90
 a51:=Tryd.isAgg90
 z51:=Tryd.sizeOf90
 v51:=Tryd.zeroValue90
 t53:=Tryd.underlying92
 a53:=Tryd.isAgg92
 z53:=Tryd.sizeOf92
 v53:=Tryd.zeroValue92
 t75:=Tryd.underlying69
 a75:=Tryd.isAgg69
 z75:=Tryd.sizeOf69
 v75:=Tryd.zeroValue69
 t76:=Tryd.underlying70
 a76:=Tryd.isAgg70
 z76:=Tryd.sizeOf70
 v76:=Tryd.zeroValue70
 t85:=Tryd.underlying98
 a85:=Tryd.isAgg98
 z85:=Tryd.sizeOf98
 v85:=Tryd.zeroValue98
 t127:=Tryd.underlying132
 a127:=Tryd.isAgg132
 z127:=Tryd.sizeOf132
 v127:=Tryd.zeroValue132
 t143:=Tryd.underlying133
 a143:=Tryd.isAgg133
 z143:=Tryd.sizeOf133
 v143:=Tryd.zeroValue133
 t145:=Tryd.underlying135
 a145:=Tryd.isAgg135
 z145:=Tryd.sizeOf135
 v145:=Tryd.zeroValue135
 t167:=Tryd.underlying97
 a167:=Tryd.isAgg97
 z167:=Tryd.sizeOf97
 v167:=Tryd.zeroValue97
 t168:=Tryd.underlying100
 a168:=Tryd.isAgg100
 z168:=Tryd.sizeOf100
 v168:=Tryd.zeroValue100
 t171:=Tryd.underlying109
 a171:=Tryd.isAgg109
 z171:=Tryd.sizeOf109
 v171:=Tryd.zeroValue109
 t173:=Tryd.underlying111
 a173:=Tryd.isAgg111
 z173:=Tryd.sizeOf111
 v173:=Tryd.zeroValue111
 t175:=Tryd.underlying118
 a175:=Tryd.isAgg118
 z175:=Tryd.sizeOf118
 v175:=Tryd.zeroValue118
 t210:=Tryd.underlying122
 a210:=Tryd.isAgg122
 z210:=Tryd.sizeOf122
 v210:=Tryd.zeroValue122
 t212:=Tryd.underlying128
 a212:=Tryd.isAgg128
 z212:=Tryd.sizeOf128
 v212:=Tryd.zeroValue128
 t213:=Tryd.underlying129
 a213:=Tryd.isAgg129
 z213:=Tryd.sizeOf129
 t232:=Tryd.underlying140
 a232:=Tryd.isAgg140
 z232:=Tryd.sizeOf140
 v232:=Tryd.zeroValue140
 t233:=Tryd.underlying141
 a233:=Tryd.isAgg141
 z233:=Tryd.sizeOf141
 v233:=Tryd.zeroValue141
 g15:=by kernel_rfl
 g16:=by kernel_rfl
 g17:=by kernel_rfl
 g18:=by kernel_rfl
 g19:=by kernel_rfl
 t80:=Tryd.underlying142
 a80:=Tryd.isAgg142
 z80:=Tryd.sizeOf142
 v80:=Tryd.zeroValue142
 i0:=by kernel_rfl
 i2:=by kernel_rfl
 i3:=by kernel_rfl
 i4:=by kernel_rfl
 i5:=by kernel_rfl
 i9:=by kernel_rfl
 i20:=by kernel_rfl
 i21:=by kernel_rfl
 i37:=by kernel_rfl
 i46:=by kernel_rfl
 i51:=by kernel_rfl
 i53:=by kernel_rfl
 i75:=by kernel_rfl
 i76:=by kernel_rfl
 i80:=by kernel_rfl
 i85:=by kernel_rfl
 i127:=by kernel_rfl
 i143:=by kernel_rfl
 i145:=by kernel_rfl
 i167:=by kernel_rfl
 i168:=by kernel_rfl
 i171:=by kernel_rfl
 i173:=by kernel_rfl
 i175:=by kernel_rfl
 i210:=by kernel_rfl
 i212:=by kernel_rfl
 i232:=by kernel_rfl
 i233:=by kernel_rfl
 m15:=by kernel_rfl
 m16:=by kernel_rfl
 m17:=by kernel_rfl
 m18:=by kernel_rfl
 m19:=by kernel_rfl
 c0:=by kernel_rfl
 c2:=by kernel_rfl
 c3:=by kernel_rfl
 c4:=by kernel_rfl
 c5:=by kernel_rfl
 c9:=by kernel_rfl
 c20:=by kernel_rfl
 c21:=by kernel_rfl
 c37:=by kernel_rfl
 c46:=by kernel_rfl
 c51:=by kernel_rfl
 c53:=by kernel_rfl
 c75:=by kernel_rfl
 c76:=by kernel_rfl
 c80:=by kernel_rfl
 c85:=by kernel_rfl
 c127:=by kernel_rfl
 c143:=by kernel_rfl
 c145:=by kernel_rfl
 c167:=by kernel_rfl
 c168:=by kernel_rfl
 c171:=by kernel_rfl
 c173:=by kernel_rfl
 c175:=by kernel_rfl
 c210:=by kernel_rfl
 c212:=by kernel_rfl
 c213:=by kernel_rfl
 c232:=by kernel_rfl
 c233:=by kernel_rfl
theorem AEX:SeqOk P Df 47 where
 code:=⟨_,_,Tryd.func47,rfl⟩
 size:=fun h=>(h (by kernel_rfl)).elim
 run:=fun h=>(h (by kernel_rfl)).elim
 itoa:=fun _ h=>by rw[show(Df.seq 47).1=1 by kernel_rfl]at h;cases h
 atoi:=by
  intro _ _ s w hg hs
  have hs:s.size≤2147483648:=hs
  obtain⟨s1,q1,h1⟩:=hg 1 69 (by kernel_rfl)
  obtain⟨s2,q2,h2⟩:=hg 2 69 (by kernel_rfl)
  cases he:Lib.atoiAll s.data.toList with
  |ok v=>
   refine Calls.mono (Any.strconv_Atoi_ok UN s (by omega) v he w) fun e w' h=> ?_
   obtain⟨rfl,rfl|⟨t,rfl⟩⟩:=h
   ·exact⟨Below.refl _ _,0,.nilIface,rfl⟩
   ·exact⟨Lib.bytesWorld_below _ _ _,0,.nilIface,rfl⟩
  |«syntax»=>
   refine Calls.mono (Any.strconv_Atoi_syntax UN s (by omega) he _ w h1 (.inr ⟨_,_,rfl⟩)) fun e w' h=> ?_
   obtain⟨N,rfl,_,_,hB⟩:=h
   exact⟨hB,_,_,rfl⟩
  |range=>
   refine Calls.mono (Any.strconv_Atoi_range UN s (by omega) he _ w h2 (.inr ⟨_,_,rfl⟩)) fun e w' h=> ?_
   obtain⟨N,rfl,_,_,hB⟩:=h
   exact⟨hB,_,_,rfl⟩
end
end Go.Proofs.YtaghnpjlhmgioaaDoor
