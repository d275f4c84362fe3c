/-
  Part of the proof of a statement about the given program: an abstract machine over its code, the simulation, its functions' equations, what they compute.
-/
import Derived.ChangeOld
import Derived.Deep.DeepLaidRun
import Derived.LaidMore
import Derived.Lib.LaidU8
import Derived.OpenShut
import Derived.ProofKit
import Derived.ShutString
import Derived.SizedLaws
import Derived.Stop.Joined
import Derived.Test.YtaghnpjlhmgioaaDoorChecked
import Derived.Test.YtaghnpjlhmgioaaDoorMg25
import Derived.Test.YtaghnpjlhmgioaaDoorMg27
import Derived.Test.YtaghnpjlhmgioaaDoorMg28
import Derived.Test.YtaghnpjlhmgioaaDoorMg29
import Derived.Test.YtaghnpjlhmgioaaDoorMg30
import Derived.Test.YtaghnpjlhmgioaaDoorRows
import Derived.WalkKit
set_option linter.unusedVariables false
set_option linter.unusedSimpArgs false
set_option linter.unusedSectionVars false
set_option maxRecDepth 100000
noncomputable section
namespace Go.Proofs.YtaghnpjlhmgioaaDoor
section
open Go AM
theorem YP:∀f:Nat,Df.ext f=true→f=89∨f=93:=by
 have h:(List.range YW.length).all (fun f=> !YW.getD f false||(Nat.beq f 89||Nat.beq f 93))=true:=by kernel_rfl
 intro f he
 have e:Df.ext f=YW.getD f false:=rfl
 rw[e]at he
 have hf:f<YW.length:=by
  rcases Nat.lt_or_ge f YW.length with h|h
  ·exact h
  ·rw[List.getD_eq_getElem?_getD,List.getElem?_eq_none h]at he;cases he
 rw[List.all_eq_true]at h
 have:=h f (List.mem_range.2 hf)
 rw[he]at this
 simpa [Nat.beq_eq]using this
theorem AEa:∀f:Nat,(Zu.getD f (0,0)).1≠0→f=49∨f=47∨f=44:=by
 have h:(List.range Zu.length).all (fun f=>Nat.beq (Zu.getD f (0,0)).1 0||(Nat.beq f 49||Nat.beq f 47||Nat.beq f 44))=true:=by kernel_rfl
 intro f he
 rcases Nat.lt_or_ge f Zu.length with hf|hf
 ·rw[List.all_eq_true]at h
  have:=h f (List.mem_range.2 hf)
  rw[Bool.or_eq_true]at this
  rcases this with h|h
  ·exact absurd (Nat.eq_of_beq_eq_true h) he
  ·simp only[Bool.or_eq_true]at h
   rcases h with(h|h)|h
   ·exact .inl (Nat.eq_of_beq_eq_true h)
   ·exact .inr (.inl (Nat.eq_of_beq_eq_true h))
   ·exact .inr (.inr (Nat.eq_of_beq_eq_true h))
 ·rw[List.getD_eq_getElem?_getD,List.getElem?_eq_none hf]at he;exact absurd rfl he
theorem AJ1:FnOk P Df where
 name:=by
  intro f fn hf
  have h:=ACu
  simp only[YN,List.all_eq_true]at h
  have:=h fn (Array.mem_toList_iff.2 (Array.mem_of_getElem? hf))
  simpa using this
 pure:=by
  intro f hp hk
  have hlt:f<P.funcs.size:=by
   have e:P.funcs.size=XW.length:=by kernel_rfl
   rw[e]
   rcases Nat.lt_or_ge f XW.length with h|h
   ·exact h
   ·have:Df.pure f=XW.getD f false:=rfl
    rw[this,List.getD_eq_getElem?_getD,List.getElem?_eq_none h]at hp
    cases hp
  have h:=AER
  simp only[ACq,List.all_eq_true,List.mem_range]at h
  have:=h f hlt
  rw[hp,hk]at this
  cases this
 glob:=by
  intro i t v h
  have e:Df.glob i=Ua.getD i none:=rfl
  rw[e]at h
  match i,h with
  |0,h=>cases h
  |1,h=>cases h;first|rfl|exact(show AEc.clean=true by kernel_rfl)
  |2,h=>cases h;first|rfl|exact(show AEd.clean=true by kernel_rfl)
  |3,h=>cases h;first|rfl|exact(show UZ.clean=true by kernel_rfl)
  |4,h=>cases h
  |5,h=>cases h
  |6,h=>cases h;first|rfl|exact(show Zv.clean=true by kernel_rfl)
  |7,h=>cases h;first|rfl|exact(show Zw.clean=true by kernel_rfl)
  |n+8,h=>simp[Ua]at h
 ext:=by
  intro f hf h0
  rcases YP f hf with rfl|rfl
  ·rw[show Df.nat 89=1 by kernel_rfl]at h0;cases h0
  ·rw[show Df.nat 93=2 by kernel_rfl]at h0;cases h0
 nat:=by
  intro f hf h0
  rcases YP f hf with rfl|rfl
  ·rw[show Df.nat 89=1 by kernel_rfl];exact⟨KX P 89,Extern.BytealgIndexByte.indexByte,by kernel_rfl,by kernel_rfl,by kernel_rfl,by kernel_rfl,fun s c w=>Lib.run_indexByteString s c w⟩
  ·rw[show Df.nat 93=2 by kernel_rfl];exact⟨KX P 93,Extern.BytealgCount.count,by kernel_rfl,by kernel_rfl,by kernel_rfl,by kernel_rfl,fun s c w=>Lib.run_countString s c w⟩
 seq:=by
  intro f hf
  rcases AEa f hf with rfl|rfl|rfl
  ·exact AGa
  ·exact AEX
  ·exact AEZ
theorem ACx:laidOutB P=true:=by kernel_rfl
theorem ACy:ownKnob Tryd.prog.godebug=none:=by kernel_rfl
def Q7:List (String×DataW Unit):=[("math/bits.deBruijn32tab",Rows.laid_math_bits_deBruijn32tab),("math/bits.deBruijn64tab",Rows.laid_math_bits_deBruijn64tab),("internal/strconv.uint64pow10",Rows.laid_internal_strconv_uint64pow10),("unicode/utf8.acceptRanges",Rows.laid_unicode_utf8_acceptRanges),("strconv.ErrRange",Rows.laid_strconv_ErrRange),("strconv.ErrSyntax",Rows.laid_strconv_ErrSyntax),("unicode/utf8.first",Rows.laid_unicode_utf8_first)]
theorem AGb {w:World} (h:laidMetH Tryd.prog Q7 w):GlobOk P Df (G.start w) w:=by
 rw[MakeChecks.laidMetH_plain _ _ _ (by kernel_rfl)]at h
 obtain⟨ps,⟨g0,t0,cs0,f0,p0,q0,hg0,ht0,hv0,hd0,⟨g1,t1,cs1,f1,p1,q1,hg1,ht1,hv1,hd1,⟨g2,t2,cs2,f2,p2,q2,hg2,ht2,hv2,hd2,⟨g3,t3,cs3,f3,p3,q3,hg3,ht3,hv3,hd3,⟨g4,t4,cs4,f4,p4,q4,hg4,ht4,hv4,hd4,⟨g5,t5,cs5,f5,p5,q5,hg5,ht5,hv5,hd5,_,_⟩,_⟩,_⟩,_⟩,_⟩,_⟩,_,_⟩:=h
 obtain rfl:=Option.some.inj ((show Tryd.prog.globalNamed "strconv.ErrSyntax"=some 1 by kernel_rfl).symm.trans hg5)
 obtain rfl:=Option.some.inj ((show(Tryd.prog.globals[1]?).map (·.type)=some 69 by kernel_rfl).symm.trans ht5)
 have m_ErrSyntax:=ACs (t:=69) (by kernel_rfl) (by kernel_rfl) hg5 hv5 hd5
 obtain rfl:=Option.some.inj ((show Tryd.prog.globalNamed "strconv.ErrRange"=some 2 by kernel_rfl).symm.trans hg4)
 obtain rfl:=Option.some.inj ((show(Tryd.prog.globals[2]?).map (·.type)=some 69 by kernel_rfl).symm.trans ht4)
 have m_ErrRange:=ACs (t:=69) (by kernel_rfl) (by kernel_rfl) hg4 hv4 hd4
 obtain rfl:=Option.some.inj ((show Tryd.prog.globalNamed "internal/strconv.uint64pow10"=some 3 by kernel_rfl).symm.trans hg2)
 obtain rfl:=Option.some.inj ((show(Tryd.prog.globals[3]?).map (·.type)=some 128 by kernel_rfl).symm.trans ht2)
 have m_uint64pow10:=XP lay (n:=3) (t:=128) (by kernel_rfl) hg2 hv2 hd2
 obtain rfl:=Option.some.inj ((show Tryd.prog.globalNamed "math/bits.deBruijn32tab"=some 6 by kernel_rfl).symm.trans hg0)
 obtain rfl:=Option.some.inj ((show(Tryd.prog.globals[6]?).map (·.type)=some 140 by kernel_rfl).symm.trans ht0)
 have m_deBruijn32tab:=XP lay (n:=3) (t:=140) (by kernel_rfl) hg0 hv0 hd0
 obtain rfl:=Option.some.inj ((show Tryd.prog.globalNamed "math/bits.deBruijn64tab"=some 7 by kernel_rfl).symm.trans hg1)
 obtain rfl:=Option.some.inj ((show(Tryd.prog.globals[7]?).map (·.type)=some 141 by kernel_rfl).symm.trans ht1)
 have m_deBruijn64tab:=XP lay (n:=3) (t:=141) (by kernel_rfl) hg1 hv1 hd1
 intro i t v hi
 have e:Df.glob i=Ua.getD i none:=rfl
 rw[e]at hi
 match i,hi with
 |0,hi=>cases hi
 |1,hi=>cases hi;exact m_ErrSyntax
 |2,hi=>cases hi;exact m_ErrRange
 |3,hi=>cases hi;rw[←(show JB P 3 128 (Rows.laid_internal_strconv_uint64pow10 (H:=Unit))=UZ by kernel_rfl)];exact m_uint64pow10
 |4,hi=>cases hi
 |5,hi=>cases hi
 |6,hi=>cases hi;rw[←(show JB P 3 140 (Rows.laid_math_bits_deBruijn32tab (H:=Unit))=Zv by kernel_rfl)];exact m_deBruijn32tab
 |7,hi=>cases hi;rw[←(show JB P 3 141 (Rows.laid_math_bits_deBruijn64tab (H:=Unit))=Zw by kernel_rfl)];exact m_deBruijn64tab
 |n+8,hi=>simp[Ua]at hi
def AEz (os:Os):World:=
 let w:=World.doorLaid Tryd.prog 400 os
 {w with heap:=w.heap.modify 4 fun
  | .cells _ t frozen=> .cells (Lib.firstTab.map fun z=>Value.int .u8 z).toArray t frozen
  |o=>o}
theorem ACz (os:Os) (args:Array Value):laidMetH Tryd.prog Q7 ((AEz os).forCall (fun _ _=>0) ⟨#[],args,[]⟩).memory:=
 laidMetH_of_parts3 (fuel:=8) (laidMet_of_run3 8 (by kernel_rfl) (by kernel_rfl) (by kernel_rfl)) (by kernel_rfl) (by kernel_rfl)
theorem AC0 {f:FuncId} {vs h:List V} {args:Array Value} {w:World} (hl:laidMetH Tryd.prog Q7 w) (hr:Cl f vs []=some (.bool true,h))
 (hlen:vs.length=args.size) (hv:∀(i:Nat) (v:V) (c:Value),vs[i]?=some v→args[i]?=some c→VR P (G.start w) w v c) (hno:BA vs=true):
 Calls Tryd.prog f args w fun e w'=>e= .returned (.bool true)∧Go.RowKit.Below w.heap.size w w':=
 ZX lay AJ1 follows AES hr (AGb hl) hlen hv hno
end
end Go.Proofs.YtaghnpjlhmgioaaDoor
