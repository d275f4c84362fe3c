/-
  Part of the proof of a statement about the given program: an abstract machine over its code, the simulation, its functions' equations, what they compute.
-/
import Derived.ChangeOld
import Derived.Deep.DeepLaidRun
import Derived.LaidMore
import Derived.OpenShut
import Derived.ProofKit
import Derived.ShutString
import Derived.SizedLaws
import Derived.Stop.Joined
import Derived.Test.YtoakaehjnbhgmaaGreatDoorChecked
import Derived.Test.YtoakaehjnbhgmaaGreatDoorMg23
import Derived.Test.YtoakaehjnbhgmaaGreatDoorMg25
import Derived.Test.YtoakaehjnbhgmaaGreatDoorMg26
import Derived.Test.YtoakaehjnbhgmaaGreatDoorMg28
import Derived.Test.YtoakaehjnbhgmaaGreatDoorMg29
import Derived.Test.YtoakaehjnbhgmaaGreatDoorRows
import Derived.WalkKit
set_option linter.unusedVariables false
set_option linter.unusedSimpArgs false
set_option linter.unusedSectionVars false
set_option maxRecDepth 100000
noncomputable section
namespace Go.Proofs.YtoakaehjnbhgmaaGreatDoor
section
open Go AM
theorem ACh:∀f:Nat,CJ.ext f=true→f=210:=by
 have h:(List.range ACr.length).all (fun f=> !ACr.getD f false||(Nat.beq f 210))=true:=by kernel_rfl
 intro f he
 have e:CJ.ext f=ACr.getD f false:=rfl
 rw[e]at he
 have hf:f<ACr.length:=by
  rcases Nat.lt_or_ge f ACr.length with h|h
  ·exact h
  ·rw[List.getD_eq_getElem?_getD,List.getElem?_eq_none h]at he;cases he
 rw[List.all_eq_true]at h
 have:=h f (List.mem_range.2 hf)
 rw[he]at this
 simpa [Nat.beq_eq]using this
theorem AKW:∀f:Nat,(AEC.getD f (0,0)).1≠0→f=208∨f=190∨f=152:=by
 have h:(List.range AEC.length).all (fun f=>Nat.beq (AEC.getD f (0,0)).1 0||(Nat.beq f 208||Nat.beq f 190||Nat.beq f 152))=true:=by kernel_rfl
 intro f he
 rcases Nat.lt_or_ge f AEC.length with hf|hf
 ·rw[List.all_eq_true]at h
  have:=h f (List.mem_range.2 hf)
  rw[Bool.or_eq_true]at this
  rcases this with h|h
  ·exact absurd (Nat.eq_of_beq_eq_true h) he
  ·simp only[Bool.or_eq_true]at h
   rcases h with(h|h)|h
   ·exact .inl (Nat.eq_of_beq_eq_true h)
   ·exact .inr (.inl (Nat.eq_of_beq_eq_true h))
   ·exact .inr (.inr ((Nat.eq_of_beq_eq_true h)))
 ·rw[List.getD_eq_getElem?_getD,List.getElem?_eq_none hf]at he;exact absurd rfl he
theorem ASU:FnOk P CJ where
 name:=by
  intro f fn hf
  have h:=AG3
  simp only[ACf,List.all_eq_true]at h
  have:=h fn (Array.mem_toList_iff.2 (Array.mem_of_getElem? hf))
  simpa using this
 pure:=by
  intro f hp hk
  have hlt:f<P.funcs.size:=by
   have e:P.funcs.size=AAD.length:=by kernel_rfl
   rw[e]
   rcases Nat.lt_or_ge f AAD.length with h|h
   ·exact h
   ·have:CJ.pure f=AAD.getD f false:=rfl
    rw[this,List.getD_eq_getElem?_getD,List.getElem?_eq_none h]at hp
    cases hp
  have h:=AKL
  simp only[AGy,List.all_eq_true,List.mem_range]at h
  have:=h f hlt
  rw[hp,hk]at this
  cases this
 glob:=by
  intro i t v h
  have e:CJ.glob i=V9.getD i none:=rfl
  rw[e]at h
  match i,h with
  |0,h=>cases h;first|rfl|exact(show Sm.clean=true by kernel_rfl)
  |1,h=>cases h;first|rfl|exact(show Oq.clean=true by kernel_rfl)
  |2,h=>cases h
  |n+3,h=>simp[V9]at h
 ext:=by
  intro f hf h0
  rcases ACh f hf with rfl
  ·exact⟨funcOf P 210,(funcOf P 210).params,172,5,by kernel_rfl,by kernel_rfl,by kernel_rfl,by kernel_rfl,by kernel_rfl,by kernel_rfl,by kernel_rfl⟩
 nat:=by
  intro f hf h0
  rcases ACh f hf with rfl
  ·exact absurd (show CJ.nat 210=0 by kernel_rfl) h0
 seq:=by
  intro f hf
  rcases AKW f hf with rfl|rfl|rfl
  ·exact ANb
  ·exact AKS
  ·exact AKV
theorem AG6:laidOutB P=true:=by kernel_rfl
theorem AG7:ownKnob Tryz.prog.godebug=none:=by kernel_rfl
theorem ANd:Tryz.prog.globalNamed "modillion/hash.constants"=some 1:=by kernel_rfl
theorem ANe:Tryz.prog.globalNamed "modillion/hash.start"=some 0:=by kernel_rfl
theorem ANf:(Tryz.prog.globals[1]?).map (·.type)=some 261:=by kernel_rfl
theorem ANg:(Tryz.prog.globals[0]?).map (·.type)=some 247:=by kernel_rfl
def laid2:List (String×DataW Unit):=[("modillion/hash.constants",Rows.laid_modillion_hash_constants),("modillion/hash.start",Rows.laid_modillion_hash_start)]
theorem ANh {w:World} (h:laidMetH Tryz.prog laid2 w):GlobOk P CJ (G.start w) w:=by
 rw[MakeChecks.laidMetH_plain _ _ _ (by kernel_rfl)]at h
 obtain⟨ps,⟨g0,t0,cs0,f0,p0,q0,hg0,ht0,hv0,hd0,⟨g1,t1,cs1,f1,p1,q1,hg1,ht1,hv1,hd1,_,_⟩,_⟩,_,_⟩:=h
 obtain rfl:=Option.some.inj (ANd.symm.trans hg0)
 obtain rfl:=Option.some.inj (ANe.symm.trans hg1)
 obtain rfl:=Option.some.inj (ANf.symm.trans ht0)
 obtain rfl:=Option.some.inj (ANg.symm.trans ht1)
 have m_constants:=AG0 lay (n:=3) (t:=261) (by kernel_rfl) hg0 hv0 hd0
 have m_start:=AG0 lay (n:=3) (t:=247) (by kernel_rfl) hg1 hv1 hd1
 intro i t v hi
 have e:CJ.glob i=V9.getD i none:=rfl
 rw[e]at hi
 match i,hi with
 |0,hi=>cases hi;rw[←(show Jm P 3 247 (Rows.laid_modillion_hash_start (H:=Unit))=Sm by kernel_rfl)];exact m_start
 |1,hi=>cases hi;rw[←(show Jm P 3 261 (Rows.laid_modillion_hash_constants (H:=Unit))=Oq by kernel_rfl)];exact m_constants
 |2,hi=>cases hi
 |n+3,hi=>simp[V9]at hi
theorem door_met (os:Os) (args:Array Value):laidMetH Tryz.prog laid2 ((World.doorLaid Tryz.prog 400 os).forCall (fun _ _=>0) ⟨#[],args,[]⟩).memory:=
 laidMetH_of_parts3 (fuel:=8) (laidMet_of_run' 8 (by kernel_rfl) (by kernel_rfl)) (by kernel_rfl) (by kernel_rfl)
theorem AG8 {f:FuncId} {vs h:List V} {args:Array Value} {w:World} (hl:laidMetH Tryz.prog laid2 w) (hr:Cl f vs []=some (.bool true,h))
 (hlen:vs.length=args.size) (hv:∀(i:Nat) (v:V) (c:Value),vs[i]?=some v→args[i]?=some c→VR P (G.start w) w v c) (hno:Aw vs=true):
 Calls Tryz.prog f args w fun e w'=>e= .returned (.bool true)∧Go.RowKit.Below w.heap.size w w':=
 ADp lay ASU follows AKM hr (ANh hl) hlen hv hno
end
end Go.Proofs.YtoakaehjnbhgmaaGreatDoor
