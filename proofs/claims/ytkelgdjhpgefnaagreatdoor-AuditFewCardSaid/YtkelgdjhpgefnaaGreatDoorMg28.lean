/-
  Part of the proof of a statement about the given program: an abstract machine over its code, the simulation, its functions' equations, what they compute.
-/
import Derived.ChangeOld
import Derived.Deep.DeepLaidRun
import Derived.LaidMore
import Derived.OpenShut
import Derived.ProofKit
import Derived.ShutString
import Derived.SizedLaws
import Derived.Stop.Joined
import Derived.Test.YtkelgdjhpgefnaaGreatDoorChecked
import Derived.Test.YtkelgdjhpgefnaaGreatDoorMg21
import Derived.Test.YtkelgdjhpgefnaaGreatDoorMg23
import Derived.Test.YtkelgdjhpgefnaaGreatDoorMg24
import Derived.Test.YtkelgdjhpgefnaaGreatDoorMg26
import Derived.Test.YtkelgdjhpgefnaaGreatDoorMg27
import Derived.Test.YtkelgdjhpgefnaaGreatDoorRows
import Derived.WalkKit
set_option linter.unusedVariables false
set_option linter.unusedSimpArgs false
set_option linter.unusedSectionVars false
set_option maxRecDepth 100000
noncomputable section
namespace Go.Proofs.YtkelgdjhpgefnaaGreatDoor
section
open Go AM
theorem TR:∀f:Nat,EQ.ext f=true→f=149:=by
 have h:(List.range Tq.length).all (fun f=> !Tq.getD f false||(Nat.beq f 149))=true:=by kernel_rfl
 intro f he
 have e:EQ.ext f=Tq.getD f false:=rfl
 rw[e]at he
 have hf:f<Tq.length:=by
  rcases Nat.lt_or_ge f Tq.length with h|h
  ·exact h
  ·rw[List.getD_eq_getElem?_getD,List.getElem?_eq_none h]at he;cases he
 rw[List.all_eq_true]at h
 have:=h f (List.mem_range.2 hf)
 rw[he]at this
 simpa [Nat.beq_eq]using this
theorem ZH:∀f:Nat,(VK.getD f (0,0)).1≠0→f=142∨f=124∨f=65:=by
 have h:(List.range VK.length).all (fun f=>Nat.beq (VK.getD f (0,0)).1 0||(Nat.beq f 142||Nat.beq f 124||Nat.beq f 65))=true:=by kernel_rfl
 intro f he
 rcases Nat.lt_or_ge f VK.length with hf|hf
 ·rw[List.all_eq_true]at h
  have:=h f (List.mem_range.2 hf)
  rw[Bool.or_eq_true]at this
  rcases this with h|h
  ·exact absurd (Nat.eq_of_beq_eq_true h) he
  ·simp only[Bool.or_eq_true]at h
   rcases h with(h|h)|h
   ·exact .inl (Nat.eq_of_beq_eq_true h)
   ·exact .inr (.inl (Nat.eq_of_beq_eq_true h))
   ·exact .inr (.inr ((Nat.eq_of_beq_eq_true h)))
 ·rw[List.getD_eq_getElem?_getD,List.getElem?_eq_none hf]at he;exact absurd rfl he
theorem AEC:FnOk P EQ where
 name:=by
  intro f fn hf
  have h:=XU
  simp only[TP,List.all_eq_true]at h
  have:=h fn (Array.mem_toList_iff.2 (Array.mem_of_getElem? hf))
  simpa using this
 pure:=by
  intro f hp hk
  have hlt:f<P.funcs.size:=by
   have e:P.funcs.size=RU.length:=by kernel_rfl
   rw[e]
   rcases Nat.lt_or_ge f RU.length with h|h
   ·exact h
   ·have:EQ.pure f=RU.getD f false:=rfl
    rw[this,List.getD_eq_getElem?_getD,List.getElem?_eq_none h]at hp
    cases hp
  have h:=Y5
  simp only[XP,List.all_eq_true,List.mem_range]at h
  have:=h f hlt
  rw[hp,hk]at this
  cases this
 glob:=by
  intro i t v h
  have e:EQ.glob i=OO.getD i none:=rfl
  rw[e]at h
  match i,h with
  |0,h=>cases h;first|rfl|exact(show Lp.clean=true by kernel_rfl)
  |1,h=>cases h;first|rfl|exact(show Jh.clean=true by kernel_rfl)
  |2,h=>cases h
  |n+3,h=>simp[OO]at h
 ext:=by
  intro f hf h0
  rcases TR f hf with rfl
  ·exact⟨funcOf P 149,(funcOf P 149).params,167,5,by kernel_rfl,by kernel_rfl,by kernel_rfl,by kernel_rfl,by kernel_rfl,by kernel_rfl,by kernel_rfl⟩
 nat:=by
  intro f hf h0
  rcases TR f hf with rfl
  ·exact absurd (show EQ.nat 149=0 by kernel_rfl) h0
 seq:=by
  intro f hf
  rcases ZH f hf with rfl|rfl|rfl
  ·exact AAb
  ·exact ZC
  ·exact ZG
theorem XY:laidOutB P=true:=by kernel_rfl
theorem XZ:ownKnob Tryz.prog.godebug=none:=by kernel_rfl
theorem AAd:Tryz.prog.globalNamed "modillion/hash.constants"=some 1:=by kernel_rfl
theorem AAe:Tryz.prog.globalNamed "modillion/hash.start"=some 0:=by kernel_rfl
theorem AAf:(Tryz.prog.globals[1]?).map (·.type)=some 210:=by kernel_rfl
theorem AAg:(Tryz.prog.globals[0]?).map (·.type)=some 200:=by kernel_rfl
def laid2:List (String×DataW Unit):=[("modillion/hash.constants",Rows.laid_modillion_hash_constants),("modillion/hash.start",Rows.laid_modillion_hash_start)]
theorem AAh {w:World} (h:laidMetH Tryz.prog laid2 w):GlobOk P EQ (G.start w) w:=by
 rw[MakeChecks.laidMetH_plain _ _ _ (by kernel_rfl)]at h
 obtain⟨ps,⟨g0,t0,cs0,f0,p0,q0,hg0,ht0,hv0,hd0,⟨g1,t1,cs1,f1,p1,q1,hg1,ht1,hv1,hd1,_,_⟩,_⟩,_,_⟩:=h
 obtain rfl:=Option.some.inj (AAd.symm.trans hg0)
 obtain rfl:=Option.some.inj (AAe.symm.trans hg1)
 obtain rfl:=Option.some.inj (AAf.symm.trans ht0)
 obtain rfl:=Option.some.inj (AAg.symm.trans ht1)
 have m_constants:=XR lay (n:=3) (t:=210) (by kernel_rfl) hg0 hv0 hd0
 have m_start:=XR lay (n:=3) (t:=200) (by kernel_rfl) hg1 hv1 hd1
 intro i t v hi
 have e:EQ.glob i=OO.getD i none:=rfl
 rw[e]at hi
 match i,hi with
 |0,hi=>cases hi;rw[←(show GY P 3 200 (Rows.laid_modillion_hash_start (H:=Unit))=Lp by kernel_rfl)];exact m_start
 |1,hi=>cases hi;rw[←(show GY P 3 210 (Rows.laid_modillion_hash_constants (H:=Unit))=Jh by kernel_rfl)];exact m_constants
 |2,hi=>cases hi
 |n+3,hi=>simp[OO]at hi
theorem door_met (os:Os) (args:Array Value):laidMetH Tryz.prog laid2 ((World.doorLaid Tryz.prog 400 os).forCall (fun _ _=>0) ⟨#[],args,[]⟩).memory:=
 laidMetH_of_parts3 (fuel:=8) (laidMet_of_run' 8 (by kernel_rfl) (by kernel_rfl)) (by kernel_rfl) (by kernel_rfl)
theorem Xa {f:FuncId} {vs h:List V} {args:Array Value} {w:World} (hl:laidMetH Tryz.prog laid2 w) (hr:Cl f vs []=some (.bool true,h))
 (hlen:vs.length=args.size) (hv:∀(i:Nat) (v:V) (c:Value),vs[i]?=some v→args[i]?=some c→VR P (G.start w) w v c) (hno:Ae vs=true):
 Calls Tryz.prog f args w fun e w'=>e= .returned (.bool true)∧Go.RowKit.Below w.heap.size w w':=
 Un lay AEC follows Y6 hr (AAh hl) hlen hv hno
end
end Go.Proofs.YtkelgdjhpgefnaaGreatDoor
