/-
  A part.
-/
import Derived.ChangeOld
import Derived.Deep.DeepLaidRun
import Derived.LaidMore
import Derived.OpenShut
import Derived.ProofKit
import Derived.ShutString
import Derived.SizedLaws
import Derived.Stop.Joined
import Derived.Test.YtphoocnlpnnkdaaGreatDoorChecked
import Derived.Test.YtphoocnlpnnkdaaGreatDoorMg23
import Derived.Test.YtphoocnlpnnkdaaGreatDoorMg25
import Derived.Test.YtphoocnlpnnkdaaGreatDoorMg26
import Derived.Test.YtphoocnlpnnkdaaGreatDoorMg28
import Derived.Test.YtphoocnlpnnkdaaGreatDoorMg29
import Derived.Test.YtphoocnlpnnkdaaGreatDoorRows
import Derived.WalkKit
set_option linter.unusedVariables false
set_option linter.unusedSimpArgs false
set_option linter.unusedSectionVars false
set_option maxRecDepth 100000
noncomputable section
namespace Go.Proofs.YtphoocnlpnnkdaaGreatDoor
section
open Go AM
theorem ADp:∀f:Nat,CX.ext f=true→f=148:=by
 have h:(List.range ADz.length).all (fun f=> !ADz.getD f false||(Nat.beq f 148))=true:=by kernel_rfl
 intro f he
 have e:CX.ext f=ADz.getD f false:=rfl
 rw[e]at he
 have hf:f<ADz.length:=by
  rcases Nat.lt_or_ge f ADz.length with h|h
  ·exact h
  ·rw[List.getD_eq_getElem?_getD,List.getElem?_eq_none h]at he;cases he
 rw[List.all_eq_true]at h
 have:=h f (List.mem_range.2 hf)
 rw[he]at this
 simpa [Nat.beq_eq]using this
theorem ANO:∀f:Nat,(AFV.getD f (0,0)).1≠0→f=134∨f=123∨f=108:=by
 have h:(List.range AFV.length).all (fun f=>Nat.beq (AFV.getD f (0,0)).1 0||(Nat.beq f 134||Nat.beq f 123||Nat.beq f 108))=true:=by kernel_rfl
 intro f he
 rcases Nat.lt_or_ge f AFV.length with hf|hf
 ·rw[List.all_eq_true]at h
  have:=h f (List.mem_range.2 hf)
  rw[Bool.or_eq_true]at this
  rcases this with h|h
  ·exact absurd (Nat.eq_of_beq_eq_true h) he
  ·simp only[Bool.or_eq_true]at h
   rcases h with(h|h)|h
   ·exact .inl (Nat.eq_of_beq_eq_true h)
   ·exact .inr (.inl (Nat.eq_of_beq_eq_true h))
   ·exact .inr (.inr ((Nat.eq_of_beq_eq_true h)))
 ·rw[List.getD_eq_getElem?_getD,List.getElem?_eq_none hf]at he;exact absurd rfl he
theorem AWB:FnOk P CX where
 name:=by
  intro f fn hf
  have h:=AJ9
  simp only[ADn,List.all_eq_true]at h
  have:=h fn (Array.mem_toList_iff.2 (Array.mem_of_getElem? hf))
  simpa using this
 pure:=by
  intro f hp hk
  have hlt:f<P.funcs.size:=by
   have e:P.funcs.size=ABW.length:=by kernel_rfl
   rw[e]
   rcases Nat.lt_or_ge f ABW.length with h|h
   ·exact h
   ·have:CX.pure f=ABW.getD f false:=rfl
    rw[this,List.getD_eq_getElem?_getD,List.getElem?_eq_none h]at hp
    cases hp
  have h:=ANC
  simp only[AJ4,List.all_eq_true,List.mem_range]at h
  have:=h f hlt
  rw[hp,hk]at this
  cases this
 glob:=by
  intro i t v h
  have e:CX.glob i=Xq.getD i none:=rfl
  rw[e]at h
  match i,h with
  |0,h=>cases h;first|rfl|exact(show Tn.clean=true by kernel_rfl)
  |1,h=>cases h;first|rfl|exact(show QO.clean=true by kernel_rfl)
  |2,h=>cases h
  |n+3,h=>simp[Xq]at h
 ext:=by
  intro f hf h0
  rcases ADp f hf with rfl
  ·exact⟨funcOf P 148,(funcOf P 148).params,117,5,by kernel_rfl,by kernel_rfl,by kernel_rfl,by kernel_rfl,by kernel_rfl,by kernel_rfl,by kernel_rfl⟩
 nat:=by
  intro f hf h0
  rcases ADp f hf with rfl
  ·exact absurd (show CX.nat 148=0 by kernel_rfl) h0
 seq:=by
  intro f hf
  rcases ANO f hf with rfl|rfl|rfl
  ·exact ARF
  ·exact ANK
  ·exact ANN
theorem AKC:laidOutB P=true:=by kernel_rfl
theorem AKD:ownKnob Tryz.prog.godebug=none:=by kernel_rfl
theorem ARI:Tryz.prog.globalNamed "modillion/hash.constants"=some 1:=by kernel_rfl
theorem ARJ:Tryz.prog.globalNamed "modillion/hash.start"=some 0:=by kernel_rfl
theorem ARK:(Tryz.prog.globals[1]?).map (·.type)=some 211:=by kernel_rfl
theorem ARL:(Tryz.prog.globals[0]?).map (·.type)=some 197:=by kernel_rfl
def laid2:List (String×DataW Unit):=[("modillion/hash.constants",Rows.laid_modillion_hash_constants),("modillion/hash.start",Rows.laid_modillion_hash_start)]
theorem ARN {w:World} (h:laidMetH Tryz.prog laid2 w):GlobOk P CX (G.start w) w:=by
 rw[MakeChecks.laidMetH_plain _ _ _ (by kernel_rfl)]at h
 obtain⟨ps,⟨g0,t0,cs0,f0,p0,q0,hg0,ht0,hv0,hd0,⟨g1,t1,cs1,f1,p1,q1,hg1,ht1,hv1,hd1,_,_⟩,_⟩,_,_⟩:=h
 obtain rfl:=Option.some.inj (ARI.symm.trans hg0)
 obtain rfl:=Option.some.inj (ARJ.symm.trans hg1)
 obtain rfl:=Option.some.inj (ARK.symm.trans ht0)
 obtain rfl:=Option.some.inj (ARL.symm.trans ht1)
 have m_constants:=AJ6 lay (n:=3) (t:=211) (by kernel_rfl) hg0 hv0 hd0
 have m_start:=AJ6 lay (n:=3) (t:=197) (by kernel_rfl) hg1 hv1 hd1
 intro i t v hi
 have e:CX.glob i=Xq.getD i none:=rfl
 rw[e]at hi
 match i,hi with
 |0,hi=>cases hi;rw[←(show LK P 3 197 (Rows.laid_modillion_hash_start (H:=Unit))=Tn by kernel_rfl)];exact m_start
 |1,hi=>cases hi;rw[←(show LK P 3 211 (Rows.laid_modillion_hash_constants (H:=Unit))=QO by kernel_rfl)];exact m_constants
 |2,hi=>cases hi
 |n+3,hi=>simp[Xq]at hi
theorem door_met (os:Os) (args:Array Value):laidMetH Tryz.prog laid2 ((World.doorLaid Tryz.prog 400 os).forCall (fun _ _=>0) ⟨#[],args,[]⟩).memory:=
 laidMetH_of_parts3 (fuel:=8) (laidMet_of_run' 8 (by kernel_rfl) (by kernel_rfl)) (by kernel_rfl) (by kernel_rfl)
theorem AKE {f:FuncId} {vs h:List V} {args:Array Value} {w:World} (hl:laidMetH Tryz.prog laid2 w) (hr:Cl f vs []=some (.bool true,h))
 (hlen:vs.length=args.size) (hv:∀(i:Nat) (v:V) (c:Value),vs[i]?=some v→args[i]?=some c→VR P (G.start w) w v c) (hno:BG vs=true):
 Calls Tryz.prog f args w fun e w'=>e= .returned (.bool true)∧Go.RowKit.Below w.heap.size w w':=
 AE8 lay AWB follows ANE hr (ARN hl) hlen hv hno
end
end Go.Proofs.YtphoocnlpnnkdaaGreatDoor
