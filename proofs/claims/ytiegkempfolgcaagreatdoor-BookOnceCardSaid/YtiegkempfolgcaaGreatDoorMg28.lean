/-
  Part of the proof of a statement about the given program: an abstract machine over its code, the simulation, its functions' equations, what they compute.
-/
import Derived.ChangeOld
import Derived.LaidMore
import Derived.OpenShut
import Derived.ProofKit
import Derived.ShutString
import Derived.SizedLaws
import Derived.Stop.Joined
import Derived.Test.YtiegkempfolgcaaGreatDoorChecked
import Derived.Test.YtiegkempfolgcaaGreatDoorMg23
import Derived.Test.YtiegkempfolgcaaGreatDoorMg26
import Derived.Test.YtiegkempfolgcaaGreatDoorMg27
import Derived.Test.YtiegkempfolgcaaGreatDoorRows
import Derived.WalkKit
section
set_option linter.unusedVariables false
set_option maxRecDepth 100000
namespace Go.Proofs.YtiegkempfolgcaaGreatDoor
open Go AM
theorem ext_one : ∀ f : Nat, f < extT.length → extT.getD f false = true → f = 155 := by
 have h : (List.range extT.length).all (fun f => !extT.getD f false || Nat.beq f 155) = true := by kernel_rfl
 intro f hf he
 rw [List.all_eq_true] at h
 have := h f (List.mem_range.2 hf)
 rw [he] at this
 exact Nat.eq_of_beq_eq_true (by simpa using this)
theorem seq_one : ∀ f : Nat, (seqT.getD f (0, 0)).1 ≠ 0 → f = 132 := by
 have h : (List.range seqT.length).all (fun f => Nat.beq (seqT.getD f (0, 0)).1 0 || Nat.beq f 132) = true := by kernel_rfl
 intro f he
 rcases Nat.lt_or_ge f seqT.length with hf | hf
 · rw [List.all_eq_true] at h
   have := h f (List.mem_range.2 hf)
   rw [Bool.or_eq_true] at this
   rcases this with h | h
   · exact absurd (Nat.eq_of_beq_eq_true h) he
   · exact Nat.eq_of_beq_eq_true h
 · rw [List.getD_eq_getElem?_getD, List.getElem?_eq_none hf] at he; exact absurd rfl he
theorem fnOk : FnOk P ann where
 name := by
  intro f fn hf
  have h := names_ok
  simp only [namesOk, List.all_eq_true] at h
  have := h fn (Array.mem_toList_iff.2 (Array.mem_of_getElem? hf))
  simpa using this
 pure := by
  intro f hp hk
  have hlt : f < P.funcs.size := by
   have e : P.funcs.size = pureT.length := by kernel_rfl
   rw [e]
   rcases Nat.lt_or_ge f pureT.length with h | h
   · exact h
   · have : ann.pure f = pureT.getD f false := rfl
     rw [this, List.getD_eq_getElem?_getD, List.getElem?_eq_none h] at hp
     cases hp
  have h := rets_ok
  simp only [retsOk, List.all_eq_true, List.mem_range] at h
  have := h f hlt
  rw [hp, hk] at this
  cases this
 glob := by
  intro i t v h
  have e : ann.glob i = globT.getD i none := rfl
  rw [e] at h
  match i, h with
  | 0, h => cases h; first | rfl | exact (show glob0.clean = true by kernel_rfl)
  | 1, h => cases h; first | rfl | exact (show glob1.clean = true by kernel_rfl)
  | 2, h => cases h
  | n + 3, h => simp [globT] at h
 ext := by
  intro f hf
  have e : ann.ext f = extT.getD f false := rfl
  rw [e] at hf
  have hlt : f < extT.length := by
   rcases Nat.lt_or_ge f extT.length with h | h
   · exact h
   · rw [List.getD_eq_getElem?_getD, List.getElem?_eq_none h] at hf; cases hf
  obtain rfl := ext_one f hlt hf
  refine ⟨funcOf P 155, (funcOf P 155).params, 68, 5, by kernel_rfl, by kernel_rfl, by kernel_rfl, by kernel_rfl, by kernel_rfl, by kernel_rfl, by kernel_rfl⟩
 seq := by
  intro f hf
  obtain rfl := seq_one f hf
  exact aps_ok
theorem laid_out : laidOutB P = true := by kernel_rfl
theorem own_knob : ownKnob Tryz.prog.godebug = none := by kernel_rfl
theorem gConst : Tryz.prog.globalNamed "modillion/hash.constants" = some 1 := by kernel_rfl
theorem gStart : Tryz.prog.globalNamed "modillion/hash.start" = some 0 := by kernel_rfl
theorem tConst : (Tryz.prog.globals[1]?).map (·.type) = some 204 := by kernel_rfl
theorem tStart : (Tryz.prog.globals[0]?).map (·.type) = some 184 := by kernel_rfl
def laid2 : List (String × DataW Unit) := [("modillion/hash.constants", Rows.laid_modillion_hash_constants), ("modillion/hash.start", Rows.laid_modillion_hash_start)]
theorem globOk {w : World} (h : laidMetH Tryz.prog laid2 w) : GlobOk P ann (G.start w) w := by
 rw [MakeChecks.laidMetH_plain _ _ _ (by kernel_rfl)] at h
 obtain ⟨ps, ⟨g0, t0, cs0, f0, p0, q0, hg0, ht0, hv0, hd0, ⟨g1, t1, cs1, f1, p1, q1, hg1, ht1, hv1, hd1, _, _⟩, _⟩, _, _⟩ := h
 obtain rfl := Option.some.inj (gConst.symm.trans hg0)
 obtain rfl := Option.some.inj (gStart.symm.trans hg1)
 obtain rfl := Option.some.inj (tConst.symm.trans ht0)
 obtain rfl := Option.some.inj (tStart.symm.trans ht1)
 have m_constants := glob_V lay (n := 3) (t := 204) (by kernel_rfl) hg0 hv0 hd0
 have m_start := glob_V lay (n := 3) (t := 184) (by kernel_rfl) hg1 hv1 hd1
 intro i t v hi
 have e : ann.glob i = globT.getD i none := rfl
 rw [e] at hi
 match i, hi with
 | 0, hi => cases hi; rw [← (show toV P 3 184 (Rows.laid_modillion_hash_start (H := Unit)) = glob0 by kernel_rfl)]; exact m_start
 | 1, hi => cases hi; rw [← (show toV P 3 204 (Rows.laid_modillion_hash_constants (H := Unit)) = glob1 by kernel_rfl)]; exact m_constants
 | 2, hi => cases hi
 | n + 3, hi => simp [globT] at hi
theorem door_met (os : Os) (args : Array Value) : laidMetH Tryz.prog laid2 ((World.doorLaid Tryz.prog 400 os).forCall (fun _ _ => 0) ⟨#[], args, []⟩).memory :=
 laidMetH_of_parts3 (fuel := 8) (laidMet_of_run' 8 (by kernel_rfl) (by kernel_rfl)) (by kernel_rfl) (by kernel_rfl)
theorem law_goes {f : FuncId} {vs h : List V} {args : Array Value} {w : World} (hl : laidMetH Tryz.prog laid2 w) (hr : Cl f vs [] = some (.bool true, h))
 (hlen : vs.length = args.size) (hv : ∀ (i : Nat) (v : V) (c : Value), vs[i]? = some v → args[i]? = some c → VR P (G.start w) w v c) (hno : noOwnL vs = true) :
 Calls Tryz.prog f args w fun e w' => e = .returned (.bool true) ∧ Go.RowKit.Below w.heap.size w w' :=
 law_calls lay fnOk follows chk_all hr (globOk hl) hlen hv hno
end Go.Proofs.YtiegkempfolgcaaGreatDoor
end
