/-
  Part of the proof of a statement about the given program: an abstract machine over its code, the simulation, its functions' equations, what they compute.
-/
import Derived.ChangeOld
import Derived.Deep.DeepLaidRun
import Derived.LaidMore
import Derived.Lib.LaidU8
import Derived.OpenShut
import Derived.ProofKit
import Derived.ShutString
import Derived.SizedLaws
import Derived.Stop.Joined
import Derived.Test.YtaghnpjlhmgioaaDoorChecked
import Derived.Test.YtaghnpjlhmgioaaDoorMg24
import Derived.Test.YtaghnpjlhmgioaaDoorMg26
import Derived.Test.YtaghnpjlhmgioaaDoorMg27
import Derived.Test.YtaghnpjlhmgioaaDoorMg28
import Derived.Test.YtaghnpjlhmgioaaDoorMg29
import Derived.Test.YtaghnpjlhmgioaaDoorRows
import Derived.WalkKit
section
set_option linter.unusedVariables false
set_option maxRecDepth 100000
namespace Go.Proofs.YtaghnpjlhmgioaaDoor
open Go AM
theorem ext_one : ∀ f : Nat, ann.ext f = true → f = 89 ∨ f = 93 := by
 have h : (List.range extT.length).all (fun f => !extT.getD f false || (Nat.beq f 89 || Nat.beq f 93)) = true := by kernel_rfl
 intro f he
 have e : ann.ext f = extT.getD f false := rfl
 rw [e] at he
 have hf : f < extT.length := by
  rcases Nat.lt_or_ge f extT.length with h | h
  · exact h
  · rw [List.getD_eq_getElem?_getD, List.getElem?_eq_none h] at he; cases he
 rw [List.all_eq_true] at h
 have := h f (List.mem_range.2 hf)
 rw [he] at this
 simpa [Nat.beq_eq] using this
theorem seq_one : ∀ f : Nat, (seqT.getD f (0, 0)).1 ≠ 0 → f = 49 ∨ f = 47 ∨ f = 44 := by
 have h : (List.range seqT.length).all (fun f => Nat.beq (seqT.getD f (0, 0)).1 0 || (Nat.beq f 49 || Nat.beq f 47 || Nat.beq f 44)) = true := by kernel_rfl
 intro f he
 rcases Nat.lt_or_ge f seqT.length with hf | hf
 · rw [List.all_eq_true] at h
   have := h f (List.mem_range.2 hf)
   rw [Bool.or_eq_true] at this
   rcases this with h | h
   · exact absurd (Nat.eq_of_beq_eq_true h) he
   · simp only [Bool.or_eq_true] at h
     rcases h with (h | h) | h
     · exact .inl (Nat.eq_of_beq_eq_true h)
     · exact .inr (.inl (Nat.eq_of_beq_eq_true h))
     · exact .inr (.inr (Nat.eq_of_beq_eq_true h))
 · rw [List.getD_eq_getElem?_getD, List.getElem?_eq_none hf] at he; exact absurd rfl he
theorem fnOk : FnOk P ann where
 name := by
  intro f fn hf
  have h := names_ok
  simp only [namesOk, List.all_eq_true] at h
  have := h fn (Array.mem_toList_iff.2 (Array.mem_of_getElem? hf))
  simpa using this
 pure := by
  intro f hp hk
  have hlt : f < P.funcs.size := by
   have e : P.funcs.size = pureT.length := by kernel_rfl
   rw [e]
   rcases Nat.lt_or_ge f pureT.length with h | h
   · exact h
   · have : ann.pure f = pureT.getD f false := rfl
     rw [this, List.getD_eq_getElem?_getD, List.getElem?_eq_none h] at hp
     cases hp
  have h := rets_ok
  simp only [retsOk, List.all_eq_true, List.mem_range] at h
  have := h f hlt
  rw [hp, hk] at this
  cases this
 glob := by
  intro i t v h
  have e : ann.glob i = globT.getD i none := rfl
  rw [e] at h
  match i, h with
  | 0, h => cases h
  | 1, h => cases h; first | rfl | exact (show glob1.clean = true by kernel_rfl)
  | 2, h => cases h; first | rfl | exact (show glob2.clean = true by kernel_rfl)
  | 3, h => cases h; first | rfl | exact (show glob3.clean = true by kernel_rfl)
  | 4, h => cases h
  | 5, h => cases h
  | 6, h => cases h; first | rfl | exact (show glob6.clean = true by kernel_rfl)
  | 7, h => cases h; first | rfl | exact (show glob7.clean = true by kernel_rfl)
  | n + 8, h => simp [globT] at h
 ext := by
  intro f hf h0
  rcases ext_one f hf with rfl | rfl
  · rw [show ann.nat 89 = 1 by kernel_rfl] at h0; cases h0
  · rw [show ann.nat 93 = 2 by kernel_rfl] at h0; cases h0
 nat := by
  intro f hf h0
  rcases ext_one f hf with rfl | rfl
  · rw [show ann.nat 89 = 1 by kernel_rfl]; exact ⟨funcOf P 89, Extern.BytealgIndexByte.indexByte, by kernel_rfl, by kernel_rfl, by kernel_rfl, by kernel_rfl, fun s c w => Lib.run_indexByteString s c w⟩
  · rw [show ann.nat 93 = 2 by kernel_rfl]; exact ⟨funcOf P 93, Extern.BytealgCount.count, by kernel_rfl, by kernel_rfl, by kernel_rfl, by kernel_rfl, fun s c w => Lib.run_countString s c w⟩
 seq := by
  intro f hf
  rcases seq_one f hf with rfl | rfl | rfl
  · exact aps_ok
  · exact atoi_ok
  · exact itoa_ok
theorem laid_out : laidOutB P = true := by kernel_rfl
theorem own_knob : ownKnob Tryd.prog.godebug = none := by kernel_rfl
def laid2 : List (String × DataW Unit) := [("math/bits.deBruijn32tab", Rows.laid_math_bits_deBruijn32tab), ("math/bits.deBruijn64tab", Rows.laid_math_bits_deBruijn64tab), ("internal/strconv.uint64pow10", Rows.laid_internal_strconv_uint64pow10), ("unicode/utf8.acceptRanges", Rows.laid_unicode_utf8_acceptRanges), ("strconv.ErrRange", Rows.laid_strconv_ErrRange), ("strconv.ErrSyntax", Rows.laid_strconv_ErrSyntax), ("unicode/utf8.first", Rows.laid_unicode_utf8_first)]
theorem globOk {w : World} (h : laidMetH Tryd.prog laid2 w) : GlobOk P ann (G.start w) w := by
 rw [MakeChecks.laidMetH_plain _ _ _ (by kernel_rfl)] at h
 obtain ⟨ps, ⟨g0, t0, cs0, f0, p0, q0, hg0, ht0, hv0, hd0, ⟨g1, t1, cs1, f1, p1, q1, hg1, ht1, hv1, hd1, ⟨g2, t2, cs2, f2, p2, q2, hg2, ht2, hv2, hd2, ⟨g3, t3, cs3, f3, p3, q3, hg3, ht3, hv3, hd3, ⟨g4, t4, cs4, f4, p4, q4, hg4, ht4, hv4, hd4, ⟨g5, t5, cs5, f5, p5, q5, hg5, ht5, hv5, hd5, _, _⟩, _⟩, _⟩, _⟩, _⟩, _⟩, _, _⟩ := h
 obtain rfl := Option.some.inj ((show Tryd.prog.globalNamed "strconv.ErrSyntax" = some 1 by kernel_rfl).symm.trans hg5)
 obtain rfl := Option.some.inj ((show (Tryd.prog.globals[1]?).map (·.type) = some 69 by kernel_rfl).symm.trans ht5)
 have m_ErrSyntax := glob_I (t := 69) (by kernel_rfl) (by kernel_rfl) hg5 hv5 hd5
 obtain rfl := Option.some.inj ((show Tryd.prog.globalNamed "strconv.ErrRange" = some 2 by kernel_rfl).symm.trans hg4)
 obtain rfl := Option.some.inj ((show (Tryd.prog.globals[2]?).map (·.type) = some 69 by kernel_rfl).symm.trans ht4)
 have m_ErrRange := glob_I (t := 69) (by kernel_rfl) (by kernel_rfl) hg4 hv4 hd4
 obtain rfl := Option.some.inj ((show Tryd.prog.globalNamed "internal/strconv.uint64pow10" = some 3 by kernel_rfl).symm.trans hg2)
 obtain rfl := Option.some.inj ((show (Tryd.prog.globals[3]?).map (·.type) = some 128 by kernel_rfl).symm.trans ht2)
 have m_uint64pow10 := glob_V lay (n := 3) (t := 128) (by kernel_rfl) hg2 hv2 hd2
 obtain rfl := Option.some.inj ((show Tryd.prog.globalNamed "math/bits.deBruijn32tab" = some 6 by kernel_rfl).symm.trans hg0)
 obtain rfl := Option.some.inj ((show (Tryd.prog.globals[6]?).map (·.type) = some 140 by kernel_rfl).symm.trans ht0)
 have m_deBruijn32tab := glob_V lay (n := 3) (t := 140) (by kernel_rfl) hg0 hv0 hd0
 obtain rfl := Option.some.inj ((show Tryd.prog.globalNamed "math/bits.deBruijn64tab" = some 7 by kernel_rfl).symm.trans hg1)
 obtain rfl := Option.some.inj ((show (Tryd.prog.globals[7]?).map (·.type) = some 141 by kernel_rfl).symm.trans ht1)
 have m_deBruijn64tab := glob_V lay (n := 3) (t := 141) (by kernel_rfl) hg1 hv1 hd1
 intro i t v hi
 have e : ann.glob i = globT.getD i none := rfl
 rw [e] at hi
 match i, hi with
 | 0, hi => cases hi
 | 1, hi => cases hi; exact m_ErrSyntax
 | 2, hi => cases hi; exact m_ErrRange
 | 3, hi => cases hi; rw [← (show toV P 3 128 (Rows.laid_internal_strconv_uint64pow10 (H := Unit)) = glob3 by kernel_rfl)]; exact m_uint64pow10
 | 4, hi => cases hi
 | 5, hi => cases hi
 | 6, hi => cases hi; rw [← (show toV P 3 140 (Rows.laid_math_bits_deBruijn32tab (H := Unit)) = glob6 by kernel_rfl)]; exact m_deBruijn32tab
 | 7, hi => cases hi; rw [← (show toV P 3 141 (Rows.laid_math_bits_deBruijn64tab (H := Unit)) = glob7 by kernel_rfl)]; exact m_deBruijn64tab
 | n + 8, hi => simp [globT] at hi
noncomputable def doorW (os : Os) : World :=
 let w := World.doorLaid Tryd.prog 400 os
 { w with heap := w.heap.modify 4 fun
   | .cells _ t frozen => .cells (Lib.firstTab.map fun z => Value.int .u8 z).toArray t frozen
   | o => o }
theorem door_met (os : Os) (args : Array Value) : laidMetH Tryd.prog laid2 ((doorW os).forCall (fun _ _ => 0) ⟨#[], args, []⟩).memory :=
 laidMetH_of_parts3 (fuel := 8) (laidMet_of_run3 8 (by kernel_rfl) (by kernel_rfl) (by kernel_rfl)) (by kernel_rfl) (by kernel_rfl)
theorem law_goes {f : FuncId} {vs h : List V} {args : Array Value} {w : World} (hl : laidMetH Tryd.prog laid2 w) (hr : Cl f vs [] = some (.bool true, h))
 (hlen : vs.length = args.size) (hv : ∀ (i : Nat) (v : V) (c : Value), vs[i]? = some v → args[i]? = some c → VR P (G.start w) w v c) (hno : noOwnL vs = true) :
 Calls Tryd.prog f args w fun e w' => e = .returned (.bool true) ∧ Go.RowKit.Below w.heap.size w w' :=
 law_calls lay fnOk follows chk_all hr (globOk hl) hlen hv hno
end Go.Proofs.YtaghnpjlhmgioaaDoor
end
