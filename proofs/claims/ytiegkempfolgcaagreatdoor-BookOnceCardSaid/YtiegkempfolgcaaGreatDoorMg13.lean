/-
  Part of the proof of a statement about the given program: an abstract machine over its code, the simulation, its functions' equations, what they compute.
-/
import Derived.Sort.AssemblyPlain
import Derived.Test.YtiegkempfolgcaaGreatDoorMg12
import Derived.Test.YtiegkempfolgcaaGreatDoorMg3
import Derived.Test.YtiegkempfolgcaaGreatDoorMg4
import Derived.Test.YtiegkempfolgcaaGreatDoorMg7
import Derived.Test.YtiegkempfolgcaaGreatDoorMg8
import Derived.Test.YtiegkempfolgcaaGreatDoorMg9
section
set_option linter.unusedVariables false
set_option linter.unusedSimpArgs false
set_option linter.unusedSectionVars false
set_option maxRecDepth 100000
namespace Go.Proofs.YtiegkempfolgcaaGreatDoor
open Go AM
namespace Ed
theorem ltE_iff (x y : Edg) : ltE x y = true ↔ (x.fr < y.fr ∨ x.fr = y.fr ∧ x.to < y.to) := by
 rw [ltE, decide_eq_true_eq, cmpE]
 by_cases h : x.fr = y.fr
 · rw [if_pos h]; constructor <;> intro k <;> omega
 · rw [if_neg h]; constructor <;> intro k <;> omega
theorem ltE_iff' (x y : Edg) : ltE x y = false ↔ ¬ (x.fr < y.fr ∨ x.fr = y.fr ∧ x.to < y.to) := by
 rw [← ltE_iff, Bool.not_eq_true]
theorem ltM_swo : Sort.SWO ltE where
 irrefl x := by rw [ltE_iff']; omega
 trans x y z := by simp only [ltE_iff]; omega
 ntrans x y z := by simp only [ltE_iff']; omega
section
variable {h0 : List V} {id N : Nat} (hid : id < h0.length) (hb62 : N < 1000000000000000000)
include hid hb62
noncomputable def pdLoop (h0 : List V) (id N a b limit : Nat) (wb wp : Bool) (d : Array Edg) : Option (V × List V) :=
 f133_l0 (winM id N) (iv a) (iv b) (iv limit) cm (.bool wb) (.bool wp) h0.length (HB h0 id d)
noncomputable def pdRest (h0 : List V) (id N a b limit : Nat) (wb wp : Bool) (pivot : Nat) (d3 : Array Edg) : Option (V × List V) :=
 f133_r17 (winM id N) (iv a) cm (iv pivot) (HB h0 id d3) fun t97_20 h_21 =>
 V.ite t97_20
 (f133_r18 (winM id N) (iv a) (iv b) cm (iv pivot) h_21 fun t15_22 h_23 =>
 f133_r19 t15_22 fun t1_24 =>
 f133_l0 (winM id N) t1_24 (iv b) (iv limit) cm (.bool wb) (.bool wp) h0.length h_23)
 (f133_r20 (winM id N) (iv a) (iv b) cm (iv pivot) h_21 fun t16_25 t17_26 h_27 =>
 f133_r21 t17_26 fun t11_28 =>
 f133_r22 (iv a) (iv b) t16_25 fun t18_29 t19_30 =>
 f133_r23 (iv (b - a)) fun t20_31 =>
 f133_r24 t18_29 t19_30 fun t125_32 =>
 V.ite t125_32
 (f133_r25 t18_29 t20_31 fun t10_33 =>
 f133_r26 (winM id N) (iv a) (iv limit) cm t16_25 h_27 fun h_34 =>
 f133_r27 t16_25 fun t1_35 =>
 f133_l0 (winM id N) t1_35 (iv b) (iv limit) cm t10_33 t11_28 h0.length h_34)
 (f133_r28 t19_30 t20_31 fun t10_36 =>
 f133_r29 (winM id N) (iv b) (iv limit) cm t16_25 h_27 fun h_37 =>
 f133_r30 t16_25 fun t2_38 =>
 f133_l0 (winM id N) (iv a) t2_38 (iv limit) cm t10_36 t11_28 h0.length h_37))
theorem pd_ins {a b limit : Nat} {wb wp : Bool} {d : Array Edg} (hN : N = d.size) (hab : a ≤ b) (hb : b ≤ N) (h12 : b - a ≤ 12) : pdLoop h0 id N a b limit wb wp d = some (.tup [], HB h0 id (Sort.insertionSort ltE d a b)) := by
 rw [pdLoop, f133_l0_eq, f133_r2]
 refine (subT (by omega) (by omega) _).trans ?_
 rw [f133_r3]
 refine (leqT (by omega) _).trans ?_
 rw [ite_tt, f133_r4]
 refine (bstep (insertion_am hid hb62 hN hb hab) _).trans ?_
 exact hb_ret _
theorem pd_heap {a b : Nat} {wb wp : Bool} {d : Array Edg} (hN : N = d.size) (hab : a ≤ b) (hb : b ≤ N) (h12 : ¬ b - a ≤ 12) : pdLoop h0 id N a b 0 wb wp d = some (.tup [], HB h0 id (Sort.heapSort ltE d a b)) := by
 rw [pdLoop, f133_l0_eq, f133_r2]
 refine (subT (by omega) (by omega) _).trans ?_
 rw [f133_r3]
 refine (leqF (by omega) _).trans ?_
 rw [ite_ff, f133_r5]
 refine (eqlT (by omega) _).trans ?_
 rw [ite_tt, f133_r6]
 refine (bstep (heap_am hid hb62 hN hb (by omega)) _).trans ?_
 exact hb_ret _
theorem pd_pre {a b limit : Nat} {wb wp : Bool} {d : Array Edg} (hN : N = d.size) (hab : a ≤ b) (hb : b ≤ N) (h12 : ¬ b - a ≤ 12) (hl : ¬ limit = 0) (h62 : limit < 1000000000000000000)
 {d1 d2 : Array Edg} {limit1 pivot : Nat} {c : Nat × Sort.Hint} {hint : Sort.Hint} {pi : Array Edg × Bool}
 (e1 : d1 = if (!wb) = true then Sort.breakPatterns d a b else d) (el : limit1 = if (!wb) = true then limit - 1 else limit) (ec : c = Sort.choosePivot ltE d1 a b)
 (e2 : d2 = if c.2 = .decreasing then Sort.reverseRange d1 a b else d1) (ep : pivot = if c.2 = .decreasing then (b - 1) - (c.1 - a) else c.1)
 (eh : hint = if c.2 = .decreasing then Sort.Hint.increasing else c.2) (epi : pi = if (wb && wp && decide (hint = .increasing)) = true then Sort.partialInsertionSort ltE d2 a b else (d2, false)) :
 pdLoop h0 id N a b limit wb wp d = if pi.2 = true then some (.tup [], HB h0 id pi.1) else pdRest h0 id N a b limit1 wb wp pivot pi.1 := by
 have s1 : d1.size = d.size := by
  rw [e1]; split
  · exact (Sort.breakPatterns_holds d a b hab (by omega)).1
  · rfl
 have hN1 : N = d1.size := by rw [s1]; exact hN
 have s2 : d2.size = d1.size := by
  rw [e2]; split
  · exact (Sort.reverseRange_holds d1 a b hab (by omega)).1
  · rfl
 have hN2 : N = d2.size := by rw [s2]; exact hN1
 have hc0 := Sort.choosePivot_holds ltE d1 a b (by omega)
 rw [← ec] at hc0
 have st3 : ∀ hi : Nat, hi = hintN hint → (f133_r15 (.bool wb) (.bool wp) (iv hi) fun t75_18 =>
  jn (fun h_19 => f133_r17 (winM id N) (iv a) cm (iv pivot) h_19 fun t97_20 h_21 =>
   V.ite t97_20
   (f133_r18 (winM id N) (iv a) (iv b) cm (iv pivot) h_21 fun t15_22 h_23 =>
   f133_r19 t15_22 fun t1_24 =>
   f133_l0 (winM id N) t1_24 (iv b) (iv limit1) cm (.bool wb) (.bool wp) h0.length h_23)
   (f133_r20 (winM id N) (iv a) (iv b) cm (iv pivot) h_21 fun t16_25 t17_26 h_27 =>
   f133_r21 t17_26 fun t11_28 =>
   f133_r22 (iv a) (iv b) t16_25 fun t18_29 t19_30 =>
   f133_r23 (iv (b - a)) fun t20_31 =>
   f133_r24 t18_29 t19_30 fun t125_32 =>
   V.ite t125_32
   (f133_r25 t18_29 t20_31 fun t10_33 =>
   f133_r26 (winM id N) (iv a) (iv limit1) cm t16_25 h_27 fun h_34 =>
   f133_r27 t16_25 fun t1_35 =>
   f133_l0 (winM id N) t1_35 (iv b) (iv limit1) cm t10_33 t11_28 h0.length h_34)
   (f133_r28 t19_30 t20_31 fun t10_36 =>
   f133_r29 (winM id N) (iv b) (iv limit1) cm t16_25 h_27 fun h_37 =>
   f133_r30 t16_25 fun t2_38 =>
   f133_l0 (winM id N) (iv a) t2_38 (iv limit1) cm t10_36 t11_28 h0.length h_37)))
  (fun (j2 : List V → Option (V × List V)) => V.ite t75_18
   (f133_r16 (winM id N) (iv a) (iv b) cm (HB h0 id d2) fun t80_39 h_40 =>
   V.ite t80_39
   (if (List.all [] V.okE) = true then finT h0.length h_40 (V.tup []) else none)
   (j2 h_40))
   (j2 (HB h0 id d2)))) = if pi.2 = true then some (.tup [], HB h0 id pi.1) else pdRest h0 id N a b limit1 wb wp pivot pi.1 := by
  intro hi ehi
  rw [f133_r15]
  have no : pi = (d2, false) → (jn (fun h_19 => f133_r17 (winM id N) (iv a) cm (iv pivot) h_19 fun t97_20 h_21 =>
   V.ite t97_20
   (f133_r18 (winM id N) (iv a) (iv b) cm (iv pivot) h_21 fun t15_22 h_23 =>
   f133_r19 t15_22 fun t1_24 =>
   f133_l0 (winM id N) t1_24 (iv b) (iv limit1) cm (.bool wb) (.bool wp) h0.length h_23)
   (f133_r20 (winM id N) (iv a) (iv b) cm (iv pivot) h_21 fun t16_25 t17_26 h_27 =>
   f133_r21 t17_26 fun t11_28 =>
   f133_r22 (iv a) (iv b) t16_25 fun t18_29 t19_30 =>
   f133_r23 (iv (b - a)) fun t20_31 =>
   f133_r24 t18_29 t19_30 fun t125_32 =>
   V.ite t125_32
   (f133_r25 t18_29 t20_31 fun t10_33 =>
   f133_r26 (winM id N) (iv a) (iv limit1) cm t16_25 h_27 fun h_34 =>
   f133_r27 t16_25 fun t1_35 =>
   f133_l0 (winM id N) t1_35 (iv b) (iv limit1) cm t10_33 t11_28 h0.length h_34)
   (f133_r28 t19_30 t20_31 fun t10_36 =>
   f133_r29 (winM id N) (iv b) (iv limit1) cm t16_25 h_27 fun h_37 =>
   f133_r30 t16_25 fun t2_38 =>
   f133_l0 (winM id N) (iv a) t2_38 (iv limit1) cm t10_36 t11_28 h0.length h_37)))
   (fun (j2 : List V → Option (V × List V)) => V.ite (.bool false)
    (f133_r16 (winM id N) (iv a) (iv b) cm (HB h0 id d2) fun t80_39 h_40 =>
    V.ite t80_39
    (if (List.all [] V.okE) = true then finT h0.length h_40 (V.tup []) else none)
    (j2 h_40))
    (j2 (HB h0 id d2)))) = if pi.2 = true then some (.tup [], HB h0 id pi.1) else pdRest h0 id N a b limit1 wb wp pivot pi.1 := by
   intro e
   rw [e, jn, ite_ff]; rfl
  cases wb with
  | false => exact no (by rw [epi, if_neg (by simp)])
  | true =>
    cases wp with
    | false => exact no (by rw [epi, if_neg (by simp)])
    | true =>
      rw [ite_tt, ite_tt]
      by_cases hh : hint = .increasing
      · refine (eqlT (by rw [ehi, hh]; rfl) _).trans ?_
        rw [jn, ite_tt, f133_r16]
        refine (bstep (partIns_am hid hb62 hN2 hb (by omega)) _).trans ?_
        have ee : pi = Sort.partialInsertionSort ltE d2 a b := by rw [epi, if_pos (by simp [hh])]
        rw [← ee, ite_lt]
        by_cases hp : pi.2 = true
        · rw [if_pos hp, if_pos hp]; exact hb_ret _
        · rw [if_neg hp, if_neg hp]; rfl
      · refine (eqlF (by rw [ehi]; cases hint <;> first | exact absurd rfl hh | (simp [hintN])) _).trans ?_
        exact no (by rw [epi, if_neg (by simp [hh])])
 have st2 : (f133_r10 (winM id N) (iv a) (iv b) cm (HB h0 id d1) fun t13_11 t14_12 h_13 =>
  f133_r11 t14_12 fun t56_14 =>
  jn (fun t13_15 t14_16 h_17 => f133_r15 (.bool wb) (.bool wp) t14_16 fun t75_18 =>
  jn (fun h_19 => f133_r17 (winM id N) (iv a) cm t13_15 h_19 fun t97_20 h_21 =>
   V.ite t97_20
   (f133_r18 (winM id N) (iv a) (iv b) cm t13_15 h_21 fun t15_22 h_23 =>
   f133_r19 t15_22 fun t1_24 =>
   f133_l0 (winM id N) t1_24 (iv b) (iv limit1) cm (.bool wb) (.bool wp) h0.length h_23)
   (f133_r20 (winM id N) (iv a) (iv b) cm t13_15 h_21 fun t16_25 t17_26 h_27 =>
   f133_r21 t17_26 fun t11_28 =>
   f133_r22 (iv a) (iv b) t16_25 fun t18_29 t19_30 =>
   f133_r23 (iv (b - a)) fun t20_31 =>
   f133_r24 t18_29 t19_30 fun t125_32 =>
   V.ite t125_32
   (f133_r25 t18_29 t20_31 fun t10_33 =>
   f133_r26 (winM id N) (iv a) (iv limit1) cm t16_25 h_27 fun h_34 =>
   f133_r27 t16_25 fun t1_35 =>
   f133_l0 (winM id N) t1_35 (iv b) (iv limit1) cm t10_33 t11_28 h0.length h_34)
   (f133_r28 t19_30 t20_31 fun t10_36 =>
   f133_r29 (winM id N) (iv b) (iv limit1) cm t16_25 h_27 fun h_37 =>
   f133_r30 t16_25 fun t2_38 =>
   f133_l0 (winM id N) (iv a) t2_38 (iv limit1) cm t10_36 t11_28 h0.length h_37)))
  (fun (j2 : List V → Option (V × List V)) => V.ite t75_18
   (f133_r16 (winM id N) (iv a) (iv b) cm h_17 fun t80_39 h_40 =>
   V.ite t80_39
   (if (List.all [] V.okE) = true then finT h0.length h_40 (V.tup []) else none)
   (j2 h_40))
   (j2 h_17)))
  (fun (j1 : V → V → List V → Option (V × List V)) => V.ite t56_14
   (f133_r12 (winM id N) (iv a) (iv b) cm h_13 fun h_41 =>
   f133_r13 (iv a) (iv b) t13_11 fun t13_42 =>
   f133_r14 fun t14_43 =>
   j1 t13_42 t14_43 h_41)
   (j1 t13_11 t14_12 h_13))) = if pi.2 = true then some (.tup [], HB h0 id pi.1) else pdRest h0 id N a b limit1 wb wp pivot pi.1 := by
  rw [f133_r10]
  refine (bstep (pivot_am hid hb62 hN1 hb (by omega)) _).trans <| (ext0 _ _ _).trans <| (ext1 _ _ _).trans ?_
  rw [← ec, f133_r11]
  by_cases hd : c.2 = .decreasing
  · refine (eqlT (by rw [hd]; rfl) _).trans ?_
    rw [jn, ite_tt, f133_r12]
    rw [if_pos hd] at e2 ep eh
    refine (bstep (reverse_am hid hb62 hN1 hb (by omega)) _).trans ?_
    rw [f133_r13]
    refine (subT (b := 1) (by omega) (by omega) _).trans <| (subT (by omega) (by omega) _).trans <| (subT (by omega) (by omega) _).trans ?_
    rw [f133_r14, ← e2, ← ep]
    exact st3 1 (by rw [eh]; rfl)
  · refine (eqlF (by cases hc2 : c.2 <;> first | exact absurd hc2 hd | (simp [hintN])) _).trans ?_
    rw [jn, ite_ff]
    rw [if_neg hd] at e2 ep eh
    rw [← e2, ← ep]
    exact st3 _ (by rw [eh])
 rw [pdLoop, f133_l0_eq, f133_r2]
 refine (subT (by omega) (by omega) _).trans ?_
 rw [f133_r3]
 refine (leqF (by omega) _).trans ?_
 rw [ite_ff, f133_r5]
 refine (eqlF (by omega) _).trans ?_
 rw [ite_ff, f133_r7]
 refine (notT _ _).trans ?_
 rw [jn]
 cases wb with
 | true =>
   rw [if_neg (by simp)] at e1 el
   rw [Bool.not_true, ite_ff, ← e1, ← el]
   exact st2
 | false =>
   rw [if_pos (by simp)] at e1 el
   rw [Bool.not_false, ite_tt, f133_r8]
   refine (bstep (break_am hid hb62 hN hb (by omega)) _).trans ?_
   rw [f133_r9]
   refine (subT (b := 1) (by omega) (by omega) _).trans ?_
   rw [← e1, ← el]
   exact st2
end
end Ed
end Go.Proofs.YtiegkempfolgcaaGreatDoor
end

section
set_option linter.unusedVariables false
set_option linter.unusedSimpArgs false
set_option linter.unusedSectionVars false
set_option maxRecDepth 100000
namespace Go.Proofs.YtiegkempfolgcaaGreatDoor
open Go AM
namespace Ed
section
variable {h0 : List V} {id N : Nat} (hid : id < h0.length) (hb62 : N < 1000000000000000000)
include hid hb62
theorem rest_test {a b limit pivot : Nat} {wb wp : Bool} {d : Array Edg} (hN : N = d.size) (hp : pivot < N) (ha : a ≤ N) (K : V → List V → Option (V × List V)) :
 f133_r17 (winM id N) (iv a) cm (iv pivot) (HB h0 id d) K = K (.bool (decide (a > 0) && !ltE d[a - 1]! d[pivot]!)) (HB h0 id d) := by
 rw [f133_r17]
 by_cases h : a > 0
 · refine (gtrT (by omega) _).trans ?_
   rw [ite_tt]
   refine (subT (b := 1) (by omega) (by omega) _).trans <| (atH hid hN (by omega) _).trans <| (atH hid hN hp _).trans <| (cmpV _ _ (fun b h1 => (un .not b).bind fun t => _)).trans <| (notT _ _).trans ?_
   rw [decide_eq_true h, Bool.true_and]
 · refine (gtrF (by omega) _).trans ?_
   rw [ite_ff, decide_eq_false h, Bool.false_and]
theorem rest_eq {a b limit pivot : Nat} {wb wp : Bool} {d : Array Edg} (hN : N = d.size) (hp : pivot < N) (hab : a < b) (hb : b ≤ N) (h : (decide (a > 0) && !ltE d[a - 1]! d[pivot]!) = true)
 {mid : Nat} {d4 : Array Edg} (hx : Sort.partitionEqual ltE d a b pivot = (mid, d4)) : pdRest h0 id N a b limit wb wp pivot d = pdLoop h0 id N mid b limit wb wp d4 := by
 rw [pdRest, rest_test hid hb62 (b := b) (limit := limit) (wb := wb) (wp := wp) hN hp (by omega), h, ite_tt, f133_r18]
 refine (bstep (partEq_am hid hb62 hN hb hab hp) _).trans ?_
 rw [hx, f133_r19]; rfl
theorem call82 (a b limit : Nat) (d : Array Edg) : Cl 133 [winM id N, iv a, iv b, iv limit, cm] (HB h0 id d) = pdLoop h0 id N a b limit true true d := by
 rw [f133_eq, f133_r0, f133_r1, hb_len]; rfl
theorem quo8 {B : Type} {n : Nat} (hn : n < 1000000000000000000) (K : V → Option B) : (bin .quo (iv n) (.int .i64 8)).bind K = K (iv (n / 8)) := by
 refine (bstep (b_quo _ _ _ (by omega)) _).trans ?_
 rw [show (n : Int).tdiv 8 = ((n / 8 : Nat) : Int) by rfl, wrap_i64 (by omega) (by omega)] <;> rfl
theorem geqD {B : Type} {a b : Nat} (K : V → Option B) : (bin .geq (iv a) (iv b)).bind K = K (.bool (decide (a ≥ b))) := by
 refine (bstep (b_geq _ _ _) _).trans ?_
 congr 2
 simp
theorem rest_l {a b limit pivot : Nat} {wb wp : Bool} {d : Array Edg} (hN : N = d.size) (hp : pivot < N) (hab : a < b) (hb : b ≤ N) (h : ¬ (decide (a > 0) && !ltE d[a - 1]! d[pivot]!) = true)
 {mid : Nat} {ap : Bool} {d4 dl : Array Edg} (hx : Sort.partition ltE d a b pivot = (mid, ap, d4)) (h1 : a ≤ mid) (h2 : mid < b) (hlt : mid - a < b - mid)
 (hl : pdLoop h0 id N a mid limit true true d4 = some (.tup [], HB h0 id dl)) :
 pdRest h0 id N a b limit wb wp pivot d = pdLoop h0 id N (mid + 1) b limit (decide (mid - a ≥ (b - a) / 8)) ap dl := by
 rw [pdRest, rest_test hid hb62 (b := b) (limit := limit) (wb := wb) (wp := wp) hN hp (by omega), Bool.eq_false_iff.2 h, ite_ff, f133_r20]
 refine (bstep (part_am hid hb62 hN hb hab hp) _).trans <| (ext0 _ _ _).trans <| (ext1 _ _ _).trans ?_
 rw [hx, f133_r21, f133_r22]
 simp only []
 refine (subT (by omega) (by omega) _).trans <| (subT (by omega) (by omega) _).trans ?_
 rw [f133_r23]
 refine (quo8 hid hb62 (by omega) _).trans ?_
 rw [f133_r24]
 refine (lssT (by omega) _).trans ?_
 rw [ite_tt, f133_r25]
 refine (geqD hid hb62 _).trans ?_
 rw [f133_r26]
 refine (bstep ((call82 hid hb62 a mid limit d4).trans hl) _).trans ?_
 rw [f133_r27]
 refine (addT (b := 1) (by omega) _).trans ?_
 rfl
theorem rest_r {a b limit pivot : Nat} {wb wp : Bool} {d : Array Edg} (hN : N = d.size) (hp : pivot < N) (hab : a < b) (hb : b ≤ N) (h : ¬ (decide (a > 0) && !ltE d[a - 1]! d[pivot]!) = true)
 {mid : Nat} {ap : Bool} {d4 dl : Array Edg} (hx : Sort.partition ltE d a b pivot = (mid, ap, d4)) (h1 : a ≤ mid) (h2 : mid < b) (hlt : ¬ mid - a < b - mid)
 (hl : pdLoop h0 id N (mid + 1) b limit true true d4 = some (.tup [], HB h0 id dl)) :
 pdRest h0 id N a b limit wb wp pivot d = pdLoop h0 id N a mid limit (decide (b - mid ≥ (b - a) / 8)) ap dl := by
 rw [pdRest, rest_test hid hb62 (b := b) (limit := limit) (wb := wb) (wp := wp) hN hp (by omega), Bool.eq_false_iff.2 h, ite_ff, f133_r20]
 refine (bstep (part_am hid hb62 hN hb hab hp) _).trans <| (ext0 _ _ _).trans <| (ext1 _ _ _).trans ?_
 rw [hx, f133_r21, f133_r22]
 simp only []
 refine (subT (by omega) (by omega) _).trans <| (subT (by omega) (by omega) _).trans ?_
 rw [f133_r23]
 refine (quo8 hid hb62 (by omega) _).trans ?_
 rw [f133_r24]
 refine (lssF (by omega) _).trans ?_
 rw [ite_ff, f133_r28]
 refine (geqD hid hb62 _).trans ?_
 rw [f133_r29]
 refine (addT (b := 1) (by omega) _).trans ?_
 refine (bstep ((call82 hid hb62 (mid + 1) b limit d4).trans hl) _).trans ?_
 rw [f133_r30]
 rfl
theorem pd_all (d : Array Edg) (a b limit : Nat) (wb wp : Bool) : a ≤ b → b ≤ d.size → N = d.size → limit < 1000000000000000000 → Sort.Below ltE a b d →
 pdLoop h0 id N a b limit wb wp d = some (.tup [], HB h0 id (Sort.pdq ltE d a b limit wb wp)) := by
 fun_induction Sort.pdq ltE d a b limit wb wp
 case case1 d a b limit wb wp h12 => intro hab hb hN _ _; exact pd_ins hid hb62 hN hab (by omega) h12
 case case2 d a b wb wp h12 => intro hab hb hN _ _; exact pd_heap hid hb62 hN hab (by omega) h12
 case case3 d a b limit wb wp h12 hl d1 c d2 hint pi hpi2 =>
  intro hab hb hN hlim hB
  exact (pd_pre hid hb62 (limit1 := if (!wb) = true then limit - 1 else limit) (pivot := if c.2 = .decreasing then (b - 1) - (c.1 - a) else c.1) hN hab (by omega) h12 hl hlim rfl rfl rfl rfl rfl rfl rfl).trans (if_pos hpi2)
 case case4 d a b limit0 wb wp h12 hl d1 limit c d2 pivot hint pi hpi2 d3 hc mid d4 hx hg ih1 =>
  intro hab hb hN hlim hB
  have s1 : Sort.PermIn a b d d1 := Sort.step_break d hab hb _
  have b1 : b ≤ d1.size := by rw [s1.1]; exact hb
  have s2 : Sort.PermIn a b d1 d2 := Sort.step_reverse Sort.reverseRange_holds d1 hab b1 _
  have b2 : b ≤ d2.size := by rw [s2.1]; exact b1
  have B2 : Sort.Below ltE a b d2 := (hB.perm hb s1).perm b1 s2
  have s3 := Sort.step_partial (Sort.partialInsertionSort_holds (lt := ltE)) ltM_swo d2 (a := a) (b := b) (by omega) b2 B2 ((wb && wp && decide (hint = Sort.Hint.increasing)) = true)
  have s3' : Sort.PermIn a b d2 d3 := s3.1
  have b3 : b ≤ d3.size := by rw [s3'.1]; exact b2
  have B3 : Sort.Below ltE a b d3 := B2.perm b2 s3'
  have hN3 : N = d3.size := by rw [s3'.1, s2.1, s1.1]; exact hN
  have hc0 := Sort.choosePivot_holds ltE d1 a b (by omega)
  have hpv : a ≤ pivot ∧ pivot < b := Sort.pivot_range hc0.1 hc0.2 _
  have hc' := hc
  simp only [Bool.and_eq_true, decide_eq_true_eq, Bool.not_eq_true'] at hc'
  obtain ⟨_, hm2, hs4, hB4, hfin⟩ := Sort.round_eq ltM_swo (Sort.partitionEqual_holds ltE) hc'.1 hpv.1 hpv.2 b3 B3 hc'.2 hx
  have hlim1 : limit ≤ limit0 := by show (if (!wb) = true then limit0 - 1 else limit0) ≤ limit0; split <;> omega
  refine (pd_pre hid hb62 (limit1 := limit) (pivot := pivot) hN hab (by omega) h12 hl hlim rfl rfl rfl rfl rfl rfl rfl).trans ((if_neg hpi2).trans ?_)
  refine (rest_eq hid hb62 hN3 (by omega) (by omega) (by omega) hc hx).trans ?_
  exact ih1 hm2 (by rw [hs4]; exact b3) (by rw [hs4]; exact hN3) (by omega) hB4
 case case5 d a b limit wb wp h12 hl d1 c d2 pivot hint pi hpi2 d3 hc mid d4 hx hg =>
  intro hab hb hN hlim hB
  have s1 : Sort.PermIn a b d d1 := Sort.step_break d hab hb _
  have b1 : b ≤ d1.size := by rw [s1.1]; exact hb
  have s2 : Sort.PermIn a b d1 d2 := Sort.step_reverse Sort.reverseRange_holds d1 hab b1 _
  have b2 : b ≤ d2.size := by rw [s2.1]; exact b1
  have B2 : Sort.Below ltE a b d2 := (hB.perm hb s1).perm b1 s2
  have s3 := Sort.step_partial (Sort.partialInsertionSort_holds (lt := ltE)) ltM_swo d2 (a := a) (b := b) (by omega) b2 B2 ((wb && wp && decide (hint = Sort.Hint.increasing)) = true)
  have s3' : Sort.PermIn a b d2 d3 := s3.1
  have b3 : b ≤ d3.size := by rw [s3'.1]; exact b2
  have B3 : Sort.Below ltE a b d3 := B2.perm b2 s3'
  have hN3 : N = d3.size := by rw [s3'.1, s2.1, s1.1]; exact hN
  have hc0 := Sort.choosePivot_holds ltE d1 a b (by omega)
  have hpv : a ≤ pivot ∧ pivot < b := Sort.pivot_range hc0.1 hc0.2 _
  simp only [Bool.and_eq_true, decide_eq_true_eq, Bool.not_eq_true'] at hc
  obtain ⟨g1, g2, _⟩ := Sort.round_eq ltM_swo (Sort.partitionEqual_holds ltE) hc.1 hpv.1 hpv.2 b3 B3 hc.2 hx
  exact absurd ⟨g1, g2⟩ hg
 case case6 d a b limit0 wb wp h12 hl d1 limit c d2 pivot hint pi hpi2 d3 hc mid ap d4 hx hg hlt ih3 ih2 ih1 =>
  intro hab hb hN hlim hB
  have s1 : Sort.PermIn a b d d1 := Sort.step_break d hab hb _
  have b1 : b ≤ d1.size := by rw [s1.1]; exact hb
  have s2 : Sort.PermIn a b d1 d2 := Sort.step_reverse Sort.reverseRange_holds d1 hab b1 _
  have b2 : b ≤ d2.size := by rw [s2.1]; exact b1
  have B2 : Sort.Below ltE a b d2 := (hB.perm hb s1).perm b1 s2
  have s3 := Sort.step_partial (Sort.partialInsertionSort_holds (lt := ltE)) ltM_swo d2 (a := a) (b := b) (by omega) b2 B2 ((wb && wp && decide (hint = Sort.Hint.increasing)) = true)
  have s3' : Sort.PermIn a b d2 d3 := s3.1
  have b3 : b ≤ d3.size := by rw [s3'.1]; exact b2
  have B3 : Sort.Below ltE a b d3 := B2.perm b2 s3'
  have hN3 : N = d3.size := by rw [s3'.1, s2.1, s1.1]; exact hN
  have hc0 := Sort.choosePivot_holds ltE d1 a b (by omega)
  have hpv : a ≤ pivot ∧ pivot < b := Sort.pivot_range hc0.1 hc0.2 _
  obtain ⟨g1, g2, hs4, hBa, hBr, hleft, _⟩ := Sort.round_part ltM_swo (Sort.partition_holds ltE) hpv.1 hpv.2 b3 B3 hx
  have hlim1 : limit ≤ limit0 := by show (if (!wb) = true then limit0 - 1 else limit0) ≤ limit0; split <;> omega
  have L := Sort.pdq_sorts ltE ltM_swo d4 a mid limit true true g1 (by rw [hs4]; omega) hBa
  obtain ⟨hBL, hfin⟩ := hleft _ L.1 L.2
  refine (pd_pre hid hb62 (limit1 := limit) (pivot := pivot) hN hab (by omega) h12 hl hlim rfl rfl rfl rfl rfl rfl rfl).trans ((if_neg hpi2).trans ?_)
  refine (rest_l hid hb62 hN3 (by omega) (by omega) (by omega) hc hx g1 g2 hlt (ih3 g1 (by rw [hs4]; omega) (by rw [hs4]; exact hN3) (by omega) hBa)).trans ?_
  exact ih1 (by omega) (by rw [L.1.1, hs4]; exact b3) (by rw [L.1.1, hs4]; exact hN3) (by omega) hBL
 case case7 d a b limit0 wb wp h12 hl d1 limit c d2 pivot hint pi hpi2 d3 hc mid ap d4 hx hg hlt ih3 ih2 ih1 =>
  intro hab hb hN hlim hB
  have s1 : Sort.PermIn a b d d1 := Sort.step_break d hab hb _
  have b1 : b ≤ d1.size := by rw [s1.1]; exact hb
  have s2 : Sort.PermIn a b d1 d2 := Sort.step_reverse Sort.reverseRange_holds d1 hab b1 _
  have b2 : b ≤ d2.size := by rw [s2.1]; exact b1
  have B2 : Sort.Below ltE a b d2 := (hB.perm hb s1).perm b1 s2
  have s3 := Sort.step_partial (Sort.partialInsertionSort_holds (lt := ltE)) ltM_swo d2 (a := a) (b := b) (by omega) b2 B2 ((wb && wp && decide (hint = Sort.Hint.increasing)) = true)
  have s3' : Sort.PermIn a b d2 d3 := s3.1
  have b3 : b ≤ d3.size := by rw [s3'.1]; exact b2
  have B3 : Sort.Below ltE a b d3 := B2.perm b2 s3'
  have hN3 : N = d3.size := by rw [s3'.1, s2.1, s1.1]; exact hN
  have hc0 := Sort.choosePivot_holds ltE d1 a b (by omega)
  have hpv : a ≤ pivot ∧ pivot < b := Sort.pivot_range hc0.1 hc0.2 _
  obtain ⟨g1, g2, hs4, hBa, hBr, _, hright⟩ := Sort.round_part ltM_swo (Sort.partition_holds ltE) hpv.1 hpv.2 b3 B3 hx
  have hlim1 : limit ≤ limit0 := by show (if (!wb) = true then limit0 - 1 else limit0) ≤ limit0; split <;> omega
  have L := Sort.pdq_sorts ltE ltM_swo d4 (mid + 1) b limit true true (by omega) (by rw [hs4]; exact b3) hBr
  obtain ⟨hBL, hfin⟩ := hright _ L.1 L.2
  refine (pd_pre hid hb62 (limit1 := limit) (pivot := pivot) hN hab (by omega) h12 hl hlim rfl rfl rfl rfl rfl rfl rfl).trans ((if_neg hpi2).trans ?_)
  refine (rest_r hid hb62 hN3 (by omega) (by omega) (by omega) hc hx g1 g2 hlt (ih3 (by omega) (by rw [hs4]; exact b3) (by rw [hs4]; exact hN3) (by omega) hBr)).trans ?_
  exact ih1 g1 (by rw [L.1.1, hs4]; omega) (by rw [L.1.1, hs4]; exact hN3) (by omega) hBL
 case case8 d a b limit wb wp h12 hl d1 c d2 pivot hint pi hpi2 d3 hc mid ap d4 hx hg =>
  intro hab hb hN hlim hB
  have s1 : Sort.PermIn a b d d1 := Sort.step_break d hab hb _
  have b1 : b ≤ d1.size := by rw [s1.1]; exact hb
  have s2 : Sort.PermIn a b d1 d2 := Sort.step_reverse Sort.reverseRange_holds d1 hab b1 _
  have b2 : b ≤ d2.size := by rw [s2.1]; exact b1
  have B2 : Sort.Below ltE a b d2 := (hB.perm hb s1).perm b1 s2
  have s3 := Sort.step_partial (Sort.partialInsertionSort_holds (lt := ltE)) ltM_swo d2 (a := a) (b := b) (by omega) b2 B2 ((wb && wp && decide (hint = Sort.Hint.increasing)) = true)
  have s3' : Sort.PermIn a b d2 d3 := s3.1
  have b3 : b ≤ d3.size := by rw [s3'.1]; exact b2
  have B3 : Sort.Below ltE a b d3 := B2.perm b2 s3'
  have hN3 : N = d3.size := by rw [s3'.1, s2.1, s1.1]; exact hN
  have hc0 := Sort.choosePivot_holds ltE d1 a b (by omega)
  have hpv : a ≤ pivot ∧ pivot < b := Sort.pivot_range hc0.1 hc0.2 _
  obtain ⟨g1, g2, _⟩ := Sort.round_part ltM_swo (Sort.partition_holds ltE) hpv.1 hpv.2 b3 B3 hx
  exact absurd ⟨g1, g2⟩ hg
theorem sortFunc_am {d : Array Edg} (hN : N = d.size) :
 Cl 114 [winM id N, cm] (HB h0 id d) = some (.tup [], HB h0 id (Sort.sort ltE d)) := by
 rw [f114_eq, f114_r0]
 have l : lenV P 22 (winM id N).weak = some (iv N) := by simp [lenV, winM, V.weak, und_22, iv]
 refine (bstep l _).trans ?_
 rw [f114_r1]
 refine (bstep (conv_int und_126 ..) _).trans ?_
 rw [wrap_u64 (by omega) (by omega)]
 refine (bstep (len_am (n := N) (by omega)) _).trans ?_
 have hbl : Sort.bitsLen N ≤ 62 := (Sort.bitsLen_le_iff N 62).2 (by omega)
 have := pd_all hid hb62 d 0 N (Sort.bitsLen N) true true (Nat.zero_le _) (by omega) hN (by omega) (Or.inl rfl)
 refine (bstep ((call82 hid hb62 0 N (Sort.bitsLen N) d).trans this) _).trans ?_
 rw [hb_len, hb_ret, hN]; rfl
end
end Ed
end Go.Proofs.YtiegkempfolgcaaGreatDoor
end

section
set_option linter.unusedVariables false
set_option linter.unusedSimpArgs false
set_option linter.unusedSectionVars false
set_option maxRecDepth 100000
namespace Go.Proofs.YtiegkempfolgcaaGreatDoor
open Go AM
structure E0 where
 fr : Int
 to : Int
 w : Int
 deriving DecidableEq
abbrev tE : TypeId := 111
def vE0 (e : E0) : V := .agg tE [.int .i64 e.fr, .int .i64 e.to, .int .i64 e.w]
@[go_sem] theorem pl_vE0 (x : E0) : (vE0 x).pl = true := (rfl)
@[go_sem] theorem plL_vE0 (l : List E0) : plL (l.map vE0) = true := plL_map (fun _ => rfl) l
@[go_sem] theorem tyG_vE0 (x : E0) : tyG tE (vE0 x) = true := tyG_g ..
theorem E0_at {l : List E0} {i : Nat} (h : i < l.length) : (l.map vE0)[i]? = some (vE0 l[i]) := by simp [h]
structure Grf where
 n : Int
 es : List E0
abbrev vG (f : Fl) (g : Grf) : V := .agg 23 [.int .i64 g.n, .lst 112 f (g.es.map vE0)]
def oddE (n : Int) (e : E0) : Bool := decide (e.fr < 0) || decide (n ≤ e.fr) || decide (e.to < 0) || decide (n ≤ e.to) || decide (e.w < 0) || decide (1048576 < e.w)
abbrev rG : V := .ref 0 [] 24
theorem odd_am (n : Int) (l : V) (e : E0) : Cl 87 [vE0 e, rG] [.agg 23 [.int .i64 n, l]] = some (.bool (oddE n e), [.agg 23 [.int .i64 n, l]]) := by
 rw [f87_eq]
 simp only [vE0]
 repeat' first | rfl | refine br_d (fun _ => ?_) (fun _ => ?_) | refine br_b (fun _ => ?_) (fun _ => ?_) | simp (disch := first | assumption | omega | (with_reducible rfl) | (simp only [go_sem]; done) | (simp only [go_sem]; omega) | fail) only [↓reduceIte, ↓jn_eq, Nat.reduceAdd, go_sem]
 all_goals (simp_all [oddE] <;> omega)
abbrev cOdd : V := .clo 87 [rG]
theorem oddV {R : Type} (n : Int) (l : V) (e : E0) (k : V → List V → Option R) : callV P ann W cOdd [vE0 e] [.agg 23 [.int .i64 n, l]] k = k (.bool (oddE n e)) [.agg 23 [.int .i64 n, l]] :=
 callV_np2 k (by kernel_rfl) (by kernel_rfl) (odd_am n l e)
def fix1 {α : Type} (p : α → Bool) : Nat → List α → Int
 | _, [] => -1
 | i, x :: l => if p x = true then (i : Int) else fix1 p (i + 1) l
theorem fix1_iff {α : Type} (p : α → Bool) : ∀ (l : List α) (i : Nat), 0 ≤ fix1 p i l ↔ l.any p = true
 | [], i => by simp [fix1]
 | x :: l, i => by
   rw [fix1, List.any_cons]
   by_cases h : p x = true
   · rw [if_pos h, h]; simp
   · rw [if_neg h, fix1_iff p l (i + 1)]; simp [h]
theorem fix1_ge {α : Type} (p : α → Bool) (l : List α) (i : Nat) : decide (0 ≤ fix1 p i l) = l.any p := by
 rw [Bool.eq_iff_iff, decide_eq_true_eq]; exact fix1_iff p l i
theorem idxE_l0 (n : Int) (L : V) (es : List E0) (hl : es.length < 1000000) (f : Fl) : ∀ (m i : Nat), i + m = es.length →
 f112_l0 (.lst 112 f (es.map vE0)) cOdd (.int .i64 (es.length : Int)) (.int .i64 (i : Int)) 1 [.agg 23 [.int .i64 n, L]] =
  some (.int .i64 (fix1 (oddE n) i (es.drop i)), [.agg 23 [.int .i64 n, L]]) := by
 intro m
 induction m with
 | zero =>
   intro i hi
   rw [List.drop_eq_nil_of_le (by omega), f112_l0_eq]
   simp (disch := first | assumption | omega | (with_reducible rfl) | (simp only [go_sem]; done) | (simp only [go_sem]; omega) | fail) only [↓reduceIte, ↓jn_eq, Nat.reduceAdd, go_sem, fix1]
 | succ m ih =>
   intro i hi
   have h : i < es.length := by omega
   have := ih (i + 1) (by omega)
   rw [List.drop_eq_getElem_cons h, fix1, f112_l0_eq]
   by_cases ho : oddE n es[i] = true
   · rw [if_pos ho]
     simp (disch := first | assumption | omega | (with_reducible rfl) | (simp only [go_sem]; done) | (simp only [go_sem]; omega) | fail) only [↓reduceIte, ↓jn_eq, Nat.reduceAdd, go_sem, E0_at h, oddV, ho]
   · rw [if_neg ho, ← this]
     simp (disch := first | assumption | omega | (with_reducible rfl) | (simp only [go_sem]; done) | (simp only [go_sem]; omega) | fail) only [↓reduceIte, ↓jn_eq, Nat.reduceAdd, go_sem, E0_at h, oddV, ho]
theorem anyE_am (n : Int) (L : V) {es : List E0} (hl : es.length < 1000000) (f : Fl) : Cl 88 [.lst 112 f (es.map vE0), cOdd] [.agg 23 [.int .i64 n, L]] = some (.bool (es.any (oddE n)), [.agg 23 [.int .i64 n, L]]) := by
 have h := fun f => idxE_l0 n L es hl f es.length 0 (by omega)
 simp only [c0, List.drop_zero] at h
 have ix : ∀ f, Cl 112 [.lst 112 f (es.map vE0), cOdd] [.agg 23 [.int .i64 n, L]] = some (.int .i64 (fix1 (oddE n) 0 es), [.agg 23 [.int .i64 n, L]]) := fun f => by
  rw [← h f, f112_eq]
  simp (disch := first | assumption | omega | (with_reducible rfl) | (simp only [go_sem]; done) | (simp only [go_sem]; omega) | fail) only [↓reduceIte, ↓jn_eq, Nat.reduceAdd, go_sem]
 rw [f88_eq, ← fix1_ge (oddE n) es 0]
 simp (disch := first | assumption | omega | (with_reducible rfl) | (simp only [go_sem]; done) | (simp only [go_sem]; omega) | fail) only [↓reduceIte, ↓jn_eq, Nat.reduceAdd, go_sem, ix]
def toEdg (n : Int) (e : E0) (h : oddE n e = false) (hn : n ≤ 64) : Ed.Edg := ⟨e.fr.toNat, e.to.toNat, e.w, by simp [oddE] at h; omega, by simp [oddE] at h; omega⟩
theorem toEdgs {n : Int} (hn : n ≤ 64) : ∀ es : List E0, es.any (oddE n) = false → ∃ l : List Ed.Edg, l.map Ed.vEdg = es.map vE0 ∧ l.map (fun x => ((x.fr : Int), (x.to : Int))) = es.map fun e => (e.fr, e.to)
 | [], _ => ⟨[], rfl, rfl⟩
 | e :: es, h => by
   rw [List.any_cons, Bool.or_eq_false_iff] at h
   obtain ⟨l, h1, h2⟩ := toEdgs hn es h.2
   have hb := h.1
   simp only [oddE, Bool.or_eq_false_iff, decide_eq_false_iff_not] at hb
   refine ⟨toEdg n e h.1 hn :: l, ?_, ?_⟩
   · rw [List.map_cons, List.map_cons, h1, Ed.vEdg, vE0, toEdg]
     simp only []
     rw [show (e.fr.toNat : Int) = e.fr by omega, show (e.to.toNat : Int) = e.to by omega]
   · rw [List.map_cons, List.map_cons, h2, toEdg]
     simp only []
     rw [show (e.fr.toNat : Int) = e.fr by omega, show (e.to.toNat : Int) = e.to by omega]
abbrev vEs (f : Fl) (l : List Ed.Edg) : V := .lst 112 f (l.map Ed.vEdg)
def sortE (l : List Ed.Edg) : List Ed.Edg := (Sort.sort Ed.ltE l.toArray).toList
theorem sortE_perm (l : List Ed.Edg) : (sortE l).Perm l := by
 have h := (Sort.sort_sorts Ed.ltE Ed.ltM_swo l.toArray).1
 have h2 := h.2.2
 rw [Array.extract_eq_self_of_le (by rw [h.1]; exact Nat.le_refl _), Array.extract_eq_self_of_le (Nat.le_refl _)] at h2
 exact h2
theorem sortE_len (l : List Ed.Edg) : (sortE l).length = l.length := (sortE_perm l).length_eq
theorem values_am (a : V) (f : Fl) (l : List Ed.Edg) : Cl 90 [vEs .sh l] [a] = some (.clo 115 [.ref 1 [] 22], [a, vEs .sh l]) := by
 rw [f90_eq]
 simp (disch := first | assumption | omega | (with_reducible rfl) | (simp only [go_sem]; done) | (simp only [go_sem]; omega) | fail) only [↓reduceIte, ↓jn_eq, Nat.reduceAdd, go_sem]
 rfl
theorem i3_all (l : List Ed.Edg) : (l.map Ed.vEdg).all i3 = true := by simp [Ed.vEdg, i3]
theorem collect_am (a : V) {l : List Ed.Edg} (hl : l.length ≤ 1000000) : Cl 113 [.clo 115 [.ref 1 [] 22]] [a, vEs .sh l] = some (Ed.winM 2 l.length, [a, vEs .sh l, Ed.rowM l.toArray]) := by
 rw [f113_eq]
 have ap : aps 115 112 [.lst 112 .nil [], .clo 115 [.ref 1 [] 22]] [a, vEs .sh l] = some (Ed.winM 2 l.length, [a, vEs .sh l, Ed.rowM l.toArray]) := by
  simp only [aps, List.getElem?_cons_succ, List.getElem?_cons_zero, i3_all, List.length_map]
  rw [if_pos (by simp [most, Nat.ble_eq]; omega)]
  simp [Ed.winM, Ed.rowM]
 rw [ap]; rfl
theorem sortedE_am (a : V) {l : List Ed.Edg} (hl : l.length ≤ 1000000) : Cl 89 [.clo 115 [.ref 1 [] 22], Ed.cm] [a, vEs .sh l] = some (vEs .sh (sortE l), [a, vEs .sh l]) := by
 have c := collect_am a hl
 have s := Ed.sortFunc_am (h0 := [a, vEs .sh l, Ed.rowM l.toArray]) (id := 2) (N := l.length) (by simp) (by omega) (d := l.toArray) (by simp)
 have e0 : Ed.HB [a, vEs .sh l, Ed.rowM l.toArray] 2 l.toArray = [a, vEs .sh l, Ed.rowM l.toArray] := rfl
 have e1 : Ed.HB [a, vEs .sh l, Ed.rowM l.toArray] 2 (Sort.sort Ed.ltE l.toArray) = [a, vEs .sh l, Ed.rowM (Sort.sort Ed.ltE l.toArray)] := rfl
 rw [e0, e1] at s
 have ct : content [a, vEs .sh l, Ed.rowM (Sort.sort Ed.ltE l.toArray)] (Ed.winM 2 l.length) = some ((sortE l).map Ed.vEdg) := by
  simp [content, Ed.winM, rd, V.at, V.items, Ed.rowM, sortE]
  rw [← sortE_len l]; exact List.take_of_length_le (by simp [sortE])
 have cl : cleanL ((sortE l).map Ed.vEdg) = true := cleanL_pl (plL_map (fun _ => rfl) _)
 have nl : normL ((sortE l).map Ed.vEdg) = (sortE l).map Ed.vEdg := normL_pl (plL_map (fun _ => rfl) _)
 have fin : finT 2 [a, vEs .sh l, Ed.rowM (Sort.sort Ed.ltE l.toArray)] (Ed.winM 2 l.length) = some (vEs .sh (sortE l), [a, vEs .sh l]) := by
  have u : (Ed.winM 2 l.length).unmut [a, vEs .sh l, Ed.rowM (Sort.sort Ed.ltE l.toArray)] = vEs .sh (sortE l) := by
   rw [Ed.winM] at ct ⊢
   simp only [V.unmut, ct, cl, nl, if_true]
  simp only [finT, u]; rfl
 rw [f89_eq]
 refine (bstep c _).trans ?_
 refine (bstep s _).trans ?_
 exact fin
def adjL : Ed.Edg → List Ed.Edg → Bool
 | _, [] => false
 | x, y :: r => decide (Ed.cmpE x y = 0) || adjL y r
@[go_sem] theorem plL_vEd (l : List Ed.Edg) : plL (l.map Ed.vEdg) = true := plL_map (fun _ => rfl) l
theorem Edg_at {l : List Ed.Edg} {i : Nat} (h : i < l.length) : (l.map Ed.vEdg)[i]? = some (Ed.vEdg l[i]) := by simp [h]
theorem gchk_l0 (a b : V) {l : List Ed.Edg} (hl : l.length ≤ 1000000) : ∀ (n i : Nat) (hi : i < l.length), i + 1 + n = l.length →
 f61_l0 (vEs .sh l) (.int .i64 ((i + 1 : Nat) : Int)) [a, b] = some (.int .i64 (if adjL l[i] (l.drop (i + 1)) = true then 51 else 0), []) := by
 intro n
 induction n with
 | zero =>
   intro i hi hn
   rw [List.drop_eq_nil_of_le (by omega), adjL, f61_l0_eq]
   simp (disch := first | assumption | omega | (with_reducible rfl) | (simp only [go_sem]; done) | (simp only [go_sem]; omega) | fail) only [↓reduceIte, ↓jn_eq, Nat.reduceAdd, go_sem]
   rfl
 | succ n ih =>
   intro i hi hn
   have h : i + 1 < l.length := by omega
   have := ih (i + 1) h (by omega)
   rw [List.drop_eq_getElem_cons h, adjL, f61_l0_eq]
   by_cases hc : Ed.cmpE l[i] l[i + 1] = 0
   · rw [decide_eq_true hc, Bool.true_or, if_pos rfl]
     simp (disch := first | assumption | omega | (with_reducible rfl) | (simp only [go_sem]; done) | (simp only [go_sem]; omega) | fail) only [↓reduceIte, ↓jn_eq, Nat.reduceAdd, go_sem, Edg_at hi, Edg_at h, Ed.compare_am, hc, Nat.add_sub_cancel]
   · rw [decide_eq_false hc, Bool.false_or, ← this]
     simp (disch := first | assumption | omega | (with_reducible rfl) | (simp only [go_sem]; done) | (simp only [go_sem]; omega) | fail) only [↓reduceIte, ↓jn_eq, Nat.reduceAdd, go_sem, Edg_at hi, Edg_at h, Ed.compare_am, Nat.add_sub_cancel]
def keyE (x : Ed.Edg) : Int × Int := ((x.fr : Int), (x.to : Int))
theorem keyE_eq (x y : Ed.Edg) : Ed.cmpE x y = 0 ↔ keyE x = keyE y := by
 rw [Ed.cmpE, keyE, keyE, Prod.mk.injEq]
 by_cases h : x.fr = y.fr
 · rw [if_pos h]; omega
 · rw [if_neg h]; omega
theorem lt_of_le_ne {x y : Ed.Edg} (h : Ed.ltE y x = false) (hn : keyE x ≠ keyE y) : Ed.ltE x y = true := by
 rw [Ed.ltE_iff'] at h
 rw [Ed.ltE_iff]
 simp only [keyE, ne_eq, Prod.mk.injEq] at hn
 omega
theorem adj_iff : ∀ (r : List Ed.Edg) (x : Ed.Edg), (x :: r).Pairwise (fun a b => Ed.ltE b a = false) → (adjL x r = false ↔ ((x :: r).map keyE).Nodup)
 | [], x, _ => by simp [adjL]
 | y :: r, x, h => by
   obtain ⟨h1, h2⟩ := List.pairwise_cons.1 h
   have ih := adj_iff r y h2
   rw [adjL, Bool.or_eq_false_iff, ih, decide_eq_false_iff_not, keyE_eq, List.map_cons (l := y :: r), List.nodup_cons]
   refine and_congr_left fun hd => ⟨fun hn hm => ?_, fun hm he => hm (by rw [he]; simp)⟩
   obtain ⟨z, hz, he⟩ := List.mem_map.1 hm
   rcases List.mem_cons.1 hz with rfl | hz
   · exact hn he.symm
   · have a := lt_of_le_ne (h1 y List.mem_cons_self) hn
     have b := (List.pairwise_cons.1 h2).1 z hz
     rw [Ed.ltE_iff] at a
     rw [Ed.ltE_iff'] at b
     simp only [keyE, Prod.mk.injEq] at he
     omega
theorem sortE_sorted (l : List Ed.Edg) : (sortE l).Pairwise (fun a b => Ed.ltE b a = false) := by
 have h := (Sort.sort_sorts Ed.ltE Ed.ltM_swo l.toArray).2
 rw [List.pairwise_iff_getElem]
 intro i j hi hj hij
 have := h i j (Nat.zero_le _) hij (by simpa [sortE] using (sortE_len l) ▸ hj)
 simp only [sortE, Array.length_toList] at hi hj
 simpa [sortE, hi, hj] using this
def chkG (g : Grf) : Int := if 1 ≤ g.n ∧ g.n ≤ 64 ∧ g.es.length ≤ 512 ∧ g.es.any (oddE g.n) = false then (if (g.es.map fun e => (e.fr, e.to)).Nodup then 0 else 51) else 50
theorem gCheck_am {g : Grf} (hl : g.es.length < 1000000) : Cl 61 [vG .sh g] [] = some (.int .i64 (chkG g), []) := by
 have an := anyE_am g.n (.lst 112 .sh (g.es.map vE0)) hl .sh
 by_cases h1 : g.n < 1
 · rw [chkG, if_neg (by omega), f61_eq]
   simp (disch := first | assumption | omega | (with_reducible rfl) | (simp only [go_sem]; done) | (simp only [go_sem]; omega) | fail) only [↓reduceIte, ↓jn_eq, Nat.reduceAdd, go_sem]
 by_cases h2 : 64 < g.n
 · rw [chkG, if_neg (by omega), f61_eq]
   simp (disch := first | assumption | omega | (with_reducible rfl) | (simp only [go_sem]; done) | (simp only [go_sem]; omega) | fail) only [↓reduceIte, ↓jn_eq, Nat.reduceAdd, go_sem]
 by_cases h3 : 512 < g.es.length
 · rw [chkG, if_neg (by omega), f61_eq]
   simp (disch := first | assumption | omega | (with_reducible rfl) | (simp only [go_sem]; done) | (simp only [go_sem]; omega) | fail) only [↓reduceIte, ↓jn_eq, Nat.reduceAdd, go_sem]
 by_cases h4 : g.es.any (oddE g.n) = true
 · rw [chkG, if_neg (by rw [h4]; simp), f61_eq]
   simp (disch := first | assumption | omega | (with_reducible rfl) | (simp only [go_sem]; done) | (simp only [go_sem]; omega) | fail) only [↓reduceIte, ↓jn_eq, Nat.reduceAdd, go_sem, an, h4]
 have h4 : g.es.any (oddE g.n) = false := by simpa using h4
 obtain ⟨l, l1, l2⟩ := toEdgs (by omega) g.es h4
 have hlen : l.length = g.es.length := by have := congrArg List.length l1; simpa using this
 have v := values_am (vG .sh g) .sh l
 have st := sortedE_am (vG .sh g) (l := l) (by omega)
 have hsl := sortE_len l
 have hnd : (g.es.map fun e => (e.fr, e.to)).Nodup ↔ ((sortE l).map keyE).Nodup := by
  rw [← l2]; exact (((sortE_perm l).map keyE).nodup_iff).symm
 have so := sortE_sorted l
 rw [chkG, if_pos ⟨by omega, by omega, by omega, h4⟩]
 have e : (if (g.es.map fun e => (e.fr, e.to)).Nodup then (0 : Int) else 51) = (if ((sortE l).map keyE).Nodup then (0 : Int) else 51) := by
  by_cases hh : (g.es.map fun e => (e.fr, e.to)).Nodup
  · rw [if_pos hh, if_pos (hnd.1 hh)]
  · rw [if_neg hh, if_neg (fun k => hh (hnd.2 k))]
 rw [e]
 have rest : f61_l0 (vEs .sh (sortE l)) (.int .i64 1) [vG .sh g, vEs .sh l] = some (.int .i64 (if ((sortE l).map keyE).Nodup then (0 : Int) else 51), []) := by
  cases hs : sortE l with
  | nil =>
    rw [f61_l0_eq]
    simp (disch := first | assumption | omega | (with_reducible rfl) | (simp only [go_sem]; done) | (simp only [go_sem]; omega) | fail) only [↓reduceIte, ↓jn_eq, Nat.reduceAdd, go_sem]
    rfl
  | cons x r =>
    have := gchk_l0 (vG .sh g) (vEs .sh l) (l := x :: r) (by rw [← hs]; omega) r.length 0 (by simp) (by simp; omega)
    simp only [Nat.zero_add, c1, List.getElem_cons_zero, List.drop_succ_cons, List.drop_zero] at this
    rw [this]
    rw [hs] at so
    have ai := adj_iff r x so
    by_cases hh : ((x :: r).map keyE).Nodup
    · rw [if_pos hh, if_neg (by rw [ai.2 hh]; simp)]
    · rw [if_neg hh, if_pos (by cases ha : adjL x r with
       | true => rfl
       | false => exact absurd (ai.1 ha) hh)]
 have l3 : l.length ≤ 512 := by omega
 simp only [vG, ← l1] at an v st rest ⊢
 rw [f61_eq]
 generalize sortE l = s at *
 simp (disch := first | assumption | omega | (with_reducible rfl) | (simp only [go_sem]; done) | (simp only [go_sem]; omega) | fail) only [↓reduceIte, ↓jn_eq, Nat.reduceAdd, go_sem, an, h4, v, st, rest]
end Go.Proofs.YtiegkempfolgcaaGreatDoor
end

section
set_option linter.unusedVariables false
namespace Go.Proofs.YtiegkempfolgcaaGreatDoor
open Go AM
def I64 (n : Int) : Prop := -9223372036854775808 ≤ n ∧ n < 9223372036854775808
structure Vtx where
 id : Int
 val : Int
 act : Bool
 has : Bool
 inn : Int
 deriving DecidableEq
def VOk (x : Vtx) : Prop := I64 x.id ∧ I64 x.val ∧ I64 x.inn
abbrev tVx : TypeId := 80
def vVx (x : Vtx) : V := .agg tVx [.int .i64 x.id, .int .i64 x.val, .bool x.act, .bool x.has, .int .i64 x.inn]
@[go_sem] theorem pl_vVx (x : Vtx) : (vVx x).pl = true := (rfl)
@[go_sem] theorem plL_vxs (l : List Vtx) : plL (l.map vVx) = true := plL_map (fun _ => rfl) l
@[go_sem] theorem tyG_vVx (x : Vtx) : tyG tVx (vVx x) = true := tyG_g ..
@[go_sem] theorem tyA_vxs (l : List Vtx) : (l.map vVx).all (tyG tVx) = true := all_map (fun _ => tyG_g ..) l
theorem Vx_at {l : List Vtx} {i : Nat} (h : i < l.length) : (l.map vVx)[i]? = some (vVx l[i]) := by simp [h]
end Go.Proofs.YtiegkempfolgcaaGreatDoor
end

section
set_option linter.unusedVariables false
set_option linter.unusedSimpArgs false
set_option linter.unusedSectionVars false
set_option maxRecDepth 100000
namespace Go.Proofs.YtiegkempfolgcaaGreatDoor
open Go AM
abbrev iv (n : Nat) : V := .int .i64 (n : Int)
theorem convI {B : Type} {h : List V} {x : Int} (h0 : 0 ≤ x) (h1 : x < 9223372036854775808) (K : V → Option B) : (conv P h 3 93 (.int .i64 x)).bind K = K (.int .u64 (x.toNat : Int)) := by
 refine (bstep (conv_int und_93 ..) _).trans ?_
 rw [wrap_u64 (by omega) (by omega)]
 congr 2; omega
end Go.Proofs.YtiegkempfolgcaaGreatDoor
end

section
set_option linter.unusedVariables false
set_option linter.unusedSimpArgs false
set_option linter.unusedSectionVars false
set_option maxRecDepth 100000
namespace Go.Proofs.YtiegkempfolgcaaGreatDoor
open Go AM
theorem bldP2 (a b : List UInt8) : bldS P 182 2 [(0, bL .own a), (1, bL .own b)] = some (.lst 68 .own (parts [(.sh, a), (.sh, b)])) := by
 simp [bldS, K_182, setParts, tyB, cp, hs_68, bL, List.replicate, cleanL, V.clean, nrmL, normL, V.norm, V.weak, parts, part, K_68, tyOk]
theorem flat2 (f g : Fl) (a b : List UInt8) : flat [(f, a), (g, b)] = a ++ b := by simp [flat]
theorem Leaf_am {s : List UInt8} (hs : s.length < 2147000000) : Cl 118 [.str s] [] = some (A32 (sha (0 :: s)), []) := by
 rw [f118_eq, f118_r0, f118_r1, zr32]
 refine (bstep (bld1B 0 (by omega)) _).trans <| (cvStr (by omega) _).trans <| (bstep (bldP2 _ _) _).trans ?_
 obtain ⟨f', L', e1, e2, e3⟩ := reify_parts ([] ++ [A32 (List.replicate 32 0)]) .own [(.sh, [UInt8.ofNat 0]), (.sh, s)]
 have er : reifyL ([] ++ [A32 (List.replicate 32 0)]) [.lst 68 .own (parts [(.sh, [UInt8.ofNat 0]), (.sh, s)])] = [.lst 68 f' (parts L')] := by simp only [reifyL, e1]
 rw [er]
 rw [flat2] at e2
 refine (bstep (of_am L' (by rw [e3]; simp) f' (by rw [e2]; simp; omega) (by rw [e2]; simp)) _).trans ?_
 refine (bstep (sto_nil (P := P) (h := [] ++ [A32 (List.replicate 32 0)]) (id := 0) rfl (tyA32 _) (unA32 _ _)) _).trans ?_
 refine (bstep (ldP_ref (h := [A32 (sha (flat L'))]) (id := 0) (v := A32 (sha (flat L'))) (rd_nil rfl)) _).trans ?_
 rw [fin_A32, e2]; rfl
end Go.Proofs.YtiegkempfolgcaaGreatDoor
end

section
set_option linter.unusedVariables false
set_option linter.unusedSimpArgs false
set_option linter.unusedSectionVars false
set_option maxRecDepth 100000
namespace Go.Proofs.YtiegkempfolgcaaGreatDoor
open Go AM
theorem bldP3w (a b c : List UInt8) (id : Nat) (h : List V) : bldS P 182 3 [(0, bL .own a), (1, bL .own b), (2, .win id [] 0 32 5)] = some (.lst 68 .lent [bL .sh a, bL .sh b, .win id [] 0 32 5]) := by
 simp [bldS, K_182, setParts, tyB, cp, hs_68, bL, List.replicate, cleanL, V.clean, nrmL, normL, V.norm, V.weak, K_68, tyOk]
theorem sliA {id : Nat} : sli P 55 (.ref id [] 55) none none none = some (.win id [] 0 32 5) := by
 simp [sli, K_55, bounds]
theorem reify_w {h : List V} {id : Nat} {c : List UInt8} (hh : h[id]? = some (A32 c)) (hc : c.length = 32) : V.reify h (.win id [] 0 32 5) = bL .lent c := by
 have : content h (.win id [] 0 32 5) = some (bytesOf c) := by
  simp [content, rd, hh, V.at, V.items, A32]
  rw [List.take_of_length_le (by rw [bytesOf_len]; omega)]
 simp only [V.reify, this, clean_bytes, norm_bytes, if_true, bL]
def rootB (n : Nat) (t : List UInt8) : List UInt8 := sha ([3] ++ numB n ++ t)
theorem root_am {n : Nat} {t : List UInt8} (hn : n < 1000000000) (ht : t.length = 32) : Cl 94 [iv n, A32 t] [] = some (A32 (rootB n t), []) := by
 have c1 : (tyOk P 55 (A32 t) && V.under (List.length ([] : List V)) (A32 t)) = true := by rw [tyA32, unA32]; rfl
 have nb := numBf_len 10 n
 rw [f94_eq, f94_r0, if_pos c1, zr32, f94_r1]
 refine (bstep (NewOut_am _) _).trans ?_
 rw [f94_r2]
 refine (convI (by omega) (by omega) _).trans ?_
 have e1 : normL [rOut (([] ++ [A32 t]) ++ [A32 (List.replicate 32 0)] : List V).length, V.int .u64 ((n : Int).toNat : Int)] = [rOut 2, V.int .u64 (n : Int)] := rfl
 rw [e1]
 refine (bstep (OutNum_am (id := 2) (h := (([] ++ [A32 t]) ++ [A32 (List.replicate 32 0)]) ++ [vOut .nil []]) rfl (Or.inr rfl) (by omega) (by simp)) _).trans ?_
 rw [f94_r3]
 have eh : ((([] ++ [A32 t]) ++ [A32 (List.replicate 32 0)]) ++ [vOut .nil []] : List V).set 2 (vOut .own ([] ++ numB n)) = [A32 t, A32 (List.replicate 32 0), vOut .own (numB n)] := rfl
 rw [eh]
 refine (bstep (bld1B 3 (by omega)) _).trans ?_
 refine (bstep (OutDone_am (id := 2) (h := [A32 t, A32 (List.replicate 32 0), vOut .own (numB n)]) rfl) _).trans ?_
 refine (cvStr (by rw [numB]; omega) _).trans <| (bstep sliA _).trans <| (bstep (bldP3w [UInt8.ofNat 3] (numB n) [] 0 []) _).trans ?_
 have er : reifyL [A32 t, A32 (List.replicate 32 0), vOut .own (numB n)] [.lst 68 .lent [bL .sh [UInt8.ofNat 3], bL .sh (numB n), .win 0 [] 0 32 5]] = [.lst 68 .lent (parts [(.sh, [UInt8.ofNat 3]), (.sh, numB n), (.lent, t)])] := by
  have w := reify_w (h := [A32 t, A32 (List.replicate 32 0), vOut .own (numB n)]) (id := 0) (c := t) rfl ht
  show [V.lst 68 .lent [V.reify _ (bL .sh [UInt8.ofNat 3]), V.reify _ (bL .sh (numB n)), V.reify [A32 t, A32 (List.replicate 32 0), vOut .own (numB n)] (.win 0 [] 0 32 5)]] = _
  rw [w]; rfl
 rw [er]
 have ef : flat [(.sh, [UInt8.ofNat 3]), (.sh, numB n), (.lent, t)] = [3] ++ numB n ++ t := by simp [flat]
 refine (bstep (of_am _ (by simp) .lent (by rw [ef]; simp only [List.length_append, numB]; simp; omega) (by rw [ef]; simp)) _).trans ?_
 rw [ef]
 refine (bstep (sto_nil (P := P) (h := [A32 t, A32 (List.replicate 32 0), vOut .own (numB n)]) (id := 1) rfl (tyA32 _) (unA32 _ _)) _).trans ?_
 refine (bstep (ldP_ref (h := [A32 t, A32 (sha ([3] ++ numB n ++ t)), vOut .own (numB n)]) (id := 1) (v := A32 (sha ([3] ++ numB n ++ t))) (rd_nil rfl)) _).trans ?_
 exact fin_A32 _ _ _
end Go.Proofs.YtiegkempfolgcaaGreatDoor
end

section
set_option linter.unusedVariables false
set_option linter.unusedSimpArgs false
set_option linter.unusedSectionVars false
set_option maxRecDepth 100000
namespace Go.Proofs.YtiegkempfolgcaaGreatDoor
open Go AM
@[go_sem] theorem pl_A32 (l : List UInt8) : (A32 l).pl = true := plL_bytes l
@[go_sem] theorem tyG_A32 (l : List UInt8) : tyG 54 (A32 l) = true := tyG_g ..
theorem zero32 : V.agg 54 (List.replicate 32 (V.int .u8 0)) = A32 (List.replicate 32 0) := rfl
@[go_sem] theorem plL_strs (l : List (List UInt8)) : plL (l.map V.str) = true := plL_map (fun _ => rfl) l
@[go_sem] theorem tyS_strs (l : List (List UInt8)) : (l.map V.str).all tyS = true := all_map (fun _ => rfl) l
@[go_sem] theorem plL_bs (l : List UInt8) : plL (bytesOf l) = true := plL_bytes l
def halfG (n : Nat) : Nat → Nat → Nat
 | 0, k => k
 | f + 1, k => if 2 * k < n then halfG n f (2 * k) else k
def halfN (n : Nat) : Nat := halfG n 62 1
theorem halfG_lt (n : Nat) : ∀ (f k : Nat), 0 < k → k < n → 0 < halfG n f k ∧ halfG n f k < n
 | 0, k, h, h2 => ⟨h, h2⟩
 | f + 1, k, h, h2 => by
   rw [halfG]; split
   · exact halfG_lt n f (2 * k) (by omega) (by omega)
   · exact ⟨h, h2⟩
theorem pow2 {n k f : Nat} (h : n < k * 2 ^ (f + 1)) : n < 2 * k * 2 ^ f := by
 rw [Nat.pow_succ] at h
 have e : k * (2 ^ f * 2) = 2 * k * 2 ^ f := by rw [Nat.mul_comm 2 k, Nat.mul_assoc, Nat.mul_comm (2 ^ f)]
 omega
theorem half_l0 (n : Nat) (hn : n < 2 ^ 61) : ∀ (f k : Nat), 0 < k → k ≤ n → n < k * 2 ^ f → f119_l0 (iv n) (iv k) = some (iv (halfG n f k), []) := by
 intro f
 induction f with
 | zero => intro k h h2 h3; omega
 | succ f ih =>
   intro k h h2 h3
   rw [f119_l0_eq, halfG]
   have h2' : (2 : Int) * (k : Int) = ((2 * k : Nat) : Int) := by omega
   by_cases hk : 2 * k < n
   · rw [if_pos hk]
     refine (bstep (subN (by omega) (by omega)) _).trans <| (lssT (by omega) _).trans ?_
     rw [ite_tt]
     refine (bstep (mul_i (by omega) (by omega)) _).trans ?_
     rw [show (k : Int) * 2 = ((2 * k : Nat) : Int) by omega]
     exact ih (2 * k) (by omega) (by omega) (pow2 h3)
   · rw [if_neg hk]
     refine (bstep (subN (by omega) (by omega)) _).trans <| (lssF (by omega) _).trans ?_
     rfl
theorem Half_am {n : Nat} (h2 : 2 ≤ n) (hn : n < 2 ^ 61) : Cl 119 [iv n] [] = some (iv (halfN n), []) := by
 rw [f119_eq]
 refine (lssF (by omega) _).trans ?_
 rw [ite_ff]
 exact half_l0 n hn 62 1 (by omega) (by omega) (by omega)
def nodeB (a b : List UInt8) : List UInt8 := sha ([1] ++ a ++ b)
theorem Node_am {a b : List UInt8} (ha : a.length = 32) (hb : b.length = 32) : Cl 120 [A32 a, A32 b] [] = some (A32 (nodeB a b), []) := by
 have er : V.reify [A32 a, A32 b, A32 (List.replicate 32 0)] (.lst 68 .lent [bL .sh [1], .win 0 [] 0 32 5, .win 1 [] 0 32 5]) = .lst 68 .lent (parts [(.sh, [1]), (.lent, a), (.lent, b)]) := by
  have w := reify_w (h := [A32 a, A32 b, A32 (List.replicate 32 0)]) (id := 0) (c := a) rfl ha
  have w' := reify_w (h := [A32 a, A32 b, A32 (List.replicate 32 0)]) (id := 1) (c := b) rfl hb
  show V.lst 68 .lent [V.reify _ (bL .sh [1]), V.reify [A32 a, A32 b, A32 (List.replicate 32 0)] (.win 0 [] 0 32 5), V.reify [A32 a, A32 b, A32 (List.replicate 32 0)] (.win 1 [] 0 32 5)] = _
  rw [w, w']; rfl
 have ef : flat [(.sh, [1]), (.lent, a), (.lent, b)] = [1] ++ a ++ b := by simp [flat]
 rw [f120_eq, zero32]
 simp (disch := first | assumption | omega | (with_reducible rfl) | (simp only [go_sem]; done) | (simp only [go_sem]; omega) | fail) only [↓reduceIte, ↓jn_eq, Nat.reduceAdd, go_sem]
 refine (bstep (show bsL 68 true (some [.lst 5 .sh [.int .u8 1], (V.win 0 [] 0 32 5).weak, (V.win 1 [] 0 32 5).weak]) = some (.lst 68 .lent [bL .sh [1], .win 0 [] 0 32 5, .win 1 [] 0 32 5]) from rfl) _).trans ?_
 rw [er]
 refine (bstep (of_am _ (by simp) .lent (by rw [ef]; simp; omega) (by rw [ef]; simp)) _).trans ?_
 rw [ef]
 simp (disch := first | assumption | omega | (with_reducible rfl) | (simp only [go_sem]; done) | (simp only [go_sem]; omega) | fail) only [↓reduceIte, ↓jn_eq, Nat.reduceAdd, go_sem]
 rfl
def topF : Nat → List (List UInt8) → List UInt8
 | 0, _ => sha [2]
 | f + 1, l => if l.length = 0 then sha [2] else if l.length = 1 then sha (0 :: l.getD 0 []) else nodeB (topF f (l.take (halfN l.length))) (topF f (l.drop (halfN l.length)))
theorem topF_len : ∀ (f : Nat) (l : List (List UInt8)), (topF f l).length = 32
 | 0, _ => sha_len _
 | f + 1, l => by rw [topF]; split; · exact sha_len _
                  split <;> exact sha_len _
def Short (l : List (List UInt8)) : Prop := ∀ s ∈ l, s.length < 2147000000
theorem Short.take {l : List (List UInt8)} (h : Short l) (n : Nat) : Short (l.take n) := fun s hs => h s (List.mem_of_mem_take hs)
theorem Short.drop {l : List (List UInt8)} (h : Short l) (n : Nat) : Short (l.drop n) := fun s hs => h s (List.mem_of_mem_drop hs)
theorem of0 {x : Nat} (hx : x < 256) {g : Fl} : Cl 117 [.lst 68 g [.lst 5 .sh [.int .u8 (x : Int)]]] [] = some (A32 (sha [UInt8.ofNat x]), []) := by
 have e : [V.lst 5 .sh [.int .u8 (x : Int)]] = parts [(.sh, [UInt8.ofNat x])] := by
  simp only [parts, part, List.map_cons, List.map_nil, bL, bytesOf]
  rw [UInt8.toNat_ofNat', Nat.mod_eq_of_lt (by omega)]
 rw [e, of_am _ (by simp) g (by simp [flat]) (by simp [flat])]
 simp [flat]
theorem halfN_lt {n : Nat} (h : 2 ≤ n) : 0 < halfN n ∧ halfN n < n := halfG_lt n 62 1 (by omega) (by omega)
theorem Top_am : ∀ (f : Nat) (l : List (List UInt8)) (g : Fl), l.length ≤ f → f < 2000000000 → Short l → Cl 95 [.lst 9 g (l.map V.str)] [] = some (A32 (topF f l), []) := by
 intro f
 induction f with
 | zero =>
   intro l g hl _ _
   have : l = [] := List.eq_nil_of_length_eq_zero (by omega)
   subst this
   rw [f95_eq, zero32, topF]
   simp (disch := first | assumption | omega | (with_reducible rfl) | (simp only [go_sem]; done) | (simp only [go_sem]; omega) | fail) only [↓reduceIte, ↓jn_eq, Nat.reduceAdd, go_sem, List.map_nil]
   refine (bstep (of0 (x := 2) (by omega)) _).trans ?_
   simp (disch := first | assumption | omega | (with_reducible rfl) | (simp only [go_sem]; done) | (simp only [go_sem]; omega) | fail) only [↓reduceIte, ↓jn_eq, Nat.reduceAdd, go_sem]
   rfl
 | succ f ih =>
   intro l g hl hf hs
   rw [f95_eq, zero32, topF]
   by_cases h0 : l.length = 0
   · simp (disch := first | assumption | omega | (with_reducible rfl) | (simp only [go_sem]; done) | (simp only [go_sem]; omega) | fail) only [↓reduceIte, ↓jn_eq, Nat.reduceAdd, go_sem, h0]
     refine (bstep (of0 (x := 2) (by omega)) _).trans ?_
     simp (disch := first | assumption | omega | (with_reducible rfl) | (simp only [go_sem]; done) | (simp only [go_sem]; omega) | fail) only [↓reduceIte, ↓jn_eq, Nat.reduceAdd, go_sem]
     rfl
   by_cases h1 : l.length = 1
   · have hg : l[0]? = some (l.getD 0 []) := by rw [List.getD_eq_getElem?_getD, List.getElem?_eq_getElem (by omega)]; rfl
     have hm : (l.getD 0 []).length < 2147000000 := hs _ (List.mem_of_getElem? hg)
     simp (disch := first | assumption | omega | (with_reducible rfl) | (simp only [go_sem]; done) | (simp only [go_sem]; omega) | fail) only [↓reduceIte, ↓jn_eq, Nat.reduceAdd, go_sem, h0, h1, List.getElem?_map, hg, Leaf_am hm]
     rfl
   have hh := halfN_lt (n := l.length) (by omega)
   have hx : ∀ g, Cl 95 [.lst 9 g ((l.take (halfN l.length)).map V.str)] [] = _ := fun g => ih _ g (by simp; omega) (by omega) (hs.take _)
   have hy : ∀ g, Cl 95 [.lst 9 g ((l.drop (halfN l.length)).map V.str)] [] = _ := fun g => ih _ g (by simp; omega) (by omega) (hs.drop _)
   simp (disch := first | assumption | omega | (with_reducible rfl) | (simp only [go_sem]; done) | (simp only [go_sem]; omega) | fail) only [↓reduceIte, ↓jn_eq, Nat.reduceAdd, go_sem, h0, h1, Half_am (n := l.length) (by omega) (by omega), ← List.map_take, ← List.map_drop, hx, hy, Node_am (topF_len _ _) (topF_len _ _)]
def treeB (l : List (List UInt8)) : List UInt8 := rootB l.length (topF l.length l)
theorem rootB_len (n : Nat) (t : List UInt8) : (rootB n t).length = 32 := sha_len _
theorem Root_am {g : Fl} {l : List (List UInt8)} (hl : l.length < 1000000000) (hs : Short l) : Cl 66 [.lst 9 g (l.map V.str)] [] = some (A32 (treeB l), []) := by
 have h := fun g => Top_am l.length l g (Nat.le_refl _) (by omega) hs
 rw [f66_eq, zero32]
 simp (disch := first | assumption | omega | (with_reducible rfl) | (simp only [go_sem]; done) | (simp only [go_sem]; omega) | fail) only [↓reduceIte, ↓jn_eq, Nat.reduceAdd, go_sem, h, root_am (n := l.length) hl (topF_len _ _)]
 rfl
end Go.Proofs.YtiegkempfolgcaaGreatDoor
end

section
set_option linter.unusedVariables false
set_option linter.unusedSimpArgs false
set_option linter.unusedSectionVars false
set_option maxRecDepth 100000
namespace Go.Proofs.YtiegkempfolgcaaGreatDoor
open Go AM
def z32 : List UInt8 := List.replicate 32 0
theorem eqvL_ne : ∀ a b : List UInt8, a.length = b.length → eqvL (bytesOf a) (bytesOf b) = some (decide (a = b))
 | [], [], _ => rfl
 | x :: a, y :: b, h => by
   have e : ∀ (z : UInt8) (l : List UInt8), bytesOf (z :: l) = .int .u8 (z.toNat : Int) :: bytesOf l := fun _ _ => rfl
   rw [e, e]
   simp only [eqvL, eqv, if_true, Option.bind_some]
   by_cases hxy : x = y
   · subst hxy
     simp [eqvL_ne a b (by simpa using h)]
   · have : ¬ (x.toNat : Int) = (y.toNat : Int) := fun h => hxy (UInt8.toNat_inj.1 (by omega))
     simp [this, hxy]
 | [], _ :: _, h => by simp at h
 | _ :: _, [], h => by simp at h
@[go_sem] theorem eqA {a b : List UInt8} (ha : a.length = 32) (hb : b.length = 32) : eqT (tyG 54) .eql (A32 a) (A32 b) = some (.bool (decide (a = b))) := by
  have h : eqv (A32 a) (A32 b) = some (decide (a = b)) := by simp only [A32, eqv, if_true, eqvL_ne a b (by omega)]
  simp only [eqT, tyG_A32, Bool.and_self, if_true, h, Option.map_some]
@[go_sem] theorem neA {a b : List UInt8} (ha : a.length = 32) (hb : b.length = 32) : eqT (tyG 54) .neq (A32 a) (A32 b) = some (.bool (!decide (a = b))) := by
  have h : eqv (A32 a) (A32 b) = some (decide (a = b)) := by simp only [A32, eqv, if_true, eqvL_ne a b (by omega)]
  simp only [eqT, tyG_A32, Bool.and_self, if_true, h, Option.map_some]
@[go_sem] theorem plL_A32s (l : List (List UInt8)) : plL (l.map A32) = true := plL_map pl_A32 l
@[go_sem] theorem tyA_A32s (l : List (List UInt8)) : (l.map A32).all (tyG 54) = true := all_map tyG_A32 l
theorem NewOut_h (a : V) : Cl 45 [] [a] = some (rOut 1, [a, vOut .nil []]) := NewOut_am [a]
theorem OutNum_h {a : V} {f : Fl} {l : List UInt8} {x : Int} (hf : OK f) (h0 : 0 ≤ x) (h1 : x < 18446744073709551616) (hl : l.length ≤ 2000000000) : Cl 46 [rOut 1, .int .u64 x] [a, vOut f l] = some (.tup [], [a, vOut .own (l ++ numB x.toNat)]) := by
 have := OutNum_am (h := [a, vOut f l]) (id := 1) (n := x.toNat) rfl hf (by omega) (by omega)
 rw [show ((x.toNat : Nat) : Int) = x by omega] at this
 exact this
theorem OutDone_h {a : V} {f : Fl} {l : List UInt8} : Cl 50 [rOut 1] [a, vOut f l] = some (.str l, [a, vOut f l]) := OutDone_am (h := [a, vOut f l]) (id := 1) rfl
@[go_sem] theorem norm_rOut (n : Nat) : V.norm (rOut n) = rOut n := (rfl)
@[go_sem] theorem under_rOut {n m : Nat} (h : n < m) : V.under m (rOut n) = true := under_ref h ..
theorem OK_own : OK .own := Or.inl rfl
theorem OK_nil : OK .nil := Or.inr rfl
@[go_sem] theorem norm_rIn (n : Nat) : V.norm (rIn n) = rIn n := (rfl)
@[go_sem] theorem under_rIn {n m : Nat} (h : n < m) : V.under m (rIn n) = true := under_ref h ..
@[go_sem] theorem pl_vIn (s : List UInt8) (e : Nat) : (vIn s e).pl = true := (rfl)
section
variable {a b c : V} {s : List UInt8} {e : Nat}
end
@[go_sem] theorem slT_1 {s : List UInt8} (h : 1 ≤ s.length) (k : IntKind) : slT (.str s) (some (.int k 1)) none = some (.str (s.drop 1)) := slT_lo h k
end Go.Proofs.YtiegkempfolgcaaGreatDoor
end

section
set_option linter.unusedVariables false
set_option linter.unusedSimpArgs false
set_option linter.unusedSectionVars false
set_option maxRecDepth 100000
namespace Go.Proofs.YtiegkempfolgcaaGreatDoor
open Go AM
def tags : List (List UInt8) := [[109, 97, 120], [108, 97, 98, 101, 108], [115, 115, 115, 112], [98, 102, 115], [100, 101, 103, 114, 101, 101], [114, 97, 110, 107], [119, 97, 108, 107, 115]]
def knownB (t : List UInt8) : Bool := tags.any fun s => decide (t = s)
theorem idxS_l0 (t : List UInt8) {ls : List (List UInt8)} (hl : ls.length < 1000000) (f : Fl) : ∀ (m i : Nat), i + m = ls.length →
 f116_l0 (.lst 9 f (ls.map .str)) (.str t) (.int .i64 (ls.length : Int)) (.int .i64 (i : Int)) = some (.int .i64 (fix1 (fun s => decide (t = s)) i (ls.drop i)), []) := by
 intro m
 induction m with
 | zero =>
   intro i hi
   rw [List.drop_eq_nil_of_le (by omega), f116_l0_eq]
   simp (disch := first | assumption | omega | (with_reducible rfl) | (simp only [go_sem]; done) | (simp only [go_sem]; omega) | fail) only [↓reduceIte, ↓jn_eq, Nat.reduceAdd, go_sem, fix1]
 | succ m ih =>
   intro i hi
   have h : i < ls.length := by omega
   have := ih (i + 1) (by omega)
   have ha : (ls.map V.str)[i]? = some (.str ls[i]) := by simp [h]
   rw [List.drop_eq_getElem_cons h, fix1, f116_l0_eq]
   by_cases ho : t = ls[i]
   · rw [if_pos (decide_eq_true ho)]
     simp (disch := first | assumption | omega | (with_reducible rfl) | (simp only [go_sem]; done) | (simp only [go_sem]; omega) | fail) only [↓reduceIte, ↓jn_eq, Nat.reduceAdd, go_sem, ha]
   · rw [if_neg (by simp [ho]), ← this]
     simp (disch := first | assumption | omega | (with_reducible rfl) | (simp only [go_sem]; done) | (simp only [go_sem]; omega) | fail) only [↓reduceIte, ↓jn_eq, Nat.reduceAdd, go_sem, ha]
theorem known_am (t : List UInt8) : Cl 62 [.str t] [] = some (.bool (knownB t), []) := by
 have h := idxS_l0 t (ls := tags) (by decide) .sh tags.length 0 (by omega)
 simp only [c0, List.drop_zero] at h
 have h2 : Cl 92 [.lst 9 .sh (tags.map .str), .str t] [] = some (.bool (knownB t), []) := by
  have ix : Cl 116 [.lst 9 .sh (tags.map .str), .str t] [] = some (.int .i64 (fix1 (fun s => decide (t = s)) 0 tags), []) := by
   rw [← h, f116_eq]
   simp (disch := first | assumption | omega | (with_reducible rfl) | (simp only [go_sem]; done) | (simp only [go_sem]; omega) | fail) only [↓reduceIte, ↓jn_eq, Nat.reduceAdd, go_sem]
  rw [knownB, ← fix1_ge _ tags 0, f92_eq]
  simp (disch := first | assumption | omega | (with_reducible rfl) | (simp only [go_sem]; done) | (simp only [go_sem]; omega) | fail) only [↓reduceIte, ↓jn_eq, Nat.reduceAdd, go_sem, ix]
 simp only [tags, List.map_cons, List.map_nil] at h2
 rw [f62_eq]
 simp (disch := first | assumption | omega | (with_reducible rfl) | (simp only [go_sem]; done) | (simp only [go_sem]; omega) | fail) only [↓reduceIte, ↓jn_eq, Nat.reduceAdd, go_sem, h2]
theorem rknown_am (t : List UInt8) : Cl 69 [.str t] [] = some (.bool (knownB t), []) := by
 rw [f69_eq]
 repeat' first | rfl | refine br_d (fun _ => ?_) (fun _ => ?_) | refine br_b (fun _ => ?_) (fun _ => ?_) | simp (disch := first | assumption | omega | (with_reducible rfl) | (simp only [go_sem]; done) | (simp only [go_sem]; omega) | fail) only [↓reduceIte, ↓jn_eq, Nat.reduceAdd, go_sem]
 all_goals simp_all [knownB, tags]
structure Job where
 tag : List UInt8
 src : Int
 steps : Int
abbrev vJ (j : Job) : V := .agg 25 [.str j.tag, .int .i64 j.src, .int .i64 j.steps]
def goodJ (g : Grf) (j : Job) : Bool := decide (chkG g = 0 ∧ knownB j.tag = true ∧ 0 ≤ j.src ∧ j.src < g.n ∧ 1 ≤ j.steps ∧ j.steps ≤ 64)
theorem pCheck_am {g : Grf} (hl : g.es.length < 1000000) (j : Job) : Cl 32 [vG .sh g, vJ j] [] = some (.int .i64 (if goodJ g j = true then 0 else 70), []) := by
 have hg := gCheck_am hl
 rw [f32_eq]
 repeat' first | rfl | refine br_d (fun _ => ?_) (fun _ => ?_) | refine br_b (fun _ => ?_) (fun _ => ?_) | simp (disch := first | assumption | omega | (with_reducible rfl) | (simp only [go_sem]; done) | (simp only [go_sem]; omega) | fail) only [↓reduceIte, ↓jn_eq, Nat.reduceAdd, go_sem, hg, known_am]
 all_goals (rw [goodJ]; simp_all)
 all_goals omega
def firstX (j : Job) (v : Int) : Vtx :=
 if knownB j.tag = true then ⟨v, if j.tag = [109, 97, 120] then (37 * v + 11).tmod 64 else if j.tag = [108, 97, 98, 101, 108] then v else if j.tag = [115, 115, 115, 112] ∨ j.tag = [98, 102, 115] then (if v = j.src then 0 else -1) else if j.tag = [114, 97, 110, 107] then 65536 else if j.tag = [119, 97, 108, 107, 115] then 1 else 0, true, false, 0⟩ else ⟨0, 0, false, false, 0⟩
theorem rem64 (a : Int) : bin .rem (.int .i64 a) (.int .i64 64) = some (.int .i64 (a.tmod 64)) := b_rem _ _ _ (by omega)
theorem first_am (j : Job) {v : Int} (h1 : 0 ≤ v) (h2 : v < 1000) : Cl 34 [vJ j, .int .i64 v] [] = some (vVx (firstX j v), []) := by
 rw [f34_eq]
 repeat' first | rfl | refine br_d (fun _ => ?_) (fun _ => ?_) | refine br_b (fun _ => ?_) (fun _ => ?_) | simp (disch := first | assumption | omega | (with_reducible rfl) | (simp only [go_sem]; done) | (simp only [go_sem]; omega) | fail) only [↓reduceIte, ↓jn_eq, Nat.reduceAdd, go_sem, known_am, rem64]
 all_goals simp_all [firstX, vVx]
end Go.Proofs.YtiegkempfolgcaaGreatDoor
end

section
set_option linter.unusedVariables false
set_option linter.unusedSimpArgs false
set_option linter.unusedSectionVars false
set_option maxRecDepth 100000
namespace Go.Proofs.YtiegkempfolgcaaGreatDoor
open Go AM
def mA (v : Nat) : Nat := v * 2654435761 % 4294967296
def mB (a : Nat) : Nat := a ^^^ (a / 32768)
def mC (b : Nat) : Nat := b * 2246822519 % 4294967296
def mD (c : Nat) : Nat := c ^^^ (c / 8192)
def mixN (v : Nat) : Nat := mD (mC (mB (mA v)))
theorem mA_lt (v : Nat) : mA v < 4294967296 := Nat.mod_lt _ (by omega)
theorem mC_lt (v : Nat) : mC v < 4294967296 := Nat.mod_lt _ (by omega)
theorem div_lt32 {a : Nat} (h : a < 4294967296) (k : Nat) : a / k < 4294967296 := Nat.lt_of_le_of_lt (Nat.div_le_self a k) h
theorem mul32 (a c : Nat) : bin .mul (.int .u32 (a : Int)) (.int .u32 (c : Int)) = some (.int .u32 ((a * c % 4294967296 : Nat) : Int)) := by
 rw [b_mul, ← Int.natCast_mul, wrap_u32_mod]
theorem shr32 {a : Nat} (h : a < 4294967296) (k : Nat) (hk : k ≤ 32) : bin .shr (.int .u32 (a : Int)) (.int .u64 (k : Int)) = some (.int .u32 ((a / 2 ^ k : Nat) : Int)) := by
 have e : (min (k : Int).toNat IntKind.u32.bits) = k := by simp only [IntKind.bits, Int.toNat_natCast]; omega
 have h2 := Nat.div_le_self a (2 ^ k)
 have e2 : ((2 : Int) ^ k) = ((2 ^ k : Nat) : Int) := by simp
 rw [b_shr _ _ _ _ (by omega), e, e2, Int.fdiv_eq_ediv_of_nonneg _ (Int.natCast_nonneg _), ← Int.natCast_ediv]
@[go_sem] theorem m1 (a : Nat) : bin .mul (.int .u32 (a : Int)) (.int .u32 2654435761) = some (.int .u32 (mA a : Int)) := mul32 a 2654435761
@[go_sem] theorem m2 (a : Nat) : bin .mul (.int .u32 (a : Int)) (.int .u32 2246822519) = some (.int .u32 (mC a : Int)) := mul32 a 2246822519
theorem s15 {a : Nat} (h : a < 4294967296) : bin .shr (.int .u32 (a : Int)) (.int .u64 15) = some (.int .u32 ((a / 32768 : Nat) : Int)) := shr32 h 15 (by omega)
theorem s13 {a : Nat} (h : a < 4294967296) : bin .shr (.int .u32 (a : Int)) (.int .u64 13) = some (.int .u32 ((a / 8192 : Nat) : Int)) := shr32 h 13 (by omega)
theorem mix_am (v : Nat) : Cl 93 [.int .u32 (v : Int)] [] = some (.int .u32 (mixN v : Int), []) := by
 have a1 := mA_lt v
 have b1 := mC_lt (mB (mA v))
 have x1 : bin .xor (.int .u32 (mA v : Int)) (.int .u32 ((mA v / 32768 : Nat) : Int)) = some (.int .u32 (mB (mA v) : Int)) := u32_xor a1 (div_lt32 a1 _)
 have x2 : bin .xor (.int .u32 (mC (mB (mA v)) : Int)) (.int .u32 ((mC (mB (mA v)) / 8192 : Nat) : Int)) = some (.int .u32 (mixN v : Int)) := u32_xor b1 (div_lt32 b1 _)
 rw [f93_eq]
 simp (disch := first | assumption | omega | (with_reducible rfl) | (simp only [go_sem]; done) | (simp only [go_sem]; omega) | fail) only [↓reduceIte, ↓jn_eq, Nat.reduceAdd, go_sem, s15 a1, x1, s13 b1, x2]
theorem wm64 {a c : Nat} (h : a * c < 18446744073709551616) : bin .mul (.int .u64 (a : Int)) (.int .u64 (c : Int)) = some (.int .u64 ((a * c : Nat) : Int)) := by
 rw [b_mul, ← Int.natCast_mul, wrap_u64 (by omega) (by omega)]
theorem k1 {v : Nat} (h : v < 4294967296) (K : V → Rv) : ((bin .mul (.int .u64 (v : Int)) (.int .u64 2654435761)).bind fun t => (bin .rem t (.int .u64 4294967296)).bind K) = K (.int .u64 (mA v : Int)) :=
 (bstep (wm64 (a := v) (c := 2654435761) (by omega)) _).trans (bstep (remN (a := v * 2654435761) (b := 4294967296) (by omega) .u64) _)
theorem k2 {v : Nat} (h : v < 4294967296) (K : V → Rv) : ((bin .mul (.int .u64 (v : Int)) (.int .u64 2246822519)).bind fun t => (bin .rem t (.int .u64 4294967296)).bind K) = K (.int .u64 (mC v : Int)) :=
 (bstep (wm64 (a := v) (c := 2246822519) (by omega)) _).trans (bstep (remN (a := v * 2246822519) (b := 4294967296) (by omega) .u64) _)
def ownN (v n : Nat) : Nat := mixN v % n
theorem owner_am {v n : Nat} (hv : v < 1000) (h1 : 1 ≤ n) (h2 : n ≤ 64) : Cl 65 [.int .i64 (v : Int), .int .i64 (n : Int)] [] = some (.int .i64 (ownN v n : Int), []) := by
 have hm := mix_am v
 have cv1 : cvI .u32 (.int .i64 (v : Int)) = some (.int .u32 (v : Int)) := by rw [cvI, wrap_u32 (by omega) (by omega)]
 have cv2 : cvI .u32 (.int .i64 (n : Int)) = some (.int .u32 (n : Int)) := by rw [cvI, wrap_u32 (by omega) (by omega)]
 have r := remN (a := mixN v) (b := n) (by omega) .u32
 have hl : mixN v % n < n := Nat.mod_lt _ (by omega)
 rw [ownN, f65_eq]
 simp (disch := first | assumption | omega | (with_reducible rfl) | (simp only [go_sem]; done) | (simp only [go_sem]; omega) | fail) only [↓reduceIte, ↓jn_eq, Nat.reduceAdd, go_sem, cv1, cv2, hm, r]
def ofL (n N w : Nat) : List Nat := (List.range n).filter fun v => decide (ownN v N = w)
theorem ofL_succ (n N w : Nat) : ofL (n + 1) N w = if ownN n N = w then ofL n N w ++ [n] else ofL n N w := by
 simp only [ofL, List.range_succ, List.filter_append, List.filter_cons, List.filter_nil]
 by_cases h : ownN n N = w <;> simp [h]
theorem ofL_lt {n N w v : Nat} (h : v ∈ ofL n N w) : v < n := by
 simp only [ofL, List.mem_filter, List.mem_range] at h; exact h.1
theorem ofL_len (n N w : Nat) : (ofL n N w).length ≤ n := by
 have := List.length_filter_le (fun v => decide (ownN v N = w)) (List.range n)
 simpa [ofL] using this
attribute [irreducible] mixN ownN ofL
abbrev vNs (f : Fl) (l : List Nat) : V := .lst 3 f (l.map fun (v : Nat) => V.int .i64 (v : Int))
@[go_sem] theorem plL_ints (l : List Nat) : plL (l.map fun (v : Nat) => V.int .i64 (v : Int)) = true := plL_map (fun _ => rfl) l
@[go_sem] theorem tyI_ints (l : List Nat) : (l.map fun (v : Nat) => V.int .i64 (v : Int)).all (tyI .i64) = true := all_map (fun _ => rfl) l
theorem vNs_snoc (f : Fl) (l : List Nat) (v : Nat) : vNs f (l ++ [v]) = .lst 3 f ((l.map fun (v : Nat) => V.int .i64 (v : Int)) ++ [.int .i64 (v : Int)]) := by simp [vNs]
theorem his_am {v N w : Nat} (hv : v < 1000) (h1 : 1 ≤ N) (h2 : N ≤ 64) : Cl 64 [.int .i64 (v : Int), .ref 0 [] 3, .ref 1 [] 3] [.int .i64 (N : Int), .int .i64 (w : Int)] = some (.bool (decide (ownN v N = w)), [.int .i64 (N : Int), .int .i64 (w : Int)]) := by
 have ho := owner_am hv h1 h2
 have e : decide ((ownN v N : Int) = (w : Int)) = decide (ownN v N = w) := decide_eq_decide.2 (by omega)
 rw [f64_eq]
 simp (disch := first | assumption | omega | (with_reducible rfl) | (simp only [go_sem]; done) | (simp only [go_sem]; omega) | fail) only [↓reduceIte, ↓jn_eq, Nat.reduceAdd, go_sem, ho, e]
theorem hisV {v N w : Nat} (hv : v < 1000) (h1 : 1 ≤ N) (h2 : N ≤ 64) (k : V → List V → Rv) : callV P ann W (.clo 64 [.ref 0 [] 3, .ref 1 [] 3]) [.int .i64 (v : Int)] [.int .i64 (N : Int), .int .i64 (w : Int)] k = k (.bool (decide (ownN v N = w))) [.int .i64 (N : Int), .int .i64 (w : Int)] :=
 callV_np2 k (by kernel_rfl) (by kernel_rfl) (his_am hv h1 h2)
theorem pof_l0 {n N w : Nat} (hn : n ≤ 64) (h1 : 1 ≤ N) (h2 : N ≤ 64) : ∀ (m i : Nat) (f : Fl), i + m = n → (f = .own ∨ f = .nil) →
 f33_l0 (.clo 64 [.ref 0 [] 3, .ref 1 [] 3]) (vNs f (ofL i N w)) (.int .i64 (n : Int)) (.int .i64 (i : Int)) [.int .i64 (N : Int), .int .i64 (w : Int)] = some (.tup [vNs .sh (ofL n N w), .int .i64 0], []) := by
 intro m
 induction m with
 | zero =>
   intro i f hi hf
   obtain rfl : i = n := by omega
   rw [f33_l0_eq]
   rcases hf with rfl | rfl
   · simp (disch := first | assumption | omega | (with_reducible rfl) | (simp only [go_sem]; done) | (simp only [go_sem]; omega) | fail) only [↓reduceIte, ↓jn_eq, Nat.reduceAdd, go_sem]
   · simp (disch := first | assumption | omega | (with_reducible rfl) | (simp only [go_sem]; done) | (simp only [go_sem]; omega) | fail) only [↓reduceIte, ↓jn_eq, Nat.reduceAdd, go_sem]
 | succ m ih =>
   intro i f hi hf
   have hl := ofL_len i N w
   have hv := vNs_snoc .own (ofL i N w) i
   have h := hisV (v := i) (N := N) (w := w) (by omega) h1 h2
   rw [f33_l0_eq]
   by_cases ho : ownN i N = w
   · have := ih (i + 1) .own (by omega) (Or.inl rfl)
     rw [ofL_succ, if_pos ho] at this
     rcases hf with rfl | rfl
     · simp (disch := first | assumption | omega | (with_reducible rfl) | (simp only [go_sem]; done) | (simp only [go_sem]; omega) | fail) only [↓reduceIte, ↓jn_eq, Nat.reduceAdd, go_sem, h, decide_eq_true ho]
       rw [hv] at this; exact this
     · simp (disch := first | assumption | omega | (with_reducible rfl) | (simp only [go_sem]; done) | (simp only [go_sem]; omega) | fail) only [↓reduceIte, ↓jn_eq, Nat.reduceAdd, go_sem, h, decide_eq_true ho]
       rw [hv] at this; exact this
   · have := ih (i + 1) f (by omega) hf
     rw [ofL_succ, if_neg ho] at this
     simp (disch := first | assumption | omega | (with_reducible rfl) | (simp only [go_sem]; done) | (simp only [go_sem]; omega) | fail) only [↓reduceIte, ↓jn_eq, Nat.reduceAdd, go_sem, h, decide_eq_false ho]
     exact this
theorem pof_am {n N w : Nat} (h0 : 1 ≤ n) (hn : n ≤ 64) (h1 : 1 ≤ N) (h2 : N ≤ 64) (hw : w < N) : Cl 33 [.int .i64 (n : Int), .int .i64 (N : Int), .int .i64 (w : Int)] [] = some (.tup [vNs .sh (ofL n N w), .int .i64 0], []) := by
 have h := pof_l0 (w := w) hn h1 h2 n 0 .nil (by omega) (Or.inr rfl)
 have r : Cl 63 [.int .i64 (n : Int), .int .i64 (N : Int)] [] = some (.bool true, []) := by
  rw [f63_eq]
  simp (disch := first | assumption | omega | (with_reducible rfl) | (simp only [go_sem]; done) | (simp only [go_sem]; omega) | fail) only [↓reduceIte, ↓jn_eq, Nat.reduceAdd, go_sem]
  rw [decide_eq_true (by omega)]
 have z : vNs .nil (ofL 0 N w) = .lst 3 .nil [] := by simp [ofL]
 rw [z] at h
 rw [← h, f33_eq]
 simp (disch := first | assumption | omega | (with_reducible rfl) | (simp only [go_sem]; done) | (simp only [go_sem]; omega) | fail) only [↓reduceIte, ↓jn_eq, Nat.reduceAdd, go_sem, r]
 rfl
end Go.Proofs.YtiegkempfolgcaaGreatDoor
end

section
set_option linter.unusedVariables false
set_option linter.unusedSimpArgs false
set_option linter.unusedSectionVars false
set_option maxRecDepth 100000
namespace Go.Proofs.YtiegkempfolgcaaGreatDoor
open Go AM
abbrev kE (e : E0) : Int × Int := (e.fr, e.to)
theorem take_key (es : List E0) {i : Nat} (h : i < es.length) : ((es.take (i + 1)).map kE).Nodup ↔ ((es.take i).map kE).Nodup ∧ (es.take i).any (fun x => decide (kE x = kE es[i])) = false := by
 rw [List.take_add_one, List.getElem?_eq_getElem h, Option.toList_some, List.map_append, List.nodup_append]
 simp only [List.map_cons, List.map_nil, List.nodup_cons, List.not_mem_nil, not_false_eq_true, List.nodup_nil, and_self, true_and, List.mem_cons, or_false]
 refine and_congr_right fun _ => ?_
 rw [List.any_eq_false]
 constructor
 · intro h x hx; simp only [decide_eq_true_eq]; exact fun e => h (kE x) (List.mem_map_of_mem hx) _ rfl e
 · rintro h a ha b rfl e
   obtain ⟨x, hx, rfl⟩ := List.mem_map.1 ha
   exact h x hx (decide_eq_true e)
theorem r5_l2 {g : Grf} (hl : g.es.length < 1000000) {i : Nat} (hi : i < g.es.length) : ∀ (n k : Nat) (b : Bool), k + n = i →
 f68_l2 rG (.bool b) (.int .i64 (i : Int)) (.ref 1 [] 112) (.int .i64 (k : Int)) 1 [vG .sh g, vE0 g.es[i]] =
  f68_l0 rG (.bool (b || ((g.es.take i).drop k).any (fun x => decide (kE x = kE g.es[i])))) (.int .i64 ((i + 1 : Nat) : Int)) [vG .sh g] := by
 intro n
 induction n with
 | zero =>
   intro k b hk
   rw [List.drop_eq_nil_of_le (by simp; omega), List.any_nil, Bool.or_false, f68_l2_eq]
   simp (disch := first | assumption | omega | (with_reducible rfl) | (simp only [go_sem]; done) | (simp only [go_sem]; omega) | fail) only [↓reduceIte, ↓jn_eq, Nat.reduceAdd, go_sem]
 | succ n ih =>
   intro k b hk
   have hk2 : k < g.es.length := by omega
   have hx := E0_at hk2
   have hlen : k < (g.es.take i).length := by simp; omega
   have hd : (g.es.take i).drop k = g.es[k] :: (g.es.take i).drop (k + 1) := by
    rw [List.drop_eq_getElem_cons hlen, List.getElem_take]
   rw [hd, List.any_cons, f68_l2_eq]
   cases b with
   | true =>
     have := ih (k + 1) true (by omega)
     rw [Bool.true_or] at this ⊢
     rw [← this]
     simp (disch := first | assumption | omega | (with_reducible rfl) | (simp only [go_sem]; done) | (simp only [go_sem]; omega) | fail) only [↓reduceIte, ↓jn_eq, Nat.reduceAdd, go_sem]
   | false =>
     rw [Bool.false_or]
     by_cases h1 : g.es[k].fr = g.es[i].fr
     · by_cases h2 : g.es[k].to = g.es[i].to
       · have := ih (k + 1) true (by omega)
         rw [Bool.true_or] at this
         rw [decide_eq_true (show kE g.es[k] = kE g.es[i] by rw [kE, h1, h2]), Bool.true_or, ← this]
         generalize hek : g.es[k] = a at *
         generalize hei : g.es[i] = c at *
         simp only [vE0] at hx ⊢
         simp (disch := first | assumption | omega | (with_reducible rfl) | (simp only [go_sem]; done) | (simp only [go_sem]; omega) | fail) only [↓reduceIte, ↓jn_eq, Nat.reduceAdd, go_sem, hx, h1, h2, decide_true]
       · have := ih (k + 1) false (by omega)
         rw [Bool.false_or] at this
         rw [decide_eq_false (show ¬ kE g.es[k] = kE g.es[i] from fun e => h2 (Prod.mk.inj e).2), Bool.false_or, ← this]
         generalize hek : g.es[k] = a at *
         generalize hei : g.es[i] = c at *
         simp only [vE0] at hx ⊢
         simp (disch := first | assumption | omega | (with_reducible rfl) | (simp only [go_sem]; done) | (simp only [go_sem]; omega) | fail) only [↓reduceIte, ↓jn_eq, Nat.reduceAdd, go_sem, hx, h1, decide_eq_false h2]
     · have := ih (k + 1) false (by omega)
       rw [Bool.false_or] at this
       rw [decide_eq_false (show ¬ kE g.es[k] = kE g.es[i] from fun e => h1 (Prod.mk.inj e).1), Bool.false_or, ← this]
       generalize hek : g.es[k] = a at *
       generalize hei : g.es[i] = c at *
       simp only [vE0] at hx ⊢
       simp (disch := first | assumption | omega | (with_reducible rfl) | (simp only [go_sem]; done) | (simp only [go_sem]; omega) | fail) only [↓reduceIte, ↓jn_eq, Nat.reduceAdd, go_sem, hx]
def r5 (g : Grf) (i : Nat) : Int := if (g.es.drop i).any (oddE g.n) = true then 50 else if (g.es.map kE).Nodup then 0 else 51
theorem r5_l0 {g : Grf} (hl : g.es.length < 1000000) : ∀ (n i : Nat) (b : Bool), i + n = g.es.length → b = !decide ((g.es.take i).map kE).Nodup →
 f68_l0 rG (.bool b) (.int .i64 (i : Int)) [vG .sh g] = some (.int .i64 (r5 g i), []) := by
 intro n
 induction n with
 | zero =>
   intro i b hi hb
   rw [List.take_of_length_le (by omega)] at hb
   rw [r5, List.drop_eq_nil_of_le (by omega), List.any_nil, f68_l0_eq]
   by_cases hn : (g.es.map kE).Nodup
   · rw [decide_eq_true hn] at hb
     subst hb
     rw [if_pos hn]
     simp (disch := first | assumption | omega | (with_reducible rfl) | (simp only [go_sem]; done) | (simp only [go_sem]; omega) | fail) only [↓reduceIte, ↓jn_eq, Nat.reduceAdd, go_sem]
     rfl
   · rw [decide_eq_false hn] at hb
     subst hb
     rw [if_neg hn]
     simp (disch := first | assumption | omega | (with_reducible rfl) | (simp only [go_sem]; done) | (simp only [go_sem]; omega) | fail) only [↓reduceIte, ↓jn_eq, Nat.reduceAdd, go_sem]
     rfl
 | succ n ih =>
   intro i b hi hb
   have h : i < g.es.length := by omega
   have hx := E0_at h
   have l2 := r5_l2 hl h i 0 b (by omega)
   rw [List.drop_zero] at l2
   have hk := take_key g.es h
   have ih' := ih (i + 1) (b || (g.es.take i).any (fun x => decide (kE x = kE g.es[i]))) (by omega) (by
    subst hb
    rw [Bool.eq_iff_iff]
    by_cases p : ((g.es.take i).map kE).Nodup <;> cases q : (g.es.take i).any (fun x => decide (kE x = kE g.es[i])) <;> simp_all)
   rw [ih'] at l2
   have hbad : oddE g.n g.es[i] = true → r5 g i = 50 := fun ho => by rw [r5, List.drop_eq_getElem_cons h, List.any_cons, ho]; rfl
   have hok : oddE g.n g.es[i] = false → r5 g i = r5 g (i + 1) := fun ho => by rw [r5, r5, List.drop_eq_getElem_cons h, List.any_cons, ho]; rfl
   generalize r5 g i = r at *
   generalize r5 g (i + 1) = r' at *
   generalize he : g.es[i] = e at *
   rw [f68_l0_eq]
   simp only [vE0, c0] at hx l2
   repeat' first | rfl | refine br_d (fun _ => ?_) (fun _ => ?_) | refine br_b (fun _ => ?_) (fun _ => ?_) | simp (disch := first | assumption | omega | (with_reducible rfl) | (simp only [go_sem]; done) | (simp only [go_sem]; omega) | fail) only [↓reduceIte, ↓jn_eq, Nat.reduceAdd, go_sem, hx, l2]
   all_goals simp only [oddE] at hbad hok
   all_goals simp_all
   all_goals omega
theorem rchk_am {g : Grf} (hl : g.es.length < 1000000) : Cl 68 [vG .sh g] [] = some (.int .i64 (chkG g), []) := by
 have h := r5_l0 hl g.es.length 0 false (by omega) (by simp)
 simp only [c0] at h
 have e : ∀ (a : 1 ≤ g.n) (b : g.n ≤ 64) (c : g.es.length ≤ 512), chkG g = r5 g 0 := by
  intro a b c
  rw [chkG, r5, List.drop_zero]
  by_cases ho : g.es.any (oddE g.n) = true
  · rw [if_neg (fun h => by rw [ho] at h; cases h.2.2.2), if_pos ho]
  · rw [if_pos ⟨a, b, c, by simpa using ho⟩, if_neg ho]
 by_cases h1 : g.n < 1
 · rw [chkG, if_neg (by omega), f68_eq]
   simp (disch := first | assumption | omega | (with_reducible rfl) | (simp only [go_sem]; done) | (simp only [go_sem]; omega) | fail) only [↓reduceIte, ↓jn_eq, Nat.reduceAdd, go_sem]
 by_cases h2 : 64 < g.n
 · rw [chkG, if_neg (by omega), f68_eq]
   simp (disch := first | assumption | omega | (with_reducible rfl) | (simp only [go_sem]; done) | (simp only [go_sem]; omega) | fail) only [↓reduceIte, ↓jn_eq, Nat.reduceAdd, go_sem]
 by_cases h3 : 512 < g.es.length
 · rw [chkG, if_neg (by omega), f68_eq]
   simp (disch := first | assumption | omega | (with_reducible rfl) | (simp only [go_sem]; done) | (simp only [go_sem]; omega) | fail) only [↓reduceIte, ↓jn_eq, Nat.reduceAdd, go_sem]
 rw [e (by omega) (by omega) (by omega), f68_eq]
 simp (disch := first | assumption | omega | (with_reducible rfl) | (simp only [go_sem]; done) | (simp only [go_sem]; omega) | fail) only [↓reduceIte, ↓jn_eq, Nat.reduceAdd, go_sem, h]
theorem rright7_am {g : Grf} (hl : g.es.length < 1000000) (j : Job) : Cl 37 [vG .sh g, vJ j] [] = some (.bool (goodJ g j), []) := by
 have hg := rchk_am hl
 rw [f37_eq]
 repeat' first | rfl | refine br_d (fun _ => ?_) (fun _ => ?_) | refine br_b (fun _ => ?_) (fun _ => ?_) | simp (disch := first | assumption | omega | (with_reducible rfl) | (simp only [go_sem]; done) | (simp only [go_sem]; omega) | fail) only [↓reduceIte, ↓jn_eq, Nat.reduceAdd, go_sem, hg, rknown_am]
 all_goals (rw [goodJ]; simp_all)
 all_goals omega
def goodB (g : Grf) (j : Job) (w : Int) : Bool := goodJ g j && decide (1 ≤ w ∧ w ≤ 64)
theorem rright_am {g : Grf} (hl : g.es.length < 1000000) (j : Job) (w : Int) : Cl 12 [vG .sh g, vJ j, .int .i64 w] [] = some (.bool (goodB g j w), []) := by
 have hg := rright7_am hl j
 rw [goodB, f12_eq]
 generalize goodJ g j = b at *
 repeat' first | rfl | refine br_d (fun _ => ?_) (fun _ => ?_) | refine br_b (fun _ => ?_) (fun _ => ?_) | simp (disch := first | assumption | omega | (with_reducible rfl) | (simp only [go_sem]; done) | (simp only [go_sem]; omega) | fail) only [↓reduceIte, ↓jn_eq, Nat.reduceAdd, go_sem, hg]
 all_goals simp_all
 all_goals omega
end Go.Proofs.YtiegkempfolgcaaGreatDoor
end

section
set_option linter.unusedVariables false
set_option linter.unusedSimpArgs false
set_option maxRecDepth 100000
namespace Go.Proofs.YtiegkempfolgcaaGreatDoor
open Go AM
structure Msg where
 fr : Int
 to : Int
 val : Int
 deriving DecidableEq
def vMsg (m : Msg) : V := .agg 107 [.int .i64 m.fr, .int .i64 m.to, .int .i64 m.val]
end Go.Proofs.YtiegkempfolgcaaGreatDoor
end

section
set_option linter.unusedVariables false
set_option linter.unusedSimpArgs false
set_option linter.unusedSectionVars false
set_option maxRecDepth 100000
namespace Go.Proofs.YtiegkempfolgcaaGreatDoor
open Go AM
@[go_sem] theorem pl_vMsg (m : Msg) : (vMsg m).pl = true := (rfl)
@[go_sem] theorem plL_msgs (l : List Msg) : plL (l.map vMsg) = true := plL_map (fun _ => rfl) l
@[go_sem] theorem tyG_vMsg (m : Msg) : tyG 107 (vMsg m) = true := tyG_g ..
@[go_sem] theorem tyA_msgs (l : List Msg) : (l.map vMsg).all (tyG 107) = true := all_map (fun _ => tyG_g ..) l
end Go.Proofs.YtiegkempfolgcaaGreatDoor
end

section
set_option linter.unusedVariables false
set_option linter.unusedSimpArgs false
set_option linter.unusedSectionVars false
set_option maxRecDepth 100000
namespace Go.Proofs.YtiegkempfolgcaaGreatDoor
open Go AM
def greatB (n : Int) : Bool := decide (1125899906842624 < n) || decide (n < -1125899906842624)
theorem great_am (n : Int) : Cl 121 [.int .i64 n] [] = some (.bool (greatB n), []) := by
 rw [f121_eq, greatB]
 by_cases h : 1125899906842624 < n
 · simp (disch := first | assumption | omega | (with_reducible rfl) | (simp only [go_sem]; done) | (simp only [go_sem]; omega) | fail) only [↓reduceIte, ↓jn_eq, Nat.reduceAdd, go_sem]
   rw [decide_eq_true h]; rfl
 · simp (disch := first | assumption | omega | (with_reducible rfl) | (simp only [go_sem]; done) | (simp only [go_sem]; omega) | fail) only [↓reduceIte, ↓jn_eq, Nat.reduceAdd, go_sem]
   rw [decide_eq_false h]; rfl
def chkV (x : Vtx) : Bool := !(decide (x.id < 0) || decide (64 ≤ x.id) || greatB x.val || greatB x.inn || (!x.has && decide (x.inn ≠ 0)))
theorem CheckV_am (x : Vtx) : Cl 96 [vVx x] [] = some (.int .i64 (if chkV x = true then 0 else 100), []) := by
 by_cases h1 : x.id < 0
 · rw [show (if chkV x = true then (0 : Int) else 100) = 100 from if_neg (by simp [chkV, h1])]
   rw [f96_eq]
   simp only [vVx]
   simp (disch := first | assumption | omega | (with_reducible rfl) | (simp only [go_sem]; done) | (simp only [go_sem]; omega) | fail) only [↓reduceIte, ↓jn_eq, Nat.reduceAdd, go_sem]
 by_cases h2 : 64 ≤ x.id
 · rw [show (if chkV x = true then (0 : Int) else 100) = 100 from if_neg (by simp [chkV, h2])]
   rw [f96_eq]
   simp only [vVx]
   simp (disch := first | assumption | omega | (with_reducible rfl) | (simp only [go_sem]; done) | (simp only [go_sem]; omega) | fail) only [↓reduceIte, ↓jn_eq, Nat.reduceAdd, go_sem]
 by_cases h3 : greatB x.val = true
 · rw [show (if chkV x = true then (0 : Int) else 100) = 100 from if_neg (by simp [chkV, h3])]
   rw [f96_eq]
   simp only [vVx]
   simp (disch := first | assumption | omega | (with_reducible rfl) | (simp only [go_sem]; done) | (simp only [go_sem]; omega) | fail) only [↓reduceIte, ↓jn_eq, Nat.reduceAdd, go_sem, great_am, h3]
 by_cases h4 : greatB x.inn = true
 · rw [show (if chkV x = true then (0 : Int) else 100) = 100 from if_neg (by simp [chkV, h4])]
   rw [f96_eq]
   simp only [vVx]
   simp (disch := first | assumption | omega | (with_reducible rfl) | (simp only [go_sem]; done) | (simp only [go_sem]; omega) | fail) only [↓reduceIte, ↓jn_eq, Nat.reduceAdd, go_sem, great_am, h3, h4]
 simp only [Bool.not_eq_true] at h3 h4
 cases h5 : x.has
 · by_cases h6 : x.inn = 0
   · rw [show (if chkV x = true then (0 : Int) else 100) = 0 from if_pos (by simp only [chkV, h3, h4, h5, h6, decide_eq_false h1, decide_eq_false h2]; rfl)]
     rw [f96_eq]
     simp only [vVx]
     simp (disch := first | assumption | omega | (with_reducible rfl) | (simp only [go_sem]; done) | (simp only [go_sem]; omega) | fail) only [↓reduceIte, ↓jn_eq, Nat.reduceAdd, go_sem, great_am, h3, h4, h5]
   · rw [show (if chkV x = true then (0 : Int) else 100) = 100 from if_neg (by simp [chkV, h5, h6])]
     rw [f96_eq]
     simp only [vVx]
     simp (disch := first | assumption | omega | (with_reducible rfl) | (simp only [go_sem]; done) | (simp only [go_sem]; omega) | fail) only [↓reduceIte, ↓jn_eq, Nat.reduceAdd, go_sem, great_am, h3, h4, h5]
 · rw [show (if chkV x = true then (0 : Int) else 100) = 0 from if_pos (by simp [chkV, h1, h2, h3, h4, h5])]
   rw [f96_eq]
   simp only [vVx]
   simp (disch := first | assumption | omega | (with_reducible rfl) | (simp only [go_sem]; done) | (simp only [go_sem]; omega) | fail) only [↓reduceIte, ↓jn_eq, Nat.reduceAdd, go_sem, great_am, h3, h4, h5]
def bitN (b : Bool) : Nat := if b = true then 1 else 0
theorem bit_am (b : Bool) : Cl 98 [.bool b] [] = some (.int .u64 (bitN b : Int), []) := by
 rw [f98_eq]
 cases b <;> rfl
def vtxB (x : Vtx) : List UInt8 := if chkV x = true then numB x.id.toNat ++ numB (unz x.val) ++ numB (bitN x.act) ++ numB (bitN x.has) ++ numB (unz x.inn) else []
theorem OutInt_h {a : V} {f : Fl} {l : List UInt8} {n : Int} (hf : OK f) (h1 : I64 n) (hl : l.length ≤ 2000000000) : Cl 97 [rOut 1, .int .i64 n] [a, vOut f l] = some (.tup [], [a, vOut .own (l ++ numB (unz n))]) := OutInt_am (h := [a, vOut f l]) (id := 1) rfl hf h1.1 h1.2 (by omega)
theorem bitN_lt (b : Bool) : (bitN b : Int) < 18446744073709551616 := by cases b <;> decide
theorem vtxB_len (x : Vtx) : (vtxB x).length ≤ 50 := by
 have a := numBf_len 10 x.id.toNat; have b := numBf_len 10 (unz x.val); have c := numBf_len 10 (unz x.inn)
 have d := numBf_len 10 (bitN x.act); have e := numBf_len 10 (bitN x.has)
 simp only [vtxB]; split
 · simp only [List.length_append, numB]; omega
 · simp
theorem PutV_am {x : Vtx} (hx : VOk x) : Cl 67 [vVx x] [] = some (.str (vtxB x), []) := by
 obtain ⟨x1, x2, x3⟩ := hx
 have hc := CheckV_am x
 by_cases h : chkV x = true
 · have h0 : 0 ≤ x.id := by simp only [chkV, Bool.not_eq_true', Bool.or_eq_false_iff, decide_eq_false_iff_not] at h; omega
   have hlt : x.id < 18446744073709551616 := by have := x1.2; omega
   rw [if_pos h] at hc
   rw [vtxB, if_pos h, f67_eq]
   have a := numBf_len 10 x.id.toNat; have b := numBf_len 10 (unz x.val); have c := numBf_len 10 (unz x.inn)
   have d := numBf_len 10 (bitN x.act); have e := numBf_len 10 (bitN x.has)
   generalize ha : numB x.id.toNat = n1
   generalize hb : numB (unz x.val) = n2
   generalize hd : numB (bitN x.act) = n3
   generalize he : numB (bitN x.has) = n4
   have s1 : ∀ w : V, Cl 46 [rOut 1, .int .u64 x.id] [w, vOut .nil []] = _ := fun w => OutNum_h (a := w) (f := .nil) (l := []) OK_nil h0 hlt (by simp)
   rw [ha, List.nil_append] at s1
   have t1 : n1.length ≤ 10 := ha ▸ a
   have s2 : ∀ w : V, Cl 97 [rOut 1, .int .i64 x.val] [w, vOut .own n1] = _ := fun w => OutInt_h (a := w) OK_own x2 (by omega)
   rw [hb] at s2
   have t2 : n2.length ≤ 10 := hb ▸ b
   have s3 : ∀ w : V, Cl 46 [rOut 1, .int .u64 (bitN x.act : Int)] [w, vOut .own (n1 ++ n2)] = _ := fun w => OutNum_h (a := w) OK_own (by omega) (bitN_lt _) (by simp only [List.length_append]; omega)
   rw [Int.toNat_natCast, hd] at s3
   have t3 : n3.length ≤ 10 := hd ▸ d
   have s4 : ∀ w : V, Cl 46 [rOut 1, .int .u64 (bitN x.has : Int)] [w, vOut .own (n1 ++ n2 ++ n3)] = _ := fun w => OutNum_h (a := w) OK_own (by omega) (bitN_lt _) (by simp only [List.length_append]; omega)
   rw [Int.toNat_natCast, he] at s4
   have t4 : n4.length ≤ 10 := he ▸ e
   have s5 : ∀ w : V, Cl 97 [rOut 1, .int .i64 x.inn] [w, vOut .own (n1 ++ n2 ++ n3 ++ n4)] = _ := fun w => OutInt_h (a := w) OK_own x3 (by simp only [List.length_append]; omega)
   have hb1 : ∀ b, Cl 98 [.bool b] [] = _ := bit_am
   simp only [List.append_assoc] at s3 s4 s5 ⊢
   simp only [vVx] at hc ⊢
   simp (disch := first | assumption | omega | (with_reducible rfl) | (simp only [go_sem]; done) | (simp only [go_sem]; omega) | fail) only [↓reduceIte, ↓jn_eq, Nat.reduceAdd, go_sem, hc, NewOut_h, s1, s2, s3, s4, s5, hb1, OutDone_h]
 · rw [if_neg h] at hc
   rw [vtxB, if_neg h, f67_eq]
   simp only [vVx] at hc ⊢
   simp (disch := first | assumption | omega | (with_reducible rfl) | (simp only [go_sem]; done) | (simp only [go_sem]; omega) | fail) only [↓reduceIte, ↓jn_eq, Nat.reduceAdd, go_sem, hc]
abbrev winS (n : Nat) : V := .win 0 [] 0 n 9
abbrev rowS (d : List (List UInt8)) : V := .row 9 (d.map V.str)
theorem under_vxs (n : Nat) (f : Fl) (l : List Vtx) : V.under n (.lst 81 f (l.map vVx)) = true := by
 have := (V.PF (.agg 0 (l.map vVx)) (plL_vxs l)).under n
 cases f <;> first | rfl | exact this
theorem rowsV_l0 {l : List Vtx} (hl : ∀ x ∈ l, VOk x) (hn : l.length ≤ 1000000) (f : Fl) : ∀ (n i : Nat) (d : List (List UInt8)), i + n = l.length → d.length = l.length →
 f36_l0 (winS l.length) (.lst 81 f (l.map vVx)) (.int .i64 (l.length : Int)) (.int .i64 (i : Int)) [rowS d] = some (.lst 9 .sh ((d.take i ++ (l.drop i).map vtxB).map V.str), []) := by
 intro n
 induction n with
 | zero =>
   intro i d hi hd
   have e1 : l.drop i = [] := List.drop_eq_nil_of_le (by omega)
   rw [e1, List.map_nil, List.append_nil, List.take_of_length_le (by omega), f36_l0_eq]
   have c : content [rowS d] (winS l.length) = some (d.map V.str) := by
    simp only [content, rd, List.getElem?_cons_zero, Option.bind_some, V.at, V.items, List.drop_zero]
    simp only [V.items, Option.map_some, Option.bind_some]
    rw [← hd]; exact congrArg some (List.take_of_length_le (by simp))
   have fin : finT 0 [rowS d] (winS l.length) = some (.lst 9 .sh (d.map V.str), []) := by
    have cl : cleanL (d.map V.str) = true := by
     clear c hd; induction d with
     | nil => rfl
     | cons x t ih => simp only [List.map_cons, cleanL, ih]; rfl
    have nl : normL (d.map V.str) = d.map V.str := by
     clear c hd cl; induction d with
     | nil => rfl
     | cons x t ih => simp only [List.map_cons, normL, ih]; rfl
    simp only [finT, V.unmut, c, cl, nl, if_true]
    rfl
   simp (disch := first | assumption | omega | (with_reducible rfl) | (simp only [go_sem]; done) | (simp only [go_sem]; omega) | fail) only [↓reduceIte, ↓jn_eq, Nat.reduceAdd, go_sem, fin]
 | succ n ih =>
   intro i d hi hd
   have h : i < l.length := by omega
   have hx := hl _ (List.getElem_mem h)
   have hr := PutV_am hx
   have := ih (i + 1) (d.set i (vtxB l[i])) (by omega) (by simp [hd])
   have e : (d.set i (vtxB l[i])).take (i + 1) ++ (l.drop (i + 1)).map vtxB = d.take i ++ (l.drop i).map vtxB := by
    rw [List.drop_eq_getElem_cons h, List.map_cons, List.take_add_one, List.take_set_of_le (by omega), List.getElem?_set_self (by omega)]
    simp
   rw [e] at this
   rw [← this, f36_l0_eq]
   have ix : ixS 9 (V.weak (winS l.length)) (.int .i64 (i : Int)) = some (.ref 0 [i] 9) := by
    simp only [V.weak, ixS, inside]
    simp; omega
   have hu := under_vxs 1 f l
   rw [rowS, rowS, List.map_set]
   simp (disch := first | assumption | omega | (with_reducible rfl) | (simp only [go_sem]; done) | (simp only [go_sem]; omega) | fail) only [↓reduceIte, ↓jn_eq, Nat.reduceAdd, go_sem, Vx_at h, hr, ix, hu]
theorem RowsV_am {l : List Vtx} (hl : ∀ x ∈ l, VOk x) (hn : l.length ≤ 1000000) (f : Fl) : Cl 36 [.lst 81 f (l.map vVx)] [] = some (.lst 9 .sh ((l.map vtxB).map V.str), []) := by
 have h := rowsV_l0 hl hn f l.length 0 (List.replicate l.length []) (by omega) (by simp)
 rw [List.take_zero, List.nil_append, List.drop_zero] at h
 simp only [c0] at h
 have mk : mkL 9 (.str []) (.int .i64 (l.length : Int)) (.int .i64 (l.length : Int)) = some (.lst 9 .own (List.replicate l.length (.str []))) := by
  simp only [mkL]
  rw [if_pos ⟨by omega, by omega, by omega⟩]; rfl
 have tb : toBox [] (.lst 9 .own (List.replicate l.length (.str []))) = some (winS l.length, [rowS (List.replicate l.length [])]) := by
  simp [toBox]
 rw [← h, f36_eq]
 simp (disch := first | assumption | omega | (with_reducible rfl) | (simp only [go_sem]; done) | (simp only [go_sem]; omega) | fail) only [↓reduceIte, ↓jn_eq, Nat.reduceAdd, go_sem, mk, tb]
theorem shortV (l : List Vtx) : Short (l.map vtxB) := by
 intro s hs
 obtain ⟨x, _, rfl⟩ := List.mem_map.1 hs
 have := vtxB_len x; omega
def vrootB (l : List Vtx) : List UInt8 := treeB (l.map vtxB)
theorem VRoot_am {l : List Vtx} (hl : ∀ x ∈ l, VOk x) (hn : l.length ≤ 1000000) (f : Fl) : Cl 35 [.lst 81 f (l.map vVx)] [] = some (A32 (vrootB l), []) := by
 have h := RowsV_am hl hn
 rw [f35_eq, zero32]
 simp (disch := first | assumption | omega | (with_reducible rfl) | (simp only [go_sem]; done) | (simp only [go_sem]; omega) | fail) only [↓reduceIte, ↓jn_eq, Nat.reduceAdd, go_sem, h, Root_am (l := l.map vtxB) (by simp; omega) (shortV l)]
 rfl
end Go.Proofs.YtiegkempfolgcaaGreatDoor
end

section
set_option linter.unusedVariables false
set_option linter.unusedSimpArgs false
set_option linter.unusedSectionVars false
set_option maxRecDepth 100000
namespace Go.Proofs.YtiegkempfolgcaaGreatDoor
open Go AM
theorem callH_pure {f : FuncId} {id : Nat} {p : List Nat} {t : TypeId} {vs vs' h : List V} {v r : V} (he : ann.ext f = false) (hp : ann.pure f = true) (hh : h[id]? = some v) (haw : awayL id (h.set id void) = true)
 (hv : awayL id vs = true) (hrf : reifyL (h.set id void) vs = vs') (hr : r.away id = true) (e : Cl f vs' [] = some (r, [])) (k : V → List V → Rv) (hs : (ann.seq f).1 = 0 := by kernel_rfl) :
 callH P ann W (some (.ref id p t)) (.clo f []) vs h k = k r h := by
 have hlt := lt_get hh
 simp only [callH, hh, haw, hv]
 rw [if_pos (show (V.away id (.clo f []) && true && true) = true from rfl), callV_p _ he hp hs, List.append_nil, hrf]
 refine (bstep e _).trans ?_
 rw [if_pos (by rw [hr, haw, List.length_set]; simp only [Bool.true_and]; exact Nat.ble_eq_true_of_le hlt), List.set_set]
 congr 1
 exact (List.ext_getElem? fun i => by
  by_cases hi : i = id
  · subst hi; rw [List.getElem?_set_self hlt, hh]
  · rw [List.getElem?_set_ne (Ne.symm hi)])
theorem ldTake_f {h : List V} {id i : Nat} {u e t : TypeId} {f : Fl} {fs xs : List V} (hh : h[id]? = some (.agg u fs)) (hf : fs[i]? = some (.lst e f xs)) : ldTake h t (.ref id [i] t) = some (.lst e f xs, h.set id (.agg u (fs.set i (.lst e f.wk xs)))) := by
 simp only [ldTake, if_true, rd, wr, hh, Option.bind_some, V.at, V.upd, hf, weak_lst', Option.map_some]
@[go_sem] theorem low_oo (t u : TypeId) (xs ys : List V) : lowB true [.lst t .own xs, .lst u .own ys] = true := (rfl)
@[go_sem] theorem low_no (t u : TypeId) (xs ys : List V) : lowB true [.lst t .nil xs, .lst u .own ys] = true := (rfl)
structure Bk where
 step : Int
 gone : List Bool
 roots : List (List UInt8)
 known : List (List (List UInt8))
 sent : List Msg
 deriving DecidableEq
abbrev tBk : TypeId := 32
def sS (l : List (List UInt8)) : V := .lst 9 .sh (l.map V.str)
abbrev vB4 (f0 f1 f2 f3 : Fl) (b : Bk) : V := .agg tBk [.int .i64 b.step, .lst 4 f0 (b.gone.map V.bool), .lst 55 f1 (b.roots.map A32), .lst 58 f2 (b.known.map sS), .lst 108 f3 (b.sent.map vMsg)]
abbrev vB (b : Bk) : V := vB4 .sh .sh .sh .sh b
def zB : Bk := ⟨0, [], [], [], []⟩
@[go_sem] theorem weak_sS (l : List (List UInt8)) : (sS l).weak = sS l := (rfl)
@[go_sem] theorem pl_sS (l : List (List UInt8)) : (sS l).pl = true := plL_strs l
@[go_sem] theorem plL_sS (l : List (List (List UInt8))) : plL (l.map sS) = true := plL_map pl_sS l
@[go_sem] theorem plL_bools (l : List Bool) : plL (l.map V.bool) = true := plL_map (fun _ => rfl) l
@[go_sem] theorem tyL_sS (l : List (List UInt8)) : tyL 9 (sS l) = true := (rfl)
@[go_sem] theorem tyA_sS (l : List (List (List UInt8))) : (l.map sS).all (tyL 9) = true := all_map tyL_sS l
@[go_sem] theorem tyA_bools (l : List Bool) : (l.map V.bool).all AM.tyB = true := all_map (fun _ => rfl) l
@[go_sem] theorem plL_A32s' (l : List (List UInt8)) : plL (l.map A32) = true := plL_map pl_A32 l
def vtxs (g : Grf) (j : Job) (N w : Nat) : List Vtx := (ofL g.n.toNat N w).map fun (v : Nat) => firstX j (v : Int)
def newB (g : Grf) (j : Job) (N : Nat) : Bk := ⟨0, List.replicate N false, (List.range N).map fun w => vrootB (vtxs g j N w), (List.range N).map fun w => (vtxs g j N w).map vtxB, []⟩
theorem firstX_ok (j : Job) {v : Nat} (hv : v < 64) : VOk (firstX j (v : Int)) := by
 have : -9223372036854775808 ≤ (37 * (v : Int) + 11).tmod 64 ∧ (37 * (v : Int) + 11).tmod 64 < 9223372036854775808 := by
  rw [Int.tmod_eq_emod_of_nonneg (by omega)]; omega
 simp only [VOk, firstX, I64]
 repeat' split
 all_goals (simp only []; omega)
theorem vtxs_ok {g : Grf} (hg : g.n ≤ 64) (j : Job) (N w : Nat) : ∀ x ∈ vtxs g j N w, VOk x := by
 intro x hx
 obtain ⟨v, hv, rfl⟩ := List.mem_map.1 hx
 have := ofL_lt hv
 exact firstX_ok j (by omega)
theorem vtxs_len (g : Grf) (j : Job) (N w : Nat) : (vtxs g j N w).length ≤ g.n.toNat := by
 rw [vtxs, List.length_map]; exact ofL_len _ _ _
theorem vroot_len (l : List Vtx) : (vrootB l).length = 32 := rootB_len _ _
attribute [local irreducible] vrootB vtxB firstX
def upB (g : Grf) (j : Job) (N w : Nat) : Bk := ⟨0, List.replicate N false, (List.range w).map fun w => vrootB (vtxs g j N w), (List.range w).map fun w => (vtxs g j N w).map vtxB, []⟩
theorem vx_reify (h : List V) (f : Fl) (l : List Vtx) (hf : f = .sh ∨ f = .nil) : reifyL h [.lst 81 f (l.map vVx)] = [.lst 81 .sh (l.map vVx)] := by
 rcases hf with rfl | rfl <;> rfl
theorem bnew_end {g : Grf} (hg : g.n ≤ 64) (h1 : 1 ≤ g.n) {j : Job} {N w : Nat} (hN : N ≤ 64) (hw : w < N) {f f1 f2 : Fl} (hf : f = .own ∨ f = .nil) (hf1 : f1 = .own ∨ f1 = .nil) (hf2 : f2 = .own ∨ f2 = .nil) (a z : V) (ha : a.away 3 = true) (hz : z.away 3 = true) {L : List Nat} (i m0 : Nat) (hL : L.length = i) :
 f10_l2 (.int .i64 (N : Int)) (.ref 0 [] 24) (.ref 1 [] 26) (.ref 2 [] 33) (.ref 3 [] 33) (.lst 81 f ((vtxs g j N w).map vVx)) (.int .i64 (N : Int)) (.int .i64 (w : Int)) (vNs .sh L) (.int .i64 (i : Int)) (.int .i64 (i : Int)) m0 [a, vJ j, z, vB4 .sh f1 f2 .nil (upB g j N w)] =
  f10_l0 (.int .i64 (N : Int)) (.ref 0 [] 24) (.ref 1 [] 26) (.ref 2 [] 33) (.ref 3 [] 33) (.int .i64 (N : Int)) (.int .i64 ((w + 1 : Nat) : Int)) [a, vJ j, z, vB4 .sh .own .own .nil (upB g j N (w + 1))] := by
 have hl := vtxs_len g j N w
 have ok := vtxs_ok hg j N w
 have hR := VRoot_am ok (by omega) .sh
 have hW := RowsV_am ok (by omega) .sh
 have e1 : (upB g j N (w + 1)).roots = (upB g j N w).roots ++ [vrootB (vtxs g j N w)] := by simp [upB, List.range_succ]
 have e2 : (upB g j N (w + 1)).known = (upB g j N w).known ++ [(vtxs g j N w).map vtxB] := by simp [upB, List.range_succ]
 have e3 : (upB g j N (w + 1)).gone = (upB g j N w).gone := rfl
 have e4 : (upB g j N (w + 1)).step = (upB g j N w).step := rfl
 have e5 : (upB g j N (w + 1)).sent = (upB g j N w).sent := rfl
 have l1 : (upB g j N w).roots.length = w := by simp [upB]
 have l2 : (upB g j N w).known.length = w := by simp [upB]
 have l3 := vroot_len (vtxs g j N w)
 rw [show vB4 .sh .own .own .nil (upB g j N (w + 1)) = .agg tBk [.int .i64 (upB g j N w).step, .lst 4 .sh ((upB g j N w).gone.map V.bool), .lst 55 .own (((upB g j N w).roots ++ [vrootB (vtxs g j N w)]).map A32), .lst 58 .own (((upB g j N w).known ++ [(vtxs g j N w).map vtxB]).map sS), .lst 108 .nil ((upB g j N w).sent.map vMsg)] from by rw [← e1, ← e2, ← e3, ← e4, ← e5]]
 generalize upB g j N w = b at *
 generalize hrt : vrootB (vtxs g j N w) = rt at *
 generalize hkn : (vtxs g j N w).map vtxB = kn at *
 generalize vtxs g j N w = xs at *
 have hfw : f.wk = .sh ∨ f.wk = .nil := by rcases hf with rfl | rfl <;> simp [Fl.wk]
 have aw : ∀ v : V, awayL 3 ([a, vJ j, z, v].set 3 void) = true := by
  intro v
  simp only [List.set_cons_succ, List.set_cons_zero, awayL, ha, hz]; rfl
 have avx : ∀ f : Fl, f = .sh ∨ f = .nil → awayL 3 [.lst 81 f (xs.map vVx)] = true := by rintro f (rfl | rfl) <;> rfl
 have c1 : ∀ (v : V) (k : V → List V → Rv), callH P ann W (some (.ref 3 [] 33)) (.clo 35 []) [.lst 81 f.wk (xs.map vVx)] [a, vJ j, z, v] k = k (A32 rt) [a, vJ j, z, v] :=
  fun v k => callH_pure (by kernel_rfl) (by kernel_rfl) (v := v) rfl (aw v) (avx _ hfw) (vx_reify _ _ _ hfw) ((V.PF _ (pl_A32 _)).away 3) hR k
 have c2 : ∀ (v : V) (k : V → List V → Rv), callH P ann W (some (.ref 3 [] 33)) (.clo 36 []) [.lst 81 f.wk (xs.map vVx)] [a, vJ j, z, v] k = k (sS kn) [a, vJ j, z, v] :=
  fun v k => callH_pure (by kernel_rfl) (by kernel_rfl) (v := v) rfl (aw v) (avx _ hfw) (vx_reify _ _ _ hfw) ((V.PF _ (pl_sS _)).away 3) hW k
 have t1 : ldTake [a, vJ j, z, vB4 .sh f1 f2 .nil b] 29 (.ref 3 [2] 29) = some (.lst 55 f1 (b.roots.map A32), [a, vJ j, z, vB4 .sh f1.wk f2 .nil b]) := ldTake_f (h := [a, vJ j, z, vB4 .sh f1 f2 .nil b]) (id := 3) rfl rfl
 have t2 : ldTake [a, vJ j, z, vB4 .sh f1.wk f2 .nil b] 30 (.ref 3 [3] 30) = some (.lst 58 f2 (b.known.map sS), [a, vJ j, z, vB4 .sh f1.wk f2.wk .nil b]) := ldTake_f (h := [a, vJ j, z, vB4 .sh f1.wk f2 .nil b]) (id := 3) rfl rfl
 rw [f10_l2_eq]
 simp only [vB4] at t1 t2
 have sb2 : sameB (.ref 3 [] 33) (.ref 3 [2] 29) = true := rfl
 have sb3 : sameB (.ref 3 [] 33) (.ref 3 [3] 30) = true := rfl
 have hm : ∀ x : List UInt8, (b.roots ++ [x]).map A32 = b.roots.map A32 ++ [A32 x] := by simp
 have hm2 : ∀ x, (b.known ++ [x]).map sS = b.known.map sS ++ [sS x] := by simp
 rw [hm, hm2]
 rcases hf1 with rfl | rfl <;> rcases hf2 with rfl | rfl
 all_goals simp only [wk_own, wk_nil] at t1 t2
 all_goals simp (disch := first | assumption | omega | (with_reducible rfl) | (simp only [go_sem]; done) | (simp only [go_sem]; omega) | fail) only [↓reduceIte, ↓jn_eq, Nat.reduceAdd, go_sem, c1, c2, t1, t2, sb2, sb3]
theorem bnew_l2 {g : Grf} (hg : g.n ≤ 64) (h1 : 1 ≤ g.n) {j : Job} {N w : Nat} (hN : N ≤ 64) (hw : w < N) {f1 f2 : Fl} (hf1 : f1 = .own ∨ f1 = .nil) (hf2 : f2 = .own ∨ f2 = .nil) (a z : V) (ha : a.away 3 = true) (hz : z.away 3 = true) (m0 : Nat) : ∀ (n i : Nat) (f : Fl), (f = .own ∨ f = .nil) → i + n = (ofL g.n.toNat N w).length →
 f10_l2 (.int .i64 (N : Int)) (.ref 0 [] 24) (.ref 1 [] 26) (.ref 2 [] 33) (.ref 3 [] 33) (.lst 81 f (((ofL g.n.toNat N w).take i).map fun (v : Nat) => vVx (firstX j (v : Int)))) (.int .i64 (N : Int)) (.int .i64 (w : Int)) (vNs .sh (ofL g.n.toNat N w)) (.int .i64 ((ofL g.n.toNat N w).length : Int)) (.int .i64 (i : Int)) m0 [a, vJ j, z, vB4 .sh f1 f2 .nil (upB g j N w)] =
  f10_l0 (.int .i64 (N : Int)) (.ref 0 [] 24) (.ref 1 [] 26) (.ref 2 [] 33) (.ref 3 [] 33) (.int .i64 (N : Int)) (.int .i64 ((w + 1 : Nat) : Int)) [a, vJ j, z, vB4 .sh .own .own .nil (upB g j N (w + 1))] := by
 intro n
 induction n with
 | zero =>
   intro i f hf hi
   have h := bnew_end hg h1 hN hw hf hf1 hf2 a z ha hz (L := ofL g.n.toNat N w) i m0 (j := j) (by omega)
   rw [show (ofL g.n.toNat N w).length = i by omega, List.take_of_length_le (by omega)]
   rw [vtxs, List.map_map] at h
   exact h
 | succ n ih =>
   intro i f hf hi
   have hlen := ofL_len g.n.toNat N w
   have hl : i < (ofL g.n.toNat N w).length := by omega
   have h2 := ofL_lt (List.getElem_mem hl)
   have hx := first_am j (v := ((ofL g.n.toNat N w)[i] : Nat)) (by omega) (by omega)
   have hc : ∀ (k : V × List V → Rv), ((Cl 34 [vJ j, .int .i64 ((ofL g.n.toNat N w)[i] : Int)] []).bind k) = k (vVx (firstX j ((ofL g.n.toNat N w)[i] : Int)), []) := fun k => bstep hx k
   have ih' := ih (i + 1) .own (Or.inl rfl) (by omega)
   have ix : ixS 3 (vNs .sh (ofL g.n.toNat N w)) (.int .i64 (i : Int)) = some (.rop 3 (.int .i64 ((ofL g.n.toNat N w)[i] : Int))) := by
    rw [vNs, ixS_l, List.getElem?_map, List.getElem?_eq_getElem hl]; rfl
   rw [← List.take_append_getElem hl, List.map_append] at ih'
   generalize hX : (ofL g.n.toNat N w)[i] = x at *
   generalize hF : firstX j (x : Int) = y at *
   generalize vB4 .sh f1 f2 .nil (upB g j N w) = b at *
   generalize vB4 .sh .own .own .nil (upB g j N (w + 1)) = b2 at *
   generalize ofL g.n.toNat N w = L at *
   simp only [List.map_cons, List.map_nil, hF] at ih'
   rw [← ih', f10_l2_eq]
   rcases hf with rfl | rfl
   all_goals simp (disch := first | assumption | omega | (with_reducible rfl) | (simp only [go_sem]; done) | (simp only [go_sem]; omega) | fail) only [↓reduceIte, ↓jn_eq, Nat.reduceAdd, go_sem, hc, ix, hF]
theorem newB_up (g : Grf) (j : Job) (N : Nat) : newB g j N = upB g j N N := rfl
theorem bnew_l0 {g : Grf} (hg : g.n ≤ 64) (h1 : 1 ≤ g.n) {j : Job} {N : Nat} (hN : N ≤ 64) (hN1 : 1 ≤ N) : ∀ (n w : Nat) (f1 f2 : Fl), (f1 = .own ∨ f1 = .nil) → (f2 = .own ∨ f2 = .nil) → w + n = N →
 f10_l0 (.int .i64 (N : Int)) (.ref 0 [] 24) (.ref 1 [] 26) (.ref 2 [] 33) (.ref 3 [] 33) (.int .i64 (N : Int)) (.int .i64 (w : Int)) [vG .sh g, vJ j, vB4 .nil .nil .nil .nil zB, vB4 .sh f1 f2 .nil (upB g j N w)] = some (.tup [vB (newB g j N), .int .i64 0], []) := by
 intro n
 induction n with
 | zero =>
   intro w f1 f2 hf1 hf2 hi
   obtain rfl : w = N := by omega
   rw [newB_up, f10_l0_eq]
   generalize upB g j w w = b at *
   rcases hf1 with rfl | rfl <;> rcases hf2 with rfl | rfl
   all_goals simp (disch := first | assumption | omega | (with_reducible rfl) | (simp only [go_sem]; done) | (simp only [go_sem]; omega) | fail) only [↓reduceIte, ↓jn_eq, Nat.reduceAdd, go_sem]
   all_goals rfl
 | succ n ih =>
   intro w f1 f2 hf1 hf2 hi
   have hw : w < N := by omega
   have hL := bnew_l2 hg h1 (j := j) hN hw hf1 hf2 (vG .sh g) (vB4 .nil .nil .nil .nil zB) rfl rfl 4 (ofL g.n.toNat N w).length 0 .nil (Or.inr rfl) (by omega)
   have hof := pof_am (n := g.n.toNat) (N := N) (w := w) (by omega) (by omega) (by omega) hN hw
   have hlen := ofL_len g.n.toNat N w
   rw [show (g.n.toNat : Int) = g.n by omega] at hof
   rw [← ih (w + 1) .own .own (Or.inl rfl) (Or.inl rfl) (by omega), ← hL, f10_l0_eq]
   clear ih hL
   generalize vB4 .sh f1 f2 .nil (upB g j N w) = b at *
   generalize vB4 .sh .own .own .nil (upB g j N (w + 1)) = b2 at *
   generalize ofL g.n.toNat N w = L at *
   simp (disch := first | assumption | omega | (with_reducible rfl) | (simp only [go_sem]; done) | (simp only [go_sem]; omega) | fail) only [↓reduceIte, ↓jn_eq, Nat.reduceAdd, go_sem, hof]
   rfl
theorem goodJ_n {g : Grf} {j : Job} (hj : goodJ g j = true) : 1 ≤ g.n ∧ g.n ≤ 64 := by
 have hg : chkG g = 0 := (of_decide_eq_true hj).1
 rw [chkG] at hg
 by_cases h : 1 ≤ g.n ∧ g.n ≤ 64 ∧ g.es.length ≤ 512 ∧ g.es.any (oddE g.n) = false
 · exact ⟨h.1, h.2.1⟩
 · rw [if_neg h] at hg; omega
theorem New_am {g : Grf} (hl : g.es.length < 1000000) (j : Job) (w : Int) : Cl 10 [vG .sh g, vJ j, .int .i64 w] [] = some (if goodB g j w = true then .tup [vB (newB g j w.toNat), .int .i64 0] else .tup [vB zB, .int .i64 170], []) := by
 have hc := pCheck_am hl j
 by_cases hb : goodB g j w = true
 · simp only [goodB, Bool.and_eq_true, decide_eq_true_eq] at hb
   obtain ⟨hj, h1, h2⟩ := hb
   have hg' := goodJ_n hj
   obtain ⟨N, rfl⟩ := Int.eq_ofNat_of_zero_le (show 0 ≤ w by omega)
   have h0 := bnew_l0 hg'.2 hg'.1 (j := j) (N := N) (by omega) (by omega) N 0 .nil .nil (Or.inr rfl) (Or.inr rfl) (by omega)
   rw [if_pos (by simp only [goodB, hj, Bool.true_and, decide_eq_true_eq]; omega)]
   rw [if_pos hj] at hc
   rw [f10_eq]
   simp only [Int.toNat_natCast]
   rw [← h0]
   generalize newB g j N = b at *
   have hu : upB g j N 0 = ⟨0, List.replicate N false, [], [], []⟩ := rfl
   rw [hu]
   have mk : mkL 4 (.bool false) (.int .i64 (N : Int)) (.int .i64 (N : Int)) = some (.lst 4 .own ((List.replicate N false).map V.bool)) := by
    rw [List.map_replicate]
    simp only [mkL]
    rw [if_pos (by omega), Int.toNat_natCast]
   simp (disch := first | assumption | omega | (with_reducible rfl) | (simp only [go_sem]; done) | (simp only [go_sem]; omega) | fail) only [↓reduceIte, ↓jn_eq, Nat.reduceAdd, go_sem, hc, mk]
   rfl
 · rw [if_neg hb, f10_eq]
   simp only [goodB] at hb
   generalize goodJ g j = q at *
   repeat' first | rfl | refine br_d (fun _ => ?_) (fun _ => ?_) | refine br_b (fun _ => ?_) (fun _ => ?_) | simp (disch := first | assumption | omega | (with_reducible rfl) | (simp only [go_sem]; done) | (simp only [go_sem]; omega) | fail) only [↓reduceIte, ↓jn_eq, Nat.reduceAdd, go_sem, hc]
   all_goals simp_all
   all_goals omega
end Go.Proofs.YtiegkempfolgcaaGreatDoor
end

section
set_option linter.unusedVariables false
set_option linter.unusedSimpArgs false
set_option linter.unusedSectionVars false
set_option maxRecDepth 100000
namespace Go.Proofs.YtiegkempfolgcaaGreatDoor
open Go AM
end Go.Proofs.YtiegkempfolgcaaGreatDoor
end

section
set_option linter.unusedVariables false
set_option linter.unusedSimpArgs false
set_option linter.unusedSectionVars false
set_option maxRecDepth 100000
namespace Go.Proofs.YtiegkempfolgcaaGreatDoor
open Go AM
attribute [local irreducible] vrootB vtxB firstX
end Go.Proofs.YtiegkempfolgcaaGreatDoor
end

section
set_option linter.unusedVariables false
set_option linter.unusedSimpArgs false
set_option linter.unusedSectionVars false
set_option maxRecDepth 100000
namespace Go.Proofs.YtiegkempfolgcaaGreatDoor
open Go AM
structure BkOk (b : Bk) : Prop where
 gone : b.gone.length ≤ 1000000
 roots : b.roots.length ≤ 1000000
 known : b.known.length ≤ 1000000
 each : ∀ k ∈ b.known, k.length ≤ 1000000
 len : ∀ r ∈ b.roots, r.length = 32
 sent : b.sent.length ≤ 1000000
theorem newB_ok {g : Grf} {j : Job} {N : Nat} (hg : g.n ≤ 64) (hN : N ≤ 64) : BkOk (newB g j N) := by
 refine ⟨by simp [newB]; omega, by simp [newB]; omega, by simp [newB]; omega, ?_, ?_, by simp [newB]⟩
 · intro k hk
   simp only [newB, List.mem_map] at hk
   obtain ⟨w, _, rfl⟩ := hk
   have := vtxs_len g j N w
   simp only [List.length_map]; omega
 · intro r hr
   simp only [newB, List.mem_map] at hr
   obtain ⟨w, _, rfl⟩ := hr
   exact vroot_len _
theorem own13_am {g : Grf} (hl : g.es.length < 1000000) : Cl 11 [vG .sh g] [] = some (vG .sh g, []) := by
 rw [f11_eq]
 have ap : ∀ h : List V, apL 112 (tyG 111) false h (.lst 112 .own []) (.lst 112 .sh (g.es.map vE0)) = some (.lst 112 .own ([] ++ g.es.map vE0)) := fun h =>
  apL_own (V.PFL _ (plL_vE0 g.es)).clean (all_map tyG_vE0 _) (by simp; omega) _ _ _
 simp (disch := first | assumption | omega | (with_reducible rfl) | (simp only [go_sem]; done) | (simp only [go_sem]; omega) | fail) only [↓reduceIte, ↓jn_eq, Nat.reduceAdd, go_sem, ap]
end Go.Proofs.YtiegkempfolgcaaGreatDoor
end

section
set_option linter.unusedVariables false
set_option linter.unusedSimpArgs false
set_option linter.unusedSectionVars false
set_option maxRecDepth 100000
namespace Go.Proofs.YtiegkempfolgcaaGreatDoor
open Go AM
end Go.Proofs.YtiegkempfolgcaaGreatDoor
end

section
set_option maxRecDepth 100000
set_option linter.unusedVariables false
namespace Go.Proofs.YtiegkempfolgcaaGreatDoor
open Go AM
noncomputable def pairQ (f : FuncId) (arg bx ix : V) (sT : TypeId) (n : Nat) (tS tE : TypeId) (v : Bool) (h : List V) (k : List V → Rv) : Rv :=
 if (ann.pure f && !ann.ext f && decide ((ann.seq f).1 = 0)) = true then
  (Cl f (reifyL h [arg]) []).bind fun r =>
   match r.1, bx, ix with
   | .lst e .own xs, .ref id p t', .int _ j => (AM.boolsOf xs).bind fun bs => (fieldA P sT n (.ref id p t')).bind fun a =>
     if (decide (0 ≤ j) && Nat.blt j.toNat bs.length && tyOk P tE (.bool v)) = true then
      (sto P h tS a (.lst e .own ((bs.set j.toNat v).map .bool))).bind fun h' => k h'
     else none
   | _, _, _ => none
 else none
theorem f57_eq (t0 t1 t2 t3 : V) (h : List V) : Cl 57 [t0, t1, t2, t3] h =
 if ((tyG 23) (V.weak t0) && V.under (List.length h) (V.weak t0)) = true then if ((tyG 25) t1 && V.under (List.length (h ++ [(V.weak t0)])) t1) = true then if ((tyG 32) (V.weak t2) && V.under (List.length ((h ++ [(V.weak t0)]) ++ [t1])) (V.weak t2)) = true then (Cl 55 (normL [t3]) ((((h ++ [(V.weak t0)]) ++ [t1]) ++ [(V.weak t2)]) ++ [(V.agg 32 [(V.int .i64 0), (V.lst 4 .nil []), (V.lst 55 .nil []), (V.lst 58 .nil []), (V.lst 108 .nil [])])])).bind fun r_1 => jn (fun t32_2 h_3 =>
 V.ite t32_2
  (((ck [] [(V.int .i64 0), (V.lst 4 .nil []), (V.lst 55 .nil []), (V.lst 58 .nil []), (V.lst 108 .nil [])]).map (.agg 32)).bind fun t33_4 => (stT (tyG 32) 33 h_3 (V.ref (List.length (((h ++ [(V.weak t0)]) ++ [t1]) ++ [(V.weak t2)])) [] 33) t33_4).bind fun h_5 => (ldS h_5 33 (V.ref (List.length (((h ++ [(V.weak t0)]) ++ [t1]) ++ [(V.weak t2)])) [] 33)).bind fun c_6 => if (List.all [(V.bool false), c_6] V.okE) = true then finT (List.length h) h_5 (V.tup [c_6, (V.bool false)]) else none)
  ((ldS h_3 24 (V.ref (List.length h) [] 24)).bind fun t35_7 => (ldP h_3 26 (V.ref (List.length (h ++ [(V.weak t0)])) [] 26)).bind fun t36_8 => (fA 33 28 1 (V.ref (List.length ((h ++ [(V.weak t0)]) ++ [t1])) [] 33)).bind fun t37_9 => (ldS h_3 28 t37_9).bind fun t38_10 => (lnL t38_10).bind fun t39_11 => (Cl 10 (reifyL h_3 [t35_7, t36_8, t39_11]) []).bind fun r_12 => (extS r_12.1 0).bind fun t41_13 => (ext r_12.1 1).bind fun t42_14 => (stT (tyG 32) 33 (h_3 ++ [(V.agg 32 [(V.int .i64 0), (V.lst 4 .nil []), (V.lst 55 .nil []), (V.lst 58 .nil []), (V.lst 108 .nil [])])]) (V.ref (List.length h_3) [] 33) t41_13).bind fun h_15 => (fA 33 28 1 (V.ref (List.length ((h ++ [(V.weak t0)]) ++ [t1])) [] 33)).bind fun t43_16 => (ldS h_15 28 t43_16).bind fun t44_17 => pairQ 80 t44_17 (V.ref (List.length h_3) [] 33) r_1.1 33 1 28 4 true h_15 fun h_24 => (ldS h_24 33 (V.ref (List.length h_3) [] 33)).bind fun t51_25 => (stT (tyG 32) 33 h_24 (V.ref (List.length (((h ++ [(V.weak t0)]) ++ [t1]) ++ [(V.weak t2)])) [] 33) t51_25).bind fun h_26 => (ldS h_26 33 (V.ref (List.length (((h ++ [(V.weak t0)]) ++ [t1]) ++ [(V.weak t2)])) [] 33)).bind fun c_27 => if (List.all [(V.bool true), c_27] V.okE) = true then finT (List.length h) h_26 (V.tup [c_27, (V.bool true)]) else none)) (fun (k_28 : V → List V → Rv) => (Cl 86 (normL [t3]) r_1.2).bind fun r_29 => (bin .neq r_29.1 (V.int .i64 0)).bind fun t17_30 => V.ite t17_30 (k_28 (V.bool true) r_29.2) ((fA 33 28 1 (V.ref (List.length ((h ++ [(V.weak t0)]) ++ [t1])) [] 33)).bind fun t20_31 => (ldS r_29.2 28 t20_31).bind fun t21_32 => (lnL t21_32).bind fun t22_33 => (cvI .u64 t22_33).bind fun t23_34 => (bin .geq r_1.1 t23_34).bind fun t24_35 => V.ite t24_35 (k_28 (V.bool true) r_29.2) ((fA 33 28 1 (V.ref (List.length ((h ++ [(V.weak t0)]) ++ [t1])) [] 33)).bind fun t27_36 => (ldS r_29.2 28 t27_36).bind fun t28_37 => (ixS 4 t28_37 r_1.1).bind fun t30_38 => (ldP r_29.2 4 t30_38).bind fun t31_39 => k_28 t31_39 r_29.2))) else none else none else none :=
  f_eqB (by kernel_rfl)
end Go.Proofs.YtiegkempfolgcaaGreatDoor
end

section
set_option linter.unusedVariables false
set_option linter.unusedSimpArgs false
set_option linter.unusedSectionVars false
set_option maxRecDepth 100000
namespace Go.Proofs.YtiegkempfolgcaaGreatDoor
open Go AM
abbrev z32V : V := .agg 54 (List.replicate 32 (.int .u8 0))
abbrev zVd : V := .agg 59 [.int .i64 0, .int .i64 0, .agg 56 [.int .i64 0, .int .i64 0, z32V, .lst 55 .nil []], .lst 108 .nil [], .lst 9 .nil []]
def acc0 : List UInt8 := [65, 0] ++ (List.replicate 32 0 ++ [0]) ++ (List.replicate 32 0 ++ [0]) ++ [1, 0]
theorem ev17 (r0 r1 : List UInt8) (k0 k1 : List (List UInt8)) : Cl 20 [vB ⟨0, [false, false], [r0, r1], [k0, k1], []⟩, .int .i64 1] [] = some (.tup [.str [69, 1], .int .i64 0], []) := callW_run.2 ⟨60, by kernel_rfl⟩
theorem ac17 (r0 r1 : List UInt8) (k0 k1 : List (List UInt8)) : Cl 17 [vB ⟨0, [false, false], [r0, r1], [k0, k1], []⟩, .lst 60 .sh [zVd, zVd]] [] = some (.tup [.str acc0, .int .i64 0], []) := callW_run.2 ⟨60, by kernel_rfl⟩
def j0 : Job := ⟨[109, 97, 120], 0, 2⟩
def g0 : Grf := ⟨2, []⟩
def bk0 (g1 : Bool) (r0 r1 : List UInt8) (k0 k1 : List (List UInt8)) : Bk := ⟨0, [false, g1], [r0, r1], [k0, k1], []⟩
def bk1 (g1 : Bool) : Bk := ⟨1, [false, g1], [List.replicate 32 0, List.replicate 32 0], [[], []], []⟩
abbrev zBV : V := vB4 .nil .nil .nil .nil zB
theorem ap56 (g1 : Bool) (r0 r1 p0 p1 : List UInt8) (k0 k1 q0 q1 : List (List UInt8)) : Cl 56 [vJ j0, vB (bk0 g1 r0 r1 k0 k1), rIn 5] [vG .sh g0, vJ j0, vB (bk0 g1 r0 r1 k0 k1), zBV, vB (bk0 false p0 p1 q0 q1), vIn acc0.tail 0, zBV] = some (.tup [vB (bk1 g1), .bool true], [vG .sh g0, vJ j0, vB (bk0 g1 r0 r1 k0 k1), zBV, vB (bk0 false p0 p1 q0 q1), vIn [] 0, zBV]) := callW_run.2 ⟨60, by kernel_rfl⟩
theorem cl80 (a b : Bool) : Cl 80 [.lst 4 .sh [.bool a, .bool b]] [] = some (.lst 4 .own [.bool a, .bool b], []) := callW_run.2 ⟨60, by kernel_rfl⟩
theorem good0 : goodB g0 j0 2 = true := by decide +kernel
theorem nb0 : ∃ p0 p1 q0 q1, newB g0 j0 2 = bk0 false p0 p1 q0 q1 := ⟨vrootB (vtxs g0 j0 2 0), vrootB (vtxs g0 j0 2 1), (vtxs g0 j0 2 0).map vtxB, (vtxs g0 j0 2 1).map vtxB, by simp [newB, bk0, List.range_succ, List.replicate]⟩
theorem pq57 (h0 h1 h2 h3 h4 h5 h6 h7 h8 h9 h10 x0 x2 x3 x4 : V) (k : List V → Rv) :
 pairQ 80 (.lst 4 .sh [.bool false, .bool false]) (.ref 11 [] 33) (.int .u64 1) 33 1 28 4 true [h0, h1, h2, h3, h4, h5, h6, h7, h8, h9, h10, .agg tBk [x0, .lst 4 .sh [.bool false, .bool false], x2, x3, x4]] k =
  k [h0, h1, h2, h3, h4, h5, h6, h7, h8, h9, h10, .agg tBk [x0, .lst 4 .own [.bool false, .bool true], x2, x3, x4]] := by
 unfold pairQ
 rw [if_pos (by kernel_rfl), show reifyL _ [V.lst 4 .sh [.bool false, .bool false]] = [V.lst 4 .sh [.bool false, .bool false]] from rfl, cl80]
 rfl
end Go.Proofs.YtiegkempfolgcaaGreatDoor
end

section
set_option linter.unusedVariables false
set_option linter.unusedSimpArgs false
set_option linter.unusedSectionVars false
set_option maxRecDepth 100000
namespace Go.Proofs.YtiegkempfolgcaaGreatDoor
open Go AM
abbrev zBL : V := .agg tBk [.int .i64 0, .lst 4 .nil [], .lst 55 .nil [], .lst 58 .nil [], .lst 108 .nil []]
theorem pq57' (h0 h1 h2 h3 h4 h5 h6 h7 h8 h9 h10 x0 x2 x3 x4 : V) (k : List V → Rv) :
 pairQ 80 (.lst 4 .sh ([false, false].map V.bool)) (.ref 11 [] 33) (.int .u64 1) 33 1 28 4 true [h0, h1, h2, h3, h4, h5, h6, h7, h8, h9, h10, .agg tBk [x0, .lst 4 .sh ([false, false].map V.bool), x2, x3, x4]] k =
  k [h0, h1, h2, h3, h4, h5, h6, h7, h8, h9, h10, .agg tBk [x0, .lst 4 .own ([false, true].map V.bool), x2, x3, x4]] := pq57 ..
theorem ap57 (r0 r1 p0 p1 : List UInt8) (k0 k1 q0 q1 : List (List UInt8)) (hN : Cl 10 [vG .sh g0, vJ j0, .int .i64 2] [] = some (.tup [vB (bk0 false p0 p1 q0 q1), .int .i64 0], [])) :
 Cl 57 [vG .sh g0, vJ j0, vB (bk0 false r0 r1 k0 k1), rIn 5] [vG .sh g0, vJ j0, vB (bk0 false r0 r1 k0 k1), zBV, vB (bk0 false p0 p1 q0 q1), vIn [1] 0, zBV] =
  some (.tup [vB (bk0 true p0 p1 q0 q1), .bool true], [vG .sh g0, vJ j0, vB (bk0 false r0 r1 k0 k1), zBV, vB (bk0 false p0 p1 q0 q1), vIn [] 0, zBV]) := by
 have n55 : Cl 55 [rIn 5] [vG .sh g0, vJ j0, vB (bk0 false r0 r1 k0 k1), zBV, vB (bk0 false p0 p1 q0 q1), vIn [1] 0, zBV, vG .sh g0, vJ j0, vB (bk0 false r0 r1 k0 k1), zBL] = some (.int .u64 1, [vG .sh g0, vJ j0, vB (bk0 false r0 r1 k0 k1), zBV, vB (bk0 false p0 p1 q0 q1), vIn [] 0, zBV, vG .sh g0, vJ j0, vB (bk0 false r0 r1 k0 k1), zBL]) := callW_run.2 ⟨60, by kernel_rfl⟩
 have n86 : Cl 86 [rIn 5] [vG .sh g0, vJ j0, vB (bk0 false r0 r1 k0 k1), zBV, vB (bk0 false p0 p1 q0 q1), vIn [] 0, zBV, vG .sh g0, vJ j0, vB (bk0 false r0 r1 k0 k1), zBL] = some (.int .i64 0, [vG .sh g0, vJ j0, vB (bk0 false r0 r1 k0 k1), zBV, vB (bk0 false p0 p1 q0 q1), vIn [] 0, zBV, vG .sh g0, vJ j0, vB (bk0 false r0 r1 k0 k1), zBL]) := callW_run.2 ⟨60, by kernel_rfl⟩
 rw [f57_eq]
 simp only [bk0, List.map_cons, List.map_nil, zB] at n55 n86 hN ⊢
 have hN' : Cl 10 [vG .sh g0, vJ j0, .int .i64 ((2 : Nat) : Int)] [] = _ := hN
 have hx : ([false, false].map V.bool)[1]? = some (.bool false) := rfl
 simp (disch := first | assumption | omega | (with_reducible rfl) | (simp only [go_sem]; done) | (simp only [go_sem]; omega) | fail) only [↓reduceIte, ↓jn_eq, Nat.reduceAdd, go_sem, n55, n86, hN', hx]
 refine (pq57' _ _ _ _ _ _ _ _ _ _ _ _ _ _ _ _).trans ?_
 rfl
end Go.Proofs.YtiegkempfolgcaaGreatDoor
end

section
set_option linter.unusedVariables false
set_option linter.unusedSimpArgs false
set_option linter.unusedSectionVars false
set_option maxRecDepth 100000
namespace Go.Proofs.YtiegkempfolgcaaGreatDoor
open Go AM
theorem ap23e (r0 r1 p0 p1 : List UInt8) (k0 k1 q0 q1 : List (List UInt8)) (hN : Cl 10 [vG .sh g0, vJ j0, .int .i64 2] [] = some (.tup [vB (bk0 false p0 p1 q0 q1), .int .i64 0], [])) :
 Cl 23 [vG .sh g0, vJ j0, vB (bk0 false r0 r1 k0 k1), .str [69, 1]] [] = some (.tup [vB (bk0 true p0 p1 q0 q1), .int .i64 0], []) := by
 have n54 := NewIn_am [vG .sh g0, vJ j0, vB (bk0 false r0 r1 k0 k1), zBL, vB (bk0 false p0 p1 q0 q1)] [69, 1]
 have n55 : Cl 55 [rIn 5] [vG .sh g0, vJ j0, vB (bk0 false r0 r1 k0 k1), zBL, vB (bk0 false p0 p1 q0 q1), vIn [69, 1] 0, zBL] = some (.int .u64 69, [vG .sh g0, vJ j0, vB (bk0 false r0 r1 k0 k1), zBL, vB (bk0 false p0 p1 q0 q1), vIn [1] 0, zBL]) := callW_run.2 ⟨60, by kernel_rfl⟩
 have n57 : Cl 57 [vG .sh g0, vJ j0, vB (bk0 false r0 r1 k0 k1), rIn 5] [vG .sh g0, vJ j0, vB (bk0 false r0 r1 k0 k1), zBL, vB (bk0 false p0 p1 q0 q1), vIn [1] 0, zBL] = _ := ap57 r0 r1 p0 p1 k0 k1 q0 q1 hN
 rw [f23_eq]
 simp only [bk0, zB] at n54 n55 n57 hN ⊢
 have hN' : Cl 10 [vG .sh g0, vJ j0, .int .i64 ((2 : Nat) : Int)] [] = _ := hN
 simp (disch := first | assumption | omega | (with_reducible rfl) | (simp only [go_sem]; done) | (simp only [go_sem]; omega) | fail) only [↓reduceIte, ↓jn_eq, Nat.reduceAdd, go_sem, n54, n55, n57, hN']
end Go.Proofs.YtiegkempfolgcaaGreatDoor
end

section
set_option linter.unusedVariables false
set_option linter.unusedSimpArgs false
set_option linter.unusedSectionVars false
set_option maxRecDepth 100000
namespace Go.Proofs.YtiegkempfolgcaaGreatDoor
open Go AM
theorem ap23a (g1 : Bool) (r0 r1 p0 p1 : List UInt8) (k0 k1 q0 q1 : List (List UInt8)) (hN : Cl 10 [vG .sh g0, vJ j0, .int .i64 2] [] = some (.tup [vB (bk0 false p0 p1 q0 q1), .int .i64 0], [])) :
 Cl 23 [vG .sh g0, vJ j0, vB (bk0 g1 r0 r1 k0 k1), .str acc0] [] = some (.tup [vB (bk1 g1), .int .i64 0], []) := by
 have n54 := NewIn_am [vG .sh g0, vJ j0, vB (bk0 g1 r0 r1 k0 k1), zBL, vB (bk0 false p0 p1 q0 q1)] acc0
 have n55 : Cl 55 [rIn 5] [vG .sh g0, vJ j0, vB (bk0 g1 r0 r1 k0 k1), zBL, vB (bk0 false p0 p1 q0 q1), vIn acc0 0, zBL] = some (.int .u64 65, [vG .sh g0, vJ j0, vB (bk0 g1 r0 r1 k0 k1), zBL, vB (bk0 false p0 p1 q0 q1), vIn acc0.tail 0, zBL]) := callW_run.2 ⟨60, by kernel_rfl⟩
 have n56 : Cl 56 [vJ j0, vB (bk0 g1 r0 r1 k0 k1), rIn 5] [vG .sh g0, vJ j0, vB (bk0 g1 r0 r1 k0 k1), zBL, vB (bk0 false p0 p1 q0 q1), vIn acc0.tail 0, zBL] = _ := ap56 g1 r0 r1 p0 p1 k0 k1 q0 q1
 rw [f23_eq]
 generalize acc0 = acc at *
 generalize bk1 g1 = b1 at *
 simp only [bk0, zB] at n54 n55 n56 hN ⊢
 have hN' : Cl 10 [vG .sh g0, vJ j0, .int .i64 ((2 : Nat) : Int)] [] = _ := hN
 simp (disch := first | assumption | omega | (with_reducible rfl) | (simp only [go_sem]; done) | (simp only [go_sem]; omega) | fail) only [↓reduceIte, ↓jn_eq, Nat.reduceAdd, go_sem, n54, n55, n56, hN']
theorem ap23x (p0 p1 : List UInt8) (q0 q1 : List (List UInt8)) (hN : Cl 10 [vG .sh g0, vJ j0, .int .i64 2] [] = some (.tup [vB (bk0 false p0 p1 q0 q1), .int .i64 0], [])) :
 Cl 23 [vG .sh g0, vJ j0, vB (bk1 true), .str [120]] [] = some (.tup [vB zB, .int .i64 171], []) := by
 have n54 := NewIn_am [vG .sh g0, vJ j0, vB (bk1 true), zBL, vB (bk0 false p0 p1 q0 q1)] [120]
 have n55 : Cl 55 [rIn 5] [vG .sh g0, vJ j0, vB (bk1 true), zBL, vB (bk0 false p0 p1 q0 q1), vIn [120] 0, zBL] = some (.int .u64 120, [vG .sh g0, vJ j0, vB (bk1 true), zBL, vB (bk0 false p0 p1 q0 q1), vIn [] 0, zBL]) := callW_run.2 ⟨60, by kernel_rfl⟩
 rw [f23_eq]
 generalize List.replicate 32 (0 : UInt8) = z32 at *
 simp only [bk0, bk1, zB] at n54 n55 hN ⊢
 have hN' : Cl 10 [vG .sh g0, vJ j0, .int .i64 ((2 : Nat) : Int)] [] = _ := hN
 simp (disch := first | assumption | omega | (with_reducible rfl) | (simp only [go_sem]; done) | (simp only [go_sem]; omega) | fail) only [↓reduceIte, ↓jn_eq, Nat.reduceAdd, go_sem, n54, n55, hN']
 rfl
end Go.Proofs.YtiegkempfolgcaaGreatDoor
end

section
set_option linter.unusedVariables false
set_option linter.unusedSimpArgs false
set_option linter.unusedSectionVars false
set_option maxRecDepth 100000
namespace Go.Proofs.YtiegkempfolgcaaGreatDoor
open Go AM
theorem rec28 (p0 p1 : List UInt8) (q0 q1 : List (List UInt8)) (hN : Cl 10 [vG .sh g0, vJ j0, .int .i64 2] [] = some (.tup [vB (bk0 false p0 p1 q0 q1), .int .i64 0], [])) :
 Cl 28 [vG .sh g0, vJ j0, .int .i64 2, .lst 9 .sh [.str [69, 1], .str acc0, .str [120]]] [] = some (.tup [vB (bk1 true), .int .i64 2, .int .i64 0], []) := by
 have a1 := ap23e p0 p1 p0 p1 q0 q1 q0 q1 hN
 have a2 := ap23a true p0 p1 p0 p1 q0 q1 q0 q1 hN
 have a3 := ap23x p0 p1 q0 q1 hN
 rw [f28_eq]
 generalize acc0 = acc at *
 generalize bk1 true = b3 at *
 generalize bk0 true p0 p1 q0 q1 = b2 at *
 generalize bk0 false p0 p1 q0 q1 = b1 at *
 have ix1 : ∀ a b c : V, ixS 9 (.lst 9 .sh [a, b, c]) (.int .i64 (0 + 1)) = some (.rop 9 b) := fun _ _ _ => rfl
 have ix2 : ∀ a b c : V, ixS 9 (.lst 9 .sh [a, b, c]) (.int .i64 (0 + 1 + 1)) = some (.rop 9 c) := fun _ _ _ => rfl
 simp (disch := first | assumption | omega | (with_reducible rfl) | (simp only [go_sem]; done) | (simp only [go_sem]; omega) | fail) only [↓reduceIte, ↓jn_eq, Nat.reduceAdd, go_sem, hN]
 rw [f28_l0_eq]
 simp (disch := first | assumption | omega | (with_reducible rfl) | (simp only [go_sem]; done) | (simp only [go_sem]; omega) | fail) only [↓reduceIte, ↓jn_eq, Nat.reduceAdd, go_sem, a1]
 rw [f28_l0_eq]
 simp (disch := first | assumption | omega | (with_reducible rfl) | (simp only [go_sem]; done) | (simp only [go_sem]; omega) | fail) only [↓reduceIte, ↓jn_eq, Nat.reduceAdd, go_sem, a2, ix1]
 rw [f28_l0_eq]
 simp (disch := first | assumption | omega | (with_reducible rfl) | (simp only [go_sem]; done) | (simp only [go_sem]; omega) | fail) only [↓reduceIte, ↓jn_eq, Nat.reduceAdd, go_sem, a3, ix2]
 rfl
end Go.Proofs.YtiegkempfolgcaaGreatDoor
end

section
set_option linter.unusedVariables false
set_option linter.unusedSimpArgs false
set_option linter.unusedSectionVars false
set_option maxRecDepth 100000
namespace Go.Proofs.YtiegkempfolgcaaGreatDoor
open Go AM
set_option maxHeartbeats 4000000 in
theorem awake17 : Cl 9 [] [] = some (.bool true, []) := by
 obtain ⟨p0, p1, q0, q1, hnb⟩ := nb0
 have hN : Cl 10 [vG .sh g0, vJ j0, .int .i64 2] [] = some (.tup [vB (bk0 false p0 p1 q0 q1), .int .i64 0], []) := by
  have h := New_am (g := g0) (by simp [g0]) j0 2
  rw [if_pos good0] at h
  rw [h, ← hnb]; rfl
 have e1 : Cl 20 [vB (bk0 false p0 p1 q0 q1), .int .i64 1] [] = _ := ev17 p0 p1 q0 q1
 have e2 : Cl 17 [vB (bk0 false p0 p1 q0 q1), .lst 60 .sh [zVd, zVd]] [] = _ := ac17 p0 p1 q0 q1
 have a1 := ap23e p0 p1 p0 p1 q0 q1 q0 q1 hN
 have a2 := ap23a false p0 p1 p0 p1 q0 q1 q0 q1 hN
 have rc := rec28 p0 p1 q0 q1 hN
 have mk : mkL 60 zVd (.int .i64 2) (.int .i64 2) = some (.lst 60 .own [zVd, zVd]) := rfl
 rw [f9_eq]
 rw [show mkL 60 _ (.int .i64 2) (.int .i64 2) = some (.lst 60 .own [zVd, zVd]) from mk]
 have ry : ∀ h, V.reify h (.lst 60 .own [zVd, zVd]) = .lst 60 .sh [zVd, zVd] := fun _ => rfl
 generalize acc0 = acc at *
 generalize zVd = z at *
 simp only [vG, vJ, g0, j0, List.map_nil] at hN a1 a2 rc
 have d1 : ((bk0 false p0 p1 q0 q1).gone.length : Int) = 2 := rfl
 have d2 : (bk0 true p0 p1 q0 q1).step = 0 := rfl
 have d3 : (bk1 false).step = 1 := rfl
 have d4 : (bk1 true).step = 1 := rfl
 have x1 : ixS 4 (.lst 4 .sh ((bk0 true p0 p1 q0 q1).gone.map V.bool)) (.int .i64 1) = some (.rop 4 (.bool true)) := rfl
 have x2 : ixS 4 (.lst 4 .sh ((bk0 true p0 p1 q0 q1).gone.map V.bool)) (.int .i64 0) = some (.rop 4 (.bool false)) := rfl
 have x3 : ixS 4 (.lst 4 .sh ((bk1 true).gone.map V.bool)) (.int .i64 1) = some (.rop 4 (.bool true)) := rfl
 (repeat' with_reducible first | refine (ite_T _ _).trans ?_ | refine (ite_F _ _).trans ?_ | refine (jn_eq _ _).trans ?_ | refine (bstep (by first | rfl | (simp (disch := first | assumption | omega | (with_reducible rfl) | (simp only [go_sem]; done) | (simp only [go_sem]; omega) | fail) only [↓reduceIte, ↓jn_eq, Nat.reduceAdd, go_sem, hN, e1, e2, a1, a2, rc, mk, ry, x1, x2, x3]; rfl)) _).trans ?_ | refine (if_pos (by first | rfl | (simp (disch := first | assumption | omega | (with_reducible rfl) | (simp only [go_sem]; done) | (simp only [go_sem]; omega) | fail) only [↓reduceIte, ↓jn_eq, Nat.reduceAdd, go_sem, hN, e1, e2, a1, a2, rc, mk, ry, x1, x2, x3]; done))).trans ?_ | refine (ite_dec (by first | assumption | omega | (simp (disch := first | assumption | omega | (with_reducible rfl) | (simp only [go_sem]; done) | (simp only [go_sem]; omega) | fail) only [↓reduceIte, ↓jn_eq, Nat.reduceAdd, go_sem, hN, e1, e2, a1, a2, rc, mk, ry, x1, x2, x3]; done) | (simp (disch := first | assumption | omega | (with_reducible rfl) | (simp only [go_sem]; done) | (simp only [go_sem]; omega) | fail) only [↓reduceIte, ↓jn_eq, Nat.reduceAdd, go_sem, hN, e1, e2, a1, a2, rc, mk, ry, x1, x2, x3]; omega)) _ _).trans ?_ | refine (ite_ndec (by first | assumption | omega | (simp (disch := first | assumption | omega | (with_reducible rfl) | (simp only [go_sem]; done) | (simp only [go_sem]; omega) | fail) only [↓reduceIte, ↓jn_eq, Nat.reduceAdd, go_sem, hN, e1, e2, a1, a2, rc, mk, ry, x1, x2, x3]; done) | (simp (disch := first | assumption | omega | (with_reducible rfl) | (simp only [go_sem]; done) | (simp only [go_sem]; omega) | fail) only [↓reduceIte, ↓jn_eq, Nat.reduceAdd, go_sem, hN, e1, e2, a1, a2, rc, mk, ry, x1, x2, x3]; omega)) _ _).trans ?_ | fail)
 rfl
end Go.Proofs.YtiegkempfolgcaaGreatDoor
end

section
set_option linter.unusedVariables false
set_option linter.unusedSimpArgs false
set_option linter.unusedSectionVars false
set_option maxRecDepth 100000
namespace Go.Proofs.YtiegkempfolgcaaGreatDoor
open Go AM
theorem clone_am {l : List Bool} (hl : l.length ≤ 1000000) (hn : 0 < l.length) : Cl 80 [.lst 4 .sh (l.map V.bool)] [] = some (.lst 4 .own (l.map V.bool), []) := by
 have ap : ∀ h : List V, apL 4 AM.tyB false h (.lst 4 .own []) (.lst 4 .sh (l.map V.bool)) = some (.lst 4 .own ([] ++ l.map V.bool)) := fun h =>
  apL_own (V.PFL _ (plL_bools l)).clean (tyA_bools l) (by simp; omega) _ _ _
 have en : eqNil .eql (.lst 4 .sh (l.map V.bool)) (.lst 4 .nil []) = some (.bool false) := by
  cases l with
  | nil => simp at hn
  | cons => rfl
 rw [f80_eq]
 simp (disch := first | assumption | omega | (with_reducible rfl) | (simp only [go_sem]; done) | (simp only [go_sem]; omega) | fail) only [↓reduceIte, ↓jn_eq, Nat.reduceAdd, go_sem, ap, en]
theorem boolsOf_m : ∀ l : List Bool, AM.boolsOf (l.map V.bool) = some l
 | [] => rfl
 | b :: l => by simp [AM.boolsOf, boolsOf_m l]
theorem under_bools : ∀ (n : Nat) (l : List Bool), underL n (l.map V.bool) = true
 | _, [] => rfl
 | n, x :: l => by simp only [List.map_cons, underL, under_bools n l]; rfl
theorem pairQ_am {l : List Bool} (hl : l.length ≤ 1000000) {w : Nat} (hw : w < l.length) {h : List V} {id : Nat} {x0 x1 x2 x3 x4 : V} (hh : h[id]? = some (.agg tBk [x0, x1, x2, x3, x4])) (k : List V → Rv) :
 pairQ 80 (.lst 4 .sh (l.map V.bool)) (.ref id [] 33) (.int .u64 (w : Int)) 33 1 28 4 true h k =
  k (h.set id (.agg tBk [x0, .lst 4 .own ((l.set w true).map V.bool), x2, x3, x4])) := by
 have er : reifyL h [V.lst 4 .sh (l.map V.bool)] = [V.lst 4 .sh (l.map V.bool)] := by
  rw [reifyL, (V.PF (.lst 4 .sh (l.map V.bool)) (by simp only [V.pl, plL_bools])).reify h]; rfl
 have fa : fieldA P 33 1 (.ref id [] 33) = some (.ref id [1] 28) := fieldA_ref K_33 rfl (by rw [cel_28]; decide) id []
 have st : sto P h 28 (.ref id [1] 28) (.lst 4 .own ((l.set w true).map V.bool)) = some (h.set id (.agg tBk [x0, .lst 4 .own ((l.set w true).map V.bool), x2, x3, x4])) :=
  sto_agg (i := 1) hh rfl (by simp [tyOk, K_28]) (by simp only [V.under, under_bools])
 have ty : tyOk P 4 (.bool true) = true := by simp [tyOk, K_4, scalOk, und_4]
 unfold pairQ
 rw [if_pos (by kernel_rfl), er]
 refine (bstep (clone_am hl (by omega)) _).trans ?_
 show ((AM.boolsOf (l.map V.bool)).bind fun bs => _) = _
 refine (bstep (boolsOf_m l) _).trans ((bstep fa _).trans ?_)
 rw [if_pos (by simp only [Int.natCast_nonneg, decide_true, Int.toNat_natCast, ty, Bool.and_true, Bool.true_and]; rw [Nat.blt_eq]; exact hw)]
 refine (bstep st _).trans ?_
 rfl
def evB (g : Grf) (j : Job) (b : Bk) (s : List UInt8) : Option Bk :=
 if endIn (numIn s 0).2.1 (numIn s 0).2.2 = 0 ∧ b.gone[(numIn s 0).1]? = some false then some { newB g j b.gone.length with gone := b.gone.set (numIn s 0).1 true } else none
def opB (o : Option Bk) : Bk := o.getD zB
abbrev zBK : V := .agg tBk [.int .i64 0, .lst 4 .nil [], .lst 55 .nil [], .lst 58 .nil [], .lst 108 .nil []]
theorem evict_am {g : Grf} (hl : g.es.length < 1000000) {j : Job} {b : Bk} (hg : goodB g j (b.gone.length : Int) = true) {s : List UInt8} (hs : s.length < 4611686018427387904) (a0 a1 a2 a3 a4 a6 : V) :
 Cl 57 [vG .sh g, vJ j, vB b, rIn 5] [a0, a1, a2, a3, a4, vIn s 0, a6] = some (.tup [vB (opB (evB g j b s)), .bool (evB g j b s).isSome], [a0, a1, a2, a3, a4, vIn (numIn s 0).2.1 (numIn s 0).2.2, a6]) := by
 have hN : Cl 10 [vG .sh g, vJ j, .int .i64 (b.gone.length : Int)] [] = some (.tup [vB (newB g j b.gone.length), .int .i64 0], []) := by
  have h := New_am hl j (b.gone.length : Int)
  rw [if_pos hg] at h
  rw [h]; rfl
 have hlen : b.gone.length ≤ 64 := by
  simp only [goodB, Bool.and_eq_true, decide_eq_true_eq] at hg; omega
 have n55 : Cl 55 [rIn 5] [a0, a1, a2, a3, a4, vIn s 0, a6, vG .sh g, vJ j, vB b, zBK] = some (.int .u64 ((numIn s 0).1 : Int), [a0, a1, a2, a3, a4, vIn (numIn s 0).2.1 (numIn s 0).2.2, a6, vG .sh g, vJ j, vB b, zBK]) := Num_am (id := 5) rfl hs
 have n86 : Cl 86 [rIn 5] [a0, a1, a2, a3, a4, vIn (numIn s 0).2.1 (numIn s 0).2.2, a6, vG .sh g, vJ j, vB b, zBK] = some (.int .i64 (endIn (numIn s 0).2.1 (numIn s 0).2.2 : Int), [a0, a1, a2, a3, a4, vIn (numIn s 0).2.1 (numIn s 0).2.2, a6, vG .sh g, vJ j, vB b, zBK]) := End_am (id := 5) rfl
 rw [evB]
 generalize (numIn s 0).1 = w at *
 generalize endIn (numIn s 0).2.1 (numIn s 0).2.2 = e at *
 generalize vIn (numIn s 0).2.1 (numIn s 0).2.2 = i2 at *
 generalize vIn s 0 = i1 at *
 by_cases he : e = 0
 · subst he
   by_cases hw : w < b.gone.length
   · have hx : (b.gone.map V.bool)[w]? = some (.bool b.gone[w]) := by simp [hw]
     cases hgw : b.gone[w] with
     | true =>
       rw [if_neg (by rw [List.getElem?_eq_getElem hw, hgw]; simp), f57_eq]
       rw [hgw] at hx
       simp only [zB, opB, Option.getD_none, Option.isSome_none, List.map_nil]
       simp (disch := first | assumption | omega | (with_reducible rfl) | (simp only [go_sem]; done) | (simp only [go_sem]; omega) | fail) only [↓reduceIte, ↓jn_eq, Nat.reduceAdd, go_sem, n55, n86, hx]
       rfl
     | false =>
       rw [if_pos ⟨rfl, by rw [List.getElem?_eq_getElem hw, hgw]⟩, f57_eq]
       rw [hgw] at hx
       simp only [zB, opB, Option.getD_some, Option.isSome_some, List.map_nil]
       have pq := fun h0 h1 h2 h3 h4 h5 h6 h7 h8 h9 h10 x0 x1 x2 x3 x4 (k : List V → Rv) => pairQ_am (l := b.gone) (by omega) hw (h := [h0, h1, h2, h3, h4, h5, h6, h7, h8, h9, h10, .agg tBk [x0, x1, x2, x3, x4]]) (id := 11) rfl k
       generalize newB g j b.gone.length = nb at *
       simp (disch := first | assumption | omega | (with_reducible rfl) | (simp only [go_sem]; done) | (simp only [go_sem]; omega) | fail) only [↓reduceIte, ↓jn_eq, Nat.reduceAdd, go_sem, n55, n86, hx, hN]
       refine (pq _ _ _ _ _ _ _ _ _ _ _ _ _ _ _ _ _).trans ?_
       simp only [List.set_cons_succ, List.set_cons_zero]
       simp (disch := first | assumption | omega | (with_reducible rfl) | (simp only [go_sem]; done) | (simp only [go_sem]; omega) | fail) only [↓reduceIte, ↓jn_eq, Nat.reduceAdd, go_sem]
   · rw [if_neg (by rw [List.getElem?_eq_none (by omega)]; simp), f57_eq]
     simp only [zB, opB, Option.getD_none, Option.isSome_none, List.map_nil]
     simp (disch := first | assumption | omega | (with_reducible rfl) | (simp only [go_sem]; done) | (simp only [go_sem]; omega) | fail) only [↓reduceIte, ↓jn_eq, Nat.reduceAdd, go_sem, n55, n86]
     rfl
 · rw [if_neg (fun h => he h.1), f57_eq]
   simp only [zB, opB, Option.getD_none, Option.isSome_none, List.map_nil]
   simp (disch := first | assumption | omega | (with_reducible rfl) | (simp only [go_sem]; done) | (simp only [go_sem]; omega) | fail) only [↓reduceIte, ↓jn_eq, Nat.reduceAdd, go_sem, n55, n86]
   rfl
end Go.Proofs.YtiegkempfolgcaaGreatDoor
end

section
set_option linter.unusedVariables false
set_option linter.unusedSimpArgs false
set_option linter.unusedSectionVars false
set_option maxRecDepth 100000
namespace Go.Proofs.YtiegkempfolgcaaGreatDoor
open Go AM
theorem own17_l0 {b : Bk} (hb : BkOk b) : ∀ (n i : Nat) (f : Fl), (f = .own ∨ f = .nil) → i + n = b.known.length →
 f18_l0 (.ref 0 [] 33) (.ref 1 [] 33) (.ref 2 [] 33) (.int .i64 (i : Int)) [vB b, zBK, .agg tBk [.int .i64 b.step, .lst 4 .sh (b.gone.map V.bool), .lst 55 .sh (b.roots.map A32), .lst 58 f ((b.known.take i).map sS), .lst 108 .sh (b.sent.map vMsg)]] = some (vB b, []) := by
 have hk := hb.known
 intro n
 induction n with
 | zero =>
   intro i f hf hi
   rw [List.take_of_length_le (by omega), f18_l0_eq]
   rcases hf with rfl | rfl
   all_goals simp (disch := first | assumption | omega | (with_reducible rfl) | (simp only [go_sem]; done) | (simp only [go_sem]; omega) | fail) only [↓reduceIte, ↓jn_eq, Nat.reduceAdd, go_sem]
   all_goals rfl
 | succ n ih =>
   intro i f hf hi
   have h : i < b.known.length := by omega
   have hx : (b.known.map sS)[i]? = some (sS b.known[i]) := by simp [h]
   have he := hb.each _ (List.getElem_mem h)
   have ih' := ih (i + 1) .own (Or.inl rfl) (by omega)
   have hle : (b.known.take i).length ≤ 1000000 := by rw [List.length_take]; omega
   rw [← List.take_append_getElem h, List.map_append] at ih'
   clear ih
   generalize b.known.take i = done at *
   generalize b.known[i] = x at *
   simp only [List.map_cons, List.map_nil] at ih'
   have t2 : ∀ (a z x0 x1 x2 x4 : V) (rs : List V) (f : Fl), ldTake [a, z, .agg tBk [x0, x1, x2, .lst 58 f rs, x4]] 30 (.ref 2 [3] 30) = some (.lst 58 f rs, [a, z, .agg tBk [x0, x1, x2, .lst 58 f.wk rs, x4]]) :=
    fun a z x0 x1 x2 x4 rs f => ldTake_f (h := [a, z, .agg tBk [x0, x1, x2, .lst 58 f rs, x4]]) (id := 2) rfl rfl
   have ap : ∀ h : List V, apL 9 AM.tyS false h (.lst 9 .own []) (sS x) = some (.lst 9 .own ([] ++ x.map V.str)) := fun h =>
    apL_own (V.PFL _ (plL_strs x)).clean (all_map (fun _ => rfl) _) (by simp; omega) _ _ _
   have w1 : V.weak (.lst 9 .own ([] ++ x.map V.str)) = sS x := by rw [List.nil_append]; rfl
   have lw1 : lowB true [.rop 58 (sS x)] = true := rfl
   have lw2 : lowB true [.lst 9 .own [], sS x] = true := rfl
   have sb3 : sameB (.ref 2 [] 33) (.ref 2 [3] 30) = true := rfl
   have sb0 : sameB (.ref 0 [] 33) (.ref 0 [3] 30) = true := rfl
   have df : diffB (.ref 2 [] 33) (.ref 0 [] 33) = true := rfl
   rw [← ih', f18_l0_eq]
   rcases hf with rfl | rfl
   all_goals simp (disch := first | assumption | omega | (with_reducible rfl) | (simp only [go_sem]; done) | (simp only [go_sem]; omega) | fail) only [↓reduceIte, ↓jn_eq, Nat.reduceAdd, go_sem, hx, t2, ap, w1, lw1, lw2, sb3, sb0, df, wk_own, wk_nil]
   all_goals rfl
theorem own17_am {b : Bk} (hb : BkOk b) : Cl 18 [vB b] [] = some (vB b, []) := by
 have h0 := own17_l0 hb b.known.length 0 .nil (Or.inr rfl) (by omega)
 rw [List.take_zero, List.map_nil] at h0
 have h1 := hb.gone; have h2 := hb.roots; have h3 := hb.sent
 rw [← h0, f18_eq]
 have lw1 : ∀ (t : TypeId) (xs : List V), lowB true [.lst t .own [], .lst t .sh xs] = true := fun _ _ => rfl
 have ap1 : ∀ h : List V, apL 4 AM.tyB false h (.lst 4 .own []) (.lst 4 .sh (b.gone.map V.bool)) = some (.lst 4 .own ([] ++ b.gone.map V.bool)) := fun h =>
  apL_own (V.PFL _ (plL_bools b.gone)).clean (tyA_bools b.gone) (by simp; omega) _ _ _
 have ap2 : ∀ h : List V, apL 55 (tyG 54) false h (.lst 55 .own []) (.lst 55 .sh (b.roots.map A32)) = some (.lst 55 .own ([] ++ b.roots.map A32)) := fun h =>
  apL_own (V.PFL _ (plL_A32s' b.roots)).clean (all_map (fun _ => tyG_g ..) _) (by simp; omega) _ _ _
 have ap3 : ∀ h : List V, apL 108 (tyG 107) false h (.lst 108 .own []) (.lst 108 .sh (b.sent.map vMsg)) = some (.lst 108 .own ([] ++ b.sent.map vMsg)) := fun h =>
  apL_own (V.PFL _ (plL_msgs b.sent)).clean (tyA_msgs _) (by simp; omega) _ _ _
 simp (disch := first | assumption | omega | (with_reducible rfl) | (simp only [go_sem]; done) | (simp only [go_sem]; omega) | fail) only [↓reduceIte, ↓jn_eq, Nat.reduceAdd, go_sem, ap1, ap2, ap3, lw1]
 rfl
def mayE (b : Bk) (w : Int) : Bool := decide (0 ≤ w) && decide (b.gone[w.toNat]? = some false)
theorem Evicts_am {b : Bk} (hb : b.gone.length ≤ 1000000) (w : Int) : Cl 20 [vB b, .int .i64 w] [] = some (.tup [.str (if mayE b w = true then numB 69 ++ numB w.toNat else []), .int .i64 (if mayE b w = true then 0 else 170)], []) := by
 by_cases h0 : w < 0
 · have hm : mayE b w = false := by rw [mayE, decide_eq_false (by omega)]; rfl
   rw [hm, f20_eq]
   simp (disch := first | assumption | omega | (with_reducible rfl) | (simp only [go_sem]; done) | (simp only [go_sem]; omega) | fail) only [↓reduceIte, ↓jn_eq, Nat.reduceAdd, go_sem]
   rfl
 obtain ⟨v, rfl⟩ := Int.eq_ofNat_of_zero_le (show 0 ≤ w by omega)
 by_cases hw : v < b.gone.length
 · have hx : (b.gone.map V.bool)[v]? = some (.bool b.gone[v]) := by simp [hw]
   cases hg : b.gone[v] with
   | true =>
     have hm : mayE b (v : Int) = false := by rw [mayE, Int.toNat_natCast, List.getElem?_eq_getElem hw, hg]; simp
     rw [hg] at hx
     rw [hm, f20_eq]
     simp (disch := first | assumption | omega | (with_reducible rfl) | (simp only [go_sem]; done) | (simp only [go_sem]; omega) | fail) only [↓reduceIte, ↓jn_eq, Nat.reduceAdd, go_sem, hx]
     rfl
   | false =>
     have hm : mayE b (v : Int) = true := by rw [mayE, Int.toNat_natCast, List.getElem?_eq_getElem hw, hg]; simp
     rw [hg] at hx
     have a := numBf_len 10 69
     have n1 := NewOut_am [vB b]
     have n2 : Cl 46 [rOut 1, .int .u64 69] [vB b, vOut .nil []] = some (.tup [], [vB b, vOut .own ([] ++ numB 69)]) := OutNum_am (n := 69) (id := 1) rfl (Or.inr rfl) (by omega) (by simp)
     have n3 : Cl 46 [rOut 1, .int .u64 (v : Int)] [vB b, vOut .own ([] ++ numB 69)] = some (.tup [], [vB b, vOut .own ([] ++ numB 69 ++ numB v)]) := OutNum_am (id := 1) rfl (Or.inl rfl) (by omega) (by simp only [numB, List.length_append, List.length_nil]; omega)
     have n4 : Cl 50 [rOut 1] [vB b, vOut .own ([] ++ numB 69 ++ numB v)] = some (.str ([] ++ numB 69 ++ numB v), [vB b, vOut .own ([] ++ numB 69 ++ numB v)]) := OutDone_am (id := 1) rfl
     rw [List.nil_append] at n2 n3 n4
     rw [hm, f20_eq]
     simp only [rOut, List.length_cons, List.length_nil, if_true, Int.toNat_natCast] at n1 n2 n3 n4 ⊢
     generalize numB 69 = c at *
     generalize numB v = d at *
     have nr : ∀ k x, normL [V.ref 1 [] 125, .int k x] = [V.ref 1 [] 125, .int k x] := fun _ _ => rfl
     have nr1 : normL [V.ref 1 [] 125] = [V.ref 1 [] 125] := rfl
     simp (disch := first | assumption | omega | (with_reducible rfl) | (simp only [go_sem]; done) | (simp only [go_sem]; omega) | fail) only [↓reduceIte, ↓jn_eq, Nat.reduceAdd, go_sem, hx, n1, n2, n3, n4, nr, nr1]
 · have hm : mayE b (v : Int) = false := by rw [mayE, Int.toNat_natCast, List.getElem?_eq_none (by omega)]; simp
   rw [hm, f20_eq]
   simp (disch := first | assumption | omega | (with_reducible rfl) | (simp only [go_sem]; done) | (simp only [go_sem]; omega) | fail) only [↓reduceIte, ↓jn_eq, Nat.reduceAdd, go_sem]
   rfl
set_option maxHeartbeats 4000000 in
theorem applyE_am {g : Grf} (hl : g.es.length < 1000000) {j : Job} {b : Bk} (hg : goodB g j (b.gone.length : Int) = true) (hr : b.roots.length = b.gone.length) {rec s : List UInt8} (hrec : rec.length < 4611686018427387904) (h69 : numIn rec 0 = (69, s, 0)) (hs : s.length < 4611686018427387904) :
 Cl 23 [vG .sh g, vJ j, vB b, .str rec] [] = some (.tup [vB (opB (evB g j b s)), .int .i64 (if (evB g j b s).isSome = true then 0 else 171)], []) := by
 have hN : Cl 10 [vG .sh g, vJ j, .int .i64 (b.gone.length : Int)] [] = some (.tup [vB (newB g j b.gone.length), .int .i64 0], []) := by
  have h := New_am hl j (b.gone.length : Int)
  rw [if_pos hg] at h
  rw [h]; rfl
 have hlen : b.gone.length ≤ 64 := by
  simp only [goodB, Bool.and_eq_true, decide_eq_true_eq] at hg; omega
 have n54 := NewIn_am [vG .sh g, vJ j, vB b, zBK, vB (newB g j b.gone.length)] rec
 have n55 : Cl 55 [rIn 5] [vG .sh g, vJ j, vB b, zBK, vB (newB g j b.gone.length), vIn rec 0, zBK] = some (.int .u64 69, [vG .sh g, vJ j, vB b, zBK, vB (newB g j b.gone.length), vIn s 0, zBK]) := by
  have := Num_am (h := [vG .sh g, vJ j, vB b, zBK, vB (newB g j b.gone.length), vIn rec 0, zBK]) (id := 5) rfl hrec
  rw [h69] at this; exact this
 have n57 := evict_am hl hg hs (vG .sh g) (vJ j) (vB b) zBK (vB (newB g j b.gone.length)) zBK
 rw [f23_eq]
 generalize vIn (numIn s 0).2.1 (numIn s 0).2.2 = i2 at *
 generalize newB g j b.gone.length = nb at *
 simp only [List.length_cons, List.length_nil, Nat.zero_add, Nat.reduceAdd] at n54
 cases he : evB g j b s with
 | none =>
   rw [he] at n57
   simp only [opB, Option.getD_none, Option.isSome_none, zB, List.map_nil] at n57 ⊢
   simp (disch := first | assumption | omega | (with_reducible rfl) | (simp only [go_sem]; done) | (simp only [go_sem]; omega) | fail) only [↓reduceIte, ↓jn_eq, Nat.reduceAdd, go_sem, n54, n55, n57, hN, hr]
   rfl
 | some c =>
   rw [he] at n57
   simp only [opB, Option.getD_some, Option.isSome_some] at n57 ⊢
   simp (disch := first | assumption | omega | (with_reducible rfl) | (simp only [go_sem]; done) | (simp only [go_sem]; omega) | fail) only [↓reduceIte, ↓jn_eq, Nat.reduceAdd, go_sem, n54, n55, n57, hN, hr]
end Go.Proofs.YtiegkempfolgcaaGreatDoor
end

section
set_option linter.unusedVariables false
set_option linter.unusedSimpArgs false
set_option linter.unusedSectionVars false
set_option maxRecDepth 100000
namespace Go.Proofs.YtiegkempfolgcaaGreatDoor
open Go AM
theorem numIn_69 (s : List UInt8) : numIn (69 :: s) 0 = (69, s, 0) := by simp [numIn, numL]
theorem numIn_1 {w : Nat} (hw : w < 128) : numIn [UInt8.ofNat w] 0 = (w, [], 0) := by
 have e : (UInt8.ofNat w).toNat = w := by simp; omega
 have e2 : w % 128 = w := Nat.mod_eq_of_lt hw
 simp only [numIn, numL, e, e2]
 simp [hw]
theorem numB_69 : numB 69 = [69] := rfl
theorem numB_1 {w : Nat} (hw : w < 128) : numB w = [UInt8.ofNat w] := by simp [numB, numBf, hw]
theorem evB_gone {g : Grf} {j : Job} {b : Bk} {w : Nat} (hw : w < b.gone.length) (h8 : w < 128) (hg : b.gone[w] = true) : evB g j b [UInt8.ofNat w] = none := by
 rw [evB, numIn_1 h8]
 exact if_neg fun h => by have := h.2; simp only [] at this; rw [List.getElem?_eq_getElem hw, hg] at this; simp at this
theorem evB_new {g : Grf} {j : Job} {b : Bk} {w : Nat} (hw : w < b.gone.length) (h8 : w < 128) (hg : b.gone[w] = false) : evB g j b [UInt8.ofNat w] = some { newB g j b.gone.length with gone := b.gone.set w true } := by
 rw [evB, numIn_1 h8]
 exact if_pos ⟨rfl, by simp only []; rw [List.getElem?_eq_getElem hw, hg]⟩
theorem cvT_1 (h : List V) {w : Nat} (h8 : w < 256) : cvT h (.lst 5 .own [.int .u8 (w : Int)]) = some (.str [UInt8.ofNat w]) := by
 simp [cvT, content, bytesTo, AM.byteOf]
theorem ix_rop {e : TypeId} {f : Fl} {xs : List V} {i : Nat} {x : V} (h : xs[i]? = some x) (k : IntKind) : ixS e (.lst e f xs) (.int k (i : Int)) = some (.rop e x) := by rw [ixS_l, h]; rfl
abbrev vBys (f : Fl) (l : List UInt8) : V := .lst 5 f (l.map fun x => V.int .u8 (x.toNat : Int))
set_option maxHeartbeats 4000000 in
theorem once_step {g : Grf} (hl : g.es.length < 1000000) {j : Job} {N : Nat} (hN : N ≤ 8) (hg : goodB g j (N : Int) = true) {f fl : Fl} (hf : f = .sh ∨ f = .nil) (hfl : fl = .sh ∨ fl = .nil) {l : List UInt8} (hll : l.length ≤ 12) {i : Nat} (hi : i < l.length) {b : Bk} (hb : BkOk b) (hgl : b.gone.length = N) (hrl : b.roots.length = N) (hk : b.known.length ≤ 64) :
 ∃ b' : Bk, BkOk b' ∧ b'.gone.length = N ∧ b'.roots.length = N ∧ b'.known.length ≤ 64 ∧
   f7_l0 (.int .i64 (N : Int)) (vBys fl l) (.ref 0 [] 24) (.ref 1 [] 26) (.ref 2 [] 33) (.int .i64 (i : Int)) [vG f g, vJ j, vB b] =
    f7_l0 (.int .i64 (N : Int)) (vBys fl l) (.ref 0 [] 24) (.ref 1 [] 26) (.ref 2 [] 33) (.int .i64 ((i + 1 : Nat) : Int)) [vG f g, vJ j, vB b'] := by
 have hj := hg
 simp only [goodB, Bool.and_eq_true, decide_eq_true_eq] at hj
 obtain ⟨hj, n1, n2⟩ := hj
 have hgn := goodJ_n hj
 have hx : (l.map fun x => V.int .u8 (x.toNat : Int))[i]? = some (V.int .u8 (l[i].toNat : Int)) := by simp [hi]
 have hlt := UInt8.toNat_lt l[i]
 have hw : l[i].toNat % N < N := Nat.mod_lt _ (by omega)
 have rm : bin .rem (.int .i64 (l[i].toNat : Int)) (.int .i64 (N : Int)) = some (.int .i64 ((l[i].toNat % N : Nat) : Int)) := remN (by omega) _
 have cv0 : cvI .i64 (.int .u8 (l[i].toNat : Int)) = some (.int .i64 (l[i].toNat : Int)) := cvI_i64 (by omega) (by omega)
 generalize l[i].toNat % N = w at *
 generalize l[i].toNat = x at *
 subst hgl
 have own3 := own13_am hl
 have own7 := own17_am hb
 have ev := Evicts_am (b := b) (by omega) (w : Int)
 have hgx : (b.gone.map V.bool)[w]? = some (.bool b.gone[w]) := by simp [hw]
 have ap := applyE_am hl hg hrl (rec := [69, UInt8.ofNat w]) (by simp) (numIn_69 _) (by simp)
 have lw2 : lowB true [vG .sh g] = true := rfl
 have lw3 : lowB true [vG .nil g] = true := rfl
 have lw4 : lowB true [vB b] = true := rfl
 have lw5 : ∀ s, lowB true [vG .sh g, vJ j, vB b, .str s] = true := fun _ => rfl
 have lw6 : lowB true [.lst 5 .own [.int .u8 (w : Int)]] = true := rfl
 have cv1 : cvI .u8 (.int .i64 (w : Int)) = some (.int .u8 (w : Int)) := cvI_u8 (by omega) (by omega)
 cases hgw : b.gone[w] with
 | true =>
   have hm : mayE b (w : Int) = false := by rw [mayE, Int.toNat_natCast, List.getElem?_eq_getElem hw, hgw]; simp
   rw [evB_gone hw (by omega) hgw] at ap
   rw [hm] at ev
   rw [hgw] at hgx
   simp only [opB, Option.getD_none, Option.isSome_none, zB, Bool.false_eq_true, if_false, List.map_nil] at ap ev
   refine ⟨b, hb, rfl, hrl, hk, ?_⟩
   have ct := fun h => cvT_1 h (w := w) (by omega)
   generalize hc : UInt8.ofNat w = c at *
   have ap' : Cl 23 [vG .sh g, vJ j, vB b, .str ([69] ++ [c])] [] = _ := ap
   have ixg : ixS 4 (.lst 4 .sh (b.gone.map V.bool)) (.int .i64 (w : Int)) = some (.rop 4 (.bool true)) := ix_rop hgx _
   rw [f7_l0_eq]
   rcases hf with rfl | rfl <;> rcases hfl with rfl | rfl
   all_goals (repeat' with_reducible first | refine (ite_T _ _).trans ?_ | refine (ite_F _ _).trans ?_ | refine (jn_eq _ _).trans ?_ | refine (bstep (by first | rfl | (simp (disch := first | assumption | omega | (with_reducible rfl) | (simp only [go_sem]; done) | (simp only [go_sem]; omega) | fail) only [↓reduceIte, ↓jn_eq, Nat.reduceAdd, go_sem, Bool.not_true, Bool.not_false, hx, cv0, rm, ixg, own3, own7, ev, ap, ap', lw2, lw3, lw4, lw5, lw6, cv1, ct]; rfl)) _).trans ?_ | refine (if_pos (by first | rfl | (simp (disch := first | assumption | omega | (with_reducible rfl) | (simp only [go_sem]; done) | (simp only [go_sem]; omega) | fail) only [↓reduceIte, ↓jn_eq, Nat.reduceAdd, go_sem, Bool.not_true, Bool.not_false, hx, cv0, rm, ixg, own3, own7, ev, ap, ap', lw2, lw3, lw4, lw5, lw6, cv1, ct]; done))).trans ?_ | refine (ite_dec (by first | assumption | omega | (simp (disch := first | assumption | omega | (with_reducible rfl) | (simp only [go_sem]; done) | (simp only [go_sem]; omega) | fail) only [↓reduceIte, ↓jn_eq, Nat.reduceAdd, go_sem, Bool.not_true, Bool.not_false, hx, cv0, rm, ixg, own3, own7, ev, ap, ap', lw2, lw3, lw4, lw5, lw6, cv1, ct]; done) | (simp (disch := first | assumption | omega | (with_reducible rfl) | (simp only [go_sem]; done) | (simp only [go_sem]; omega) | fail) only [↓reduceIte, ↓jn_eq, Nat.reduceAdd, go_sem, Bool.not_true, Bool.not_false, hx, cv0, rm, ixg, own3, own7, ev, ap, ap', lw2, lw3, lw4, lw5, lw6, cv1, ct]; omega)) _ _).trans ?_ | refine (ite_ndec (by first | assumption | omega | (simp (disch := first | assumption | omega | (with_reducible rfl) | (simp only [go_sem]; done) | (simp only [go_sem]; omega) | fail) only [↓reduceIte, ↓jn_eq, Nat.reduceAdd, go_sem, Bool.not_true, Bool.not_false, hx, cv0, rm, ixg, own3, own7, ev, ap, ap', lw2, lw3, lw4, lw5, lw6, cv1, ct]; done) | (simp (disch := first | assumption | omega | (with_reducible rfl) | (simp only [go_sem]; done) | (simp only [go_sem]; omega) | fail) only [↓reduceIte, ↓jn_eq, Nat.reduceAdd, go_sem, Bool.not_true, Bool.not_false, hx, cv0, rm, ixg, own3, own7, ev, ap, ap', lw2, lw3, lw4, lw5, lw6, cv1, ct]; omega)) _ _).trans ?_ | fail)
   all_goals rfl
 | false =>
   have hm : mayE b (w : Int) = true := by rw [mayE, Int.toNat_natCast, List.getElem?_eq_getElem hw, hgw]; simp
   have hev := evB_new (g := g) (j := j) hw (by omega) hgw
   rw [hev] at ap
   rw [hm] at ev
   rw [hgw] at hgx
   simp only [opB, Option.getD_some, Option.isSome_some, if_true, Int.toNat_natCast, numB_69, numB_1 (show w < 128 by omega)] at ap ev
   have nb := newB_ok (g := g) (j := j) (N := b.gone.length) hgn.2 (by omega)
   have nr : (newB g j b.gone.length).roots.length = b.gone.length := by simp [newB]
   have nk : (newB g j b.gone.length).known.length = b.gone.length := by simp [newB]
   have ns : (newB g j b.gone.length).step = 0 := rfl
   generalize newB g j b.gone.length = nB at *
   refine ⟨{ nB with gone := b.gone.set w true }, ⟨by simp; omega, nb.roots, nb.known, nb.each, nb.len, nb.sent⟩, by simp, nr, by simp only []; omega, ?_⟩
   generalize hc : UInt8.ofNat w = c at *
   have ev' : Cl 20 [vB b, .int .i64 (w : Int)] [] = some (.tup [.str [69, c], .int .i64 0], []) := ev
   have ixg : ixS 4 (.lst 4 .sh (b.gone.map V.bool)) (.int .i64 (w : Int)) = some (.rop 4 (.bool false)) := ix_rop hgx _
   have hgs : ((b.gone.set w true).map V.bool)[w]? = some (.bool true) := by simp [hw]
   have ixs : ixS 4 (.lst 4 .sh ((b.gone.set w true).map V.bool)) (.int .i64 (w : Int)) = some (.rop 4 (.bool true)) := ix_rop hgs _
   rw [f7_l0_eq]
   rcases hf with rfl | rfl <;> rcases hfl with rfl | rfl
   all_goals (repeat' with_reducible first | refine (ite_T _ _).trans ?_ | refine (ite_F _ _).trans ?_ | refine (jn_eq _ _).trans ?_ | refine (bstep (by first | rfl | (simp (disch := first | assumption | omega | (with_reducible rfl) | (simp only [go_sem]; done) | (simp only [go_sem]; omega) | fail) only [↓reduceIte, ↓jn_eq, Nat.reduceAdd, go_sem, Bool.not_true, Bool.not_false, hx, cv0, rm, ixg, ixs, own3, own7, ev', ap, lw2, lw3, lw4, lw5, lw6, cv1]; rfl)) _).trans ?_ | refine (if_pos (by first | rfl | (simp (disch := first | assumption | omega | (with_reducible rfl) | (simp only [go_sem]; done) | (simp only [go_sem]; omega) | fail) only [↓reduceIte, ↓jn_eq, Nat.reduceAdd, go_sem, Bool.not_true, Bool.not_false, hx, cv0, rm, ixg, ixs, own3, own7, ev', ap, lw2, lw3, lw4, lw5, lw6, cv1]; done))).trans ?_ | refine (ite_dec (by first | assumption | omega | (simp (disch := first | assumption | omega | (with_reducible rfl) | (simp only [go_sem]; done) | (simp only [go_sem]; omega) | fail) only [↓reduceIte, ↓jn_eq, Nat.reduceAdd, go_sem, Bool.not_true, Bool.not_false, hx, cv0, rm, ixg, ixs, own3, own7, ev', ap, lw2, lw3, lw4, lw5, lw6, cv1]; done) | (simp (disch := first | assumption | omega | (with_reducible rfl) | (simp only [go_sem]; done) | (simp only [go_sem]; omega) | fail) only [↓reduceIte, ↓jn_eq, Nat.reduceAdd, go_sem, Bool.not_true, Bool.not_false, hx, cv0, rm, ixg, ixs, own3, own7, ev', ap, lw2, lw3, lw4, lw5, lw6, cv1]; omega)) _ _).trans ?_ | refine (ite_ndec (by first | assumption | omega | (simp (disch := first | assumption | omega | (with_reducible rfl) | (simp only [go_sem]; done) | (simp only [go_sem]; omega) | fail) only [↓reduceIte, ↓jn_eq, Nat.reduceAdd, go_sem, Bool.not_true, Bool.not_false, hx, cv0, rm, ixg, ixs, own3, own7, ev', ap, lw2, lw3, lw4, lw5, lw6, cv1]; done) | (simp (disch := first | assumption | omega | (with_reducible rfl) | (simp only [go_sem]; done) | (simp only [go_sem]; omega) | fail) only [↓reduceIte, ↓jn_eq, Nat.reduceAdd, go_sem, Bool.not_true, Bool.not_false, hx, cv0, rm, ixg, ixs, own3, own7, ev', ap, lw2, lw3, lw4, lw5, lw6, cv1]; omega)) _ _).trans ?_ | fail)
   all_goals rfl
end Go.Proofs.YtiegkempfolgcaaGreatDoor
end

section
set_option linter.unusedVariables false
set_option linter.unusedSimpArgs false
set_option linter.unusedSectionVars false
set_option maxRecDepth 100000
namespace Go.Proofs.YtiegkempfolgcaaGreatDoor
open Go AM
theorem once_l0 {g : Grf} (hl : g.es.length < 1000000) {j : Job} {N : Nat} (hN : N ≤ 8) (hg : goodB g j (N : Int) = true) {f fl : Fl} (hf : f = .sh ∨ f = .nil) (hfl : fl = .sh ∨ fl = .nil) {l : List UInt8} (hll : l.length ≤ 12) : ∀ (n i : Nat) (b : Bk), i + n = l.length → BkOk b → b.gone.length = N → b.roots.length = N → b.known.length ≤ 64 →
 f7_l0 (.int .i64 (N : Int)) (vBys fl l) (.ref 0 [] 24) (.ref 1 [] 26) (.ref 2 [] 33) (.int .i64 (i : Int)) [vG f g, vJ j, vB b] = some (.bool true, []) := by
 intro n
 induction n with
 | zero =>
   intro i b hi hb h1 h2 h3
   rw [f7_l0_eq]
   rcases hfl with rfl | rfl
   all_goals (repeat' with_reducible first | refine (ite_T _ _).trans ?_ | refine (ite_F _ _).trans ?_ | refine (jn_eq _ _).trans ?_ | refine (bstep (by first | rfl | (simp (disch := first | assumption | omega | (with_reducible rfl) | (simp only [go_sem]; done) | (simp only [go_sem]; omega) | fail) only [↓reduceIte, ↓jn_eq, Nat.reduceAdd, go_sem, Bool.not_true, Bool.not_false]; rfl)) _).trans ?_ | refine (if_pos (by first | rfl | (simp (disch := first | assumption | omega | (with_reducible rfl) | (simp only [go_sem]; done) | (simp only [go_sem]; omega) | fail) only [↓reduceIte, ↓jn_eq, Nat.reduceAdd, go_sem, Bool.not_true, Bool.not_false]; done))).trans ?_ | refine (ite_dec (by first | assumption | omega | (simp (disch := first | assumption | omega | (with_reducible rfl) | (simp only [go_sem]; done) | (simp only [go_sem]; omega) | fail) only [↓reduceIte, ↓jn_eq, Nat.reduceAdd, go_sem, Bool.not_true, Bool.not_false]; done) | (simp (disch := first | assumption | omega | (with_reducible rfl) | (simp only [go_sem]; done) | (simp only [go_sem]; omega) | fail) only [↓reduceIte, ↓jn_eq, Nat.reduceAdd, go_sem, Bool.not_true, Bool.not_false]; omega)) _ _).trans ?_ | refine (ite_ndec (by first | assumption | omega | (simp (disch := first | assumption | omega | (with_reducible rfl) | (simp only [go_sem]; done) | (simp only [go_sem]; omega) | fail) only [↓reduceIte, ↓jn_eq, Nat.reduceAdd, go_sem, Bool.not_true, Bool.not_false]; done) | (simp (disch := first | assumption | omega | (with_reducible rfl) | (simp only [go_sem]; done) | (simp only [go_sem]; omega) | fail) only [↓reduceIte, ↓jn_eq, Nat.reduceAdd, go_sem, Bool.not_true, Bool.not_false]; omega)) _ _).trans ?_ | fail)
   all_goals rfl
 | succ n ih =>
   intro i b hi hb h1 h2 h3
   obtain ⟨b', c0, c1, c2, c3, e⟩ := once_step hl hN hg hf hfl hll (show i < l.length by omega) hb h1 h2 h3
   rw [e]
   exact ih (i + 1) b' (by omega) c0 c1 c2 c3
theorem bookOnce_am (hA : Cl 9 [] [] = some (.bool true, [])) {f fl : Fl} (hf : f = .sh ∨ f = .nil) (hfl : fl = .sh ∨ fl = .nil) (g : Grf) (j : Job) (w : Int) (l : List UInt8) :
 Cl 7 [vG f g, vJ j, .int .i64 w, vBys fl l] [] = some (.bool true, []) := by
 by_cases h1 : 40 < g.es.length
 · rw [f7_eq]
   rcases hf with rfl | rfl
   all_goals (repeat' with_reducible first | refine (ite_T _ _).trans ?_ | refine (ite_F _ _).trans ?_ | refine (jn_eq _ _).trans ?_ | refine (bstep (by first | rfl | (simp (disch := first | assumption | omega | (with_reducible rfl) | (simp only [go_sem]; done) | (simp only [go_sem]; omega) | fail) only [↓reduceIte, ↓jn_eq, Nat.reduceAdd, go_sem, Bool.not_true, Bool.not_false, hA]; rfl)) _).trans ?_ | refine (if_pos (by first | rfl | (simp (disch := first | assumption | omega | (with_reducible rfl) | (simp only [go_sem]; done) | (simp only [go_sem]; omega) | fail) only [↓reduceIte, ↓jn_eq, Nat.reduceAdd, go_sem, Bool.not_true, Bool.not_false, hA]; done))).trans ?_ | refine (ite_dec (by first | assumption | omega | (simp (disch := first | assumption | omega | (with_reducible rfl) | (simp only [go_sem]; done) | (simp only [go_sem]; omega) | fail) only [↓reduceIte, ↓jn_eq, Nat.reduceAdd, go_sem, Bool.not_true, Bool.not_false, hA]; done) | (simp (disch := first | assumption | omega | (with_reducible rfl) | (simp only [go_sem]; done) | (simp only [go_sem]; omega) | fail) only [↓reduceIte, ↓jn_eq, Nat.reduceAdd, go_sem, Bool.not_true, Bool.not_false, hA]; omega)) _ _).trans ?_ | refine (ite_ndec (by first | assumption | omega | (simp (disch := first | assumption | omega | (with_reducible rfl) | (simp only [go_sem]; done) | (simp only [go_sem]; omega) | fail) only [↓reduceIte, ↓jn_eq, Nat.reduceAdd, go_sem, Bool.not_true, Bool.not_false, hA]; done) | (simp (disch := first | assumption | omega | (with_reducible rfl) | (simp only [go_sem]; done) | (simp only [go_sem]; omega) | fail) only [↓reduceIte, ↓jn_eq, Nat.reduceAdd, go_sem, Bool.not_true, Bool.not_false, hA]; omega)) _ _).trans ?_ | fail)
   all_goals rfl
 by_cases h2 : 12 < g.n
 · rw [f7_eq]
   rcases hf with rfl | rfl
   all_goals (repeat' with_reducible first | refine (ite_T _ _).trans ?_ | refine (ite_F _ _).trans ?_ | refine (jn_eq _ _).trans ?_ | refine (bstep (by first | rfl | (simp (disch := first | assumption | omega | (with_reducible rfl) | (simp only [go_sem]; done) | (simp only [go_sem]; omega) | fail) only [↓reduceIte, ↓jn_eq, Nat.reduceAdd, go_sem, Bool.not_true, Bool.not_false, hA]; rfl)) _).trans ?_ | refine (if_pos (by first | rfl | (simp (disch := first | assumption | omega | (with_reducible rfl) | (simp only [go_sem]; done) | (simp only [go_sem]; omega) | fail) only [↓reduceIte, ↓jn_eq, Nat.reduceAdd, go_sem, Bool.not_true, Bool.not_false, hA]; done))).trans ?_ | refine (ite_dec (by first | assumption | omega | (simp (disch := first | assumption | omega | (with_reducible rfl) | (simp only [go_sem]; done) | (simp only [go_sem]; omega) | fail) only [↓reduceIte, ↓jn_eq, Nat.reduceAdd, go_sem, Bool.not_true, Bool.not_false, hA]; done) | (simp (disch := first | assumption | omega | (with_reducible rfl) | (simp only [go_sem]; done) | (simp only [go_sem]; omega) | fail) only [↓reduceIte, ↓jn_eq, Nat.reduceAdd, go_sem, Bool.not_true, Bool.not_false, hA]; omega)) _ _).trans ?_ | refine (ite_ndec (by first | assumption | omega | (simp (disch := first | assumption | omega | (with_reducible rfl) | (simp only [go_sem]; done) | (simp only [go_sem]; omega) | fail) only [↓reduceIte, ↓jn_eq, Nat.reduceAdd, go_sem, Bool.not_true, Bool.not_false, hA]; done) | (simp (disch := first | assumption | omega | (with_reducible rfl) | (simp only [go_sem]; done) | (simp only [go_sem]; omega) | fail) only [↓reduceIte, ↓jn_eq, Nat.reduceAdd, go_sem, Bool.not_true, Bool.not_false, hA]; omega)) _ _).trans ?_ | fail)
   all_goals rfl
 by_cases h3 : 8 < w
 · rw [f7_eq]
   rcases hf with rfl | rfl
   all_goals (repeat' with_reducible first | refine (ite_T _ _).trans ?_ | refine (ite_F _ _).trans ?_ | refine (jn_eq _ _).trans ?_ | refine (bstep (by first | rfl | (simp (disch := first | assumption | omega | (with_reducible rfl) | (simp only [go_sem]; done) | (simp only [go_sem]; omega) | fail) only [↓reduceIte, ↓jn_eq, Nat.reduceAdd, go_sem, Bool.not_true, Bool.not_false, hA]; rfl)) _).trans ?_ | refine (if_pos (by first | rfl | (simp (disch := first | assumption | omega | (with_reducible rfl) | (simp only [go_sem]; done) | (simp only [go_sem]; omega) | fail) only [↓reduceIte, ↓jn_eq, Nat.reduceAdd, go_sem, Bool.not_true, Bool.not_false, hA]; done))).trans ?_ | refine (ite_dec (by first | assumption | omega | (simp (disch := first | assumption | omega | (with_reducible rfl) | (simp only [go_sem]; done) | (simp only [go_sem]; omega) | fail) only [↓reduceIte, ↓jn_eq, Nat.reduceAdd, go_sem, Bool.not_true, Bool.not_false, hA]; done) | (simp (disch := first | assumption | omega | (with_reducible rfl) | (simp only [go_sem]; done) | (simp only [go_sem]; omega) | fail) only [↓reduceIte, ↓jn_eq, Nat.reduceAdd, go_sem, Bool.not_true, Bool.not_false, hA]; omega)) _ _).trans ?_ | refine (ite_ndec (by first | assumption | omega | (simp (disch := first | assumption | omega | (with_reducible rfl) | (simp only [go_sem]; done) | (simp only [go_sem]; omega) | fail) only [↓reduceIte, ↓jn_eq, Nat.reduceAdd, go_sem, Bool.not_true, Bool.not_false, hA]; done) | (simp (disch := first | assumption | omega | (with_reducible rfl) | (simp only [go_sem]; done) | (simp only [go_sem]; omega) | fail) only [↓reduceIte, ↓jn_eq, Nat.reduceAdd, go_sem, Bool.not_true, Bool.not_false, hA]; omega)) _ _).trans ?_ | fail)
   all_goals rfl
 by_cases h4 : 12 < l.length
 · rw [f7_eq]
   rcases hf with rfl | rfl <;> rcases hfl with rfl | rfl
   all_goals (repeat' with_reducible first | refine (ite_T _ _).trans ?_ | refine (ite_F _ _).trans ?_ | refine (jn_eq _ _).trans ?_ | refine (bstep (by first | rfl | (simp (disch := first | assumption | omega | (with_reducible rfl) | (simp only [go_sem]; done) | (simp only [go_sem]; omega) | fail) only [↓reduceIte, ↓jn_eq, Nat.reduceAdd, go_sem, Bool.not_true, Bool.not_false, hA]; rfl)) _).trans ?_ | refine (if_pos (by first | rfl | (simp (disch := first | assumption | omega | (with_reducible rfl) | (simp only [go_sem]; done) | (simp only [go_sem]; omega) | fail) only [↓reduceIte, ↓jn_eq, Nat.reduceAdd, go_sem, Bool.not_true, Bool.not_false, hA]; done))).trans ?_ | refine (ite_dec (by first | assumption | omega | (simp (disch := first | assumption | omega | (with_reducible rfl) | (simp only [go_sem]; done) | (simp only [go_sem]; omega) | fail) only [↓reduceIte, ↓jn_eq, Nat.reduceAdd, go_sem, Bool.not_true, Bool.not_false, hA]; done) | (simp (disch := first | assumption | omega | (with_reducible rfl) | (simp only [go_sem]; done) | (simp only [go_sem]; omega) | fail) only [↓reduceIte, ↓jn_eq, Nat.reduceAdd, go_sem, Bool.not_true, Bool.not_false, hA]; omega)) _ _).trans ?_ | refine (ite_ndec (by first | assumption | omega | (simp (disch := first | assumption | omega | (with_reducible rfl) | (simp only [go_sem]; done) | (simp only [go_sem]; omega) | fail) only [↓reduceIte, ↓jn_eq, Nat.reduceAdd, go_sem, Bool.not_true, Bool.not_false, hA]; done) | (simp (disch := first | assumption | omega | (with_reducible rfl) | (simp only [go_sem]; done) | (simp only [go_sem]; omega) | fail) only [↓reduceIte, ↓jn_eq, Nat.reduceAdd, go_sem, Bool.not_true, Bool.not_false, hA]; omega)) _ _).trans ?_ | fail)
   all_goals rfl
 have hl : g.es.length < 1000000 := by omega
 have rt := rright_am hl j w
 have ow := own13_am hl
 have nw := New_am hl j w
 have lw2 : lowB true [vG .sh g] = true := rfl
 have lw3 : lowB true [vG .nil g] = true := rfl
 have lw4 : ∀ w, lowB true [vG .sh g, vJ j, .int .i64 w] = true := fun _ => rfl
 by_cases hb : goodB g j w = true
 · have hb' := hb
   simp only [goodB, Bool.and_eq_true, decide_eq_true_eq] at hb'
   obtain ⟨hj, w1, w2⟩ := hb'
   have hgn := goodJ_n hj
   obtain ⟨N, rfl⟩ := Int.eq_ofNat_of_zero_le (show 0 ≤ w by omega)
   rw [if_pos hb] at nw
   simp only [Int.toNat_natCast] at nw
   have nb := newB_ok (g := g) (j := j) (N := N) hgn.2 (by omega)
   have lp := once_l0 hl (N := N) (by omega) hb hf hfl (l := l) (by omega) l.length 0 (newB g j N) (by omega) nb (by simp [newB]) (by simp [newB]) (by simp [newB]; omega)
   rw [hb] at rt
   simp only [c0] at lp
   generalize newB g j N = b at *
   rw [f7_eq]
   rcases hf with rfl | rfl <;> rcases hfl with rfl | rfl
   all_goals (repeat' with_reducible first | refine (ite_T _ _).trans ?_ | refine (ite_F _ _).trans ?_ | refine (jn_eq _ _).trans ?_ | refine (bstep (by first | rfl | (simp (disch := first | assumption | omega | (with_reducible rfl) | (simp only [go_sem]; done) | (simp only [go_sem]; omega) | fail) only [↓reduceIte, ↓jn_eq, Nat.reduceAdd, go_sem, Bool.not_true, Bool.not_false, hA, ow, nw, rt, lw2, lw3, lw4]; rfl)) _).trans ?_ | refine (if_pos (by first | rfl | (simp (disch := first | assumption | omega | (with_reducible rfl) | (simp only [go_sem]; done) | (simp only [go_sem]; omega) | fail) only [↓reduceIte, ↓jn_eq, Nat.reduceAdd, go_sem, Bool.not_true, Bool.not_false, hA, ow, nw, rt, lw2, lw3, lw4]; done))).trans ?_ | refine (ite_dec (by first | assumption | omega | (simp (disch := first | assumption | omega | (with_reducible rfl) | (simp only [go_sem]; done) | (simp only [go_sem]; omega) | fail) only [↓reduceIte, ↓jn_eq, Nat.reduceAdd, go_sem, Bool.not_true, Bool.not_false, hA, ow, nw, rt, lw2, lw3, lw4]; done) | (simp (disch := first | assumption | omega | (with_reducible rfl) | (simp only [go_sem]; done) | (simp only [go_sem]; omega) | fail) only [↓reduceIte, ↓jn_eq, Nat.reduceAdd, go_sem, Bool.not_true, Bool.not_false, hA, ow, nw, rt, lw2, lw3, lw4]; omega)) _ _).trans ?_ | refine (ite_ndec (by first | assumption | omega | (simp (disch := first | assumption | omega | (with_reducible rfl) | (simp only [go_sem]; done) | (simp only [go_sem]; omega) | fail) only [↓reduceIte, ↓jn_eq, Nat.reduceAdd, go_sem, Bool.not_true, Bool.not_false, hA, ow, nw, rt, lw2, lw3, lw4]; done) | (simp (disch := first | assumption | omega | (with_reducible rfl) | (simp only [go_sem]; done) | (simp only [go_sem]; omega) | fail) only [↓reduceIte, ↓jn_eq, Nat.reduceAdd, go_sem, Bool.not_true, Bool.not_false, hA, ow, nw, rt, lw2, lw3, lw4]; omega)) _ _).trans ?_ | fail)
   all_goals exact lp
 · rw [Bool.not_eq_true] at hb
   rw [hb] at rt
   rw [f7_eq]
   rcases hf with rfl | rfl <;> rcases hfl with rfl | rfl
   all_goals (repeat' with_reducible first | refine (ite_T _ _).trans ?_ | refine (ite_F _ _).trans ?_ | refine (jn_eq _ _).trans ?_ | refine (bstep (by first | rfl | (simp (disch := first | assumption | omega | (with_reducible rfl) | (simp only [go_sem]; done) | (simp only [go_sem]; omega) | fail) only [↓reduceIte, ↓jn_eq, Nat.reduceAdd, go_sem, Bool.not_true, Bool.not_false, hA, rt, lw2, lw3, lw4]; rfl)) _).trans ?_ | refine (if_pos (by first | rfl | (simp (disch := first | assumption | omega | (with_reducible rfl) | (simp only [go_sem]; done) | (simp only [go_sem]; omega) | fail) only [↓reduceIte, ↓jn_eq, Nat.reduceAdd, go_sem, Bool.not_true, Bool.not_false, hA, rt, lw2, lw3, lw4]; done))).trans ?_ | refine (ite_dec (by first | assumption | omega | (simp (disch := first | assumption | omega | (with_reducible rfl) | (simp only [go_sem]; done) | (simp only [go_sem]; omega) | fail) only [↓reduceIte, ↓jn_eq, Nat.reduceAdd, go_sem, Bool.not_true, Bool.not_false, hA, rt, lw2, lw3, lw4]; done) | (simp (disch := first | assumption | omega | (with_reducible rfl) | (simp only [go_sem]; done) | (simp only [go_sem]; omega) | fail) only [↓reduceIte, ↓jn_eq, Nat.reduceAdd, go_sem, Bool.not_true, Bool.not_false, hA, rt, lw2, lw3, lw4]; omega)) _ _).trans ?_ | refine (ite_ndec (by first | assumption | omega | (simp (disch := first | assumption | omega | (with_reducible rfl) | (simp only [go_sem]; done) | (simp only [go_sem]; omega) | fail) only [↓reduceIte, ↓jn_eq, Nat.reduceAdd, go_sem, Bool.not_true, Bool.not_false, hA, rt, lw2, lw3, lw4]; done) | (simp (disch := first | assumption | omega | (with_reducible rfl) | (simp only [go_sem]; done) | (simp only [go_sem]; omega) | fail) only [↓reduceIte, ↓jn_eq, Nat.reduceAdd, go_sem, Bool.not_true, Bool.not_false, hA, rt, lw2, lw3, lw4]; omega)) _ _).trans ?_ | fail)
   all_goals rfl
end Go.Proofs.YtiegkempfolgcaaGreatDoor
end
