/-
  Part of the proof of a statement about the given program: an abstract machine over its code, the simulation, its functions' equations, what they compute.
-/
import Derived.Sort.AssemblyPlain
import Derived.Test.YtaghnpjlhmgioaaDoorMg10
import Derived.Test.YtaghnpjlhmgioaaDoorMg13
import Derived.Test.YtaghnpjlhmgioaaDoorMg4
import Derived.Test.YtaghnpjlhmgioaaDoorMg5
import Derived.Test.YtaghnpjlhmgioaaDoorMg7
import Derived.Test.YtaghnpjlhmgioaaDoorMg9
section
set_option linter.unusedVariables false
set_option linter.unusedSimpArgs false
set_option linter.unusedSectionVars false
set_option maxRecDepth 100000
namespace Go.Proofs.YtaghnpjlhmgioaaDoor
open Go AM
namespace Ed
theorem ltE_iff (x y : Edg) : ltE x y = true ↔ (x.fr < y.fr ∨ x.fr = y.fr ∧ x.to < y.to) := by
 rw [ltE, decide_eq_true_eq, cmpE]
 by_cases h : x.fr = y.fr
 · rw [if_pos h]; constructor <;> intro k <;> omega
 · rw [if_neg h]; constructor <;> intro k <;> omega
theorem ltE_iff' (x y : Edg) : ltE x y = false ↔ ¬ (x.fr < y.fr ∨ x.fr = y.fr ∧ x.to < y.to) := by
 rw [← ltE_iff, Bool.not_eq_true]
theorem ltM_swo : Sort.SWO ltE where
 irrefl x := by rw [ltE_iff']; omega
 trans x y z := by simp only [ltE_iff]; omega
 ntrans x y z := by simp only [ltE_iff']; omega
section
variable {h0 : List V} {id N : Nat} (hid : id < h0.length) (hb62 : N < 1000000000000000000)
include hid hb62
noncomputable def pdLoop (h0 : List V) (id N a b limit : Nat) (wb wp : Bool) (d : Array Edg) : Option (V × List V) :=
 f50_l0 (winM id N) (iv a) (iv b) (iv limit) cm (.bool wb) (.bool wp) h0.length (HB h0 id d)
noncomputable def pdRest (h0 : List V) (id N a b limit : Nat) (wb wp : Bool) (pivot : Nat) (d3 : Array Edg) : Option (V × List V) :=
 f50_r17 (winM id N) (iv a) cm (iv pivot) (HB h0 id d3) fun t97_20 h_21 =>
 V.ite t97_20
 (f50_r18 (winM id N) (iv a) (iv b) cm (iv pivot) h_21 fun t15_22 h_23 =>
 f50_r19 t15_22 fun t1_24 =>
 f50_l0 (winM id N) t1_24 (iv b) (iv limit) cm (.bool wb) (.bool wp) h0.length h_23)
 (f50_r20 (winM id N) (iv a) (iv b) cm (iv pivot) h_21 fun t16_25 t17_26 h_27 =>
 f50_r21 t17_26 fun t11_28 =>
 f50_r22 (iv a) (iv b) t16_25 fun t18_29 t19_30 =>
 f50_r23 (iv (b - a)) fun t20_31 =>
 f50_r24 t18_29 t19_30 fun t125_32 =>
 V.ite t125_32
 (f50_r25 t18_29 t20_31 fun t10_33 =>
 f50_r26 (winM id N) (iv a) (iv limit) cm t16_25 h_27 fun h_34 =>
 f50_r27 t16_25 fun t1_35 =>
 f50_l0 (winM id N) t1_35 (iv b) (iv limit) cm t10_33 t11_28 h0.length h_34)
 (f50_r28 t19_30 t20_31 fun t10_36 =>
 f50_r29 (winM id N) (iv b) (iv limit) cm t16_25 h_27 fun h_37 =>
 f50_r30 t16_25 fun t2_38 =>
 f50_l0 (winM id N) (iv a) t2_38 (iv limit) cm t10_36 t11_28 h0.length h_37))
theorem pd_ins {a b limit : Nat} {wb wp : Bool} {d : Array Edg} (hN : N = d.size) (hab : a ≤ b) (hb : b ≤ N) (h12 : b - a ≤ 12) : pdLoop h0 id N a b limit wb wp d = some (.tup [], HB h0 id (Sort.insertionSort ltE d a b)) := by
 rw [pdLoop, f50_l0_eq, f50_r2]
 refine (subT (by omega) (by omega) _).trans ?_
 rw [f50_r3]
 refine (leqT (by omega) _).trans ?_
 rw [ite_tt, f50_r4]
 refine (bstep (insertion_am hid hb62 hN hb hab) _).trans ?_
 exact hb_ret _
theorem pd_heap {a b : Nat} {wb wp : Bool} {d : Array Edg} (hN : N = d.size) (hab : a ≤ b) (hb : b ≤ N) (h12 : ¬ b - a ≤ 12) : pdLoop h0 id N a b 0 wb wp d = some (.tup [], HB h0 id (Sort.heapSort ltE d a b)) := by
 rw [pdLoop, f50_l0_eq, f50_r2]
 refine (subT (by omega) (by omega) _).trans ?_
 rw [f50_r3]
 refine (leqF (by omega) _).trans ?_
 rw [ite_ff, f50_r5]
 refine (eqlT (by omega) _).trans ?_
 rw [ite_tt, f50_r6]
 refine (bstep (heap_am hid hb62 hN hb (by omega)) _).trans ?_
 exact hb_ret _
theorem pd_pre {a b limit : Nat} {wb wp : Bool} {d : Array Edg} (hN : N = d.size) (hab : a ≤ b) (hb : b ≤ N) (h12 : ¬ b - a ≤ 12) (hl : ¬ limit = 0) (h62 : limit < 1000000000000000000)
 {d1 d2 : Array Edg} {limit1 pivot : Nat} {c : Nat × Sort.Hint} {hint : Sort.Hint} {pi : Array Edg × Bool}
 (e1 : d1 = if (!wb) = true then Sort.breakPatterns d a b else d) (el : limit1 = if (!wb) = true then limit - 1 else limit) (ec : c = Sort.choosePivot ltE d1 a b)
 (e2 : d2 = if c.2 = .decreasing then Sort.reverseRange d1 a b else d1) (ep : pivot = if c.2 = .decreasing then (b - 1) - (c.1 - a) else c.1)
 (eh : hint = if c.2 = .decreasing then Sort.Hint.increasing else c.2) (epi : pi = if (wb && wp && decide (hint = .increasing)) = true then Sort.partialInsertionSort ltE d2 a b else (d2, false)) :
 pdLoop h0 id N a b limit wb wp d = if pi.2 = true then some (.tup [], HB h0 id pi.1) else pdRest h0 id N a b limit1 wb wp pivot pi.1 := by
 have s1 : d1.size = d.size := by
  rw [e1]; split
  · exact (Sort.breakPatterns_holds d a b hab (by omega)).1
  · rfl
 have hN1 : N = d1.size := by rw [s1]; exact hN
 have s2 : d2.size = d1.size := by
  rw [e2]; split
  · exact (Sort.reverseRange_holds d1 a b hab (by omega)).1
  · rfl
 have hN2 : N = d2.size := by rw [s2]; exact hN1
 have hc0 := Sort.choosePivot_holds ltE d1 a b (by omega)
 rw [← ec] at hc0
 have st3 : ∀ hi : Nat, hi = hintN hint → (f50_r15 (.bool wb) (.bool wp) (iv hi) fun t75_18 =>
  jn (fun h_19 => f50_r17 (winM id N) (iv a) cm (iv pivot) h_19 fun t97_20 h_21 =>
   V.ite t97_20
   (f50_r18 (winM id N) (iv a) (iv b) cm (iv pivot) h_21 fun t15_22 h_23 =>
   f50_r19 t15_22 fun t1_24 =>
   f50_l0 (winM id N) t1_24 (iv b) (iv limit1) cm (.bool wb) (.bool wp) h0.length h_23)
   (f50_r20 (winM id N) (iv a) (iv b) cm (iv pivot) h_21 fun t16_25 t17_26 h_27 =>
   f50_r21 t17_26 fun t11_28 =>
   f50_r22 (iv a) (iv b) t16_25 fun t18_29 t19_30 =>
   f50_r23 (iv (b - a)) fun t20_31 =>
   f50_r24 t18_29 t19_30 fun t125_32 =>
   V.ite t125_32
   (f50_r25 t18_29 t20_31 fun t10_33 =>
   f50_r26 (winM id N) (iv a) (iv limit1) cm t16_25 h_27 fun h_34 =>
   f50_r27 t16_25 fun t1_35 =>
   f50_l0 (winM id N) t1_35 (iv b) (iv limit1) cm t10_33 t11_28 h0.length h_34)
   (f50_r28 t19_30 t20_31 fun t10_36 =>
   f50_r29 (winM id N) (iv b) (iv limit1) cm t16_25 h_27 fun h_37 =>
   f50_r30 t16_25 fun t2_38 =>
   f50_l0 (winM id N) (iv a) t2_38 (iv limit1) cm t10_36 t11_28 h0.length h_37)))
  (fun (j2 : List V → Option (V × List V)) => V.ite t75_18
   (f50_r16 (winM id N) (iv a) (iv b) cm (HB h0 id d2) fun t80_39 h_40 =>
   V.ite t80_39
   (if (List.all [] V.okE) = true then finT h0.length h_40 (V.tup []) else none)
   (j2 h_40))
   (j2 (HB h0 id d2)))) = if pi.2 = true then some (.tup [], HB h0 id pi.1) else pdRest h0 id N a b limit1 wb wp pivot pi.1 := by
  intro hi ehi
  rw [f50_r15]
  have no : pi = (d2, false) → (jn (fun h_19 => f50_r17 (winM id N) (iv a) cm (iv pivot) h_19 fun t97_20 h_21 =>
   V.ite t97_20
   (f50_r18 (winM id N) (iv a) (iv b) cm (iv pivot) h_21 fun t15_22 h_23 =>
   f50_r19 t15_22 fun t1_24 =>
   f50_l0 (winM id N) t1_24 (iv b) (iv limit1) cm (.bool wb) (.bool wp) h0.length h_23)
   (f50_r20 (winM id N) (iv a) (iv b) cm (iv pivot) h_21 fun t16_25 t17_26 h_27 =>
   f50_r21 t17_26 fun t11_28 =>
   f50_r22 (iv a) (iv b) t16_25 fun t18_29 t19_30 =>
   f50_r23 (iv (b - a)) fun t20_31 =>
   f50_r24 t18_29 t19_30 fun t125_32 =>
   V.ite t125_32
   (f50_r25 t18_29 t20_31 fun t10_33 =>
   f50_r26 (winM id N) (iv a) (iv limit1) cm t16_25 h_27 fun h_34 =>
   f50_r27 t16_25 fun t1_35 =>
   f50_l0 (winM id N) t1_35 (iv b) (iv limit1) cm t10_33 t11_28 h0.length h_34)
   (f50_r28 t19_30 t20_31 fun t10_36 =>
   f50_r29 (winM id N) (iv b) (iv limit1) cm t16_25 h_27 fun h_37 =>
   f50_r30 t16_25 fun t2_38 =>
   f50_l0 (winM id N) (iv a) t2_38 (iv limit1) cm t10_36 t11_28 h0.length h_37)))
   (fun (j2 : List V → Option (V × List V)) => V.ite (.bool false)
    (f50_r16 (winM id N) (iv a) (iv b) cm (HB h0 id d2) fun t80_39 h_40 =>
    V.ite t80_39
    (if (List.all [] V.okE) = true then finT h0.length h_40 (V.tup []) else none)
    (j2 h_40))
    (j2 (HB h0 id d2)))) = if pi.2 = true then some (.tup [], HB h0 id pi.1) else pdRest h0 id N a b limit1 wb wp pivot pi.1 := by
   intro e
   rw [e, jn, ite_ff]; rfl
  cases wb with
  | false => exact no (by rw [epi, if_neg (by simp)])
  | true =>
    cases wp with
    | false => exact no (by rw [epi, if_neg (by simp)])
    | true =>
      rw [ite_tt, ite_tt]
      by_cases hh : hint = .increasing
      · refine (eqlT (by rw [ehi, hh]; rfl) _).trans ?_
        rw [jn, ite_tt, f50_r16]
        refine (bstep (partIns_am hid hb62 hN2 hb (by omega)) _).trans ?_
        have ee : pi = Sort.partialInsertionSort ltE d2 a b := by rw [epi, if_pos (by simp [hh])]
        rw [← ee, ite_lt]
        by_cases hp : pi.2 = true
        · rw [if_pos hp, if_pos hp]; exact hb_ret _
        · rw [if_neg hp, if_neg hp]; rfl
      · refine (eqlF (by rw [ehi]; cases hint <;> first | exact absurd rfl hh | (simp [hintN])) _).trans ?_
        exact no (by rw [epi, if_neg (by simp [hh])])
 have st2 : (f50_r10 (winM id N) (iv a) (iv b) cm (HB h0 id d1) fun t13_11 t14_12 h_13 =>
  f50_r11 t14_12 fun t56_14 =>
  jn (fun t13_15 t14_16 h_17 => f50_r15 (.bool wb) (.bool wp) t14_16 fun t75_18 =>
  jn (fun h_19 => f50_r17 (winM id N) (iv a) cm t13_15 h_19 fun t97_20 h_21 =>
   V.ite t97_20
   (f50_r18 (winM id N) (iv a) (iv b) cm t13_15 h_21 fun t15_22 h_23 =>
   f50_r19 t15_22 fun t1_24 =>
   f50_l0 (winM id N) t1_24 (iv b) (iv limit1) cm (.bool wb) (.bool wp) h0.length h_23)
   (f50_r20 (winM id N) (iv a) (iv b) cm t13_15 h_21 fun t16_25 t17_26 h_27 =>
   f50_r21 t17_26 fun t11_28 =>
   f50_r22 (iv a) (iv b) t16_25 fun t18_29 t19_30 =>
   f50_r23 (iv (b - a)) fun t20_31 =>
   f50_r24 t18_29 t19_30 fun t125_32 =>
   V.ite t125_32
   (f50_r25 t18_29 t20_31 fun t10_33 =>
   f50_r26 (winM id N) (iv a) (iv limit1) cm t16_25 h_27 fun h_34 =>
   f50_r27 t16_25 fun t1_35 =>
   f50_l0 (winM id N) t1_35 (iv b) (iv limit1) cm t10_33 t11_28 h0.length h_34)
   (f50_r28 t19_30 t20_31 fun t10_36 =>
   f50_r29 (winM id N) (iv b) (iv limit1) cm t16_25 h_27 fun h_37 =>
   f50_r30 t16_25 fun t2_38 =>
   f50_l0 (winM id N) (iv a) t2_38 (iv limit1) cm t10_36 t11_28 h0.length h_37)))
  (fun (j2 : List V → Option (V × List V)) => V.ite t75_18
   (f50_r16 (winM id N) (iv a) (iv b) cm h_17 fun t80_39 h_40 =>
   V.ite t80_39
   (if (List.all [] V.okE) = true then finT h0.length h_40 (V.tup []) else none)
   (j2 h_40))
   (j2 h_17)))
  (fun (j1 : V → V → List V → Option (V × List V)) => V.ite t56_14
   (f50_r12 (winM id N) (iv a) (iv b) cm h_13 fun h_41 =>
   f50_r13 (iv a) (iv b) t13_11 fun t13_42 =>
   f50_r14 fun t14_43 =>
   j1 t13_42 t14_43 h_41)
   (j1 t13_11 t14_12 h_13))) = if pi.2 = true then some (.tup [], HB h0 id pi.1) else pdRest h0 id N a b limit1 wb wp pivot pi.1 := by
  rw [f50_r10]
  refine (bstep (pivot_am hid hb62 hN1 hb (by omega)) _).trans <| (ext0 _ _ _).trans <| (ext1 _ _ _).trans ?_
  rw [← ec, f50_r11]
  by_cases hd : c.2 = .decreasing
  · refine (eqlT (by rw [hd]; rfl) _).trans ?_
    rw [jn, ite_tt, f50_r12]
    rw [if_pos hd] at e2 ep eh
    refine (bstep (reverse_am hid hb62 hN1 hb (by omega)) _).trans ?_
    rw [f50_r13]
    refine (subT (b := 1) (by omega) (by omega) _).trans <| (subT (by omega) (by omega) _).trans <| (subT (by omega) (by omega) _).trans ?_
    rw [f50_r14, ← e2, ← ep]
    exact st3 1 (by rw [eh]; rfl)
  · refine (eqlF (by cases hc2 : c.2 <;> first | exact absurd hc2 hd | (simp [hintN])) _).trans ?_
    rw [jn, ite_ff]
    rw [if_neg hd] at e2 ep eh
    rw [← e2, ← ep]
    exact st3 _ (by rw [eh])
 rw [pdLoop, f50_l0_eq, f50_r2]
 refine (subT (by omega) (by omega) _).trans ?_
 rw [f50_r3]
 refine (leqF (by omega) _).trans ?_
 rw [ite_ff, f50_r5]
 refine (eqlF (by omega) _).trans ?_
 rw [ite_ff, f50_r7]
 refine (notT _ _).trans ?_
 rw [jn]
 cases wb with
 | true =>
   rw [if_neg (by simp)] at e1 el
   rw [Bool.not_true, ite_ff, ← e1, ← el]
   exact st2
 | false =>
   rw [if_pos (by simp)] at e1 el
   rw [Bool.not_false, ite_tt, f50_r8]
   refine (bstep (break_am hid hb62 hN hb (by omega)) _).trans ?_
   rw [f50_r9]
   refine (subT (b := 1) (by omega) (by omega) _).trans ?_
   rw [← e1, ← el]
   exact st2
end
end Ed
end Go.Proofs.YtaghnpjlhmgioaaDoor
end

section
set_option linter.unusedVariables false
set_option linter.unusedSimpArgs false
set_option linter.unusedSectionVars false
set_option maxRecDepth 100000
namespace Go.Proofs.YtaghnpjlhmgioaaDoor
open Go AM
namespace Ed
section
variable {h0 : List V} {id N : Nat} (hid : id < h0.length) (hb62 : N < 1000000000000000000)
include hid hb62
theorem rest_test {a b limit pivot : Nat} {wb wp : Bool} {d : Array Edg} (hN : N = d.size) (hp : pivot < N) (ha : a ≤ N) (K : V → List V → Option (V × List V)) :
 f50_r17 (winM id N) (iv a) cm (iv pivot) (HB h0 id d) K = K (.bool (decide (a > 0) && !ltE d[a - 1]! d[pivot]!)) (HB h0 id d) := by
 rw [f50_r17]
 by_cases h : a > 0
 · refine (gtrT (by omega) _).trans ?_
   rw [ite_tt]
   refine (subT (b := 1) (by omega) (by omega) _).trans <| (atH hid hN (by omega) _).trans <| (atH hid hN hp _).trans <| (cmpV _ _ (fun b h1 => (un .not b).bind fun t => _)).trans <| (notT _ _).trans ?_
   rw [decide_eq_true h, Bool.true_and]
 · refine (gtrF (by omega) _).trans ?_
   rw [ite_ff, decide_eq_false h, Bool.false_and]
theorem rest_eq {a b limit pivot : Nat} {wb wp : Bool} {d : Array Edg} (hN : N = d.size) (hp : pivot < N) (hab : a < b) (hb : b ≤ N) (h : (decide (a > 0) && !ltE d[a - 1]! d[pivot]!) = true)
 {mid : Nat} {d4 : Array Edg} (hx : Sort.partitionEqual ltE d a b pivot = (mid, d4)) : pdRest h0 id N a b limit wb wp pivot d = pdLoop h0 id N mid b limit wb wp d4 := by
 rw [pdRest, rest_test hid hb62 (b := b) (limit := limit) (wb := wb) (wp := wp) hN hp (by omega), h, ite_tt, f50_r18]
 refine (bstep (partEq_am hid hb62 hN hb hab hp) _).trans ?_
 rw [hx, f50_r19]; rfl
theorem call82 (a b limit : Nat) (d : Array Edg) : Cl 50 [winM id N, iv a, iv b, iv limit, cm] (HB h0 id d) = pdLoop h0 id N a b limit true true d := by
 rw [f50_eq, f50_r0, f50_r1, hb_len]; rfl
theorem quo8 {B : Type} {n : Nat} (hn : n < 1000000000000000000) (K : V → Option B) : (bin .quo (iv n) (.int .i64 8)).bind K = K (iv (n / 8)) := by
 refine (bstep (b_quo _ _ _ (by omega)) _).trans ?_
 rw [show (n : Int).tdiv 8 = ((n / 8 : Nat) : Int) by rfl, wrap_i64 (by omega) (by omega)] <;> rfl
theorem geqD {B : Type} {a b : Nat} (K : V → Option B) : (bin .geq (iv a) (iv b)).bind K = K (.bool (decide (a ≥ b))) := by
 refine (bstep (b_geq _ _ _) _).trans ?_
 congr 2
 simp
theorem rest_l {a b limit pivot : Nat} {wb wp : Bool} {d : Array Edg} (hN : N = d.size) (hp : pivot < N) (hab : a < b) (hb : b ≤ N) (h : ¬ (decide (a > 0) && !ltE d[a - 1]! d[pivot]!) = true)
 {mid : Nat} {ap : Bool} {d4 dl : Array Edg} (hx : Sort.partition ltE d a b pivot = (mid, ap, d4)) (h1 : a ≤ mid) (h2 : mid < b) (hlt : mid - a < b - mid)
 (hl : pdLoop h0 id N a mid limit true true d4 = some (.tup [], HB h0 id dl)) :
 pdRest h0 id N a b limit wb wp pivot d = pdLoop h0 id N (mid + 1) b limit (decide (mid - a ≥ (b - a) / 8)) ap dl := by
 rw [pdRest, rest_test hid hb62 (b := b) (limit := limit) (wb := wb) (wp := wp) hN hp (by omega), Bool.eq_false_iff.2 h, ite_ff, f50_r20]
 refine (bstep (part_am hid hb62 hN hb hab hp) _).trans <| (ext0 _ _ _).trans <| (ext1 _ _ _).trans ?_
 rw [hx, f50_r21, f50_r22]
 simp only []
 refine (subT (by omega) (by omega) _).trans <| (subT (by omega) (by omega) _).trans ?_
 rw [f50_r23]
 refine (quo8 hid hb62 (by omega) _).trans ?_
 rw [f50_r24]
 refine (lssT (by omega) _).trans ?_
 rw [ite_tt, f50_r25]
 refine (geqD hid hb62 _).trans ?_
 rw [f50_r26]
 refine (bstep ((call82 hid hb62 a mid limit d4).trans hl) _).trans ?_
 rw [f50_r27]
 refine (addT (b := 1) (by omega) _).trans ?_
 rfl
theorem rest_r {a b limit pivot : Nat} {wb wp : Bool} {d : Array Edg} (hN : N = d.size) (hp : pivot < N) (hab : a < b) (hb : b ≤ N) (h : ¬ (decide (a > 0) && !ltE d[a - 1]! d[pivot]!) = true)
 {mid : Nat} {ap : Bool} {d4 dl : Array Edg} (hx : Sort.partition ltE d a b pivot = (mid, ap, d4)) (h1 : a ≤ mid) (h2 : mid < b) (hlt : ¬ mid - a < b - mid)
 (hl : pdLoop h0 id N (mid + 1) b limit true true d4 = some (.tup [], HB h0 id dl)) :
 pdRest h0 id N a b limit wb wp pivot d = pdLoop h0 id N a mid limit (decide (b - mid ≥ (b - a) / 8)) ap dl := by
 rw [pdRest, rest_test hid hb62 (b := b) (limit := limit) (wb := wb) (wp := wp) hN hp (by omega), Bool.eq_false_iff.2 h, ite_ff, f50_r20]
 refine (bstep (part_am hid hb62 hN hb hab hp) _).trans <| (ext0 _ _ _).trans <| (ext1 _ _ _).trans ?_
 rw [hx, f50_r21, f50_r22]
 simp only []
 refine (subT (by omega) (by omega) _).trans <| (subT (by omega) (by omega) _).trans ?_
 rw [f50_r23]
 refine (quo8 hid hb62 (by omega) _).trans ?_
 rw [f50_r24]
 refine (lssF (by omega) _).trans ?_
 rw [ite_ff, f50_r28]
 refine (geqD hid hb62 _).trans ?_
 rw [f50_r29]
 refine (addT (b := 1) (by omega) _).trans ?_
 refine (bstep ((call82 hid hb62 (mid + 1) b limit d4).trans hl) _).trans ?_
 rw [f50_r30]
 rfl
theorem pd_all (d : Array Edg) (a b limit : Nat) (wb wp : Bool) : a ≤ b → b ≤ d.size → N = d.size → limit < 1000000000000000000 → Sort.Below ltE a b d →
 pdLoop h0 id N a b limit wb wp d = some (.tup [], HB h0 id (Sort.pdq ltE d a b limit wb wp)) := by
 fun_induction Sort.pdq ltE d a b limit wb wp
 case case1 d a b limit wb wp h12 => intro hab hb hN _ _; exact pd_ins hid hb62 hN hab (by omega) h12
 case case2 d a b wb wp h12 => intro hab hb hN _ _; exact pd_heap hid hb62 hN hab (by omega) h12
 case case3 d a b limit wb wp h12 hl d1 c d2 hint pi hpi2 =>
  intro hab hb hN hlim hB
  exact (pd_pre hid hb62 (limit1 := if (!wb) = true then limit - 1 else limit) (pivot := if c.2 = .decreasing then (b - 1) - (c.1 - a) else c.1) hN hab (by omega) h12 hl hlim rfl rfl rfl rfl rfl rfl rfl).trans (if_pos hpi2)
 case case4 d a b limit0 wb wp h12 hl d1 limit c d2 pivot hint pi hpi2 d3 hc mid d4 hx hg ih1 =>
  intro hab hb hN hlim hB
  have s1 : Sort.PermIn a b d d1 := Sort.step_break d hab hb _
  have b1 : b ≤ d1.size := by rw [s1.1]; exact hb
  have s2 : Sort.PermIn a b d1 d2 := Sort.step_reverse Sort.reverseRange_holds d1 hab b1 _
  have b2 : b ≤ d2.size := by rw [s2.1]; exact b1
  have B2 : Sort.Below ltE a b d2 := (hB.perm hb s1).perm b1 s2
  have s3 := Sort.step_partial (Sort.partialInsertionSort_holds (lt := ltE)) ltM_swo d2 (a := a) (b := b) (by omega) b2 B2 ((wb && wp && decide (hint = Sort.Hint.increasing)) = true)
  have s3' : Sort.PermIn a b d2 d3 := s3.1
  have b3 : b ≤ d3.size := by rw [s3'.1]; exact b2
  have B3 : Sort.Below ltE a b d3 := B2.perm b2 s3'
  have hN3 : N = d3.size := by rw [s3'.1, s2.1, s1.1]; exact hN
  have hc0 := Sort.choosePivot_holds ltE d1 a b (by omega)
  have hpv : a ≤ pivot ∧ pivot < b := Sort.pivot_range hc0.1 hc0.2 _
  have hc' := hc
  simp only [Bool.and_eq_true, decide_eq_true_eq, Bool.not_eq_true'] at hc'
  obtain ⟨_, hm2, hs4, hB4, hfin⟩ := Sort.round_eq ltM_swo (Sort.partitionEqual_holds ltE) hc'.1 hpv.1 hpv.2 b3 B3 hc'.2 hx
  have hlim1 : limit ≤ limit0 := by show (if (!wb) = true then limit0 - 1 else limit0) ≤ limit0; split <;> omega
  refine (pd_pre hid hb62 (limit1 := limit) (pivot := pivot) hN hab (by omega) h12 hl hlim rfl rfl rfl rfl rfl rfl rfl).trans ((if_neg hpi2).trans ?_)
  refine (rest_eq hid hb62 hN3 (by omega) (by omega) (by omega) hc hx).trans ?_
  exact ih1 hm2 (by rw [hs4]; exact b3) (by rw [hs4]; exact hN3) (by omega) hB4
 case case5 d a b limit wb wp h12 hl d1 c d2 pivot hint pi hpi2 d3 hc mid d4 hx hg =>
  intro hab hb hN hlim hB
  have s1 : Sort.PermIn a b d d1 := Sort.step_break d hab hb _
  have b1 : b ≤ d1.size := by rw [s1.1]; exact hb
  have s2 : Sort.PermIn a b d1 d2 := Sort.step_reverse Sort.reverseRange_holds d1 hab b1 _
  have b2 : b ≤ d2.size := by rw [s2.1]; exact b1
  have B2 : Sort.Below ltE a b d2 := (hB.perm hb s1).perm b1 s2
  have s3 := Sort.step_partial (Sort.partialInsertionSort_holds (lt := ltE)) ltM_swo d2 (a := a) (b := b) (by omega) b2 B2 ((wb && wp && decide (hint = Sort.Hint.increasing)) = true)
  have s3' : Sort.PermIn a b d2 d3 := s3.1
  have b3 : b ≤ d3.size := by rw [s3'.1]; exact b2
  have B3 : Sort.Below ltE a b d3 := B2.perm b2 s3'
  have hN3 : N = d3.size := by rw [s3'.1, s2.1, s1.1]; exact hN
  have hc0 := Sort.choosePivot_holds ltE d1 a b (by omega)
  have hpv : a ≤ pivot ∧ pivot < b := Sort.pivot_range hc0.1 hc0.2 _
  simp only [Bool.and_eq_true, decide_eq_true_eq, Bool.not_eq_true'] at hc
  obtain ⟨g1, g2, _⟩ := Sort.round_eq ltM_swo (Sort.partitionEqual_holds ltE) hc.1 hpv.1 hpv.2 b3 B3 hc.2 hx
  exact absurd ⟨g1, g2⟩ hg
 case case6 d a b limit0 wb wp h12 hl d1 limit c d2 pivot hint pi hpi2 d3 hc mid ap d4 hx hg hlt ih3 ih2 ih1 =>
  intro hab hb hN hlim hB
  have s1 : Sort.PermIn a b d d1 := Sort.step_break d hab hb _
  have b1 : b ≤ d1.size := by rw [s1.1]; exact hb
  have s2 : Sort.PermIn a b d1 d2 := Sort.step_reverse Sort.reverseRange_holds d1 hab b1 _
  have b2 : b ≤ d2.size := by rw [s2.1]; exact b1
  have B2 : Sort.Below ltE a b d2 := (hB.perm hb s1).perm b1 s2
  have s3 := Sort.step_partial (Sort.partialInsertionSort_holds (lt := ltE)) ltM_swo d2 (a := a) (b := b) (by omega) b2 B2 ((wb && wp && decide (hint = Sort.Hint.increasing)) = true)
  have s3' : Sort.PermIn a b d2 d3 := s3.1
  have b3 : b ≤ d3.size := by rw [s3'.1]; exact b2
  have B3 : Sort.Below ltE a b d3 := B2.perm b2 s3'
  have hN3 : N = d3.size := by rw [s3'.1, s2.1, s1.1]; exact hN
  have hc0 := Sort.choosePivot_holds ltE d1 a b (by omega)
  have hpv : a ≤ pivot ∧ pivot < b := Sort.pivot_range hc0.1 hc0.2 _
  obtain ⟨g1, g2, hs4, hBa, hBr, hleft, _⟩ := Sort.round_part ltM_swo (Sort.partition_holds ltE) hpv.1 hpv.2 b3 B3 hx
  have hlim1 : limit ≤ limit0 := by show (if (!wb) = true then limit0 - 1 else limit0) ≤ limit0; split <;> omega
  have L := Sort.pdq_sorts ltE ltM_swo d4 a mid limit true true g1 (by rw [hs4]; omega) hBa
  obtain ⟨hBL, hfin⟩ := hleft _ L.1 L.2
  refine (pd_pre hid hb62 (limit1 := limit) (pivot := pivot) hN hab (by omega) h12 hl hlim rfl rfl rfl rfl rfl rfl rfl).trans ((if_neg hpi2).trans ?_)
  refine (rest_l hid hb62 hN3 (by omega) (by omega) (by omega) hc hx g1 g2 hlt (ih3 g1 (by rw [hs4]; omega) (by rw [hs4]; exact hN3) (by omega) hBa)).trans ?_
  exact ih1 (by omega) (by rw [L.1.1, hs4]; exact b3) (by rw [L.1.1, hs4]; exact hN3) (by omega) hBL
 case case7 d a b limit0 wb wp h12 hl d1 limit c d2 pivot hint pi hpi2 d3 hc mid ap d4 hx hg hlt ih3 ih2 ih1 =>
  intro hab hb hN hlim hB
  have s1 : Sort.PermIn a b d d1 := Sort.step_break d hab hb _
  have b1 : b ≤ d1.size := by rw [s1.1]; exact hb
  have s2 : Sort.PermIn a b d1 d2 := Sort.step_reverse Sort.reverseRange_holds d1 hab b1 _
  have b2 : b ≤ d2.size := by rw [s2.1]; exact b1
  have B2 : Sort.Below ltE a b d2 := (hB.perm hb s1).perm b1 s2
  have s3 := Sort.step_partial (Sort.partialInsertionSort_holds (lt := ltE)) ltM_swo d2 (a := a) (b := b) (by omega) b2 B2 ((wb && wp && decide (hint = Sort.Hint.increasing)) = true)
  have s3' : Sort.PermIn a b d2 d3 := s3.1
  have b3 : b ≤ d3.size := by rw [s3'.1]; exact b2
  have B3 : Sort.Below ltE a b d3 := B2.perm b2 s3'
  have hN3 : N = d3.size := by rw [s3'.1, s2.1, s1.1]; exact hN
  have hc0 := Sort.choosePivot_holds ltE d1 a b (by omega)
  have hpv : a ≤ pivot ∧ pivot < b := Sort.pivot_range hc0.1 hc0.2 _
  obtain ⟨g1, g2, hs4, hBa, hBr, _, hright⟩ := Sort.round_part ltM_swo (Sort.partition_holds ltE) hpv.1 hpv.2 b3 B3 hx
  have hlim1 : limit ≤ limit0 := by show (if (!wb) = true then limit0 - 1 else limit0) ≤ limit0; split <;> omega
  have L := Sort.pdq_sorts ltE ltM_swo d4 (mid + 1) b limit true true (by omega) (by rw [hs4]; exact b3) hBr
  obtain ⟨hBL, hfin⟩ := hright _ L.1 L.2
  refine (pd_pre hid hb62 (limit1 := limit) (pivot := pivot) hN hab (by omega) h12 hl hlim rfl rfl rfl rfl rfl rfl rfl).trans ((if_neg hpi2).trans ?_)
  refine (rest_r hid hb62 hN3 (by omega) (by omega) (by omega) hc hx g1 g2 hlt (ih3 (by omega) (by rw [hs4]; exact b3) (by rw [hs4]; exact hN3) (by omega) hBr)).trans ?_
  exact ih1 g1 (by rw [L.1.1, hs4]; omega) (by rw [L.1.1, hs4]; exact hN3) (by omega) hBL
 case case8 d a b limit wb wp h12 hl d1 c d2 pivot hint pi hpi2 d3 hc mid ap d4 hx hg =>
  intro hab hb hN hlim hB
  have s1 : Sort.PermIn a b d d1 := Sort.step_break d hab hb _
  have b1 : b ≤ d1.size := by rw [s1.1]; exact hb
  have s2 : Sort.PermIn a b d1 d2 := Sort.step_reverse Sort.reverseRange_holds d1 hab b1 _
  have b2 : b ≤ d2.size := by rw [s2.1]; exact b1
  have B2 : Sort.Below ltE a b d2 := (hB.perm hb s1).perm b1 s2
  have s3 := Sort.step_partial (Sort.partialInsertionSort_holds (lt := ltE)) ltM_swo d2 (a := a) (b := b) (by omega) b2 B2 ((wb && wp && decide (hint = Sort.Hint.increasing)) = true)
  have s3' : Sort.PermIn a b d2 d3 := s3.1
  have b3 : b ≤ d3.size := by rw [s3'.1]; exact b2
  have B3 : Sort.Below ltE a b d3 := B2.perm b2 s3'
  have hN3 : N = d3.size := by rw [s3'.1, s2.1, s1.1]; exact hN
  have hc0 := Sort.choosePivot_holds ltE d1 a b (by omega)
  have hpv : a ≤ pivot ∧ pivot < b := Sort.pivot_range hc0.1 hc0.2 _
  obtain ⟨g1, g2, _⟩ := Sort.round_part ltM_swo (Sort.partition_holds ltE) hpv.1 hpv.2 b3 B3 hx
  exact absurd ⟨g1, g2⟩ hg
theorem sortFunc_am {d : Array Edg} (hN : N = d.size) :
 Cl 41 [winM id N, cm] (HB h0 id d) = some (.tup [], HB h0 id (Sort.sort ltE d)) := by
 rw [f41_eq, f41_r0]
 have l : lenV P 22 (winM id N).weak = some (iv N) := by simp [lenV, winM, V.weak, und_22, iv]
 refine (bstep l _).trans ?_
 rw [f41_r1]
 refine (bstep (conv_int und_77 ..) _).trans ?_
 rw [wrap_u64 (by omega) (by omega)]
 refine (bstep (len_am (n := N) (by omega)) _).trans ?_
 have hbl : Sort.bitsLen N ≤ 62 := (Sort.bitsLen_le_iff N 62).2 (by omega)
 have := pd_all hid hb62 d 0 N (Sort.bitsLen N) true true (Nat.zero_le _) (by omega) hN (by omega) (Or.inl rfl)
 refine (bstep ((call82 hid hb62 0 N (Sort.bitsLen N) d).trans this) _).trans ?_
 rw [hb_len, hb_ret, hN]; rfl
end
end Ed
end Go.Proofs.YtaghnpjlhmgioaaDoor
end

section
set_option linter.unusedVariables false
set_option linter.unusedSimpArgs false
set_option linter.unusedSectionVars false
set_option maxRecDepth 100000
namespace Go.Proofs.YtaghnpjlhmgioaaDoor
open Go AM
structure E0 where
 fr : Int
 to : Int
 w : Int
 deriving DecidableEq
abbrev tE : TypeId := 44
def vE0 (e : E0) : V := .agg tE [.int .i64 e.fr, .int .i64 e.to, .int .i64 e.w]
@[go_sem] theorem pl_vE0 (x : E0) : (vE0 x).pl = true := (rfl)
@[go_sem] theorem plL_vE0 (l : List E0) : plL (l.map vE0) = true := plL_map (fun _ => rfl) l
@[go_sem] theorem tyG_vE0 (x : E0) : tyG tE (vE0 x) = true := tyG_g ..
theorem E0_at {l : List E0} {i : Nat} (h : i < l.length) : (l.map vE0)[i]? = some (vE0 l[i]) := by simp [h]
structure Grf where
 n : Int
 es : List E0
abbrev vG (f : Fl) (g : Grf) : V := .agg 23 [.int .i64 g.n, .lst 45 f (g.es.map vE0)]
def oddE (n : Int) (e : E0) : Bool := decide (e.fr < 0) || decide (n ≤ e.fr) || decide (e.to < 0) || decide (n ≤ e.to) || decide (e.w < 0) || decide (1048576 < e.w)
abbrev rG : V := .ref 0 [] 24
theorem odd_am (n : Int) (l : V) (e : E0) : Cl 29 [vE0 e, rG] [.agg 23 [.int .i64 n, l]] = some (.bool (oddE n e), [.agg 23 [.int .i64 n, l]]) := by
 rw [f29_eq]
 simp only [vE0]
 repeat' first | rfl | refine br_d (fun _ => ?_) (fun _ => ?_) | refine br_b (fun _ => ?_) (fun _ => ?_) | simp (disch := first | assumption | omega | (with_reducible rfl) | (simp only [go_sem]; done) | (simp only [go_sem]; omega) | fail) only [↓reduceIte, ↓jn_eq, Nat.reduceAdd, go_sem]
 all_goals (simp_all [oddE] <;> omega)
abbrev cOdd : V := .clo 29 [rG]
theorem oddV {R : Type} (n : Int) (l : V) (e : E0) (k : V → List V → Option R) : callV P ann W cOdd [vE0 e] [.agg 23 [.int .i64 n, l]] k = k (.bool (oddE n e)) [.agg 23 [.int .i64 n, l]] :=
 callV_np2 k (by kernel_rfl) (by kernel_rfl) (odd_am n l e)
def fix1 {α : Type} (p : α → Bool) : Nat → List α → Int
 | _, [] => -1
 | i, x :: l => if p x = true then (i : Int) else fix1 p (i + 1) l
theorem fix1_iff {α : Type} (p : α → Bool) : ∀ (l : List α) (i : Nat), 0 ≤ fix1 p i l ↔ l.any p = true
 | [], i => by simp [fix1]
 | x :: l, i => by
   rw [fix1, List.any_cons]
   by_cases h : p x = true
   · rw [if_pos h, h]; simp
   · rw [if_neg h, fix1_iff p l (i + 1)]; simp [h]
theorem fix1_ge {α : Type} (p : α → Bool) (l : List α) (i : Nat) : decide (0 ≤ fix1 p i l) = l.any p := by
 rw [Bool.eq_iff_iff, decide_eq_true_eq]; exact fix1_iff p l i
theorem idxE_l0 (n : Int) (L : V) (es : List E0) (hl : es.length < 1000000) (f : Fl) : ∀ (m i : Nat), i + m = es.length →
 f43_l0 (.lst 45 f (es.map vE0)) cOdd (.int .i64 (es.length : Int)) (.int .i64 (i : Int)) 1 [.agg 23 [.int .i64 n, L]] =
  some (.int .i64 (fix1 (oddE n) i (es.drop i)), [.agg 23 [.int .i64 n, L]]) := by
 intro m
 induction m with
 | zero =>
   intro i hi
   rw [List.drop_eq_nil_of_le (by omega), f43_l0_eq]
   simp (disch := first | assumption | omega | (with_reducible rfl) | (simp only [go_sem]; done) | (simp only [go_sem]; omega) | fail) only [↓reduceIte, ↓jn_eq, Nat.reduceAdd, go_sem, fix1]
 | succ m ih =>
   intro i hi
   have h : i < es.length := by omega
   have := ih (i + 1) (by omega)
   rw [List.drop_eq_getElem_cons h, fix1, f43_l0_eq]
   by_cases ho : oddE n es[i] = true
   · rw [if_pos ho]
     simp (disch := first | assumption | omega | (with_reducible rfl) | (simp only [go_sem]; done) | (simp only [go_sem]; omega) | fail) only [↓reduceIte, ↓jn_eq, Nat.reduceAdd, go_sem, E0_at h, oddV, ho]
   · rw [if_neg ho, ← this]
     simp (disch := first | assumption | omega | (with_reducible rfl) | (simp only [go_sem]; done) | (simp only [go_sem]; omega) | fail) only [↓reduceIte, ↓jn_eq, Nat.reduceAdd, go_sem, E0_at h, oddV, ho]
theorem anyE_am (n : Int) (L : V) {es : List E0} (hl : es.length < 1000000) (f : Fl) : Cl 30 [.lst 45 f (es.map vE0), cOdd] [.agg 23 [.int .i64 n, L]] = some (.bool (es.any (oddE n)), [.agg 23 [.int .i64 n, L]]) := by
 have h := fun f => idxE_l0 n L es hl f es.length 0 (by omega)
 simp only [c0, List.drop_zero] at h
 have ix : ∀ f, Cl 43 [.lst 45 f (es.map vE0), cOdd] [.agg 23 [.int .i64 n, L]] = some (.int .i64 (fix1 (oddE n) 0 es), [.agg 23 [.int .i64 n, L]]) := fun f => by
  rw [← h f, f43_eq]
  simp (disch := first | assumption | omega | (with_reducible rfl) | (simp only [go_sem]; done) | (simp only [go_sem]; omega) | fail) only [↓reduceIte, ↓jn_eq, Nat.reduceAdd, go_sem]
 rw [f30_eq, ← fix1_ge (oddE n) es 0]
 simp (disch := first | assumption | omega | (with_reducible rfl) | (simp only [go_sem]; done) | (simp only [go_sem]; omega) | fail) only [↓reduceIte, ↓jn_eq, Nat.reduceAdd, go_sem, ix]
def toEdg (n : Int) (e : E0) (h : oddE n e = false) (hn : n ≤ 64) : Ed.Edg := ⟨e.fr.toNat, e.to.toNat, e.w, by simp [oddE] at h; omega, by simp [oddE] at h; omega⟩
theorem toEdgs {n : Int} (hn : n ≤ 64) : ∀ es : List E0, es.any (oddE n) = false → ∃ l : List Ed.Edg, l.map Ed.vEdg = es.map vE0 ∧ l.map (fun x => ((x.fr : Int), (x.to : Int))) = es.map fun e => (e.fr, e.to)
 | [], _ => ⟨[], rfl, rfl⟩
 | e :: es, h => by
   rw [List.any_cons, Bool.or_eq_false_iff] at h
   obtain ⟨l, h1, h2⟩ := toEdgs hn es h.2
   have hb := h.1
   simp only [oddE, Bool.or_eq_false_iff, decide_eq_false_iff_not] at hb
   refine ⟨toEdg n e h.1 hn :: l, ?_, ?_⟩
   · rw [List.map_cons, List.map_cons, h1, Ed.vEdg, vE0, toEdg]
     simp only []
     rw [show (e.fr.toNat : Int) = e.fr by omega, show (e.to.toNat : Int) = e.to by omega]
   · rw [List.map_cons, List.map_cons, h2, toEdg]
     simp only []
     rw [show (e.fr.toNat : Int) = e.fr by omega, show (e.to.toNat : Int) = e.to by omega]
abbrev vEs (f : Fl) (l : List Ed.Edg) : V := .lst 45 f (l.map Ed.vEdg)
def sortE (l : List Ed.Edg) : List Ed.Edg := (Sort.sort Ed.ltE l.toArray).toList
theorem sortE_perm (l : List Ed.Edg) : (sortE l).Perm l := by
 have h := (Sort.sort_sorts Ed.ltE Ed.ltM_swo l.toArray).1
 have h2 := h.2.2
 rw [Array.extract_eq_self_of_le (by rw [h.1]; exact Nat.le_refl _), Array.extract_eq_self_of_le (Nat.le_refl _)] at h2
 exact h2
theorem sortE_len (l : List Ed.Edg) : (sortE l).length = l.length := (sortE_perm l).length_eq
theorem values_am (a : V) (f : Fl) (l : List Ed.Edg) : Cl 27 [vEs .sh l] [a] = some (.clo 42 [.ref 1 [] 22], [a, vEs .sh l]) := by
 rw [f27_eq]
 simp (disch := first | assumption | omega | (with_reducible rfl) | (simp only [go_sem]; done) | (simp only [go_sem]; omega) | fail) only [↓reduceIte, ↓jn_eq, Nat.reduceAdd, go_sem]
 rfl
theorem i3_all (l : List Ed.Edg) : (l.map Ed.vEdg).all i3 = true := by simp [Ed.vEdg, i3]
theorem collect_am (a : V) {l : List Ed.Edg} (hl : l.length ≤ 1000000) : Cl 40 [.clo 42 [.ref 1 [] 22]] [a, vEs .sh l] = some (Ed.winM 2 l.length, [a, vEs .sh l, Ed.rowM l.toArray]) := by
 rw [f40_eq]
 have ap : aps 42 45 [.lst 45 .nil [], .clo 42 [.ref 1 [] 22]] [a, vEs .sh l] = some (Ed.winM 2 l.length, [a, vEs .sh l, Ed.rowM l.toArray]) := by
  simp only [aps, List.getElem?_cons_succ, List.getElem?_cons_zero, i3_all, List.length_map]
  rw [if_pos (by simp [most, Nat.ble_eq]; omega)]
  simp [Ed.winM, Ed.rowM]
 rw [ap]; rfl
theorem sortedE_am (a : V) {l : List Ed.Edg} (hl : l.length ≤ 1000000) : Cl 26 [.clo 42 [.ref 1 [] 22], Ed.cm] [a, vEs .sh l] = some (vEs .sh (sortE l), [a, vEs .sh l]) := by
 have c := collect_am a hl
 have s := Ed.sortFunc_am (h0 := [a, vEs .sh l, Ed.rowM l.toArray]) (id := 2) (N := l.length) (by simp) (by omega) (d := l.toArray) (by simp)
 have e0 : Ed.HB [a, vEs .sh l, Ed.rowM l.toArray] 2 l.toArray = [a, vEs .sh l, Ed.rowM l.toArray] := rfl
 have e1 : Ed.HB [a, vEs .sh l, Ed.rowM l.toArray] 2 (Sort.sort Ed.ltE l.toArray) = [a, vEs .sh l, Ed.rowM (Sort.sort Ed.ltE l.toArray)] := rfl
 rw [e0, e1] at s
 have ct : content [a, vEs .sh l, Ed.rowM (Sort.sort Ed.ltE l.toArray)] (Ed.winM 2 l.length) = some ((sortE l).map Ed.vEdg) := by
  simp [content, Ed.winM, rd, V.at, V.items, Ed.rowM, sortE]
  rw [← sortE_len l]; exact List.take_of_length_le (by simp [sortE])
 have cl : cleanL ((sortE l).map Ed.vEdg) = true := cleanL_pl (plL_map (fun _ => rfl) _)
 have nl : normL ((sortE l).map Ed.vEdg) = (sortE l).map Ed.vEdg := normL_pl (plL_map (fun _ => rfl) _)
 have fin : finT 2 [a, vEs .sh l, Ed.rowM (Sort.sort Ed.ltE l.toArray)] (Ed.winM 2 l.length) = some (vEs .sh (sortE l), [a, vEs .sh l]) := by
  have u : (Ed.winM 2 l.length).unmut [a, vEs .sh l, Ed.rowM (Sort.sort Ed.ltE l.toArray)] = vEs .sh (sortE l) := by
   rw [Ed.winM] at ct ⊢
   simp only [V.unmut, ct, cl, nl, if_true]
  simp only [finT, u]; rfl
 rw [f26_eq]
 refine (bstep c _).trans ?_
 refine (bstep s _).trans ?_
 exact fin
def adjL : Ed.Edg → List Ed.Edg → Bool
 | _, [] => false
 | x, y :: r => decide (Ed.cmpE x y = 0) || adjL y r
@[go_sem] theorem plL_vEd (l : List Ed.Edg) : plL (l.map Ed.vEdg) = true := plL_map (fun _ => rfl) l
theorem Edg_at {l : List Ed.Edg} {i : Nat} (h : i < l.length) : (l.map Ed.vEdg)[i]? = some (Ed.vEdg l[i]) := by simp [h]
theorem gchk_l0 (a b : V) {l : List Ed.Edg} (hl : l.length ≤ 1000000) : ∀ (n i : Nat) (hi : i < l.length), i + 1 + n = l.length →
 f14_l0 (vEs .sh l) (.int .i64 ((i + 1 : Nat) : Int)) [a, b] = some (.int .i64 (if adjL l[i] (l.drop (i + 1)) = true then 51 else 0), []) := by
 intro n
 induction n with
 | zero =>
   intro i hi hn
   rw [List.drop_eq_nil_of_le (by omega), adjL, f14_l0_eq]
   simp (disch := first | assumption | omega | (with_reducible rfl) | (simp only [go_sem]; done) | (simp only [go_sem]; omega) | fail) only [↓reduceIte, ↓jn_eq, Nat.reduceAdd, go_sem]
   rfl
 | succ n ih =>
   intro i hi hn
   have h : i + 1 < l.length := by omega
   have := ih (i + 1) h (by omega)
   rw [List.drop_eq_getElem_cons h, adjL, f14_l0_eq]
   by_cases hc : Ed.cmpE l[i] l[i + 1] = 0
   · rw [decide_eq_true hc, Bool.true_or, if_pos rfl]
     simp (disch := first | assumption | omega | (with_reducible rfl) | (simp only [go_sem]; done) | (simp only [go_sem]; omega) | fail) only [↓reduceIte, ↓jn_eq, Nat.reduceAdd, go_sem, Edg_at hi, Edg_at h, Ed.compare_am, hc, Nat.add_sub_cancel]
   · rw [decide_eq_false hc, Bool.false_or, ← this]
     simp (disch := first | assumption | omega | (with_reducible rfl) | (simp only [go_sem]; done) | (simp only [go_sem]; omega) | fail) only [↓reduceIte, ↓jn_eq, Nat.reduceAdd, go_sem, Edg_at hi, Edg_at h, Ed.compare_am, Nat.add_sub_cancel]
def keyE (x : Ed.Edg) : Int × Int := ((x.fr : Int), (x.to : Int))
theorem keyE_eq (x y : Ed.Edg) : Ed.cmpE x y = 0 ↔ keyE x = keyE y := by
 rw [Ed.cmpE, keyE, keyE, Prod.mk.injEq]
 by_cases h : x.fr = y.fr
 · rw [if_pos h]; omega
 · rw [if_neg h]; omega
theorem lt_of_le_ne {x y : Ed.Edg} (h : Ed.ltE y x = false) (hn : keyE x ≠ keyE y) : Ed.ltE x y = true := by
 rw [Ed.ltE_iff'] at h
 rw [Ed.ltE_iff]
 simp only [keyE, ne_eq, Prod.mk.injEq] at hn
 omega
theorem adj_iff : ∀ (r : List Ed.Edg) (x : Ed.Edg), (x :: r).Pairwise (fun a b => Ed.ltE b a = false) → (adjL x r = false ↔ ((x :: r).map keyE).Nodup)
 | [], x, _ => by simp [adjL]
 | y :: r, x, h => by
   obtain ⟨h1, h2⟩ := List.pairwise_cons.1 h
   have ih := adj_iff r y h2
   rw [adjL, Bool.or_eq_false_iff, ih, decide_eq_false_iff_not, keyE_eq, List.map_cons (l := y :: r), List.nodup_cons]
   refine and_congr_left fun hd => ⟨fun hn hm => ?_, fun hm he => hm (by rw [he]; simp)⟩
   obtain ⟨z, hz, he⟩ := List.mem_map.1 hm
   rcases List.mem_cons.1 hz with rfl | hz
   · exact hn he.symm
   · have a := lt_of_le_ne (h1 y List.mem_cons_self) hn
     have b := (List.pairwise_cons.1 h2).1 z hz
     rw [Ed.ltE_iff] at a
     rw [Ed.ltE_iff'] at b
     simp only [keyE, Prod.mk.injEq] at he
     omega
theorem sortE_sorted (l : List Ed.Edg) : (sortE l).Pairwise (fun a b => Ed.ltE b a = false) := by
 have h := (Sort.sort_sorts Ed.ltE Ed.ltM_swo l.toArray).2
 rw [List.pairwise_iff_getElem]
 intro i j hi hj hij
 have := h i j (Nat.zero_le _) hij (by simpa [sortE] using (sortE_len l) ▸ hj)
 simp only [sortE, Array.length_toList] at hi hj
 simpa [sortE, hi, hj] using this
def chkG (g : Grf) : Int := if 1 ≤ g.n ∧ g.n ≤ 64 ∧ g.es.length ≤ 512 ∧ g.es.any (oddE g.n) = false then (if (g.es.map fun e => (e.fr, e.to)).Nodup then 0 else 51) else 50
theorem gCheck_am {g : Grf} (hl : g.es.length < 1000000) : Cl 14 [vG .sh g] [] = some (.int .i64 (chkG g), []) := by
 have an := anyE_am g.n (.lst 45 .sh (g.es.map vE0)) hl .sh
 by_cases h1 : g.n < 1
 · rw [chkG, if_neg (by omega), f14_eq]
   simp (disch := first | assumption | omega | (with_reducible rfl) | (simp only [go_sem]; done) | (simp only [go_sem]; omega) | fail) only [↓reduceIte, ↓jn_eq, Nat.reduceAdd, go_sem]
 by_cases h2 : 64 < g.n
 · rw [chkG, if_neg (by omega), f14_eq]
   simp (disch := first | assumption | omega | (with_reducible rfl) | (simp only [go_sem]; done) | (simp only [go_sem]; omega) | fail) only [↓reduceIte, ↓jn_eq, Nat.reduceAdd, go_sem]
 by_cases h3 : 512 < g.es.length
 · rw [chkG, if_neg (by omega), f14_eq]
   simp (disch := first | assumption | omega | (with_reducible rfl) | (simp only [go_sem]; done) | (simp only [go_sem]; omega) | fail) only [↓reduceIte, ↓jn_eq, Nat.reduceAdd, go_sem]
 by_cases h4 : g.es.any (oddE g.n) = true
 · rw [chkG, if_neg (by rw [h4]; simp), f14_eq]
   simp (disch := first | assumption | omega | (with_reducible rfl) | (simp only [go_sem]; done) | (simp only [go_sem]; omega) | fail) only [↓reduceIte, ↓jn_eq, Nat.reduceAdd, go_sem, an, h4]
 have h4 : g.es.any (oddE g.n) = false := by simpa using h4
 obtain ⟨l, l1, l2⟩ := toEdgs (by omega) g.es h4
 have hlen : l.length = g.es.length := by have := congrArg List.length l1; simpa using this
 have v := values_am (vG .sh g) .sh l
 have st := sortedE_am (vG .sh g) (l := l) (by omega)
 have hsl := sortE_len l
 have hnd : (g.es.map fun e => (e.fr, e.to)).Nodup ↔ ((sortE l).map keyE).Nodup := by
  rw [← l2]; exact (((sortE_perm l).map keyE).nodup_iff).symm
 have so := sortE_sorted l
 rw [chkG, if_pos ⟨by omega, by omega, by omega, h4⟩]
 have e : (if (g.es.map fun e => (e.fr, e.to)).Nodup then (0 : Int) else 51) = (if ((sortE l).map keyE).Nodup then (0 : Int) else 51) := by
  by_cases hh : (g.es.map fun e => (e.fr, e.to)).Nodup
  · rw [if_pos hh, if_pos (hnd.1 hh)]
  · rw [if_neg hh, if_neg (fun k => hh (hnd.2 k))]
 rw [e]
 have rest : f14_l0 (vEs .sh (sortE l)) (.int .i64 1) [vG .sh g, vEs .sh l] = some (.int .i64 (if ((sortE l).map keyE).Nodup then (0 : Int) else 51), []) := by
  cases hs : sortE l with
  | nil =>
    rw [f14_l0_eq]
    simp (disch := first | assumption | omega | (with_reducible rfl) | (simp only [go_sem]; done) | (simp only [go_sem]; omega) | fail) only [↓reduceIte, ↓jn_eq, Nat.reduceAdd, go_sem]
    rfl
  | cons x r =>
    have := gchk_l0 (vG .sh g) (vEs .sh l) (l := x :: r) (by rw [← hs]; omega) r.length 0 (by simp) (by simp; omega)
    simp only [Nat.zero_add, c1, List.getElem_cons_zero, List.drop_succ_cons, List.drop_zero] at this
    rw [this]
    rw [hs] at so
    have ai := adj_iff r x so
    by_cases hh : ((x :: r).map keyE).Nodup
    · rw [if_pos hh, if_neg (by rw [ai.2 hh]; simp)]
    · rw [if_neg hh, if_pos (by cases ha : adjL x r with
       | true => rfl
       | false => exact absurd (ai.1 ha) hh)]
 have l3 : l.length ≤ 512 := by omega
 simp only [vG, ← l1] at an v st rest ⊢
 rw [f14_eq]
 generalize sortE l = s at *
 simp (disch := first | assumption | omega | (with_reducible rfl) | (simp only [go_sem]; done) | (simp only [go_sem]; omega) | fail) only [↓reduceIte, ↓jn_eq, Nat.reduceAdd, go_sem, an, h4, v, st, rest]
end Go.Proofs.YtaghnpjlhmgioaaDoor
end

section
set_option linter.unusedVariables false
set_option linter.unusedSimpArgs false
set_option linter.unusedSectionVars false
set_option maxRecDepth 100000
namespace Go.Proofs.YtaghnpjlhmgioaaDoor
open Go AM
abbrev kEd (e : E0) : Int × Int := (e.fr, e.to)
def kLt (a b : E0) : Prop := a.fr < b.fr ∨ a.fr = b.fr ∧ a.to < b.to
def InB (e : E0) : Prop := 0 ≤ e.fr ∧ e.fr < 64 ∧ 0 ≤ e.to ∧ e.to < 64
def toE (e : E0) : Ed.Edg := ⟨e.fr.toNat % 64, e.to.toNat % 64, e.w, Nat.mod_lt _ (by omega), Nat.mod_lt _ (by omega)⟩
def ofE (x : Ed.Edg) : E0 := ⟨(x.fr : Int), (x.to : Int), x.w⟩
theorem toE_of {e : E0} (h : InB e) : ofE (toE e) = e := by
 obtain ⟨a, b, c⟩ := e
 simp only [InB] at h
 simp only [ofE, toE, E0.mk.injEq, and_true]
 omega
theorem toE_map {es : List E0} (h : ∀ e ∈ es, InB e) : (es.map toE).map ofE = es := by
 rw [List.map_map]
 conv => rhs; rw [← List.map_id es]
 exact List.map_congr_left fun e he => toE_of (h e he)
theorem toE_v {es : List E0} (h : ∀ e ∈ es, InB e) : (es.map toE).map Ed.vEdg = es.map vE0 := by
 conv => rhs; rw [← toE_map h]
 rw [List.map_map, List.map_map, List.map_map]; rfl
def srtE (es : List E0) : List E0 := (sortE (es.map toE)).map ofE
theorem srtE_v (es : List E0) : (srtE es).map vE0 = (sortE (es.map toE)).map Ed.vEdg := by
 rw [srtE, List.map_map]; rfl
theorem srtE_perm {es : List E0} (h : ∀ e ∈ es, InB e) : (srtE es).Perm es := by
 have := (sortE_perm (es.map toE)).map ofE
 rwa [toE_map h] at this
theorem srtE_len (es : List E0) : (srtE es).length = es.length := by simp [srtE, sortE_len]
theorem srtE_sorted {es : List E0} (h : ∀ e ∈ es, InB e) (hn : (es.map kEd).Nodup) : (srtE es).Pairwise kLt := by
 have hp := srtE_perm h
 have h1 := sortE_sorted (es.map toE)
 have h2 : ((srtE es).map kEd).Nodup := ((hp.map kEd).nodup_iff).2 hn
 rw [srtE, List.map_map, List.nodup_iff_pairwise_ne, List.pairwise_map] at h2
 rw [srtE, List.pairwise_map]
 refine (h1.and h2).imp fun {a b} hab => ?_
 have hk : keyE a ≠ keyE b := hab.2
 have := lt_of_le_ne hab.1 hk
 rw [Ed.ltE_iff] at this
 simp only [kLt, ofE]
 omega
theorem kLt_irr (a : E0) : ¬ kLt a a := by simp only [kLt]; omega
theorem kLt_asymm {a b : E0} (h : kLt a b) : ¬ kLt b a := by simp only [kLt] at *; omega
theorem uniqE : ∀ {l1 l2 : List E0}, l1.Pairwise kLt → l2.Pairwise kLt → (∀ x, x ∈ l1 ↔ x ∈ l2) → l1 = l2
 | [], [], _, _, _ => rfl
 | [], y :: l2, _, _, h => by have := (h y).2 List.mem_cons_self; simp at this
 | x :: l1, [], _, _, h => by have := (h x).1 List.mem_cons_self; simp at this
 | x :: l1, y :: l2, h1, h2, h => by
   obtain ⟨a1, a2⟩ := List.pairwise_cons.1 h1
   obtain ⟨b1, b2⟩ := List.pairwise_cons.1 h2
   have e : x = y := by
    rcases List.mem_cons.1 ((h x).1 List.mem_cons_self) with r | r
    · exact r
    rcases List.mem_cons.1 ((h y).2 List.mem_cons_self) with q | q
    · exact q.symm
    exact absurd (b1 x r) (kLt_asymm (a1 y q))
   subst e
   refine congrArg (x :: ·) (uniqE a2 b2 fun z => ⟨fun hz => ?_, fun hz => ?_⟩)
   · rcases List.mem_cons.1 ((h z).1 (List.mem_cons_of_mem _ hz)) with rfl | r
     · exact absurd (a1 z hz) (kLt_irr z)
     · exact r
   · rcases List.mem_cons.1 ((h z).2 (List.mem_cons_of_mem _ hz)) with rfl | r
     · exact absurd (b1 z hz) (kLt_irr z)
     · exact r
theorem chkG_0 {g : Grf} (h : chkG g = 0) : (1 ≤ g.n ∧ g.n ≤ 64) ∧ g.es.length ≤ 512 ∧ g.es.any (oddE g.n) = false ∧ (g.es.map kEd).Nodup := by
 rw [chkG] at h
 split at h
 · rename_i hc
   split at h
   · rename_i hn; exact ⟨⟨hc.1, hc.2.1⟩, hc.2.2.1, hc.2.2.2, hn⟩
   · cases h
 · cases h
theorem odd_in {n : Int} {e : E0} (h : oddE n e = false) : 0 ≤ e.fr ∧ e.fr < n ∧ 0 ≤ e.to ∧ e.to < n ∧ 0 ≤ e.w ∧ e.w ≤ 1048576 := by
 simp only [oddE, Bool.or_eq_false_iff, decide_eq_false_iff_not] at h; omega
theorem odds_in {n : Int} {es : List E0} (h : es.any (oddE n) = false) : ∀ e ∈ es, 0 ≤ e.fr ∧ e.fr < n ∧ 0 ≤ e.to ∧ e.to < n ∧ 0 ≤ e.w ∧ e.w ≤ 1048576 := by
 intro e he
 rw [List.any_eq_false] at h
 exact odd_in (by simpa using h e he)
theorem inB_of {g : Grf} (h : chkG g = 0) : ∀ e ∈ g.es, InB e := by
 obtain ⟨⟨_, h1⟩, _, h2, _⟩ := chkG_0 h
 intro e he
 have := odds_in h2 e he
 simp only [InB]; omega
theorem srt_ok {g : Grf} (h : chkG g = 0) : (srtE g.es).Perm g.es ∧ (srtE g.es).Pairwise kLt := ⟨srtE_perm (inB_of h), srtE_sorted (inB_of h) (chkG_0 h).2.2.2⟩
def normG (g : Grf) : Grf := if chkG g = 0 then ⟨g.n, srtE g.es⟩ else ⟨0, []⟩
end Go.Proofs.YtaghnpjlhmgioaaDoor
end

section
set_option linter.unusedVariables false
set_option linter.unusedSimpArgs false
set_option linter.unusedSectionVars false
set_option maxRecDepth 100000
namespace Go.Proofs.YtaghnpjlhmgioaaDoor
open Go AM
theorem callH_np {f : FuncId} {id : Nat} {p : List Nat} {t : TypeId} {cs vs h h' : List V} {v r : V} (he : ann.ext f = false) (hp : ann.pure f = false) (hh : h[id]? = some v) (haw : awayL id (h.set id void) = true)
 (hx : V.away id (.clo f cs) = true) (hv : awayL id vs = true) (hr : r.away id = true) (ha2 : awayL id h' = true) (hlt : id < h'.length) (e : Cl f (normL (vs ++ cs)) (h.set id void) = some (r, h')) (k : V → List V → Rv) (hs : (ann.seq f).1 = 0 := by kernel_rfl) :
 callH P ann W (some (.ref id p t)) (.clo f cs) vs h k = k r (h'.set id v) := by
 simp only [callH, hh, haw, hv, hx]
 rw [if_pos (show (true && true && true) = true from rfl), callV_np _ he hp hs]
 refine (bstep e _).trans ?_
 rw [if_pos (by rw [hr, ha2]; simp only [Bool.true_and]; exact Nat.ble_eq_true_of_le hlt)]
theorem values2_am (a b : V) (l : List Ed.Edg) : Cl 27 [vEs .sh l] [a, b] = some (.clo 42 [.ref 2 [] 22], [a, b, vEs .sh l]) := by
 rw [f27_eq]
 simp (disch := first | assumption | omega | (with_reducible rfl) | (simp only [go_sem]; done) | (simp only [go_sem]; omega) | fail) only [↓reduceIte, ↓jn_eq, Nat.reduceAdd, go_sem]
 rfl
theorem collect2_am (a b : V) {l : List Ed.Edg} (hl : l.length ≤ 1000000) : Cl 40 [.clo 42 [.ref 2 [] 22]] [a, b, vEs .sh l] = some (Ed.winM 3 l.length, [a, b, vEs .sh l, Ed.rowM l.toArray]) := by
 rw [f40_eq]
 have ap : aps 42 45 [.lst 45 .nil [], .clo 42 [.ref 2 [] 22]] [a, b, vEs .sh l] = some (Ed.winM 3 l.length, [a, b, vEs .sh l, Ed.rowM l.toArray]) := by
  simp only [aps, List.getElem?_cons_succ, List.getElem?_cons_zero, i3_all, List.length_map]
  rw [if_pos (by simp [most, Nat.ble_eq]; omega)]
  simp [Ed.winM, Ed.rowM]
 rw [ap]; rfl
theorem sortedE2_am (a b : V) {l : List Ed.Edg} (hl : l.length ≤ 1000000) : Cl 26 [.clo 42 [.ref 2 [] 22], Ed.cm] [a, b, vEs .sh l] = some (vEs .sh (sortE l), [a, b, vEs .sh l]) := by
 have c := collect2_am a b hl
 have s := Ed.sortFunc_am (h0 := [a, b, vEs .sh l, Ed.rowM l.toArray]) (id := 3) (N := l.length) (by simp) (by omega) (d := l.toArray) (by simp)
 have e0 : Ed.HB [a, b, vEs .sh l, Ed.rowM l.toArray] 3 l.toArray = [a, b, vEs .sh l, Ed.rowM l.toArray] := rfl
 have e1 : Ed.HB [a, b, vEs .sh l, Ed.rowM l.toArray] 3 (Sort.sort Ed.ltE l.toArray) = [a, b, vEs .sh l, Ed.rowM (Sort.sort Ed.ltE l.toArray)] := rfl
 rw [e0, e1] at s
 have ct : content [a, b, vEs .sh l, Ed.rowM (Sort.sort Ed.ltE l.toArray)] (Ed.winM 3 l.length) = some ((sortE l).map Ed.vEdg) := by
  simp [content, Ed.winM, rd, V.at, V.items, Ed.rowM, sortE]
  rw [← sortE_len l]; exact List.take_of_length_le (by simp [sortE])
 have cl : cleanL ((sortE l).map Ed.vEdg) = true := cleanL_pl (plL_map (fun _ => rfl) _)
 have nl : normL ((sortE l).map Ed.vEdg) = (sortE l).map Ed.vEdg := normL_pl (plL_map (fun _ => rfl) _)
 have fin : finT 3 [a, b, vEs .sh l, Ed.rowM (Sort.sort Ed.ltE l.toArray)] (Ed.winM 3 l.length) = some (vEs .sh (sortE l), [a, b, vEs .sh l]) := by
  have u : (Ed.winM 3 l.length).unmut [a, b, vEs .sh l, Ed.rowM (Sort.sort Ed.ltE l.toArray)] = vEs .sh (sortE l) := by
   rw [Ed.winM] at ct ⊢
   simp only [V.unmut, ct, cl, nl, if_true]
  simp only [finT, u]; rfl
 rw [f26_eq]
 refine (bstep c _).trans ?_
 refine (bstep s _).trans ?_
 exact fin
abbrev zG : V := .agg 23 [.int .i64 0, .lst 45 .nil []]
theorem Norm_am {g : Grf} (hl : g.es.length < 1000000) : Cl 12 [vG .sh g] [] = some (.tup [vG .sh (normG g), .int .i64 (chkG g)], []) := by
 have ck := gCheck_am hl
 by_cases hc : chkG g = 0
 · have hin := inB_of hc
   have hv := toE_v hin
   have hsv := srtE_v g.es
   rw [hc] at ck ⊢
   rw [normG, if_pos hc]
   simp only [vG, hsv, ← hv] at ck ⊢
   have hlt : (g.es.map toE).length ≤ 1000000 := by simp; omega
   generalize g.es.map toE = l at *
   have c1 : ∀ (x : V) (k : V → List V → Rv), x.away 0 = true → callH P ann W (some (.ref 0 [] 24)) (.clo 27 []) [vEs .sh l] [x, zG] k = k (.clo 42 [.ref 2 [] 22]) [x, zG, vEs .sh l] := by
    intro x k hx
    exact callH_np (h := [x, zG]) (h' := [void, zG, vEs .sh l]) (r := .clo 42 [.ref 2 [] 22]) (id := 0) (by kernel_rfl) (by kernel_rfl) (v := x) rfl rfl rfl rfl rfl rfl (Nat.zero_lt_succ _) (by rw [List.append_nil, normL_pl (show plL [vEs .sh l] = true by simp only [plL, V.pl, plL_vEd]; rfl)]; exact values2_am void zG l) k
   have c2 : ∀ (x : V) (k : V → List V → Rv), x.away 0 = true → callH P ann W (some (.ref 0 [] 24)) (.clo 26 []) [.clo 42 [.ref 2 [] 22], Ed.cm] [x, zG, vEs .sh l] k = k (vEs .sh (sortE l)) [x, zG, vEs .sh l] := by
    intro x k hx
    exact callH_np (h := [x, zG, vEs .sh l]) (h' := [void, zG, vEs .sh l]) (r := vEs .sh (sortE l)) (id := 0) (by kernel_rfl) (by kernel_rfl) (v := x) rfl rfl rfl rfl ((V.PF _ (show (vEs .sh (sortE l)).pl = true by simp only [V.pl, plL_vEd])).away 0) rfl (Nat.zero_lt_succ _) (sortedE2_am void zG hlt) k
   generalize sortE l = s at *
   rw [f12_eq]
   have sb : sameB (.ref 0 [] 24) (.ref 0 [0] 3) = true := rfl
   (repeat' with_reducible first | refine (ite_T _ _).trans ?_ | refine (ite_F _ _).trans ?_ | refine (jn_eq _ _).trans ?_ | refine (bstep (by first | rfl | (simp (disch := first | assumption | omega | (with_reducible rfl) | (simp only [go_sem]; done) | (simp only [go_sem]; omega) | fail) only [↓reduceIte, ↓jn_eq, Nat.reduceAdd, go_sem, Bool.not_true, Bool.not_false, ck, sb]; rfl)) _).trans ?_ | refine (if_pos (by first | rfl | (simp (disch := first | assumption | omega | (with_reducible rfl) | (simp only [go_sem]; done) | (simp only [go_sem]; omega) | fail) only [↓reduceIte, ↓jn_eq, Nat.reduceAdd, go_sem, Bool.not_true, Bool.not_false, ck, sb]; done))).trans ?_ | refine (ite_dec (by first | assumption | omega | (simp (disch := first | assumption | omega | (with_reducible rfl) | (simp only [go_sem]; done) | (simp only [go_sem]; omega) | fail) only [↓reduceIte, ↓jn_eq, Nat.reduceAdd, go_sem, Bool.not_true, Bool.not_false, ck, sb]; done) | (simp (disch := first | assumption | omega | (with_reducible rfl) | (simp only [go_sem]; done) | (simp only [go_sem]; omega) | fail) only [↓reduceIte, ↓jn_eq, Nat.reduceAdd, go_sem, Bool.not_true, Bool.not_false, ck, sb]; omega)) _ _).trans ?_ | refine (ite_ndec (by first | assumption | omega | (simp (disch := first | assumption | omega | (with_reducible rfl) | (simp only [go_sem]; done) | (simp only [go_sem]; omega) | fail) only [↓reduceIte, ↓jn_eq, Nat.reduceAdd, go_sem, Bool.not_true, Bool.not_false, ck, sb]; done) | (simp (disch := first | assumption | omega | (with_reducible rfl) | (simp only [go_sem]; done) | (simp only [go_sem]; omega) | fail) only [↓reduceIte, ↓jn_eq, Nat.reduceAdd, go_sem, Bool.not_true, Bool.not_false, ck, sb]; omega)) _ _).trans ?_ | fail)
   refine (c1 _ _ rfl).trans ?_
   refine (c2 _ _ rfl).trans ?_
   (repeat' with_reducible first | refine (ite_T _ _).trans ?_ | refine (ite_F _ _).trans ?_ | refine (jn_eq _ _).trans ?_ | refine (bstep (by first | rfl | (simp (disch := first | assumption | omega | (with_reducible rfl) | (simp only [go_sem]; done) | (simp only [go_sem]; omega) | fail) only [↓reduceIte, ↓jn_eq, Nat.reduceAdd, go_sem, Bool.not_true, Bool.not_false, ck]; rfl)) _).trans ?_ | refine (if_pos (by first | rfl | (simp (disch := first | assumption | omega | (with_reducible rfl) | (simp only [go_sem]; done) | (simp only [go_sem]; omega) | fail) only [↓reduceIte, ↓jn_eq, Nat.reduceAdd, go_sem, Bool.not_true, Bool.not_false, ck]; done))).trans ?_ | refine (ite_dec (by first | assumption | omega | (simp (disch := first | assumption | omega | (with_reducible rfl) | (simp only [go_sem]; done) | (simp only [go_sem]; omega) | fail) only [↓reduceIte, ↓jn_eq, Nat.reduceAdd, go_sem, Bool.not_true, Bool.not_false, ck]; done) | (simp (disch := first | assumption | omega | (with_reducible rfl) | (simp only [go_sem]; done) | (simp only [go_sem]; omega) | fail) only [↓reduceIte, ↓jn_eq, Nat.reduceAdd, go_sem, Bool.not_true, Bool.not_false, ck]; omega)) _ _).trans ?_ | refine (ite_ndec (by first | assumption | omega | (simp (disch := first | assumption | omega | (with_reducible rfl) | (simp only [go_sem]; done) | (simp only [go_sem]; omega) | fail) only [↓reduceIte, ↓jn_eq, Nat.reduceAdd, go_sem, Bool.not_true, Bool.not_false, ck]; done) | (simp (disch := first | assumption | omega | (with_reducible rfl) | (simp only [go_sem]; done) | (simp only [go_sem]; omega) | fail) only [↓reduceIte, ↓jn_eq, Nat.reduceAdd, go_sem, Bool.not_true, Bool.not_false, ck]; omega)) _ _).trans ?_ | fail)
   rfl
 · rw [normG, if_neg hc, f12_eq]
   generalize chkG g = e at *
   (repeat' with_reducible first | refine (ite_T _ _).trans ?_ | refine (ite_F _ _).trans ?_ | refine (jn_eq _ _).trans ?_ | refine (bstep (by first | rfl | (simp (disch := first | assumption | omega | (with_reducible rfl) | (simp only [go_sem]; done) | (simp only [go_sem]; omega) | fail) only [↓reduceIte, ↓jn_eq, Nat.reduceAdd, go_sem, Bool.not_true, Bool.not_false, ck]; rfl)) _).trans ?_ | refine (if_pos (by first | rfl | (simp (disch := first | assumption | omega | (with_reducible rfl) | (simp only [go_sem]; done) | (simp only [go_sem]; omega) | fail) only [↓reduceIte, ↓jn_eq, Nat.reduceAdd, go_sem, Bool.not_true, Bool.not_false, ck]; done))).trans ?_ | refine (ite_dec (by first | assumption | omega | (simp (disch := first | assumption | omega | (with_reducible rfl) | (simp only [go_sem]; done) | (simp only [go_sem]; omega) | fail) only [↓reduceIte, ↓jn_eq, Nat.reduceAdd, go_sem, Bool.not_true, Bool.not_false, ck]; done) | (simp (disch := first | assumption | omega | (with_reducible rfl) | (simp only [go_sem]; done) | (simp only [go_sem]; omega) | fail) only [↓reduceIte, ↓jn_eq, Nat.reduceAdd, go_sem, Bool.not_true, Bool.not_false, ck]; omega)) _ _).trans ?_ | refine (ite_ndec (by first | assumption | omega | (simp (disch := first | assumption | omega | (with_reducible rfl) | (simp only [go_sem]; done) | (simp only [go_sem]; omega) | fail) only [↓reduceIte, ↓jn_eq, Nat.reduceAdd, go_sem, Bool.not_true, Bool.not_false, ck]; done) | (simp (disch := first | assumption | omega | (with_reducible rfl) | (simp only [go_sem]; done) | (simp only [go_sem]; omega) | fail) only [↓reduceIte, ↓jn_eq, Nat.reduceAdd, go_sem, Bool.not_true, Bool.not_false, ck]; omega)) _ _).trans ?_ | fail)
   rfl
end Go.Proofs.YtaghnpjlhmgioaaDoor
end

section
set_option linter.unusedVariables false
set_option linter.unusedSimpArgs false
set_option linter.unusedSectionVars false
set_option maxRecDepth 100000
namespace Go.Proofs.YtaghnpjlhmgioaaDoor
open Go AM
def isD (c : UInt8) : Prop := 48 ≤ c.toNat ∧ c.toNat ≤ 57
def decB (n : Nat) : List UInt8 := decF 20 n
theorem dg_nat {k : Nat} (h : k < 10) : (UInt8.ofNat (48 + k)).toNat = 48 + k := by simp; omega
theorem dg_isD {k : Nat} (h : k < 10) : isD (UInt8.ofNat (48 + k)) := by unfold isD; rw [dg_nat h]; omega
theorem decF_len : ∀ f n, (decF f n).length ≤ f
 | 0, _ => by simp [decF]
 | f + 1, n => by
   rw [decF]
   split
   · simp
   · have := decF_len f (n / 10)
     simp only [List.length_append, List.length_cons, List.length_nil]; omega
theorem decF_ne : ∀ f n, 0 < f → decF f n ≠ []
 | f + 1, n, _ => by rw [decF]; split <;> simp
theorem decF_dig : ∀ f n, ∀ c ∈ decF f n, isD c
 | 0, _, c, h => by simp [decF] at h
 | f + 1, n, c, h => by
   rw [decF] at h
   split at h
   · rw [List.mem_singleton.1 h]; exact dg_isD (by assumption)
   · rcases List.mem_append.1 h with h | h
     · exact decF_dig f _ c h
     · rw [List.mem_singleton.1 h]; exact dg_isD (Nat.mod_lt _ (by omega))
theorem decF_lt : ∀ f k n, n < 10 ^ (k + 1) → (decF f n).length ≤ k + 1
 | 0, k, n, _ => by simp [decF]
 | f + 1, k, n, h => by
   rw [decF]
   split
   · simp
   · match k, h with
     | 0, h => omega
     | k + 1, h =>
       have := decF_lt f k (n / 10) (by rw [Nat.pow_succ] at h; omega)
       simp only [List.length_append, List.length_cons, List.length_nil]; omega
theorem decF_s (f n : Nat) : decF (f + 1) n = if n < 10 then [UInt8.ofNat (48 + n)] else decF f (n / 10) ++ [UInt8.ofNat (48 + n % 10)] := rfl
theorem decF_fuel : ∀ f n, n < 10 ^ (f + 1) → decF (f + 2) n = decF (f + 1) n
 | f, n, h => by
   rw [decF_s (f + 1) n, decF_s f n]
   by_cases h1 : n < 10
   · rw [if_pos h1, if_pos h1]
   · rw [if_neg h1, if_neg h1]
     match f, h with
     | 0, h => omega
     | f + 1, h => rw [decF_fuel f (n / 10) (by rw [Nat.pow_succ] at h; omega)]
theorem decB_ne (n : Nat) : decB n ≠ [] := decF_ne 20 n (by omega)
theorem decB_dig (n : Nat) : ∀ c ∈ decB n, isD c := decF_dig 20 n
theorem decB_len (n : Nat) : (decB n).length ≤ 20 := decF_len 20 n
theorem decB_9 {n : Nat} (h : n < 1000000000) : (decB n).length ≤ 9 := decF_lt 20 8 n h
theorem decB_1 {n : Nat} (h : n < 10) : decB n = [UInt8.ofNat (48 + n)] := by rw [decB, decF, if_pos h]
theorem decB_snoc {n : Nat} (h : ¬ n < 10) (h2 : n < 1000000000000000000) : decB n = decB (n / 10) ++ [UInt8.ofNat (48 + n % 10)] := by
 rw [decB, decB, decF, if_neg h, decF_fuel 18 (n / 10) (by omega)]
attribute [irreducible] decB
theorem itoa_nat (n : Nat) : itoaV (n : Int) = decB n := by
 unfold itoaV decB
 rw [if_neg (by omega), Int.toNat_natCast]
theorem itoa_len (n : Int) : (itoaV n).length ≤ 21 := by
 unfold itoaV
 have h1 := decF_len 20 n.natAbs
 have h2 := decF_len 20 n.toNat
 split
 · rw [List.length_cons]; omega
 · omega
theorem parse_app : ∀ (l : List UInt8) (a : Nat) (c : UInt8) (v : Nat), Lib.parseUint10 a l = .ok v → Lib.parseUint10 a (l ++ [c]) = Lib.parseUint10 v [c]
 | [], a, c, v, h => by simp only [Lib.parseUint10] at h; cases h; rfl
 | x :: l, a, c, v, h => by
   rw [Lib.parseUint10] at h
   rw [List.cons_append, Lib.parseUint10]
   split at h
   · rename_i h1
     rw [if_pos h1]
     split at h
     · cases h
     · rename_i h2
       rw [if_neg h2]
       split at h
       · cases h
       · rename_i h3
         rw [if_neg h3]
         exact parse_app l _ c v h
   · cases h
theorem parse_1 {v : Nat} {c : UInt8} (hc : isD c) (hv : v < 1000000000000000) : Lib.parseUint10 v [c] = .ok (v * 10 + (c.toNat - 48)) := by
 obtain ⟨h1, h2⟩ := hc
 rw [Lib.parseUint10, if_pos ⟨h1, h2⟩, if_neg (by omega), if_neg (by omega), Lib.parseUint10]
theorem parse_dec : ∀ (k n : Nat), n < 10 ^ k → n < 1000000000000000 → Lib.parseUint10 0 (decB n) = .ok n
 | 0, n, h, h2 => by
   have h0 : n = 0 := by simp at h; exact h
   subst h0
   rw [decB_1 (by omega), parse_1 (dg_isD (by omega)) (by omega), dg_nat (by omega)]
 | k + 1, n, h, h2 => by
   by_cases h1 : n < 10
   · rw [decB_1 h1, parse_1 (dg_isD h1) (by omega), dg_nat h1]; congr 1; omega
   · have ih := parse_dec k (n / 10) (by rw [Nat.pow_succ] at h; omega) (by omega)
     have hm : n % 10 < 10 := Nat.mod_lt _ (by omega)
     rw [decB_snoc h1 (by omega), parse_app _ _ _ _ ih, parse_1 (dg_isD hm) (by omega), dg_nat hm]; congr 1; omega
theorem atoi_dec {n : Nat} (h : n < 1000000000) : Lib.atoiAll (decB n) = .ok (n : Int) := by
 have hp := parse_dec 9 n h (by omega)
 have hd := decB_dig n
 have hn := decB_ne n
 generalize decB n = l at *
 match l, hn with
 | c :: r, _ =>
   have hc := hd c List.mem_cons_self
   unfold isD at hc
   have e1 : ¬ c.toNat = 43 := by omega
   have e2 : ¬ c.toNat = 45 := by omega
   have e3 : ¬ 9223372036854775808 ≤ n := by omega
   simp [Lib.atoiAll, Lib.parseMag, hp, e1, e2, e3]
theorem parse_lt : ∀ (l : List UInt8) (a u : Nat), Lib.parseUint10 a l = .ok u → u < (a + 1) * 10 ^ l.length
 | [], a, u, h => by simp only [Lib.parseUint10] at h; cases h; simp
 | c :: l, a, u, h => by
   rw [Lib.parseUint10] at h
   split at h
   · rename_i hc
     split at h
     · cases h
     · split at h
       · cases h
       · have := parse_lt l _ u h
         have h2 : (a * 10 + (c.toNat - 48) + 1) * 10 ^ l.length ≤ ((a + 1) * 10) * 10 ^ l.length := Nat.mul_le_mul_right _ (by omega)
         rw [List.length_cons, Nat.pow_succ, Nat.mul_comm (10 ^ l.length) 10, ← Nat.mul_assoc]
         omega
   · cases h
theorem mag_lt {l : List UInt8} {u : Nat} (hl : l.length ≤ 9) (h : Lib.parseMag l = .ok u) : u < 1000000000 := by
 unfold Lib.parseMag at h
 split at h
 · cases h
 · have h1 := parse_lt l 0 u h
   have h2 : 10 ^ l.length ≤ 10 ^ 9 := Nat.pow_le_pow_right (by omega) hl
   omega
theorem atoi_lt {s : List UInt8} (hl : s.length ≤ 9) {v : Int} (h : Lib.atoiAll s = .ok v) : -1000000000 < v ∧ v < 1000000000 := by
 unfold Lib.atoiAll at h
 split at h
 · cases h
 · rename_i c r
   dsimp only at h
   have hm : ∀ u, Lib.parseMag (if c.toNat = 43 ∨ c.toNat = 45 then r else c :: r) = .ok u → u < 1000000000 := fun u hu => mag_lt (by
    rw [List.length_cons] at hl
    split
    · omega
    · rw [List.length_cons]; omega) hu
   generalize Lib.parseMag (if c.toNat = 43 ∨ c.toNat = 45 then r else c :: r) = q at *
   split at h
   · cases h
   · cases h
   · rename_i u
     have := hm u rfl
     split at h
     · cases h
     · split at h
       · cases h
       · cases h
         split <;> omega
theorem atoiV_cases (s : List UInt8) : (∃ v, Lib.atoiAll s = .ok v ∧ atoiV s = .tup [.int .i64 v, .nili]) ∨ ∃ n, atoiV s = .tup [.int .i64 n, .ifv] := by
 unfold atoiV
 cases Lib.atoiAll s with
 | ok v => exact .inl ⟨v, rfl, rfl⟩
 | «syntax» => exact .inr ⟨_, rfl⟩
 | range => exact .inr ⟨_, rfl⟩
theorem aps_atoi {s : List UInt8} (hs : s.length ≤ 1000000) (h : List V) : aps 1 0 [.str s] h = some (atoiV s, h) := by
 simp only [aps]
 rw [if_pos (by simp [most, Nat.ble_eq]; omega)]
theorem aps_itoa {n : Int} (h0 : -1000000000000000000 ≤ n) (h1 : n ≤ 1000000000000000000) (h : List V) : aps 2 0 [.int .i64 n] h = some (.str (itoaV n), h) := by
 simp only [aps]
 rw [if_pos (by simp; omega)]
def valF (a : Nat) (l : List UInt8) : Nat := l.foldl (fun a c => a * 10 + (c.toNat - 48)) a
theorem valF_cons (a : Nat) (c : UInt8) (l : List UInt8) : valF a (c :: l) = valF (a * 10 + (c.toNat - 48)) l := by simp only [valF, List.foldl_cons]
theorem valF_app (l : List UInt8) (a : Nat) (c : UInt8) : valF a (l ++ [c]) = valF a l * 10 + (c.toNat - 48) := by
 simp only [valF, List.foldl_append, List.foldl_cons, List.foldl_nil]
theorem valF_lt : ∀ (l : List UInt8) (a : Nat), (∀ c ∈ l, isD c) → valF a l < (a + 1) * 10 ^ l.length
 | [], a, _ => by simp [valF]
 | c :: l, a, h => by
   obtain ⟨h1, h2⟩ := h c List.mem_cons_self
   have := valF_lt l (a * 10 + (c.toNat - 48)) (fun x hx => h x (List.mem_cons_of_mem _ hx))
   have h3 : (a * 10 + (c.toNat - 48) + 1) * 10 ^ l.length ≤ ((a + 1) * 10) * 10 ^ l.length := Nat.mul_le_mul_right _ (by omega)
   rw [valF_cons, List.length_cons, Nat.pow_succ, Nat.mul_comm (10 ^ l.length) 10, ← Nat.mul_assoc]
   omega
theorem u8_of_nat {c : UInt8} (h : isD c) : UInt8.ofNat (48 + (c.toNat - 48)) = c := by
 obtain ⟨h1, h2⟩ := h
 rw [show 48 + (c.toNat - 48) = c.toNat by omega]; simp
theorem decB_of : ∀ (k : Nat) (s : List UInt8), s.length = k → k ≤ 9 → s ≠ [] → (∀ c ∈ s, isD c) → (1 < s.length → s.head? ≠ some 48) → decB (valF 0 s) = s := by
 intro k
 induction k with
 | zero => intro s h _ hn; exact absurd (List.length_eq_zero_iff.1 h) hn
 | succ k ih =>
   intro s hl hk hn hd hc
   rcases List.eq_nil_or_concat s with rfl | ⟨p, c, rfl⟩
   · exact absurd rfl hn
   rw [List.concat_eq_append] at *
   have hcd := hd c (by simp)
   have hpd : ∀ x ∈ p, isD x := fun x hx => hd x (List.mem_append_left _ hx)
   rw [valF_app]
   have hc2 := hcd
   unfold isD at hc2
   by_cases hp : p = []
   · subst hp
     rw [show valF 0 [] = 0 from rfl, decB_1 (by omega), show 48 + (0 * 10 + (c.toNat - 48)) = 48 + (c.toNat - 48) by omega, u8_of_nat hcd]; rfl
   · have hpl : 0 < p.length := List.length_pos_iff.2 hp
     rw [List.length_append, List.length_singleton] at hl hc
     have hh : p.head? ≠ some 48 := by
      have := hc (by omega)
      match p, hp with
      | x :: q, _ => simpa using this
     have ih' := ih p (by omega) (by omega) hp hpd (fun _ => hh)
     have hv : 1 ≤ valF 0 p := by
      refine Nat.pos_of_ne_zero fun h0 => ?_
      rw [h0, decB_1 (by omega)] at ih'
      rw [← ih'] at hh
      exact hh rfl
     have hlt := valF_lt p 0 hpd
     have h2 : 10 ^ p.length ≤ 10 ^ 9 := Nat.pow_le_pow_right (by omega) (by omega)
     rw [decB_snoc (by omega) (by omega), show (valF 0 p * 10 + (c.toNat - 48)) / 10 = valF 0 p by omega, show (valF 0 p * 10 + (c.toNat - 48)) % 10 = c.toNat - 48 by omega, u8_of_nat hcd, ih']
theorem decB_head {n : Nat} (h : n < 1000000000) : 1 < (decB n).length → (decB n).head? ≠ some 48 := by
 have key : ∀ k n, n < 10 ^ k → n < 1000000000 → 0 < n → (decB n).head? ≠ some 48 := by
  intro k
  induction k with
  | zero => intro n h _ h0; simp at h; omega
  | succ k ih =>
    intro n h h2 h0
    by_cases h1 : n < 10
    · rw [decB_1 h1]
      simp only [List.head?_cons, ne_eq, Option.some.injEq]
      intro e
      have := congrArg UInt8.toNat e
      rw [dg_nat h1] at this
      simp at this; omega
    · rw [decB_snoc h1 (by omega)]
      have := ih (n / 10) (by rw [Nat.pow_succ] at h; omega) (by omega) (by omega)
      have hne := decB_ne (n / 10)
      generalize decB (n / 10) = l at *
      match l, hne with
      | x :: q, _ => simpa using this
 intro hl
 by_cases h0 : 0 < n
 · exact key 9 n h h h0
 · obtain rfl : n = 0 := by omega
   rw [decB_1 (by omega)] at hl; simp at hl
theorem decB_val {n : Nat} (h : n < 1000000000) : valF 0 (decB n) = n := by
 have key : ∀ k n, n < 10 ^ k → n < 1000000000 → valF 0 (decB n) = n := by
  intro k
  induction k with
  | zero => intro n h _; obtain rfl : n = 0 := by simpa using h
            rw [decB_1 (by omega)]; rfl
  | succ k ih =>
    intro n h h2
    by_cases h1 : n < 10
    · rw [decB_1 h1]; simp only [valF, List.foldl_cons, List.foldl_nil]; rw [dg_nat h1]; omega
    · rw [decB_snoc h1 (by omega), valF_app, ih (n / 10) (by rw [Nat.pow_succ] at h; omega) (by omega), dg_nat (Nat.mod_lt _ (by omega))]; omega
 exact key 9 n h h
end Go.Proofs.YtaghnpjlhmgioaaDoor
end

section
set_option linter.unusedVariables false
set_option linter.unusedSimpArgs false
set_option linter.unusedSectionVars false
set_option maxRecDepth 100000
namespace Go.Proofs.YtaghnpjlhmgioaaDoor
open Go AM
abbrev vInts (f : Fl) (l : List Int) : V := .lst 3 f (l.map fun (v : Int) => V.int .i64 v)
@[go_sem] theorem plL_intl (l : List Int) : plL (l.map fun (v : Int) => V.int .i64 v) = true := plL_map (fun _ => rfl) l
def wordsI (l : List Int) : List UInt8 := l.flatMap fun n => 32 :: itoaV n
def lineI (w : List UInt8) (l : List Int) : List UInt8 := w ++ wordsI l ++ [10]
theorem wordsI_snoc (l : List Int) (n : Int) : wordsI (l ++ [n]) = wordsI l ++ 32 :: itoaV n := by simp [wordsI]
theorem wordsI_len (l : List Int) : (wordsI l).length ≤ 22 * l.length := by
 induction l with
 | nil => simp [wordsI]
 | cons n l ih =>
   have := itoa_len n
   simp only [wordsI, List.flatMap_cons, List.length_append, List.length_cons] at ih ⊢
   omega
theorem line_l0 {w : List UInt8} (hw : w.length ≤ 3000) {l : List Int} (hn : ∀ n ∈ l, -1000000000000000000 ≤ n ∧ n ≤ 1000000000000000000) (hl : l.length ≤ 1000) : ∀ (m i : Nat), i + m = l.length →
 f34_l0 (.str (w ++ wordsI (l.take i))) (vInts .sh l) (.int .i64 (l.length : Int)) (.int .i64 (i : Int)) [] = some (.str (lineI w l), []) := by
 intro m
 induction m with
 | zero =>
   intro i hi
   have hwl := wordsI_len l
   rw [List.take_of_length_le (by omega), lineI, f34_l0_eq]
   have ad : bin .add (.str (w ++ wordsI l)) (.str [10]) = some (.str (w ++ wordsI l ++ [10])) := s_add _ _ (by simp; omega)
   generalize w ++ wordsI l = x at *
   (repeat' with_reducible first | refine (ite_T _ _).trans ?_ | refine (ite_F _ _).trans ?_ | refine (jn_eq _ _).trans ?_ | refine (bstep (by first | rfl | (simp (disch := first | assumption | omega | (with_reducible rfl) | (simp only [go_sem]; done) | (simp only [go_sem]; omega) | fail) only [↓reduceIte, ↓jn_eq, Nat.reduceAdd, go_sem, Bool.not_true, Bool.not_false, ad]; rfl)) _).trans ?_ | refine (if_pos (by first | rfl | (simp (disch := first | assumption | omega | (with_reducible rfl) | (simp only [go_sem]; done) | (simp only [go_sem]; omega) | fail) only [↓reduceIte, ↓jn_eq, Nat.reduceAdd, go_sem, Bool.not_true, Bool.not_false, ad]; done))).trans ?_ | refine (ite_dec (by first | assumption | omega | (simp (disch := first | assumption | omega | (with_reducible rfl) | (simp only [go_sem]; done) | (simp only [go_sem]; omega) | fail) only [↓reduceIte, ↓jn_eq, Nat.reduceAdd, go_sem, Bool.not_true, Bool.not_false, ad]; done) | (simp (disch := first | assumption | omega | (with_reducible rfl) | (simp only [go_sem]; done) | (simp only [go_sem]; omega) | fail) only [↓reduceIte, ↓jn_eq, Nat.reduceAdd, go_sem, Bool.not_true, Bool.not_false, ad]; omega)) _ _).trans ?_ | refine (ite_ndec (by first | assumption | omega | (simp (disch := first | assumption | omega | (with_reducible rfl) | (simp only [go_sem]; done) | (simp only [go_sem]; omega) | fail) only [↓reduceIte, ↓jn_eq, Nat.reduceAdd, go_sem, Bool.not_true, Bool.not_false, ad]; done) | (simp (disch := first | assumption | omega | (with_reducible rfl) | (simp only [go_sem]; done) | (simp only [go_sem]; omega) | fail) only [↓reduceIte, ↓jn_eq, Nat.reduceAdd, go_sem, Bool.not_true, Bool.not_false, ad]; omega)) _ _).trans ?_ | fail)
   rfl
 | succ m ih =>
   intro i hi
   have h : i < l.length := by omega
   have hx : (l.map fun (v : Int) => V.int .i64 v)[i]? = some (V.int .i64 l[i]) := by simp [h]
   have hb := hn _ (List.getElem_mem h)
   have it := aps_itoa hb.1 hb.2 []
   have hwl := wordsI_len (l.take i)
   have htl : (l.take i).length ≤ 1000 := by rw [List.length_take]; omega
   have dl := itoa_len l[i]
   have ih' := ih (i + 1) (by omega)
   rw [← List.take_append_getElem h, wordsI_snoc] at ih'
   have a1 : bin .add (.str [32]) (.str (itoaV l[i])) = some (.str (32 :: itoaV l[i])) := s_add [32] _ (by simp; omega)
   have a2 : bin .add (.str (w ++ wordsI (l.take i))) (.str (32 :: itoaV l[i])) = some (.str (w ++ (wordsI (l.take i) ++ 32 :: itoaV l[i]))) := by
    rw [← List.append_assoc]; exact s_add _ _ (by simp; omega)
   rw [← ih', f34_l0_eq]
   clear ih ih'
   generalize w ++ (wordsI (l.take i) ++ 32 :: itoaV l[i]) = y at *
   generalize w ++ wordsI (l.take i) = x at *
   generalize 32 :: itoaV l[i] = z at *
   generalize itoaV l[i] = d at *
   generalize l[i] = k at *
   (repeat' with_reducible first | refine (ite_T _ _).trans ?_ | refine (ite_F _ _).trans ?_ | refine (jn_eq _ _).trans ?_ | refine (bstep (by first | rfl | (simp (disch := first | assumption | omega | (with_reducible rfl) | (simp only [go_sem]; done) | (simp only [go_sem]; omega) | fail) only [↓reduceIte, ↓jn_eq, Nat.reduceAdd, go_sem, Bool.not_true, Bool.not_false, hx, it, a1, a2]; rfl)) _).trans ?_ | refine (if_pos (by first | rfl | (simp (disch := first | assumption | omega | (with_reducible rfl) | (simp only [go_sem]; done) | (simp only [go_sem]; omega) | fail) only [↓reduceIte, ↓jn_eq, Nat.reduceAdd, go_sem, Bool.not_true, Bool.not_false, hx, it, a1, a2]; done))).trans ?_ | refine (ite_dec (by first | assumption | omega | (simp (disch := first | assumption | omega | (with_reducible rfl) | (simp only [go_sem]; done) | (simp only [go_sem]; omega) | fail) only [↓reduceIte, ↓jn_eq, Nat.reduceAdd, go_sem, Bool.not_true, Bool.not_false, hx, it, a1, a2]; done) | (simp (disch := first | assumption | omega | (with_reducible rfl) | (simp only [go_sem]; done) | (simp only [go_sem]; omega) | fail) only [↓reduceIte, ↓jn_eq, Nat.reduceAdd, go_sem, Bool.not_true, Bool.not_false, hx, it, a1, a2]; omega)) _ _).trans ?_ | refine (ite_ndec (by first | assumption | omega | (simp (disch := first | assumption | omega | (with_reducible rfl) | (simp only [go_sem]; done) | (simp only [go_sem]; omega) | fail) only [↓reduceIte, ↓jn_eq, Nat.reduceAdd, go_sem, Bool.not_true, Bool.not_false, hx, it, a1, a2]; done) | (simp (disch := first | assumption | omega | (with_reducible rfl) | (simp only [go_sem]; done) | (simp only [go_sem]; omega) | fail) only [↓reduceIte, ↓jn_eq, Nat.reduceAdd, go_sem, Bool.not_true, Bool.not_false, hx, it, a1, a2]; omega)) _ _).trans ?_ | fail)
   rfl
theorem lineI_am {w : List UInt8} (hw : w.length ≤ 3000) {l : List Int} (hn : ∀ n ∈ l, -1000000000000000000 ≤ n ∧ n ≤ 1000000000000000000) (hl : l.length ≤ 1000) : Cl 34 [.str w, vInts .sh l] [] = some (.str (lineI w l), []) := by
 have h := line_l0 hw hn hl l.length 0 (by omega)
 rw [List.take_zero, show wordsI [] = [] from rfl, List.append_nil] at h
 simp only [c0] at h
 rw [← h, f34_eq]
 (repeat' with_reducible first | refine (ite_T _ _).trans ?_ | refine (ite_F _ _).trans ?_ | refine (jn_eq _ _).trans ?_ | refine (bstep (by first | rfl | (simp (disch := first | assumption | omega | (with_reducible rfl) | (simp only [go_sem]; done) | (simp only [go_sem]; omega) | fail) only [↓reduceIte, ↓jn_eq, Nat.reduceAdd, go_sem, Bool.not_true, Bool.not_false]; rfl)) _).trans ?_ | refine (if_pos (by first | rfl | (simp (disch := first | assumption | omega | (with_reducible rfl) | (simp only [go_sem]; done) | (simp only [go_sem]; omega) | fail) only [↓reduceIte, ↓jn_eq, Nat.reduceAdd, go_sem, Bool.not_true, Bool.not_false]; done))).trans ?_ | refine (ite_dec (by first | assumption | omega | (simp (disch := first | assumption | omega | (with_reducible rfl) | (simp only [go_sem]; done) | (simp only [go_sem]; omega) | fail) only [↓reduceIte, ↓jn_eq, Nat.reduceAdd, go_sem, Bool.not_true, Bool.not_false]; done) | (simp (disch := first | assumption | omega | (with_reducible rfl) | (simp only [go_sem]; done) | (simp only [go_sem]; omega) | fail) only [↓reduceIte, ↓jn_eq, Nat.reduceAdd, go_sem, Bool.not_true, Bool.not_false]; omega)) _ _).trans ?_ | refine (ite_ndec (by first | assumption | omega | (simp (disch := first | assumption | omega | (with_reducible rfl) | (simp only [go_sem]; done) | (simp only [go_sem]; omega) | fail) only [↓reduceIte, ↓jn_eq, Nat.reduceAdd, go_sem, Bool.not_true, Bool.not_false]; done) | (simp (disch := first | assumption | omega | (with_reducible rfl) | (simp only [go_sem]; done) | (simp only [go_sem]; omega) | fail) only [↓reduceIte, ↓jn_eq, Nat.reduceAdd, go_sem, Bool.not_true, Bool.not_false]; omega)) _ _).trans ?_ | fail)
 rfl
def wordsB (ns : List Nat) : List UInt8 := ns.flatMap fun n => 32 :: decB n
def lineB (w : List UInt8) (ns : List Nat) : List UInt8 := w ++ wordsB ns ++ [10]
abbrev vNats (f : Fl) (ns : List Nat) : V := .lst 3 f (ns.map fun (v : Nat) => V.int .i64 (v : Int))
theorem wordsI_nat (ns : List Nat) : wordsI (ns.map fun (n : Nat) => (n : Int)) = wordsB ns := by
 simp only [wordsI, wordsB, List.flatMap_map, itoa_nat]
theorem vInts_nat (f : Fl) (ns : List Nat) : vInts f (ns.map fun (n : Nat) => (n : Int)) = vNats f ns := by
 simp only [vInts, List.map_map]; rfl
theorem wordsB_len (ns : List Nat) : (wordsB ns).length ≤ 21 * ns.length := by
 induction ns with
 | nil => simp [wordsB]
 | cons n ns ih =>
   have := decB_len n
   simp only [wordsB, List.flatMap_cons, List.length_append, List.length_cons] at ih ⊢
   omega
theorem lineB_len (w : List UInt8) (ns : List Nat) : (lineB w ns).length ≤ w.length + 21 * ns.length + 1 := by
 have := wordsB_len ns
 simp only [lineB, List.length_append, List.length_cons, List.length_nil]; omega
theorem line_am {w : List UInt8} (hw : w.length ≤ 3000) {ns : List Nat} (hn : ∀ n ∈ ns, n ≤ 1000000000) (hl : ns.length ≤ 1000) : Cl 34 [.str w, vNats .sh ns] [] = some (.str (lineB w ns), []) := by
 have := lineI_am hw (l := ns.map fun (n : Nat) => (n : Int)) (by
  intro n h
  obtain ⟨m, h1, rfl⟩ := List.mem_map.1 h
  have := hn m h1; omega) (by simpa using hl)
 rw [lineI, wordsI_nat, vInts_nat] at this
 exact this
def edgeW : List UInt8 := [101, 100, 103, 101]
def graphW : List UInt8 := [103, 114, 97, 112, 104]
def edgeB (e : E0) : List UInt8 := lineB edgeW [e.fr.toNat, e.to.toNat, e.w.toNat]
def showB (m : Grf) : List UInt8 := lineB graphW [m.n.toNat] ++ m.es.flatMap edgeB
theorem edgeB_len (e : E0) : (edgeB e).length ≤ 68 := by
 have := lineB_len edgeW [e.fr.toNat, e.to.toNat, e.w.toNat]
 simp only [edgeW, List.length_cons, List.length_nil] at this
 rw [edgeB]; simp only [edgeW]; omega
theorem edgesB_len (es : List E0) : (es.flatMap edgeB).length ≤ 68 * es.length := by
 induction es with
 | nil => simp
 | cons e es ih =>
   have := edgeB_len e
   rw [List.flatMap_cons, List.length_append, List.length_cons]; omega
theorem show_l0 {es : List E0} (hl : es.length ≤ 512) (hb : ∀ e ∈ es, 0 ≤ e.fr ∧ e.fr ≤ 64 ∧ 0 ≤ e.to ∧ e.to ≤ 64 ∧ 0 ≤ e.w ∧ e.w ≤ 1048576) {p : List UInt8} (hp : p.length ≤ 1000) (a b : V) : ∀ (n i : Nat), i + n = es.length →
 f22_l0 (.str (p ++ (es.take i).flatMap edgeB)) (.lst 45 .sh (es.map vE0)) (.int .i64 (es.length : Int)) (.int .i64 (i : Int)) [a, b] = some (.tup [.str (p ++ es.flatMap edgeB), .int .i64 0], []) := by
 intro n
 induction n with
 | zero =>
   intro i hi
   rw [List.take_of_length_le (by omega), f22_l0_eq]
   generalize p ++ es.flatMap edgeB = x at *
   (repeat' with_reducible first | refine (ite_T _ _).trans ?_ | refine (ite_F _ _).trans ?_ | refine (jn_eq _ _).trans ?_ | refine (bstep (by first | rfl | (simp (disch := first | assumption | omega | (with_reducible rfl) | (simp only [go_sem]; done) | (simp only [go_sem]; omega) | fail) only [↓reduceIte, ↓jn_eq, Nat.reduceAdd, go_sem, Bool.not_true, Bool.not_false]; rfl)) _).trans ?_ | refine (if_pos (by first | rfl | (simp (disch := first | assumption | omega | (with_reducible rfl) | (simp only [go_sem]; done) | (simp only [go_sem]; omega) | fail) only [↓reduceIte, ↓jn_eq, Nat.reduceAdd, go_sem, Bool.not_true, Bool.not_false]; done))).trans ?_ | refine (ite_dec (by first | assumption | omega | (simp (disch := first | assumption | omega | (with_reducible rfl) | (simp only [go_sem]; done) | (simp only [go_sem]; omega) | fail) only [↓reduceIte, ↓jn_eq, Nat.reduceAdd, go_sem, Bool.not_true, Bool.not_false]; done) | (simp (disch := first | assumption | omega | (with_reducible rfl) | (simp only [go_sem]; done) | (simp only [go_sem]; omega) | fail) only [↓reduceIte, ↓jn_eq, Nat.reduceAdd, go_sem, Bool.not_true, Bool.not_false]; omega)) _ _).trans ?_ | refine (ite_ndec (by first | assumption | omega | (simp (disch := first | assumption | omega | (with_reducible rfl) | (simp only [go_sem]; done) | (simp only [go_sem]; omega) | fail) only [↓reduceIte, ↓jn_eq, Nat.reduceAdd, go_sem, Bool.not_true, Bool.not_false]; done) | (simp (disch := first | assumption | omega | (with_reducible rfl) | (simp only [go_sem]; done) | (simp only [go_sem]; omega) | fail) only [↓reduceIte, ↓jn_eq, Nat.reduceAdd, go_sem, Bool.not_true, Bool.not_false]; omega)) _ _).trans ?_ | fail)
   rfl
 | succ n ih =>
   intro i hi
   have h : i < es.length := by omega
   have hx := E0_at h
   obtain ⟨b1, b2, b3, b4, b5, b6⟩ := hb _ (List.getElem_mem h)
   have hel := edgesB_len (es.take i)
   have htl : (es.take i).length ≤ 512 := by rw [List.length_take]; omega
   have el := edgeB_len es[i]
   have ih' := ih (i + 1) (by omega)
   rw [← List.take_append_getElem h, List.flatMap_append, List.flatMap_cons, List.flatMap_nil, List.append_nil, ← List.append_assoc] at ih'
   have a2 : bin .add (.str (p ++ (es.take i).flatMap edgeB)) (.str (edgeB es[i])) = some (.str (p ++ (es.take i).flatMap edgeB ++ edgeB es[i])) := s_add _ _ (by rw [List.length_append]; omega)
   have ln := line_am (w := edgeW) (by simp [edgeW]) (ns := [es[i].fr.toNat, es[i].to.toNat, es[i].w.toNat]) (by
    intro n hn
    simp only [List.mem_cons, List.not_mem_nil, or_false] at hn
    omega) (by simp)
   rw [← edgeB] at ln
   simp only [vNats, List.map_cons, List.map_nil, show ((es[i].fr.toNat : Nat) : Int) = es[i].fr by omega, show ((es[i].to.toNat : Nat) : Int) = es[i].to by omega, show ((es[i].w.toNat : Nat) : Int) = es[i].w by omega, edgeW] at ln
   rw [← ih', f22_l0_eq]
   clear ih ih'
   generalize p ++ (es.take i).flatMap edgeB ++ edgeB es[i] = y at *
   generalize p ++ (es.take i).flatMap edgeB = x at *
   generalize edgeB es[i] = z at *
   generalize es[i] = e at *
   simp only [vE0] at hx
   (repeat' with_reducible first | refine (ite_T _ _).trans ?_ | refine (ite_F _ _).trans ?_ | refine (jn_eq _ _).trans ?_ | refine (bstep (by first | rfl | (simp (disch := first | assumption | omega | (with_reducible rfl) | (simp only [go_sem]; done) | (simp only [go_sem]; omega) | fail) only [↓reduceIte, ↓jn_eq, Nat.reduceAdd, go_sem, Bool.not_true, Bool.not_false, hx, ln, a2]; rfl)) _).trans ?_ | refine (if_pos (by first | rfl | (simp (disch := first | assumption | omega | (with_reducible rfl) | (simp only [go_sem]; done) | (simp only [go_sem]; omega) | fail) only [↓reduceIte, ↓jn_eq, Nat.reduceAdd, go_sem, Bool.not_true, Bool.not_false, hx, ln, a2]; done))).trans ?_ | refine (ite_dec (by first | assumption | omega | (simp (disch := first | assumption | omega | (with_reducible rfl) | (simp only [go_sem]; done) | (simp only [go_sem]; omega) | fail) only [↓reduceIte, ↓jn_eq, Nat.reduceAdd, go_sem, Bool.not_true, Bool.not_false, hx, ln, a2]; done) | (simp (disch := first | assumption | omega | (with_reducible rfl) | (simp only [go_sem]; done) | (simp only [go_sem]; omega) | fail) only [↓reduceIte, ↓jn_eq, Nat.reduceAdd, go_sem, Bool.not_true, Bool.not_false, hx, ln, a2]; omega)) _ _).trans ?_ | refine (ite_ndec (by first | assumption | omega | (simp (disch := first | assumption | omega | (with_reducible rfl) | (simp only [go_sem]; done) | (simp only [go_sem]; omega) | fail) only [↓reduceIte, ↓jn_eq, Nat.reduceAdd, go_sem, Bool.not_true, Bool.not_false, hx, ln, a2]; done) | (simp (disch := first | assumption | omega | (with_reducible rfl) | (simp only [go_sem]; done) | (simp only [go_sem]; omega) | fail) only [↓reduceIte, ↓jn_eq, Nat.reduceAdd, go_sem, Bool.not_true, Bool.not_false, hx, ln, a2]; omega)) _ _).trans ?_ | fail)
   rfl
theorem Show_am {g : Grf} (hl : g.es.length < 1000000) : Cl 22 [vG .sh g] [] = some (.tup [.str (if chkG g = 0 then showB (normG g) else []), .int .i64 (chkG g)], []) := by
 have nm := Norm_am hl
 by_cases hc : chkG g = 0
 · obtain ⟨⟨g1, g2⟩, g3, g4, g5⟩ := chkG_0 hc
   have hb : ∀ e ∈ srtE g.es, 0 ≤ e.fr ∧ e.fr ≤ 64 ∧ 0 ≤ e.to ∧ e.to ≤ 64 ∧ 0 ≤ e.w ∧ e.w ≤ 1048576 := fun e he => by
    have := odds_in g4 e ((srt_ok hc).1.mem_iff.1 he); omega
   have hsl := srtE_len g.es
   have ln := line_am (w := graphW) (by simp [graphW]) (ns := [g.n.toNat]) (by
    intro n hn
    simp only [List.mem_cons, List.not_mem_nil, or_false] at hn
    omega) (by simp)
   have hg := lineB_len graphW [g.n.toNat]
   simp only [graphW, List.length_cons, List.length_nil] at hg
   have h0 := fun a b => show_l0 (es := srtE g.es) (by omega) hb (p := lineB graphW [g.n.toNat]) (by simp only [graphW]; omega) a b (srtE g.es).length 0 (by omega)
   simp only [List.take_zero, List.flatMap_nil, List.append_nil] at h0
   simp only [normG, if_pos hc] at nm ⊢
   rw [hc] at nm ⊢
   simp only [vNats, List.map_cons, List.map_nil, show ((g.n.toNat : Nat) : Int) = g.n by omega] at ln
   rw [showB]
   simp only [graphW] at ln h0 ⊢
   rw [f22_eq]
   generalize lineB [103, 114, 97, 112, 104] [g.n.toNat] = p at *
   generalize srtE g.es = s at *
   (repeat' with_reducible first | refine (ite_T _ _).trans ?_ | refine (ite_F _ _).trans ?_ | refine (jn_eq _ _).trans ?_ | refine (bstep (by first | rfl | (simp (disch := first | assumption | omega | (with_reducible rfl) | (simp only [go_sem]; done) | (simp only [go_sem]; omega) | fail) only [↓reduceIte, ↓jn_eq, Nat.reduceAdd, go_sem, Bool.not_true, Bool.not_false, nm, ln]; rfl)) _).trans ?_ | refine (if_pos (by first | rfl | (simp (disch := first | assumption | omega | (with_reducible rfl) | (simp only [go_sem]; done) | (simp only [go_sem]; omega) | fail) only [↓reduceIte, ↓jn_eq, Nat.reduceAdd, go_sem, Bool.not_true, Bool.not_false, nm, ln]; done))).trans ?_ | refine (ite_dec (by first | assumption | omega | (simp (disch := first | assumption | omega | (with_reducible rfl) | (simp only [go_sem]; done) | (simp only [go_sem]; omega) | fail) only [↓reduceIte, ↓jn_eq, Nat.reduceAdd, go_sem, Bool.not_true, Bool.not_false, nm, ln]; done) | (simp (disch := first | assumption | omega | (with_reducible rfl) | (simp only [go_sem]; done) | (simp only [go_sem]; omega) | fail) only [↓reduceIte, ↓jn_eq, Nat.reduceAdd, go_sem, Bool.not_true, Bool.not_false, nm, ln]; omega)) _ _).trans ?_ | refine (ite_ndec (by first | assumption | omega | (simp (disch := first | assumption | omega | (with_reducible rfl) | (simp only [go_sem]; done) | (simp only [go_sem]; omega) | fail) only [↓reduceIte, ↓jn_eq, Nat.reduceAdd, go_sem, Bool.not_true, Bool.not_false, nm, ln]; done) | (simp (disch := first | assumption | omega | (with_reducible rfl) | (simp only [go_sem]; done) | (simp only [go_sem]; omega) | fail) only [↓reduceIte, ↓jn_eq, Nat.reduceAdd, go_sem, Bool.not_true, Bool.not_false, nm, ln]; omega)) _ _).trans ?_ | fail)
   exact h0 _ _
 · rw [if_neg hc, f22_eq]
   generalize chkG g = e at *
   generalize normG g = m at *
   (repeat' with_reducible first | refine (ite_T _ _).trans ?_ | refine (ite_F _ _).trans ?_ | refine (jn_eq _ _).trans ?_ | refine (bstep (by first | rfl | (simp (disch := first | assumption | omega | (with_reducible rfl) | (simp only [go_sem]; done) | (simp only [go_sem]; omega) | fail) only [↓reduceIte, ↓jn_eq, Nat.reduceAdd, go_sem, Bool.not_true, Bool.not_false, nm]; rfl)) _).trans ?_ | refine (if_pos (by first | rfl | (simp (disch := first | assumption | omega | (with_reducible rfl) | (simp only [go_sem]; done) | (simp only [go_sem]; omega) | fail) only [↓reduceIte, ↓jn_eq, Nat.reduceAdd, go_sem, Bool.not_true, Bool.not_false, nm]; done))).trans ?_ | refine (ite_dec (by first | assumption | omega | (simp (disch := first | assumption | omega | (with_reducible rfl) | (simp only [go_sem]; done) | (simp only [go_sem]; omega) | fail) only [↓reduceIte, ↓jn_eq, Nat.reduceAdd, go_sem, Bool.not_true, Bool.not_false, nm]; done) | (simp (disch := first | assumption | omega | (with_reducible rfl) | (simp only [go_sem]; done) | (simp only [go_sem]; omega) | fail) only [↓reduceIte, ↓jn_eq, Nat.reduceAdd, go_sem, Bool.not_true, Bool.not_false, nm]; omega)) _ _).trans ?_ | refine (ite_ndec (by first | assumption | omega | (simp (disch := first | assumption | omega | (with_reducible rfl) | (simp only [go_sem]; done) | (simp only [go_sem]; omega) | fail) only [↓reduceIte, ↓jn_eq, Nat.reduceAdd, go_sem, Bool.not_true, Bool.not_false, nm]; done) | (simp (disch := first | assumption | omega | (with_reducible rfl) | (simp only [go_sem]; done) | (simp only [go_sem]; omega) | fail) only [↓reduceIte, ↓jn_eq, Nat.reduceAdd, go_sem, Bool.not_true, Bool.not_false, nm]; omega)) _ _).trans ?_ | fail)
   rfl
end Go.Proofs.YtaghnpjlhmgioaaDoor
end

section
set_option maxRecDepth 100000
set_option linter.unusedVariables false
namespace Go.Proofs.YtaghnpjlhmgioaaDoor
open Go AM
noncomputable def f53n_l1 (t0 t1 t5 t6 t7 t8 t9 t10 : V) : Rv := lp W 53 1 (cd 53 2303) (bk 1 (sk 53 0 1023 (lv 53 0))) ⟨[(0, t0), (1, t1), (5, t5), (6, t6), (7, t7), (8, t8), (9, t9), (10, t10)], []⟩
theorem f53n_eq (t0 t1 : V) : Cl 53 [t0, t1] [] =
 (lnS t1).bind fun t15_1 => jn (fun t16_2 =>
 V.ite t16_2
  (finT 0 [] (V.int .i64 0))
  ((bin .eql t15_1 (V.int .i64 1)).bind fun t26_3 => V.ite t26_3
  ((ixT t1 (V.int .i64 0)).bind fun t29_4 => (Cl 68 (reifyL [] [t0, t29_4]) []).bind fun r_5 => finT 0 [] r_5.1)
  ((lnS t0).bind fun t34_6 => (bin .geq t15_1 t34_6).bind fun t35_7 => V.ite t35_7
  (finT 0 [] (V.int .i64 (-1)))
  (jn (fun t36_8 =>
 V.ite t36_8
  ((Cl 69 (reifyL [] [t0, t1]) []).bind fun r_9 => finT 0 [] r_9.1)
  ((ixT t1 (V.int .i64 0)).bind fun t49_10 => (ixT t1 (V.int .i64 1)).bind fun t51_11 => (lnS t0).bind fun t53_12 => (bin .sub t53_12 t15_1).bind fun t55_13 => (bin .add t55_13 (V.int .i64 1)).bind fun t56_14 => f53n_l1 t0 t1 t15_1 t49_10 t51_11 (V.int .i64 0) t56_14 (V.int .i64 0))) (fun (k_57 : V → Rv) => (ldP [] 3 V.undef).bind fun t38_58 => (bin .leq t15_1 t38_58).bind fun t39_59 => V.ite t39_59 ((lnS t0).bind fun t42_60 => (bin .leq t42_60 (V.int .i64 64)).bind fun t43_61 => k_57 t43_61) (k_57 (V.bool false))))))) (fun (k_62 : V → Rv) => (bin .eql t15_1 (V.int .i64 0)).bind fun t18_63 => V.ite t18_63 (k_62 (V.bool true)) ((bin .eql t1 t0).bind fun t22_64 => k_62 t22_64)) :=
 f_eq (by kernel_rfl)
end Go.Proofs.YtaghnpjlhmgioaaDoor
end

section
set_option linter.unusedVariables false
set_option linter.unusedSimpArgs false
set_option linter.unusedSectionVars false
set_option maxRecDepth 100000
namespace Go.Proofs.YtaghnpjlhmgioaaDoor
open Go AM
theorem ixB_app : ∀ (a b : List UInt8) (c : UInt8), c ∉ a → Lib.indexByte (a ++ c :: b) c = (a.length : Int)
 | [], b, c, _ => by simp [Lib.indexByte]
 | x :: a, b, c, h => by
   have h1 : ¬ (x == c) = true := fun e => h (by rw [beq_iff_eq] at e; rw [e]; exact List.mem_cons_self)
   have ih := ixB_app a b c (fun hm => h (List.mem_cons_of_mem _ hm))
   rw [List.cons_append, Lib.indexByte, if_neg h1, ih, if_neg (by rw [beq_iff_eq]; omega), List.length_cons]
   omega
theorem ixB_none : ∀ (a : List UInt8) (c : UInt8), c ∉ a → Lib.indexByte a c = -1
 | [], c, _ => rfl
 | x :: a, c, h => by
   have h1 : ¬ (x == c) = true := fun e => h (by rw [beq_iff_eq] at e; rw [e]; exact List.mem_cons_self)
   have ih := ixB_none a c (fun hm => h (List.mem_cons_of_mem _ hm))
   rw [Lib.indexByte, if_neg h1, ih]; rfl
theorem nat_u8 (c : UInt8) : ((c.toNat : Int).toNat).toUInt8 = c := by simp
theorem ib_am (s : List UInt8) (c : UInt8) : Cl 68 [.str s, .int .u8 (c.toNat : Int)] [] = some (.int .i64 (Lib.indexByte s c), []) := by
 rw [f68_eq]
 simp only [mnz, natI, nat_u8]
 rfl
theorem idx_am (s : List UInt8) (c : UInt8) : Cl 53 [.str s, .str [c]] [] = some (.int .i64 (Lib.indexByte s c), []) := by
 have ib := ib_am s c
 have x0 : ixT (.str [c]) (.int .i64 0) = some (.int .u8 (c.toNat : Int)) := rfl
 have l1 : lnS (.str [c]) = some (.int .i64 1) := rfl
 rw [f53n_eq]
 by_cases hs : [c] = s
 · have e : bin .eql (.str [c]) (.str s) = some (.bool true) := by rw [hs]; simp [bin]
   have e2 : Lib.indexByte s c = 0 := by rw [← hs]; simp [Lib.indexByte]
   rw [e2]
   (repeat' with_reducible first | refine (ite_T _ _).trans ?_ | refine (ite_F _ _).trans ?_ | refine (jn_eq _ _).trans ?_ | refine (bstep (by first | rfl | (simp (disch := first | assumption | omega | (with_reducible rfl) | (simp only [go_sem]; done) | (simp only [go_sem]; omega) | fail) only [↓reduceIte, ↓jn_eq, Nat.reduceAdd, go_sem, Bool.not_true, Bool.not_false, l1, e]; rfl)) _).trans ?_ | refine (if_pos (by first | rfl | (simp (disch := first | assumption | omega | (with_reducible rfl) | (simp only [go_sem]; done) | (simp only [go_sem]; omega) | fail) only [↓reduceIte, ↓jn_eq, Nat.reduceAdd, go_sem, Bool.not_true, Bool.not_false, l1, e]; done))).trans ?_ | refine (ite_dec (by first | assumption | omega | (simp (disch := first | assumption | omega | (with_reducible rfl) | (simp only [go_sem]; done) | (simp only [go_sem]; omega) | fail) only [↓reduceIte, ↓jn_eq, Nat.reduceAdd, go_sem, Bool.not_true, Bool.not_false, l1, e]; done) | (simp (disch := first | assumption | omega | (with_reducible rfl) | (simp only [go_sem]; done) | (simp only [go_sem]; omega) | fail) only [↓reduceIte, ↓jn_eq, Nat.reduceAdd, go_sem, Bool.not_true, Bool.not_false, l1, e]; omega)) _ _).trans ?_ | refine (ite_ndec (by first | assumption | omega | (simp (disch := first | assumption | omega | (with_reducible rfl) | (simp only [go_sem]; done) | (simp only [go_sem]; omega) | fail) only [↓reduceIte, ↓jn_eq, Nat.reduceAdd, go_sem, Bool.not_true, Bool.not_false, l1, e]; done) | (simp (disch := first | assumption | omega | (with_reducible rfl) | (simp only [go_sem]; done) | (simp only [go_sem]; omega) | fail) only [↓reduceIte, ↓jn_eq, Nat.reduceAdd, go_sem, Bool.not_true, Bool.not_false, l1, e]; omega)) _ _).trans ?_ | fail)
   rfl
 · have e : bin .eql (.str [c]) (.str s) = some (.bool false) := by simp [bin, hs]
   (repeat' with_reducible first | refine (ite_T _ _).trans ?_ | refine (ite_F _ _).trans ?_ | refine (jn_eq _ _).trans ?_ | refine (bstep (by first | rfl | (simp (disch := first | assumption | omega | (with_reducible rfl) | (simp only [go_sem]; done) | (simp only [go_sem]; omega) | fail) only [↓reduceIte, ↓jn_eq, Nat.reduceAdd, go_sem, Bool.not_true, Bool.not_false, l1, e, x0, ib]; rfl)) _).trans ?_ | refine (if_pos (by first | rfl | (simp (disch := first | assumption | omega | (with_reducible rfl) | (simp only [go_sem]; done) | (simp only [go_sem]; omega) | fail) only [↓reduceIte, ↓jn_eq, Nat.reduceAdd, go_sem, Bool.not_true, Bool.not_false, l1, e, x0, ib]; done))).trans ?_ | refine (ite_dec (by first | assumption | omega | (simp (disch := first | assumption | omega | (with_reducible rfl) | (simp only [go_sem]; done) | (simp only [go_sem]; omega) | fail) only [↓reduceIte, ↓jn_eq, Nat.reduceAdd, go_sem, Bool.not_true, Bool.not_false, l1, e, x0, ib]; done) | (simp (disch := first | assumption | omega | (with_reducible rfl) | (simp only [go_sem]; done) | (simp only [go_sem]; omega) | fail) only [↓reduceIte, ↓jn_eq, Nat.reduceAdd, go_sem, Bool.not_true, Bool.not_false, l1, e, x0, ib]; omega)) _ _).trans ?_ | refine (ite_ndec (by first | assumption | omega | (simp (disch := first | assumption | omega | (with_reducible rfl) | (simp only [go_sem]; done) | (simp only [go_sem]; omega) | fail) only [↓reduceIte, ↓jn_eq, Nat.reduceAdd, go_sem, Bool.not_true, Bool.not_false, l1, e, x0, ib]; done) | (simp (disch := first | assumption | omega | (with_reducible rfl) | (simp only [go_sem]; done) | (simp only [go_sem]; omega) | fail) only [↓reduceIte, ↓jn_eq, Nat.reduceAdd, go_sem, Bool.not_true, Bool.not_false, l1, e, x0, ib]; omega)) _ _).trans ?_ | fail)
   rfl
theorem sindex_am (s : List UInt8) (c : UInt8) : Cl 74 [.str s, .str [c]] [] = some (.int .i64 (Lib.indexByte s c), []) := by
 have ix := idx_am s c
 rw [f74_eq]
 (repeat' with_reducible first | refine (ite_T _ _).trans ?_ | refine (ite_F _ _).trans ?_ | refine (jn_eq _ _).trans ?_ | refine (bstep (by first | rfl | (simp (disch := first | assumption | omega | (with_reducible rfl) | (simp only [go_sem]; done) | (simp only [go_sem]; omega) | fail) only [↓reduceIte, ↓jn_eq, Nat.reduceAdd, go_sem, Bool.not_true, Bool.not_false, ix]; rfl)) _).trans ?_ | refine (if_pos (by first | rfl | (simp (disch := first | assumption | omega | (with_reducible rfl) | (simp only [go_sem]; done) | (simp only [go_sem]; omega) | fail) only [↓reduceIte, ↓jn_eq, Nat.reduceAdd, go_sem, Bool.not_true, Bool.not_false, ix]; done))).trans ?_ | refine (ite_dec (by first | assumption | omega | (simp (disch := first | assumption | omega | (with_reducible rfl) | (simp only [go_sem]; done) | (simp only [go_sem]; omega) | fail) only [↓reduceIte, ↓jn_eq, Nat.reduceAdd, go_sem, Bool.not_true, Bool.not_false, ix]; done) | (simp (disch := first | assumption | omega | (with_reducible rfl) | (simp only [go_sem]; done) | (simp only [go_sem]; omega) | fail) only [↓reduceIte, ↓jn_eq, Nat.reduceAdd, go_sem, Bool.not_true, Bool.not_false, ix]; omega)) _ _).trans ?_ | refine (ite_ndec (by first | assumption | omega | (simp (disch := first | assumption | omega | (with_reducible rfl) | (simp only [go_sem]; done) | (simp only [go_sem]; omega) | fail) only [↓reduceIte, ↓jn_eq, Nat.reduceAdd, go_sem, Bool.not_true, Bool.not_false, ix]; done) | (simp (disch := first | assumption | omega | (with_reducible rfl) | (simp only [go_sem]; done) | (simp only [go_sem]; omega) | fail) only [↓reduceIte, ↓jn_eq, Nat.reduceAdd, go_sem, Bool.not_true, Bool.not_false, ix]; omega)) _ _).trans ?_ | fail)
 rfl
theorem cut_am {a b : List UInt8} {c : UInt8} (hc : c ∉ a) (hl : (a ++ c :: b).length ≤ 1000000) : Cl 35 [.str (a ++ c :: b), .str [c]] [] = some (.tup [.str a, .str b, .bool true], []) := by
 have ix := idx_am (a ++ c :: b) c
 rw [ixB_app a b c hc] at ix
 have s1 : slT (.str (a ++ c :: b)) none (some (.int .i64 (a.length : Int))) = some (.str a) := by
  rw [slT_hi (by simp)]; simp
 have s2 : slT (.str (a ++ c :: b)) (some (.int .i64 ((a.length + 1 : Nat) : Int))) none = some (.str b) := by
  rw [slT_lo (by simp)]
  rw [show a ++ c :: b = (a ++ [c]) ++ b by simp, List.drop_left' (by simp)]
 have l1 : lnS (.str [c]) = some (.int .i64 1) := rfl
 have ad : bin .add (.int .i64 (a.length : Int)) (.int .i64 1) = some (.int .i64 ((a.length + 1 : Nat) : Int)) := by
  have : a.length ≤ 1000000 := by simp at hl; omega
  rw [b_add, wrap_i64 (by omega) (by omega)]; rfl
 have h45 : Cl 45 [.str (a ++ c :: b), .str [c]] [] = some (.tup [.str a, .str b, .bool true], []) := by
  rw [f45_eq]
  generalize a ++ c :: b = s at *
  (repeat' with_reducible first | refine (ite_T _ _).trans ?_ | refine (ite_F _ _).trans ?_ | refine (jn_eq _ _).trans ?_ | refine (bstep (by first | rfl | (simp (disch := first | assumption | omega | (with_reducible rfl) | (simp only [go_sem]; done) | (simp only [go_sem]; omega) | fail) only [↓reduceIte, ↓jn_eq, Nat.reduceAdd, go_sem, Bool.not_true, Bool.not_false, ix, s1, s2, l1, ad]; rfl)) _).trans ?_ | refine (if_pos (by first | rfl | (simp (disch := first | assumption | omega | (with_reducible rfl) | (simp only [go_sem]; done) | (simp only [go_sem]; omega) | fail) only [↓reduceIte, ↓jn_eq, Nat.reduceAdd, go_sem, Bool.not_true, Bool.not_false, ix, s1, s2, l1, ad]; done))).trans ?_ | refine (ite_dec (by first | assumption | omega | (simp (disch := first | assumption | omega | (with_reducible rfl) | (simp only [go_sem]; done) | (simp only [go_sem]; omega) | fail) only [↓reduceIte, ↓jn_eq, Nat.reduceAdd, go_sem, Bool.not_true, Bool.not_false, ix, s1, s2, l1, ad]; done) | (simp (disch := first | assumption | omega | (with_reducible rfl) | (simp only [go_sem]; done) | (simp only [go_sem]; omega) | fail) only [↓reduceIte, ↓jn_eq, Nat.reduceAdd, go_sem, Bool.not_true, Bool.not_false, ix, s1, s2, l1, ad]; omega)) _ _).trans ?_ | refine (ite_ndec (by first | assumption | omega | (simp (disch := first | assumption | omega | (with_reducible rfl) | (simp only [go_sem]; done) | (simp only [go_sem]; omega) | fail) only [↓reduceIte, ↓jn_eq, Nat.reduceAdd, go_sem, Bool.not_true, Bool.not_false, ix, s1, s2, l1, ad]; done) | (simp (disch := first | assumption | omega | (with_reducible rfl) | (simp only [go_sem]; done) | (simp only [go_sem]; omega) | fail) only [↓reduceIte, ↓jn_eq, Nat.reduceAdd, go_sem, Bool.not_true, Bool.not_false, ix, s1, s2, l1, ad]; omega)) _ _).trans ?_ | fail)
  rfl
 rw [f35_eq]
 generalize a ++ c :: b = s at *
 (repeat' with_reducible first | refine (ite_T _ _).trans ?_ | refine (ite_F _ _).trans ?_ | refine (jn_eq _ _).trans ?_ | refine (bstep (by first | rfl | (simp (disch := first | assumption | omega | (with_reducible rfl) | (simp only [go_sem]; done) | (simp only [go_sem]; omega) | fail) only [↓reduceIte, ↓jn_eq, Nat.reduceAdd, go_sem, Bool.not_true, Bool.not_false, h45]; rfl)) _).trans ?_ | refine (if_pos (by first | rfl | (simp (disch := first | assumption | omega | (with_reducible rfl) | (simp only [go_sem]; done) | (simp only [go_sem]; omega) | fail) only [↓reduceIte, ↓jn_eq, Nat.reduceAdd, go_sem, Bool.not_true, Bool.not_false, h45]; done))).trans ?_ | refine (ite_dec (by first | assumption | omega | (simp (disch := first | assumption | omega | (with_reducible rfl) | (simp only [go_sem]; done) | (simp only [go_sem]; omega) | fail) only [↓reduceIte, ↓jn_eq, Nat.reduceAdd, go_sem, Bool.not_true, Bool.not_false, h45]; done) | (simp (disch := first | assumption | omega | (with_reducible rfl) | (simp only [go_sem]; done) | (simp only [go_sem]; omega) | fail) only [↓reduceIte, ↓jn_eq, Nat.reduceAdd, go_sem, Bool.not_true, Bool.not_false, h45]; omega)) _ _).trans ?_ | refine (ite_ndec (by first | assumption | omega | (simp (disch := first | assumption | omega | (with_reducible rfl) | (simp only [go_sem]; done) | (simp only [go_sem]; omega) | fail) only [↓reduceIte, ↓jn_eq, Nat.reduceAdd, go_sem, Bool.not_true, Bool.not_false, h45]; done) | (simp (disch := first | assumption | omega | (with_reducible rfl) | (simp only [go_sem]; done) | (simp only [go_sem]; omega) | fail) only [↓reduceIte, ↓jn_eq, Nat.reduceAdd, go_sem, Bool.not_true, Bool.not_false, h45]; omega)) _ _).trans ?_ | fail)
 rfl
theorem plL_strs' (l : List (List UInt8)) : plL (l.map V.str) = true := plL_map (fun _ => rfl) l
def joinS : List (List UInt8) → List UInt8
 | [] => []
 | [p] => p
 | p :: q :: r => p ++ 32 :: joinS (q :: r)
theorem joinS_cnt : ∀ (ps : List (List UInt8)), ps ≠ [] → (∀ p ∈ ps, (32 : UInt8) ∉ p) → (joinS ps).count 32 + 1 = ps.length
 | [], h, _ => absurd rfl h
 | [p], _, h => by rw [joinS, List.count_eq_zero.2 (h p (by simp))]; rfl
 | p :: q :: r, _, h => by
   have ih := joinS_cnt (q :: r) (by simp) (fun x hx => h x (List.mem_cons_of_mem _ hx))
   rw [joinS, List.count_append, List.count_cons_self, List.count_eq_zero.2 (h p (by simp)), List.length_cons, ← ih]; omega
abbrev rowS (xs : List V) : V := .row 9 xs
theorem split_l0 {K : Nat} (hK : K ≤ 100000) : ∀ (ps : List (List UInt8)) (i : Nat) (done : List (List UInt8)) (rest : List V), ps ≠ [] → (∀ p ∈ ps, (32 : UInt8) ∉ p) → (joinS ps).length ≤ 100000 → i + ps.length = K → done.length = i → rest.length = ps.length →
 f54_l0 (.str (joinS ps)) (.str [32]) (.int .i64 0) (.int .i64 ((K - 1 : Nat) : Int)) (.win 0 [] 0 K 9) (.int .i64 (i : Int)) [rowS (done.map V.str ++ rest)] = some (.lst 9 .sh ((done ++ ps).map V.str), []) := by
 intro ps
 induction ps with
 | nil => intro i done rest h; exact absurd rfl h
 | cons p ps ih =>
   intro i done rest _ hp hj hi hd hr
   obtain ⟨y, ys, rfl⟩ : ∃ y ys, rest = y :: ys := by
    cases rest with
    | nil => simp at hr
    | cons y ys => exact ⟨y, ys, rfl⟩
   rw [List.length_cons, List.length_cons] at hr
   rw [List.length_cons] at hi
   have hset : (done.map V.str ++ y :: ys).set i (.str p) = (done ++ [p]).map V.str ++ ys := by
    rw [List.set_append_right _ _ (by simp; omega)]
    simp [hd]
   have hlen : (done.map V.str ++ y :: ys).length = K := by simp; omega
   have xx : ixS 9 (V.weak (.win 0 [] 0 K 9)) (.int .i64 (i : Int)) = some (.ref 0 [i] 9) := by
    have hin : inside (i : Int) K = true := by simp only [inside, Bool.and_eq_true, decide_eq_true_eq]; omega
    simp only [V.weak, ixS, hin, Int.toNat_natCast, decide_true, Bool.and_self, if_true, List.nil_append, Nat.zero_add]
   have st : stT AM.tyS 9 [rowS (done.map V.str ++ y :: ys)] (.ref 0 [i] 9) (.str p) = some [rowS ((done ++ [p]).map V.str ++ ys)] := by
    rw [stT_p rfl rfl]
    simp only [List.getElem?_cons_zero, Option.bind_some]
    rw [upd_1r (by omega), hset]; rfl
   have ad : bin .add (.int .i64 (i : Int)) (.int .i64 1) = some (.int .i64 ((i + 1 : Nat) : Int)) := by
    rw [b_add, wrap_i64 (by omega) (by omega)]; rfl
   cases ps with
   | nil =>
     obtain rfl : ys = [] := by
      rw [List.length_nil] at hr
      exact List.length_eq_zero_iff.1 (by omega)
     have hi' : i + 1 = K := by simpa using hi
     have ls : bin .lss (.int .i64 (i : Int)) (.int .i64 ((K - 1 : Nat) : Int)) = some (.bool false) := by rw [b_lss, decide_eq_false (by omega)]
     have sl : slL 9 (.win 0 [] 0 K 9) none (some (.int .i64 ((i + 1 : Nat) : Int))) none = some (.win 0 [] 0 K 9) := by
      rw [hi']; simp [slL, bounds]
     have ct : content [rowS ((done ++ [p]).map V.str)] (.win 0 [] 0 K 9) = some ((done ++ [p]).map V.str) := by
      simp only [content, rd, List.getElem?_cons_zero, Option.bind_some, V.at, V.items, Option.map_some, List.drop_zero]
      rw [List.take_of_length_le (by simp; omega)]
     have pl : plL ((done ++ [p]).map V.str) = true := plL_strs' _
     have fn : finT 0 [rowS ((done ++ [p]).map V.str)] (.win 0 [] 0 K 9) = some (.lst 9 .sh ((done ++ [p]).map V.str), []) := by
      have u : V.unmut [rowS ((done ++ [p]).map V.str)] (.win 0 [] 0 K 9) = .lst 9 .sh ((done ++ [p]).map V.str) := by
       simp only [V.unmut, ct, cleanL_pl pl, normL_pl pl, if_true]
      simp only [finT, u]; rfl
     rw [joinS, f54_l0_eq]
     rw [List.append_nil] at st
     generalize (done ++ [p]).map V.str = L at *
     generalize done.map V.str ++ [y] = M at *
     refine (bstep ls _).trans ?_
     rw [ite_F]
     refine (bstep xx _).trans ?_
     refine (bstep st _).trans ?_
     refine (bstep ad _).trans ?_
     refine (bstep sl _).trans ?_
     exact fn
   | cons q r =>
     have h32 : (32 : UInt8) ∉ p := hp p List.mem_cons_self
     rw [joinS] at hj ⊢
     have hjl : (p ++ 32 :: joinS (q :: r)).length = p.length + (joinS (q :: r)).length + 1 := by simp; omega
     have ix := sindex_am (p ++ 32 :: joinS (q :: r)) 32
     rw [ixB_app _ _ _ h32] at ix
     have ih' := ih (i + 1) (done ++ [p]) ys (by simp) (fun x hx => hp x (List.mem_cons_of_mem _ hx)) (by omega) (by simp at hi ⊢; omega) (by simp; omega) (by omega)
     rw [List.append_assoc, List.singleton_append] at ih'
     have ls : bin .lss (.int .i64 (i : Int)) (.int .i64 ((K - 1 : Nat) : Int)) = some (.bool true) := by
      rw [b_lss, decide_eq_true (by simp at hi; omega)]
     have ls0 : bin .lss (.int .i64 (p.length : Int)) (.int .i64 0) = some (.bool false) := by rw [b_lss, decide_eq_false (by omega)]
     have a0 : bin .add (.int .i64 (p.length : Int)) (.int .i64 0) = some (.int .i64 (p.length : Int)) := by
      rw [b_add, wrap_i64 (by omega) (by omega)]; simp
     have a1 : bin .add (.int .i64 (p.length : Int)) (.int .i64 1) = some (.int .i64 ((p.length + 1 : Nat) : Int)) := by
      rw [b_add, wrap_i64 (by omega) (by omega)]; rfl
     have s1 : slT (.str (p ++ 32 :: joinS (q :: r))) none (some (.int .i64 (p.length : Int))) = some (.str p) := by
      rw [slT_hi (by simp)]; simp
     have s2 : slT (.str (p ++ 32 :: joinS (q :: r))) (some (.int .i64 ((p.length + 1 : Nat) : Int))) none = some (.str (joinS (q :: r))) := by
      rw [slT_lo (by simp)]
      rw [show p ++ 32 :: joinS (q :: r) = (p ++ [32]) ++ joinS (q :: r) by simp, List.drop_left' (by simp)]
     have l1 : lnS (.str [32]) = some (.int .i64 1) := rfl
     have ry : ∀ (h : List V) (s : List UInt8), reifyL h [.str s, .str [32]] = [.str s, .str [32]] := fun _ _ => rfl
     rw [← ih', f54_l0_eq]
     clear ih ih'
     generalize p ++ 32 :: joinS (q :: r) = s at *
     generalize joinS (q :: r) = t at *
     generalize rowS (done.map V.str ++ y :: ys) = R1 at *
     generalize rowS ((done ++ [p]).map V.str ++ ys) = R2 at *
     generalize (V.win 0 [] 0 K 9).weak = W0 at *
     refine (bstep ls _).trans ?_
     rw [ite_T]
     rw [ry]
     refine (bstep ix _).trans ?_
     refine (bstep ls0 _).trans ?_
     rw [ite_F]
     refine (bstep a0 _).trans ?_
     refine (bstep s1 _).trans ?_
     refine (bstep xx _).trans ?_
     refine (bstep st _).trans ?_
     refine (bstep l1 _).trans ?_
     refine (bstep a1 _).trans ?_
     refine (bstep s2 _).trans ?_
     refine (bstep ad _).trans ?_
     rfl
theorem count_am (s : List UInt8) : Cl 73 [.str s, .str [32]] [] = some (.int .i64 (s.count 32 : Int), []) := by
 have l1 : lnS (.str [32]) = some (.int .i64 1) := rfl
 have x0 : ixT (.str [32]) (.int .i64 0) = some (.int .u8 32) := rfl
 have mz : ∀ k : V → List V → Rv, mnz P 2 93 [.str s, .int .u8 32] [] k = k (.int .i64 (s.count 32 : Int)) [] := fun k => by
  simp only [mnz, natI]; rfl
 rw [f73_eq]
 (repeat' with_reducible first | refine (ite_T _ _).trans ?_ | refine (ite_F _ _).trans ?_ | refine (jn_eq _ _).trans ?_ | refine (bstep (by first | rfl | (simp (disch := first | assumption | omega | (with_reducible rfl) | (simp only [go_sem]; done) | (simp only [go_sem]; omega) | fail) only [↓reduceIte, ↓jn_eq, Nat.reduceAdd, go_sem, Bool.not_true, Bool.not_false, l1, x0]; rfl)) _).trans ?_ | refine (if_pos (by first | rfl | (simp (disch := first | assumption | omega | (with_reducible rfl) | (simp only [go_sem]; done) | (simp only [go_sem]; omega) | fail) only [↓reduceIte, ↓jn_eq, Nat.reduceAdd, go_sem, Bool.not_true, Bool.not_false, l1, x0]; done))).trans ?_ | refine (ite_dec (by first | assumption | omega | (simp (disch := first | assumption | omega | (with_reducible rfl) | (simp only [go_sem]; done) | (simp only [go_sem]; omega) | fail) only [↓reduceIte, ↓jn_eq, Nat.reduceAdd, go_sem, Bool.not_true, Bool.not_false, l1, x0]; done) | (simp (disch := first | assumption | omega | (with_reducible rfl) | (simp only [go_sem]; done) | (simp only [go_sem]; omega) | fail) only [↓reduceIte, ↓jn_eq, Nat.reduceAdd, go_sem, Bool.not_true, Bool.not_false, l1, x0]; omega)) _ _).trans ?_ | refine (ite_ndec (by first | assumption | omega | (simp (disch := first | assumption | omega | (with_reducible rfl) | (simp only [go_sem]; done) | (simp only [go_sem]; omega) | fail) only [↓reduceIte, ↓jn_eq, Nat.reduceAdd, go_sem, Bool.not_true, Bool.not_false, l1, x0]; done) | (simp (disch := first | assumption | omega | (with_reducible rfl) | (simp only [go_sem]; done) | (simp only [go_sem]; omega) | fail) only [↓reduceIte, ↓jn_eq, Nat.reduceAdd, go_sem, Bool.not_true, Bool.not_false, l1, x0]; omega)) _ _).trans ?_ | fail)
 rw [mz]
 rfl
theorem split_am {ps : List (List UInt8)} (hn : ps ≠ []) (hp : ∀ p ∈ ps, (32 : UInt8) ∉ p) (hj : (joinS ps).length ≤ 100000) (hK : ps.length ≤ 100000) : Cl 46 [.str (joinS ps), .str [32]] [] = some (.lst 9 .sh (ps.map V.str), []) := by
 have hpos : 0 < ps.length := List.length_pos_iff.2 hn
 have cn := joinS_cnt ps hn hp
 have hcl : (joinS ps).count 32 ≤ (joinS ps).length := List.count_le_length
 have ct := count_am (joinS ps)
 have h0 := split_l0 hK ps 0 [] (List.replicate ps.length (.str [])) hn hp hj (by omega) rfl (by simp)
 simp only [List.map_nil, List.nil_append] at h0
 have g : Cl 54 [.str (joinS ps), .str [32], .int .i64 0, .int .i64 (-1)] [] = some (.lst 9 .sh (ps.map V.str), []) := by
  have a1 : bin .add (.int .i64 ((joinS ps).count 32 : Int)) (.int .i64 1) = some (.int .i64 (ps.length : Int)) := by
   rw [b_add, wrap_i64 (by omega) (by omega)]; congr 2; omega
  have a2 : bin .add (.int .i64 ((joinS ps).length : Int)) (.int .i64 1) = some (.int .i64 (((joinS ps).length + 1 : Nat) : Int)) := by
   rw [b_add, wrap_i64 (by omega) (by omega)]; rfl
  have mi : minV (.int .i64 (ps.length : Int)) (.int .i64 (((joinS ps).length + 1 : Nat) : Int)) = some (.int .i64 (ps.length : Int)) := by
   simp only [minV, if_true]; rw [if_neg (by omega)]
  have mk : mkL 9 (.str []) (.int .i64 (ps.length : Int)) (.int .i64 (ps.length : Int)) = some (.lst 9 .own (List.replicate ps.length (.str []))) := by
   simp only [mkL]; rw [if_pos (by omega)]; simp
  have tb : toBox [] (.lst 9 .own (List.replicate ps.length (.str []))) = some (.win 0 [] 0 ps.length 9, [rowS (List.replicate ps.length (.str []))]) := by
   simp [toBox]
  have sb : bin .sub (.int .i64 (ps.length : Int)) (.int .i64 1) = some (.int .i64 ((ps.length - 1 : Nat) : Int)) := by
   rw [b_sub, wrap_i64 (by omega) (by omega)]; congr 2; omega
  have z1 : bin .eql (.int .i64 (-1)) (.int .i64 0) = some (.bool false) := rfl
  have z2 : bin .eql (.str [32]) (.str []) = some (.bool false) := rfl
  have z3 : bin .lss (.int .i64 (-1)) (.int .i64 0) = some (.bool true) := rfl
  have l0 : lnS (.str (joinS ps)) = some (.int .i64 ((joinS ps).length : Int)) := rfl
  rw [f54_eq]
  generalize joinS ps = s at *
  generalize List.replicate ps.length (V.str []) = Z at *
  generalize f54_l0 = L at *
  (repeat' with_reducible first | refine (ite_T _ _).trans ?_ | refine (ite_F _ _).trans ?_ | refine (jn_eq _ _).trans ?_ | refine (bstep (by first | rfl | (simp (disch := first | assumption | omega | (with_reducible rfl) | (simp only [go_sem]; done) | (simp only [go_sem]; omega) | fail) only [↓reduceIte, ↓jn_eq, Nat.reduceAdd, go_sem, Bool.not_true, Bool.not_false, z1, z2, z3, ct, a1, a2, l0, mi, mk, tb, sb]; rfl)) _).trans ?_ | refine (if_pos (by first | rfl | (simp (disch := first | assumption | omega | (with_reducible rfl) | (simp only [go_sem]; done) | (simp only [go_sem]; omega) | fail) only [↓reduceIte, ↓jn_eq, Nat.reduceAdd, go_sem, Bool.not_true, Bool.not_false, z1, z2, z3, ct, a1, a2, l0, mi, mk, tb, sb]; done))).trans ?_ | refine (ite_dec (by first | assumption | omega | (simp (disch := first | assumption | omega | (with_reducible rfl) | (simp only [go_sem]; done) | (simp only [go_sem]; omega) | fail) only [↓reduceIte, ↓jn_eq, Nat.reduceAdd, go_sem, Bool.not_true, Bool.not_false, z1, z2, z3, ct, a1, a2, l0, mi, mk, tb, sb]; done) | (simp (disch := first | assumption | omega | (with_reducible rfl) | (simp only [go_sem]; done) | (simp only [go_sem]; omega) | fail) only [↓reduceIte, ↓jn_eq, Nat.reduceAdd, go_sem, Bool.not_true, Bool.not_false, z1, z2, z3, ct, a1, a2, l0, mi, mk, tb, sb]; omega)) _ _).trans ?_ | refine (ite_ndec (by first | assumption | omega | (simp (disch := first | assumption | omega | (with_reducible rfl) | (simp only [go_sem]; done) | (simp only [go_sem]; omega) | fail) only [↓reduceIte, ↓jn_eq, Nat.reduceAdd, go_sem, Bool.not_true, Bool.not_false, z1, z2, z3, ct, a1, a2, l0, mi, mk, tb, sb]; done) | (simp (disch := first | assumption | omega | (with_reducible rfl) | (simp only [go_sem]; done) | (simp only [go_sem]; omega) | fail) only [↓reduceIte, ↓jn_eq, Nat.reduceAdd, go_sem, Bool.not_true, Bool.not_false, z1, z2, z3, ct, a1, a2, l0, mi, mk, tb, sb]; omega)) _ _).trans ?_ | fail)
  exact h0
 rw [f46_eq]
 generalize joinS ps = s at *
 (repeat' with_reducible first | refine (ite_T _ _).trans ?_ | refine (ite_F _ _).trans ?_ | refine (jn_eq _ _).trans ?_ | refine (bstep (by first | rfl | (simp (disch := first | assumption | omega | (with_reducible rfl) | (simp only [go_sem]; done) | (simp only [go_sem]; omega) | fail) only [↓reduceIte, ↓jn_eq, Nat.reduceAdd, go_sem, Bool.not_true, Bool.not_false, g]; rfl)) _).trans ?_ | refine (if_pos (by first | rfl | (simp (disch := first | assumption | omega | (with_reducible rfl) | (simp only [go_sem]; done) | (simp only [go_sem]; omega) | fail) only [↓reduceIte, ↓jn_eq, Nat.reduceAdd, go_sem, Bool.not_true, Bool.not_false, g]; done))).trans ?_ | refine (ite_dec (by first | assumption | omega | (simp (disch := first | assumption | omega | (with_reducible rfl) | (simp only [go_sem]; done) | (simp only [go_sem]; omega) | fail) only [↓reduceIte, ↓jn_eq, Nat.reduceAdd, go_sem, Bool.not_true, Bool.not_false, g]; done) | (simp (disch := first | assumption | omega | (with_reducible rfl) | (simp only [go_sem]; done) | (simp only [go_sem]; omega) | fail) only [↓reduceIte, ↓jn_eq, Nat.reduceAdd, go_sem, Bool.not_true, Bool.not_false, g]; omega)) _ _).trans ?_ | refine (ite_ndec (by first | assumption | omega | (simp (disch := first | assumption | omega | (with_reducible rfl) | (simp only [go_sem]; done) | (simp only [go_sem]; omega) | fail) only [↓reduceIte, ↓jn_eq, Nat.reduceAdd, go_sem, Bool.not_true, Bool.not_false, g]; done) | (simp (disch := first | assumption | omega | (with_reducible rfl) | (simp only [go_sem]; done) | (simp only [go_sem]; omega) | fail) only [↓reduceIte, ↓jn_eq, Nat.reduceAdd, go_sem, Bool.not_true, Bool.not_false, g]; omega)) _ _).trans ?_ | fail)
 rfl
end Go.Proofs.YtaghnpjlhmgioaaDoor
end

section
set_option linter.unusedVariables false
set_option linter.unusedSimpArgs false
set_option linter.unusedSectionVars false
set_option maxRecDepth 100000
namespace Go.Proofs.YtaghnpjlhmgioaaDoor
open Go AM
theorem cutN_am {s : List UInt8} {c : UInt8} (hc : c ∉ s) : Cl 35 [.str s, .str [c]] [] = some (.tup [.str s, .str [], .bool false], []) := by
 have ix := idx_am s c
 rw [ixB_none s c hc] at ix
 have ge : bin .geq (.int .i64 (-1)) (.int .i64 0) = some (.bool false) := rfl
 have h45 : Cl 45 [.str s, .str [c]] [] = some (.tup [.str s, .str [], .bool false], []) := by
  rw [f45_eq]
  (repeat' with_reducible first | refine (ite_T _ _).trans ?_ | refine (ite_F _ _).trans ?_ | refine (jn_eq _ _).trans ?_ | refine (bstep (by first | rfl | (simp (disch := first | assumption | omega | (with_reducible rfl) | (simp only [go_sem]; done) | (simp only [go_sem]; omega) | fail) only [↓reduceIte, ↓jn_eq, Nat.reduceAdd, go_sem, Bool.not_true, Bool.not_false, ix, ge]; rfl)) _).trans ?_ | refine (if_pos (by first | rfl | (simp (disch := first | assumption | omega | (with_reducible rfl) | (simp only [go_sem]; done) | (simp only [go_sem]; omega) | fail) only [↓reduceIte, ↓jn_eq, Nat.reduceAdd, go_sem, Bool.not_true, Bool.not_false, ix, ge]; done))).trans ?_ | refine (ite_dec (by first | assumption | omega | (simp (disch := first | assumption | omega | (with_reducible rfl) | (simp only [go_sem]; done) | (simp only [go_sem]; omega) | fail) only [↓reduceIte, ↓jn_eq, Nat.reduceAdd, go_sem, Bool.not_true, Bool.not_false, ix, ge]; done) | (simp (disch := first | assumption | omega | (with_reducible rfl) | (simp only [go_sem]; done) | (simp only [go_sem]; omega) | fail) only [↓reduceIte, ↓jn_eq, Nat.reduceAdd, go_sem, Bool.not_true, Bool.not_false, ix, ge]; omega)) _ _).trans ?_ | refine (ite_ndec (by first | assumption | omega | (simp (disch := first | assumption | omega | (with_reducible rfl) | (simp only [go_sem]; done) | (simp only [go_sem]; omega) | fail) only [↓reduceIte, ↓jn_eq, Nat.reduceAdd, go_sem, Bool.not_true, Bool.not_false, ix, ge]; done) | (simp (disch := first | assumption | omega | (with_reducible rfl) | (simp only [go_sem]; done) | (simp only [go_sem]; omega) | fail) only [↓reduceIte, ↓jn_eq, Nat.reduceAdd, go_sem, Bool.not_true, Bool.not_false, ix, ge]; omega)) _ _).trans ?_ | fail)
  rfl
 rw [f35_eq]
 (repeat' with_reducible first | refine (ite_T _ _).trans ?_ | refine (ite_F _ _).trans ?_ | refine (jn_eq _ _).trans ?_ | refine (bstep (by first | rfl | (simp (disch := first | assumption | omega | (with_reducible rfl) | (simp only [go_sem]; done) | (simp only [go_sem]; omega) | fail) only [↓reduceIte, ↓jn_eq, Nat.reduceAdd, go_sem, Bool.not_true, Bool.not_false, h45]; rfl)) _).trans ?_ | refine (if_pos (by first | rfl | (simp (disch := first | assumption | omega | (with_reducible rfl) | (simp only [go_sem]; done) | (simp only [go_sem]; omega) | fail) only [↓reduceIte, ↓jn_eq, Nat.reduceAdd, go_sem, Bool.not_true, Bool.not_false, h45]; done))).trans ?_ | refine (ite_dec (by first | assumption | omega | (simp (disch := first | assumption | omega | (with_reducible rfl) | (simp only [go_sem]; done) | (simp only [go_sem]; omega) | fail) only [↓reduceIte, ↓jn_eq, Nat.reduceAdd, go_sem, Bool.not_true, Bool.not_false, h45]; done) | (simp (disch := first | assumption | omega | (with_reducible rfl) | (simp only [go_sem]; done) | (simp only [go_sem]; omega) | fail) only [↓reduceIte, ↓jn_eq, Nat.reduceAdd, go_sem, Bool.not_true, Bool.not_false, h45]; omega)) _ _).trans ?_ | refine (ite_ndec (by first | assumption | omega | (simp (disch := first | assumption | omega | (with_reducible rfl) | (simp only [go_sem]; done) | (simp only [go_sem]; omega) | fail) only [↓reduceIte, ↓jn_eq, Nat.reduceAdd, go_sem, Bool.not_true, Bool.not_false, h45]; done) | (simp (disch := first | assumption | omega | (with_reducible rfl) | (simp only [go_sem]; done) | (simp only [go_sem]; omega) | fail) only [↓reduceIte, ↓jn_eq, Nat.reduceAdd, go_sem, Bool.not_true, Bool.not_false, h45]; omega)) _ _).trans ?_ | fail)
 rfl
def splitS : List UInt8 → List (List UInt8)
 | [] => [[]]
 | c :: r => if c = 32 then [] :: splitS r else match splitS r with
   | p :: ps => (c :: p) :: ps
   | [] => [[c]]
theorem splitS_ne : ∀ s, splitS s ≠ []
 | [] => by simp [splitS]
 | c :: r => by
   rw [splitS]
   split
   · simp
   · split <;> simp
theorem splitS_32 : ∀ s, ∀ p ∈ splitS s, (32 : UInt8) ∉ p
 | [], p, h => by simp [splitS] at h; subst h; simp
 | c :: r, p, h => by
   rw [splitS] at h
   split at h
   · rcases List.mem_cons.1 h with rfl | h
     · simp
     · exact splitS_32 r p h
   · rename_i hc
     have ih := splitS_32 r
     split at h
     · rename_i q qs e
       rw [e] at ih
       rcases List.mem_cons.1 h with rfl | h
       · intro hm
         rcases List.mem_cons.1 hm with h1 | h1
         · exact hc h1.symm
         · exact ih q List.mem_cons_self h1
       · exact ih p (List.mem_cons_of_mem _ h)
     · rw [List.mem_singleton.1 h]; simpa using fun e => hc e.symm
theorem joinS_c (p : List UInt8) {ps : List (List UInt8)} (h : ps ≠ []) : joinS (p :: ps) = p ++ 32 :: joinS ps := by
 match ps, h with
 | q :: r, _ => rfl
theorem join_split : ∀ s, joinS (splitS s) = s
 | [] => rfl
 | c :: r => by
   have ih := join_split r
   have hn := splitS_ne r
   rw [splitS]
   split
   · rename_i hc
     rw [joinS_c [] hn, ih, hc]; rfl
   · split
     · rename_i q qs e
       rw [e] at ih
       match qs, ih with
       | [], ih => simp only [joinS] at ih ⊢; rw [ih]
       | x :: xs, ih => simp only [joinS, List.cons_append] at ih ⊢; rw [ih]
     · rename_i e; exact absurd e hn
theorem split_app : ∀ (p : List UInt8) (s : List UInt8), (32 : UInt8) ∉ p → splitS (p ++ 32 :: s) = p :: splitS s
 | [], s, _ => by rw [List.nil_append, splitS, if_pos rfl]
 | c :: p, s, h => by
   have hc : ¬ c = 32 := fun e => h (by rw [e]; exact List.mem_cons_self)
   rw [List.cons_append, splitS, if_neg hc, split_app p s (fun hm => h (List.mem_cons_of_mem _ hm))]
theorem split_one : ∀ (p : List UInt8), (32 : UInt8) ∉ p → splitS p = [p]
 | [], _ => rfl
 | c :: p, h => by
   have hc : ¬ c = 32 := fun e => h (by rw [e]; exact List.mem_cons_self)
   rw [splitS, if_neg hc, split_one p (fun hm => h (List.mem_cons_of_mem _ hm))]
theorem split_join : ∀ ps : List (List UInt8), ps ≠ [] → (∀ p ∈ ps, (32 : UInt8) ∉ p) → splitS (joinS ps) = ps
 | [], h, _ => absurd rfl h
 | [p], _, h => split_one p (h p (by simp))
 | p :: q :: r, _, h => by
   rw [joinS, split_app p _ (h p (by simp)), split_join (q :: r) (by simp) (fun x hx => h x (List.mem_cons_of_mem _ hx))]
theorem joinS_eq : ∀ (ns : List Nat) (w : List UInt8), joinS (w :: ns.map decB) = w ++ wordsB ns
 | [], w => by simp [joinS, wordsB]
 | n :: ns, w => by rw [List.map_cons, joinS, joinS_eq ns (decB n)]; simp [wordsB]
theorem dig_32 (n : Nat) : (32 : UInt8) ∉ decB n := fun h => by have := decB_dig n 32 h; simp [isD] at this
theorem split_len (s : List UInt8) : (splitS s).length ≤ s.length + 1 := by
 have := joinS_cnt (splitS s) (splitS_ne s) (splitS_32 s)
 rw [join_split] at this
 have h : s.count 32 ≤ s.length := List.count_le_length
 omega
theorem part_len : ∀ (ps : List (List UInt8)) (p : List UInt8), p ∈ ps → p.length ≤ (joinS ps).length
 | [q], p, h => by rw [List.mem_singleton.1 h]; exact Nat.le_refl _
 | q :: r :: s, p, h => by
   rw [joinS, List.length_append, List.length_cons]
   rcases List.mem_cons.1 h with rfl | h
   · omega
   · have := part_len (r :: s) p h; omega
instance (c : UInt8) : Decidable (isD c) := inferInstanceAs (Decidable (_ ∧ _))
def numOf (x : List UInt8) : Option Nat := if x ≠ [] ∧ x.length ≤ 9 ∧ (∀ c ∈ x, isD c) ∧ (1 < x.length → x.head? ≠ some 48) then some (valF 0 x) else none
theorem numOf_some {x : List UInt8} {n : Nat} (h : numOf x = some n) : n < 1000000000 ∧ x = decB n := by
 unfold numOf at h
 split at h
 · rename_i hc
   obtain ⟨h1, h2, h3, h4⟩ := hc
   cases h
   have := valF_lt x 0 h3
   have h5 : 10 ^ x.length ≤ 10 ^ 9 := Nat.pow_le_pow_right (by omega) h2
   exact ⟨by omega, (decB_of x.length x rfl h2 h1 h3 h4).symm⟩
 · cases h
theorem numOf_dec {n : Nat} (h : n < 1000000000) : numOf (decB n) = some n := by
 unfold numOf
 rw [if_pos ⟨decB_ne n, decB_9 h, decB_dig n, decB_head h⟩, decB_val h]
def numsOf : List (List UInt8) → Option (List Nat)
 | [] => some []
 | x :: xs => (numOf x).bind fun n => (numsOf xs).map (n :: ·)
theorem numsOf_some : ∀ {ps : List (List UInt8)} {ns : List Nat}, numsOf ps = some ns → (∀ n ∈ ns, n < 1000000000) ∧ ps = ns.map decB
 | [], ns, h => by cases h; exact ⟨by simp, rfl⟩
 | x :: xs, ns, h => by
   obtain ⟨n, h1, h2⟩ := Option.bind_eq_some_iff.1 h
   obtain ⟨ms, h3, rfl⟩ := Option.map_eq_some_iff.1 h2
   obtain ⟨a1, a2⟩ := numOf_some h1
   obtain ⟨b1, b2⟩ := numsOf_some h3
   exact ⟨fun m hm => (List.mem_cons.1 hm).elim (fun e => e ▸ a1) (b1 m), by rw [List.map_cons, ← a2, ← b2]⟩
theorem numsOf_dec : ∀ {ns : List Nat}, (∀ n ∈ ns, n < 1000000000) → numsOf (ns.map decB) = some ns
 | [], _ => rfl
 | n :: ns, h => by
   rw [List.map_cons, numsOf, numOf_dec (h n List.mem_cons_self), numsOf_dec (fun m hm => h m (List.mem_cons_of_mem _ hm))]; rfl
theorem numsOf_mem : ∀ {ps : List (List UInt8)} {x : List UInt8}, x ∈ ps → numOf x = none → numsOf ps = none
 | y :: ys, x, h, e => by
   rw [numsOf]
   rcases List.mem_cons.1 h with rfl | h
   · rw [e]; rfl
   · rw [numsOf_mem h e]; cases numOf y <;> rfl
def numP (w : List UInt8) (k : Nat) (s : List UInt8) : Option (List Nat) :=
 match splitS s with
 | [] => none
 | p :: ps => if p = w ∧ ps.length = k then numsOf ps else none
theorem numP_some {w s : List UInt8} {k : Nat} {ns : List Nat} (h : numP w k s = some ns) : ns.length = k ∧ (∀ n ∈ ns, n < 1000000000) ∧ s = w ++ wordsB ns := by
 unfold numP at h
 split at h
 · cases h
 · rename_i p ps e
   split at h
   · rename_i hc
     obtain ⟨rfl, rfl⟩ := hc
     obtain ⟨h1, h2⟩ := numsOf_some h
     refine ⟨by rw [h2]; simp, h1, ?_⟩
     rw [← join_split s, e, h2, joinS_eq]
   · cases h
theorem numP_of {w : List UInt8} (hw : (32 : UInt8) ∉ w) {ns : List Nat} (h : ∀ n ∈ ns, n < 1000000000) : numP w ns.length (w ++ wordsB ns) = some ns := by
 unfold numP
 rw [← joinS_eq, split_join _ (by simp) (by
  intro p hp
  rcases List.mem_cons.1 hp with rfl | hp
  · exact hw
  · obtain ⟨n, _, rfl⟩ := List.mem_map.1 hp
    exact dig_32 n)]
 simp only [List.length_map, and_self, if_true]
 exact numsOf_dec h
def atoiO (x : List UInt8) : Option Int := match Lib.atoiAll x with
 | .ok v => if x.length ≤ 9 then some v else none
 | _ => none
theorem atoiO_dec {n : Nat} (h : n < 1000000000) : atoiO (decB n) = some (n : Int) := by
 unfold atoiO
 rw [atoi_dec h]
 exact if_pos (decB_9 h)
theorem atoiO_none {x : List UInt8} (h : atoiO x = none) : numOf x = none := by
 cases hn : numOf x with
 | none => rfl
 | some n =>
   obtain ⟨h1, rfl⟩ := numOf_some hn
   rw [atoiO_dec h1] at h; cases h
theorem atoiO_lt {x : List UInt8} {v : Int} (h : atoiO x = some v) : -1000000000 < v ∧ v < 1000000000 := by
 unfold atoiO at h
 split at h
 · rename_i u e
   split at h
   · cases h; exact atoi_lt (by assumption) e
   · cases h
 · cases h
theorem map_some_inj : ∀ {a b : List Int}, a.map some = b.map some → a = b
 | [], [], _ => rfl
 | [], _ :: _, h => by cases h
 | _ :: _, [], h => by cases h
 | x :: xs, y :: ys, h => by
   simp only [List.map_cons, List.cons.injEq, Option.some.injEq] at h
   rw [h.1, map_some_inj h.2]
theorem nonneg_nat : ∀ l : List Int, (∀ x ∈ l, 0 ≤ x) → (l.map Int.toNat).map (fun (n : Nat) => (n : Int)) = l
 | [], _ => rfl
 | x :: l, h => by
   have := h x List.mem_cons_self
   rw [List.map_cons, List.map_cons, nonneg_nat l (fun y hy => h y (List.mem_cons_of_mem _ hy)), Int.toNat_of_nonneg this]
theorem nums_iff {w s : List UInt8} (hw : (32 : UInt8) ∉ w) {p : List UInt8} {ps : List (List UInt8)} (e : splitS s = p :: ps) {l : List Int} (hl : ps.map atoiO = l.map some) :
 ((lineI w l = s ++ [10] ∧ ∀ x ∈ l, 0 ≤ x) ↔ (numP w ps.length s).isSome = true) ∧ ∀ ns, numP w ps.length s = some ns → l = ns.map (fun (n : Nat) => (n : Int)) := by
 have hll : ps.length = l.length := by have := congrArg List.length hl; simpa using this
 have h2 : ∀ ns, numP w ps.length s = some ns → l = ns.map (fun (n : Nat) => (n : Int)) := by
  intro ns h
  unfold numP at h
  rw [e] at h
  dsimp only at h
  split at h
  · obtain ⟨h1, h2⟩ := numsOf_some h
    refine map_some_inj ?_
    rw [← hl, h2, List.map_map, List.map_map]
    exact List.map_congr_left fun n hn => atoiO_dec (h1 n hn)
  · cases h
 refine ⟨⟨fun h => ?_, fun h => ?_⟩, h2⟩
 · obtain ⟨h3, h4⟩ := h
   have hn := nonneg_nat l h4
   generalize l.map Int.toNat = ns at hn
   subst hn
   rw [lineI, wordsI_nat] at h3
   have h5 : s = w ++ wordsB ns := (List.append_cancel_right h3).symm
   have hb : ∀ n ∈ ns, n < 1000000000 := by
    intro n hn
    have hm : some (n : Int) ∈ ps.map atoiO := by rw [hl, List.map_map]; exact List.mem_map.2 ⟨n, hn, rfl⟩
    obtain ⟨x, _, hx⟩ := List.mem_map.1 hm
    have := atoiO_lt hx; omega
   have h6 := numP_of hw hb
   rw [← h5] at h6
   rw [hll, List.length_map, h6]; rfl
 · obtain ⟨ns, h3⟩ := Option.isSome_iff_exists.1 h
   obtain ⟨a1, a2, a3⟩ := numP_some h3
   rw [h2 ns h3]
   refine ⟨by rw [lineI, wordsI_nat, a3], fun x hx => ?_⟩
   obtain ⟨n, _, rfl⟩ := List.mem_map.1 hx
   omega
theorem ix_rop' {e : TypeId} {f : Fl} {xs : List V} {i : Nat} {x : V} (h : xs[i]? = some x) (k : IntKind) : ixS e (.lst e f xs) (.int k (i : Int)) = some (.rop e x) := by rw [ixS_l, h]; rfl
theorem int_at {l : List Int} {i : Nat} (h : i < l.length) : (l.map fun (v : Int) => V.int .i64 v)[i]? = some (.int .i64 l[i]) := by simp [h]
theorem min_l0 {l : List Int} (hl : l.length ≤ 3000) : ∀ (m i : Nat) (a : Int), i + m = l.length → ∃ r : Int, f48_l0 (vInts .sh l) (.int .i64 a) (.int .i64 (i : Int)) = some (.int .i64 r, []) ∧ (0 ≤ r ↔ 0 ≤ a ∧ ∀ x ∈ l.drop i, 0 ≤ x) := by
 intro m
 induction m with
 | zero =>
   intro i a hi
   refine ⟨a, ?_, by rw [List.drop_eq_nil_of_le (by omega)]; simp⟩
   rw [f48_l0_eq]
   (repeat' with_reducible first | refine (ite_T _ _).trans ?_ | refine (ite_F _ _).trans ?_ | refine (jn_eq _ _).trans ?_ | refine (bstep (by first | rfl | (simp (disch := first | assumption | omega | (with_reducible rfl) | (simp only [go_sem]; done) | (simp only [go_sem]; omega) | fail) only [↓reduceIte, ↓jn_eq, Nat.reduceAdd, go_sem, Bool.not_true, Bool.not_false]; rfl)) _).trans ?_ | refine (if_pos (by first | rfl | (simp (disch := first | assumption | omega | (with_reducible rfl) | (simp only [go_sem]; done) | (simp only [go_sem]; omega) | fail) only [↓reduceIte, ↓jn_eq, Nat.reduceAdd, go_sem, Bool.not_true, Bool.not_false]; done))).trans ?_ | refine (ite_dec (by first | assumption | omega | (simp (disch := first | assumption | omega | (with_reducible rfl) | (simp only [go_sem]; done) | (simp only [go_sem]; omega) | fail) only [↓reduceIte, ↓jn_eq, Nat.reduceAdd, go_sem, Bool.not_true, Bool.not_false]; done) | (simp (disch := first | assumption | omega | (with_reducible rfl) | (simp only [go_sem]; done) | (simp only [go_sem]; omega) | fail) only [↓reduceIte, ↓jn_eq, Nat.reduceAdd, go_sem, Bool.not_true, Bool.not_false]; omega)) _ _).trans ?_ | refine (ite_ndec (by first | assumption | omega | (simp (disch := first | assumption | omega | (with_reducible rfl) | (simp only [go_sem]; done) | (simp only [go_sem]; omega) | fail) only [↓reduceIte, ↓jn_eq, Nat.reduceAdd, go_sem, Bool.not_true, Bool.not_false]; done) | (simp (disch := first | assumption | omega | (with_reducible rfl) | (simp only [go_sem]; done) | (simp only [go_sem]; omega) | fail) only [↓reduceIte, ↓jn_eq, Nat.reduceAdd, go_sem, Bool.not_true, Bool.not_false]; omega)) _ _).trans ?_ | fail)
   rfl
 | succ m ih =>
   intro i a hi
   have h : i < l.length := by omega
   have hx := int_at h
   obtain ⟨r, e, e2⟩ := ih (i + 1) (if l[i] < a then l[i] else a) (by omega)
   refine ⟨r, ?_, ?_⟩
   · have mv : minV (.int .i64 a) (.int .i64 l[i]) = some (.int .i64 (if l[i] < a then l[i] else a)) := by
      simp only [minV, if_true]
     rw [← e, f48_l0_eq]
     clear e e2 ih
     generalize (if l[i] < a then l[i] else a) = b at *
     generalize l[i] = x at *
     (repeat' with_reducible first | refine (ite_T _ _).trans ?_ | refine (ite_F _ _).trans ?_ | refine (jn_eq _ _).trans ?_ | refine (bstep (by first | rfl | (simp (disch := first | assumption | omega | (with_reducible rfl) | (simp only [go_sem]; done) | (simp only [go_sem]; omega) | fail) only [↓reduceIte, ↓jn_eq, Nat.reduceAdd, go_sem, Bool.not_true, Bool.not_false, hx, mv]; rfl)) _).trans ?_ | refine (if_pos (by first | rfl | (simp (disch := first | assumption | omega | (with_reducible rfl) | (simp only [go_sem]; done) | (simp only [go_sem]; omega) | fail) only [↓reduceIte, ↓jn_eq, Nat.reduceAdd, go_sem, Bool.not_true, Bool.not_false, hx, mv]; done))).trans ?_ | refine (ite_dec (by first | assumption | omega | (simp (disch := first | assumption | omega | (with_reducible rfl) | (simp only [go_sem]; done) | (simp only [go_sem]; omega) | fail) only [↓reduceIte, ↓jn_eq, Nat.reduceAdd, go_sem, Bool.not_true, Bool.not_false, hx, mv]; done) | (simp (disch := first | assumption | omega | (with_reducible rfl) | (simp only [go_sem]; done) | (simp only [go_sem]; omega) | fail) only [↓reduceIte, ↓jn_eq, Nat.reduceAdd, go_sem, Bool.not_true, Bool.not_false, hx, mv]; omega)) _ _).trans ?_ | refine (ite_ndec (by first | assumption | omega | (simp (disch := first | assumption | omega | (with_reducible rfl) | (simp only [go_sem]; done) | (simp only [go_sem]; omega) | fail) only [↓reduceIte, ↓jn_eq, Nat.reduceAdd, go_sem, Bool.not_true, Bool.not_false, hx, mv]; done) | (simp (disch := first | assumption | omega | (with_reducible rfl) | (simp only [go_sem]; done) | (simp only [go_sem]; omega) | fail) only [↓reduceIte, ↓jn_eq, Nat.reduceAdd, go_sem, Bool.not_true, Bool.not_false, hx, mv]; omega)) _ _).trans ?_ | fail)
     rfl
   · rw [e2, List.drop_eq_getElem_cons h, List.forall_mem_cons, ← and_assoc]
     refine and_congr_left fun _ => ?_
     split <;> omega
theorem min_am {l : List Int} (hn : l ≠ []) (hl : l.length ≤ 3000) : ∃ r : Int, Cl 48 [vInts .sh l] [] = some (.int .i64 r, []) ∧ (0 ≤ r ↔ ∀ x ∈ l, 0 ≤ x) := by
 have hp := List.length_pos_iff.2 hn
 have hx := int_at hp
 obtain ⟨r, e, e2⟩ := min_l0 hl (l.length - 1) 1 l[0] (by omega)
 refine ⟨r, ?_, ?_⟩
 · have ix : ixS 3 (.lst 3 .sh (l.map fun (v : Int) => V.int .i64 v)) (.int .i64 0) = some (.rop 3 (.int .i64 l[0])) := by
    have := ix_rop' (e := 3) (f := .sh) hx .i64
    exact this
   rw [← e, f48_eq]
   clear e e2
   generalize l[0] = x at *
   (repeat' with_reducible first | refine (ite_T _ _).trans ?_ | refine (ite_F _ _).trans ?_ | refine (jn_eq _ _).trans ?_ | refine (bstep (by first | rfl | (simp (disch := first | assumption | omega | (with_reducible rfl) | (simp only [go_sem]; done) | (simp only [go_sem]; omega) | fail) only [↓reduceIte, ↓jn_eq, Nat.reduceAdd, go_sem, Bool.not_true, Bool.not_false, ix]; rfl)) _).trans ?_ | refine (if_pos (by first | rfl | (simp (disch := first | assumption | omega | (with_reducible rfl) | (simp only [go_sem]; done) | (simp only [go_sem]; omega) | fail) only [↓reduceIte, ↓jn_eq, Nat.reduceAdd, go_sem, Bool.not_true, Bool.not_false, ix]; done))).trans ?_ | refine (ite_dec (by first | assumption | omega | (simp (disch := first | assumption | omega | (with_reducible rfl) | (simp only [go_sem]; done) | (simp only [go_sem]; omega) | fail) only [↓reduceIte, ↓jn_eq, Nat.reduceAdd, go_sem, Bool.not_true, Bool.not_false, ix]; done) | (simp (disch := first | assumption | omega | (with_reducible rfl) | (simp only [go_sem]; done) | (simp only [go_sem]; omega) | fail) only [↓reduceIte, ↓jn_eq, Nat.reduceAdd, go_sem, Bool.not_true, Bool.not_false, ix]; omega)) _ _).trans ?_ | refine (ite_ndec (by first | assumption | omega | (simp (disch := first | assumption | omega | (with_reducible rfl) | (simp only [go_sem]; done) | (simp only [go_sem]; omega) | fail) only [↓reduceIte, ↓jn_eq, Nat.reduceAdd, go_sem, Bool.not_true, Bool.not_false, ix]; done) | (simp (disch := first | assumption | omega | (with_reducible rfl) | (simp only [go_sem]; done) | (simp only [go_sem]; omega) | fail) only [↓reduceIte, ↓jn_eq, Nat.reduceAdd, go_sem, Bool.not_true, Bool.not_false, ix]; omega)) _ _).trans ?_ | fail)
   rfl
 · rw [e2]
   have h0 : ∀ x, x ∈ l ↔ x = l[0] ∨ x ∈ l.drop 1 := by
    intro x
    conv => lhs; rw [← List.drop_zero (l := l), List.drop_eq_getElem_cons hp]
    simp
   exact ⟨fun h x hx => ((h0 x).1 hx).elim (fun e => e ▸ h.1) (h.2 x), fun h => ⟨h _ (List.getElem_mem hp), fun x hx => h x ((h0 x).2 (.inr hx))⟩⟩
end Go.Proofs.YtaghnpjlhmgioaaDoor
end

section
set_option linter.unusedVariables false
set_option linter.unusedSimpArgs false
set_option linter.unusedSectionVars false
set_option maxRecDepth 100000
namespace Go.Proofs.YtaghnpjlhmgioaaDoor
open Go AM
@[go_sem] theorem plL_strs (l : List (List UInt8)) : plL (l.map V.str) = true := plL_map (fun _ => rfl) l
theorem num_l0 {w s : List UInt8} (hw : w.length ≤ 100) (h32 : (32 : UInt8) ∉ w) (hs : s.length ≤ 2000) {p : List UInt8} {ps : List (List UInt8)} (he : splitS s = p :: ps) (hk : 1 ≤ ps.length) (hk2 : ps.length ≤ 100) : ∀ (m i : Nat) (l : List Int), i + m = ps.length → (ps.take i).map atoiO = l.map some →
 ∃ is : List Int, f36_l0 (.str s) (.str w) (vInts .own l) (.lst 9 .sh (ps.map V.str)) (.int .i64 (ps.length : Int)) (.int .i64 (i : Int)) [] = some (.tup [vInts .sh is, .bool (numP w ps.length s).isSome], []) ∧ ∀ ns, numP w ps.length s = some ns → is = ns.map (fun (n : Nat) => (n : Int)) := by
 intro m
 induction m with
 | zero =>
   intro i l hi hl
   rw [List.take_of_length_le (by omega)] at hl
   have hll : ps.length = l.length := by have := congrArg List.length hl; simpa using this
   obtain ⟨k1, k2⟩ := nums_iff h32 he hl
   refine ⟨l, ?_, k2⟩
   have hb : ∀ n ∈ l, -1000000000000000000 ≤ n ∧ n ≤ 1000000000000000000 := by
    intro n hn
    have hm : some n ∈ ps.map atoiO := by rw [hl]; exact List.mem_map.2 ⟨n, hn, rfl⟩
    obtain ⟨x, _, hx⟩ := List.mem_map.1 hm
    have := atoiO_lt hx; omega
   have ln := lineI_am (w := w) (by omega) hb (by omega)
   obtain ⟨r, mn, hr⟩ := min_am (l := l) (by intro e; rw [e, List.length_nil] at hll; omega) (by omega)
   have a1 : bin .add (.str s) (.str [10]) = some (.str (s ++ [10])) := s_add _ _ (by simp; omega)
   rw [f36_l0_eq]
   by_cases hq : lineI w l = s ++ [10]
   · have e1 : bin .eql (.str (lineI w l)) (.str (s ++ [10])) = some (.bool true) := by simp [bin, hq]
     have ge : bin .geq (.int .i64 r) (.int .i64 0) = some (.bool (numP w ps.length s).isSome) := by
      rw [b_geq]
      congr 2
      rw [Bool.eq_iff_iff, decide_eq_true_eq, ← k1, hr]
      exact ⟨fun h => ⟨hq, h⟩, fun h => h.2⟩
     clear k1 k2 hl hb
     generalize lineI w l = x at *
     generalize s ++ [10] = y at *
     generalize (numP w ps.length s).isSome = b at *
     (repeat' with_reducible first | refine (ite_T _ _).trans ?_ | refine (ite_F _ _).trans ?_ | refine (jn_eq _ _).trans ?_ | refine (bstep (by first | rfl | (simp (disch := first | assumption | omega | (with_reducible rfl) | (simp only [go_sem]; done) | (simp only [go_sem]; omega) | fail) only [↓reduceIte, ↓jn_eq, Nat.reduceAdd, go_sem, Bool.not_true, Bool.not_false, ln, mn, a1, e1, ge]; rfl)) _).trans ?_ | refine (if_pos (by first | rfl | (simp (disch := first | assumption | omega | (with_reducible rfl) | (simp only [go_sem]; done) | (simp only [go_sem]; omega) | fail) only [↓reduceIte, ↓jn_eq, Nat.reduceAdd, go_sem, Bool.not_true, Bool.not_false, ln, mn, a1, e1, ge]; done))).trans ?_ | refine (ite_dec (by first | assumption | omega | (simp (disch := first | assumption | omega | (with_reducible rfl) | (simp only [go_sem]; done) | (simp only [go_sem]; omega) | fail) only [↓reduceIte, ↓jn_eq, Nat.reduceAdd, go_sem, Bool.not_true, Bool.not_false, ln, mn, a1, e1, ge]; done) | (simp (disch := first | assumption | omega | (with_reducible rfl) | (simp only [go_sem]; done) | (simp only [go_sem]; omega) | fail) only [↓reduceIte, ↓jn_eq, Nat.reduceAdd, go_sem, Bool.not_true, Bool.not_false, ln, mn, a1, e1, ge]; omega)) _ _).trans ?_ | refine (ite_ndec (by first | assumption | omega | (simp (disch := first | assumption | omega | (with_reducible rfl) | (simp only [go_sem]; done) | (simp only [go_sem]; omega) | fail) only [↓reduceIte, ↓jn_eq, Nat.reduceAdd, go_sem, Bool.not_true, Bool.not_false, ln, mn, a1, e1, ge]; done) | (simp (disch := first | assumption | omega | (with_reducible rfl) | (simp only [go_sem]; done) | (simp only [go_sem]; omega) | fail) only [↓reduceIte, ↓jn_eq, Nat.reduceAdd, go_sem, Bool.not_true, Bool.not_false, ln, mn, a1, e1, ge]; omega)) _ _).trans ?_ | fail)
     rfl
   · have e1 : bin .eql (.str (lineI w l)) (.str (s ++ [10])) = some (.bool false) := by simp [bin, hq]
     have hn : (numP w ps.length s).isSome = false := by
      cases hh : (numP w ps.length s).isSome with
      | false => rfl
      | true => exact absurd (k1.2 hh).1 hq
     rw [hn]
     clear k1 k2 hl hb hn
     generalize lineI w l = x at *
     generalize s ++ [10] = y at *
     (repeat' with_reducible first | refine (ite_T _ _).trans ?_ | refine (ite_F _ _).trans ?_ | refine (jn_eq _ _).trans ?_ | refine (bstep (by first | rfl | (simp (disch := first | assumption | omega | (with_reducible rfl) | (simp only [go_sem]; done) | (simp only [go_sem]; omega) | fail) only [↓reduceIte, ↓jn_eq, Nat.reduceAdd, go_sem, Bool.not_true, Bool.not_false, ln, a1, e1]; rfl)) _).trans ?_ | refine (if_pos (by first | rfl | (simp (disch := first | assumption | omega | (with_reducible rfl) | (simp only [go_sem]; done) | (simp only [go_sem]; omega) | fail) only [↓reduceIte, ↓jn_eq, Nat.reduceAdd, go_sem, Bool.not_true, Bool.not_false, ln, a1, e1]; done))).trans ?_ | refine (ite_dec (by first | assumption | omega | (simp (disch := first | assumption | omega | (with_reducible rfl) | (simp only [go_sem]; done) | (simp only [go_sem]; omega) | fail) only [↓reduceIte, ↓jn_eq, Nat.reduceAdd, go_sem, Bool.not_true, Bool.not_false, ln, a1, e1]; done) | (simp (disch := first | assumption | omega | (with_reducible rfl) | (simp only [go_sem]; done) | (simp only [go_sem]; omega) | fail) only [↓reduceIte, ↓jn_eq, Nat.reduceAdd, go_sem, Bool.not_true, Bool.not_false, ln, a1, e1]; omega)) _ _).trans ?_ | refine (ite_ndec (by first | assumption | omega | (simp (disch := first | assumption | omega | (with_reducible rfl) | (simp only [go_sem]; done) | (simp only [go_sem]; omega) | fail) only [↓reduceIte, ↓jn_eq, Nat.reduceAdd, go_sem, Bool.not_true, Bool.not_false, ln, a1, e1]; done) | (simp (disch := first | assumption | omega | (with_reducible rfl) | (simp only [go_sem]; done) | (simp only [go_sem]; omega) | fail) only [↓reduceIte, ↓jn_eq, Nat.reduceAdd, go_sem, Bool.not_true, Bool.not_false, ln, a1, e1]; omega)) _ _).trans ?_ | fail)
     rfl
 | succ m ih =>
   intro i l hi hl
   have h : i < ps.length := by omega
   have hx : (ps.map V.str)[i]? = some (.str ps[i]) := by simp [h]
   have hpl : ps[i].length ≤ 2000 := by
    have := part_len (p :: ps) ps[i] (List.mem_cons_of_mem _ (List.getElem_mem h))
    rw [← he, join_split] at this; omega
   have at' := aps_atoi (s := ps[i]) (by omega) []
   have hll : i = l.length := by have := congrArg List.length hl; simp at this; omega
   have bad : atoiO ps[i] = none → (numP w ps.length s) = none := by
    intro hn
    unfold numP
    rw [he]
    dsimp only
    split
    · exact numsOf_mem (List.getElem_mem h) (atoiO_none hn)
    · rfl
   rcases atoiV_cases ps[i] with ⟨v, h1, h2⟩ | ⟨n, h2⟩
   · have nn : nilE .neq .nili = some (.bool false) := rfl
     by_cases h9 : ps[i].length ≤ 9
     · have ha : atoiO ps[i] = some v := by unfold atoiO; rw [h1]; exact if_pos h9
       obtain ⟨is, e1, e2⟩ := ih (i + 1) (l ++ [v]) (by omega) (by
        rw [← List.take_append_getElem h, List.map_append, hl, List.map_append, List.map_cons, List.map_nil, ha]; rfl)
       refine ⟨is, ?_, e2⟩
       have gt : bin .gtr (.int .i64 (ps[i].length : Int)) (.int .i64 9) = some (.bool false) := by rw [b_gtr, decide_eq_false (by omega)]
       rw [vInts, List.map_append, List.map_cons, List.map_nil] at e1
       rw [← e1, f36_l0_eq]
       clear e1 e2 ih bad hl he
       rw [h2] at at'
       generalize ps[i] = d at *
       (repeat' with_reducible first | refine (ite_T _ _).trans ?_ | refine (ite_F _ _).trans ?_ | refine (jn_eq _ _).trans ?_ | refine (bstep (by first | rfl | (simp (disch := first | assumption | omega | (with_reducible rfl) | (simp only [go_sem]; done) | (simp only [go_sem]; omega) | fail) only [↓reduceIte, ↓jn_eq, Nat.reduceAdd, go_sem, Bool.not_true, Bool.not_false, hx, at', gt, nn]; rfl)) _).trans ?_ | refine (if_pos (by first | rfl | (simp (disch := first | assumption | omega | (with_reducible rfl) | (simp only [go_sem]; done) | (simp only [go_sem]; omega) | fail) only [↓reduceIte, ↓jn_eq, Nat.reduceAdd, go_sem, Bool.not_true, Bool.not_false, hx, at', gt, nn]; done))).trans ?_ | refine (ite_dec (by first | assumption | omega | (simp (disch := first | assumption | omega | (with_reducible rfl) | (simp only [go_sem]; done) | (simp only [go_sem]; omega) | fail) only [↓reduceIte, ↓jn_eq, Nat.reduceAdd, go_sem, Bool.not_true, Bool.not_false, hx, at', gt, nn]; done) | (simp (disch := first | assumption | omega | (with_reducible rfl) | (simp only [go_sem]; done) | (simp only [go_sem]; omega) | fail) only [↓reduceIte, ↓jn_eq, Nat.reduceAdd, go_sem, Bool.not_true, Bool.not_false, hx, at', gt, nn]; omega)) _ _).trans ?_ | refine (ite_ndec (by first | assumption | omega | (simp (disch := first | assumption | omega | (with_reducible rfl) | (simp only [go_sem]; done) | (simp only [go_sem]; omega) | fail) only [↓reduceIte, ↓jn_eq, Nat.reduceAdd, go_sem, Bool.not_true, Bool.not_false, hx, at', gt, nn]; done) | (simp (disch := first | assumption | omega | (with_reducible rfl) | (simp only [go_sem]; done) | (simp only [go_sem]; omega) | fail) only [↓reduceIte, ↓jn_eq, Nat.reduceAdd, go_sem, Bool.not_true, Bool.not_false, hx, at', gt, nn]; omega)) _ _).trans ?_ | fail)
       rfl
     · have ha : atoiO ps[i] = none := by unfold atoiO; rw [h1]; exact if_neg h9
       have gt : bin .gtr (.int .i64 (ps[i].length : Int)) (.int .i64 9) = some (.bool true) := by rw [b_gtr, decide_eq_true (by omega)]
       rw [bad ha]
       refine ⟨[], ?_, fun ns h => by cases h⟩
       rw [f36_l0_eq]
       clear ih bad hl he
       rw [h2] at at'
       generalize ps[i] = d at *
       (repeat' with_reducible first | refine (ite_T _ _).trans ?_ | refine (ite_F _ _).trans ?_ | refine (jn_eq _ _).trans ?_ | refine (bstep (by first | rfl | (simp (disch := first | assumption | omega | (with_reducible rfl) | (simp only [go_sem]; done) | (simp only [go_sem]; omega) | fail) only [↓reduceIte, ↓jn_eq, Nat.reduceAdd, go_sem, Bool.not_true, Bool.not_false, hx, at', gt, nn]; rfl)) _).trans ?_ | refine (if_pos (by first | rfl | (simp (disch := first | assumption | omega | (with_reducible rfl) | (simp only [go_sem]; done) | (simp only [go_sem]; omega) | fail) only [↓reduceIte, ↓jn_eq, Nat.reduceAdd, go_sem, Bool.not_true, Bool.not_false, hx, at', gt, nn]; done))).trans ?_ | refine (ite_dec (by first | assumption | omega | (simp (disch := first | assumption | omega | (with_reducible rfl) | (simp only [go_sem]; done) | (simp only [go_sem]; omega) | fail) only [↓reduceIte, ↓jn_eq, Nat.reduceAdd, go_sem, Bool.not_true, Bool.not_false, hx, at', gt, nn]; done) | (simp (disch := first | assumption | omega | (with_reducible rfl) | (simp only [go_sem]; done) | (simp only [go_sem]; omega) | fail) only [↓reduceIte, ↓jn_eq, Nat.reduceAdd, go_sem, Bool.not_true, Bool.not_false, hx, at', gt, nn]; omega)) _ _).trans ?_ | refine (ite_ndec (by first | assumption | omega | (simp (disch := first | assumption | omega | (with_reducible rfl) | (simp only [go_sem]; done) | (simp only [go_sem]; omega) | fail) only [↓reduceIte, ↓jn_eq, Nat.reduceAdd, go_sem, Bool.not_true, Bool.not_false, hx, at', gt, nn]; done) | (simp (disch := first | assumption | omega | (with_reducible rfl) | (simp only [go_sem]; done) | (simp only [go_sem]; omega) | fail) only [↓reduceIte, ↓jn_eq, Nat.reduceAdd, go_sem, Bool.not_true, Bool.not_false, hx, at', gt, nn]; omega)) _ _).trans ?_ | fail)
       rfl
   · have nn : nilE .neq .ifv = some (.bool true) := rfl
     have ha : atoiO ps[i] = none := by
      unfold atoiO
      unfold atoiV at h2
      split at h2
      · cases h2
      · rename_i e; rw [e]
      · rename_i e; rw [e]
     rw [bad ha]
     refine ⟨[], ?_, fun ns h => by cases h⟩
     rw [f36_l0_eq]
     clear ih bad hl he
     rw [h2] at at'
     generalize ps[i] = d at *
     (repeat' with_reducible first | refine (ite_T _ _).trans ?_ | refine (ite_F _ _).trans ?_ | refine (jn_eq _ _).trans ?_ | refine (bstep (by first | rfl | (simp (disch := first | assumption | omega | (with_reducible rfl) | (simp only [go_sem]; done) | (simp only [go_sem]; omega) | fail) only [↓reduceIte, ↓jn_eq, Nat.reduceAdd, go_sem, Bool.not_true, Bool.not_false, hx, at', nn]; rfl)) _).trans ?_ | refine (if_pos (by first | rfl | (simp (disch := first | assumption | omega | (with_reducible rfl) | (simp only [go_sem]; done) | (simp only [go_sem]; omega) | fail) only [↓reduceIte, ↓jn_eq, Nat.reduceAdd, go_sem, Bool.not_true, Bool.not_false, hx, at', nn]; done))).trans ?_ | refine (ite_dec (by first | assumption | omega | (simp (disch := first | assumption | omega | (with_reducible rfl) | (simp only [go_sem]; done) | (simp only [go_sem]; omega) | fail) only [↓reduceIte, ↓jn_eq, Nat.reduceAdd, go_sem, Bool.not_true, Bool.not_false, hx, at', nn]; done) | (simp (disch := first | assumption | omega | (with_reducible rfl) | (simp only [go_sem]; done) | (simp only [go_sem]; omega) | fail) only [↓reduceIte, ↓jn_eq, Nat.reduceAdd, go_sem, Bool.not_true, Bool.not_false, hx, at', nn]; omega)) _ _).trans ?_ | refine (ite_ndec (by first | assumption | omega | (simp (disch := first | assumption | omega | (with_reducible rfl) | (simp only [go_sem]; done) | (simp only [go_sem]; omega) | fail) only [↓reduceIte, ↓jn_eq, Nat.reduceAdd, go_sem, Bool.not_true, Bool.not_false, hx, at', nn]; done) | (simp (disch := first | assumption | omega | (with_reducible rfl) | (simp only [go_sem]; done) | (simp only [go_sem]; omega) | fail) only [↓reduceIte, ↓jn_eq, Nat.reduceAdd, go_sem, Bool.not_true, Bool.not_false, hx, at', nn]; omega)) _ _).trans ?_ | fail)
     rfl
theorem numbers_am {w s : List UInt8} (hw : w.length ≤ 100) (h32 : (32 : UInt8) ∉ w) (hs : s.length ≤ 2000) {k : Nat} (hk : 1 ≤ k) (hk2 : k ≤ 100) :
 ∃ is : List Int, Cl 36 [.str s, .str w, .int .i64 (k : Int)] [] = some (.tup [vInts .sh is, .bool (numP w k s).isSome], []) ∧ ∀ ns, numP w k s = some ns → is = ns.map (fun (n : Nat) => (n : Int)) := by
 have sl := split_len s
 have sp := split_am (splitS_ne s) (splitS_32 s) (by rw [join_split]; omega)
 obtain ⟨p, ps, he⟩ : ∃ p ps, splitS s = p :: ps := by
  have := splitS_ne s
  match splitS s, this with
  | p :: ps, _ => exact ⟨p, ps, rfl⟩
 rw [join_split, he] at sp
 rw [he, List.length_cons] at sl
 have sp := sp (by rw [List.length_cons]; omega)
 have a1 : bin .add (.int .i64 1) (.int .i64 (k : Int)) = some (.int .i64 ((k + 1 : Nat) : Int)) := by
  rw [b_add, wrap_i64 (by omega) (by omega)]; congr 2; omega
 have l1 : lnL (V.weak (.lst 9 .sh ((p :: ps).map V.str))) = some (.int .i64 ((ps.length + 1 : Nat) : Int)) := by
  have : ((p :: ps).map V.str).length = ps.length + 1 := by simp
  rw [← this]; rfl
 by_cases hc : ps.length = k
 · subst hc
   have ne : bin .neq (.int .i64 ((ps.length + 1 : Nat) : Int)) (.int .i64 ((ps.length + 1 : Nat) : Int)) = some (.bool false) := by rw [b_neq]; simp
   obtain ⟨is, h0, h1⟩ := num_l0 hw h32 hs he hk hk2 ps.length 0 [] (by omega) rfl
   refine ⟨is, ?_, h1⟩
   have sl3 : slL 9 (.lst 9 .sh ((p :: ps).map V.str)) (some (.int .i64 1)) none none = some (.lst 9 .sh (ps.map V.str)) := by
    have := slL_lo (xs := (p :: ps).map V.str) (i := 1) (by simp) 9 .sh .i64
    exact this
   have l2 : lnL (.lst 9 .sh (ps.map V.str)) = some (.int .i64 (ps.length : Int)) := by
    have : (ps.map V.str).length = ps.length := by simp
    rw [← this]; rfl
   rw [vInts, List.map_nil] at h0
   rw [← h0, f36_eq]
   clear h0 h1
   generalize (p :: ps).map V.str = D at *
   generalize ps.map V.str = E at *
   generalize ps.length = n at *
   refine (bstep sp _).trans ?_
   refine (bstep l1 _).trans ?_
   refine (bstep a1 _).trans ?_
   refine (bstep ne _).trans ?_
   rw [ite_F]
   refine (bstep sl3 _).trans ?_
   refine (bstep l2 _).trans ?_
   rfl
 · have ne : bin .neq (.int .i64 ((ps.length + 1 : Nat) : Int)) (.int .i64 ((k + 1 : Nat) : Int)) = some (.bool true) := by
    rw [b_neq]; simp; omega
   have hn : numP w k s = none := by
    unfold numP
    rw [he]
    exact if_neg fun h => hc h.2
   rw [hn]
   refine ⟨[], ?_, fun ns h => by cases h⟩
   rw [f36_eq]
   generalize (p :: ps).map V.str = D at *
   generalize ps.length = n at *
   refine (bstep sp _).trans ?_
   refine (bstep l1 _).trans ?_
   refine (bstep a1 _).trans ?_
   refine (bstep ne _).trans ?_
   rw [ite_T]
   rfl
end Go.Proofs.YtaghnpjlhmgioaaDoor
end

section
set_option linter.unusedVariables false
set_option linter.unusedSimpArgs false
set_option linter.unusedSectionVars false
set_option maxRecDepth 100000
namespace Go.Proofs.YtaghnpjlhmgioaaDoor
open Go AM
end Go.Proofs.YtaghnpjlhmgioaaDoor
end

section
set_option linter.unusedVariables false
set_option linter.unusedSimpArgs false
set_option linter.unusedSectionVars false
set_option maxRecDepth 100000
namespace Go.Proofs.YtaghnpjlhmgioaaDoor
open Go AM
abbrev kE (e : E0) : Int × Int := (e.fr, e.to)
def r5 (g : Grf) (i : Nat) : Int := if (g.es.drop i).any (oddE g.n) = true then 50 else if (g.es.map kE).Nodup then 0 else 51
end Go.Proofs.YtaghnpjlhmgioaaDoor
end

section
set_option linter.unusedVariables false
set_option linter.unusedSimpArgs false
set_option linter.unusedSectionVars false
set_option maxRecDepth 100000
namespace Go.Proofs.YtaghnpjlhmgioaaDoor
open Go AM
abbrev lE' (f : Fl) (l : List E0) : V := .lst 45 f (l.map vE0)
theorem eqvE (e : E0) : eqv (vE0 e) (vE0 e) = some true := by simp [vE0, eqv, eqvL]
theorem neE (e : E0) : eqT (tyG tE) .neq (vE0 e) (vE0 e) = some (.bool false) := by
 simp [eqT, eqvE, tyG_vE0]
theorem row_l0 {l : List E0} (hl : l.length < 1000000) : ∀ (n i : Nat), i + n = l.length → f19_l0 (lE' .sh l) (lE' .sh l) (.int .i64 (i : Int)) = some (.bool true, []) := by
 intro n
 induction n with
 | zero =>
   intro i hi
   rw [f19_l0_eq]
   (repeat' with_reducible first | refine (ite_T _ _).trans ?_ | refine (ite_F _ _).trans ?_ | refine (jn_eq _ _).trans ?_ | refine (bstep (by first | rfl | (simp (disch := first | assumption | omega | (with_reducible rfl) | (simp only [go_sem]; done) | (simp only [go_sem]; omega) | fail) only [↓reduceIte, ↓jn_eq, Nat.reduceAdd, go_sem, Bool.not_true, Bool.not_false]; rfl)) _).trans ?_ | refine (if_pos (by first | rfl | (simp (disch := first | assumption | omega | (with_reducible rfl) | (simp only [go_sem]; done) | (simp only [go_sem]; omega) | fail) only [↓reduceIte, ↓jn_eq, Nat.reduceAdd, go_sem, Bool.not_true, Bool.not_false]; done))).trans ?_ | refine (ite_dec (by first | assumption | omega | (simp (disch := first | assumption | omega | (with_reducible rfl) | (simp only [go_sem]; done) | (simp only [go_sem]; omega) | fail) only [↓reduceIte, ↓jn_eq, Nat.reduceAdd, go_sem, Bool.not_true, Bool.not_false]; done) | (simp (disch := first | assumption | omega | (with_reducible rfl) | (simp only [go_sem]; done) | (simp only [go_sem]; omega) | fail) only [↓reduceIte, ↓jn_eq, Nat.reduceAdd, go_sem, Bool.not_true, Bool.not_false]; omega)) _ _).trans ?_ | refine (ite_ndec (by first | assumption | omega | (simp (disch := first | assumption | omega | (with_reducible rfl) | (simp only [go_sem]; done) | (simp only [go_sem]; omega) | fail) only [↓reduceIte, ↓jn_eq, Nat.reduceAdd, go_sem, Bool.not_true, Bool.not_false]; done) | (simp (disch := first | assumption | omega | (with_reducible rfl) | (simp only [go_sem]; done) | (simp only [go_sem]; omega) | fail) only [↓reduceIte, ↓jn_eq, Nat.reduceAdd, go_sem, Bool.not_true, Bool.not_false]; omega)) _ _).trans ?_ | fail)
   rfl
 | succ n ih =>
   intro i hi
   have h : i < l.length := by omega
   have hx := E0_at h
   have hne := neE l[i]
   rw [← ih (i + 1) (by omega), f19_l0_eq]
   clear ih
   generalize vE0 l[i] = y at *
   (repeat' with_reducible first | refine (ite_T _ _).trans ?_ | refine (ite_F _ _).trans ?_ | refine (jn_eq _ _).trans ?_ | refine (bstep (by first | rfl | (simp (disch := first | assumption | omega | (with_reducible rfl) | (simp only [go_sem]; done) | (simp only [go_sem]; omega) | fail) only [↓reduceIte, ↓jn_eq, Nat.reduceAdd, go_sem, Bool.not_true, Bool.not_false, hx, hne]; rfl)) _).trans ?_ | refine (if_pos (by first | rfl | (simp (disch := first | assumption | omega | (with_reducible rfl) | (simp only [go_sem]; done) | (simp only [go_sem]; omega) | fail) only [↓reduceIte, ↓jn_eq, Nat.reduceAdd, go_sem, Bool.not_true, Bool.not_false, hx, hne]; done))).trans ?_ | refine (ite_dec (by first | assumption | omega | (simp (disch := first | assumption | omega | (with_reducible rfl) | (simp only [go_sem]; done) | (simp only [go_sem]; omega) | fail) only [↓reduceIte, ↓jn_eq, Nat.reduceAdd, go_sem, Bool.not_true, Bool.not_false, hx, hne]; done) | (simp (disch := first | assumption | omega | (with_reducible rfl) | (simp only [go_sem]; done) | (simp only [go_sem]; omega) | fail) only [↓reduceIte, ↓jn_eq, Nat.reduceAdd, go_sem, Bool.not_true, Bool.not_false, hx, hne]; omega)) _ _).trans ?_ | refine (ite_ndec (by first | assumption | omega | (simp (disch := first | assumption | omega | (with_reducible rfl) | (simp only [go_sem]; done) | (simp only [go_sem]; omega) | fail) only [↓reduceIte, ↓jn_eq, Nat.reduceAdd, go_sem, Bool.not_true, Bool.not_false, hx, hne]; done) | (simp (disch := first | assumption | omega | (with_reducible rfl) | (simp only [go_sem]; done) | (simp only [go_sem]; omega) | fail) only [↓reduceIte, ↓jn_eq, Nat.reduceAdd, go_sem, Bool.not_true, Bool.not_false, hx, hne]; omega)) _ _).trans ?_ | fail)
   rfl
theorem row5_am {l : List E0} (hl : l.length < 1000000) : Cl 19 [lE' .sh l, lE' .sh l] [] = some (.bool true, []) := by
 have h := row_l0 hl l.length 0 (by omega)
 simp only [c0] at h
 rw [← h, f19_eq]
 (repeat' with_reducible first | refine (ite_T _ _).trans ?_ | refine (ite_F _ _).trans ?_ | refine (jn_eq _ _).trans ?_ | refine (bstep (by first | rfl | (simp (disch := first | assumption | omega | (with_reducible rfl) | (simp only [go_sem]; done) | (simp only [go_sem]; omega) | fail) only [↓reduceIte, ↓jn_eq, Nat.reduceAdd, go_sem, Bool.not_true, Bool.not_false]; rfl)) _).trans ?_ | refine (if_pos (by first | rfl | (simp (disch := first | assumption | omega | (with_reducible rfl) | (simp only [go_sem]; done) | (simp only [go_sem]; omega) | fail) only [↓reduceIte, ↓jn_eq, Nat.reduceAdd, go_sem, Bool.not_true, Bool.not_false]; done))).trans ?_ | refine (ite_dec (by first | assumption | omega | (simp (disch := first | assumption | omega | (with_reducible rfl) | (simp only [go_sem]; done) | (simp only [go_sem]; omega) | fail) only [↓reduceIte, ↓jn_eq, Nat.reduceAdd, go_sem, Bool.not_true, Bool.not_false]; done) | (simp (disch := first | assumption | omega | (with_reducible rfl) | (simp only [go_sem]; done) | (simp only [go_sem]; omega) | fail) only [↓reduceIte, ↓jn_eq, Nat.reduceAdd, go_sem, Bool.not_true, Bool.not_false]; omega)) _ _).trans ?_ | refine (ite_ndec (by first | assumption | omega | (simp (disch := first | assumption | omega | (with_reducible rfl) | (simp only [go_sem]; done) | (simp only [go_sem]; omega) | fail) only [↓reduceIte, ↓jn_eq, Nat.reduceAdd, go_sem, Bool.not_true, Bool.not_false]; done) | (simp (disch := first | assumption | omega | (with_reducible rfl) | (simp only [go_sem]; done) | (simp only [go_sem]; omega) | fail) only [↓reduceIte, ↓jn_eq, Nat.reduceAdd, go_sem, Bool.not_true, Bool.not_false]; omega)) _ _).trans ?_ | fail)
 rfl
theorem same5_am {g : Grf} (hl : g.es.length < 1000000) : Cl 15 [vG .sh g, vG .sh g] [] = some (.bool true, []) := by
 have h := row5_am hl
 rw [f15_eq]
 (repeat' with_reducible first | refine (ite_T _ _).trans ?_ | refine (ite_F _ _).trans ?_ | refine (jn_eq _ _).trans ?_ | refine (bstep (by first | rfl | (simp (disch := first | assumption | omega | (with_reducible rfl) | (simp only [go_sem]; done) | (simp only [go_sem]; omega) | fail) only [↓reduceIte, ↓jn_eq, Nat.reduceAdd, go_sem, Bool.not_true, Bool.not_false, h]; rfl)) _).trans ?_ | refine (if_pos (by first | rfl | (simp (disch := first | assumption | omega | (with_reducible rfl) | (simp only [go_sem]; done) | (simp only [go_sem]; omega) | fail) only [↓reduceIte, ↓jn_eq, Nat.reduceAdd, go_sem, Bool.not_true, Bool.not_false, h]; done))).trans ?_ | refine (ite_dec (by first | assumption | omega | (simp (disch := first | assumption | omega | (with_reducible rfl) | (simp only [go_sem]; done) | (simp only [go_sem]; omega) | fail) only [↓reduceIte, ↓jn_eq, Nat.reduceAdd, go_sem, Bool.not_true, Bool.not_false, h]; done) | (simp (disch := first | assumption | omega | (with_reducible rfl) | (simp only [go_sem]; done) | (simp only [go_sem]; omega) | fail) only [↓reduceIte, ↓jn_eq, Nat.reduceAdd, go_sem, Bool.not_true, Bool.not_false, h]; omega)) _ _).trans ?_ | refine (ite_ndec (by first | assumption | omega | (simp (disch := first | assumption | omega | (with_reducible rfl) | (simp only [go_sem]; done) | (simp only [go_sem]; omega) | fail) only [↓reduceIte, ↓jn_eq, Nat.reduceAdd, go_sem, Bool.not_true, Bool.not_false, h]; done) | (simp (disch := first | assumption | omega | (with_reducible rfl) | (simp only [go_sem]; done) | (simp only [go_sem]; omega) | fail) only [↓reduceIte, ↓jn_eq, Nat.reduceAdd, go_sem, Bool.not_true, Bool.not_false, h]; omega)) _ _).trans ?_ | fail)
 rfl
theorem ldTake_g {h : List V} {id i : Nat} {u e t : TypeId} {f : Fl} {fs xs : List V} (hh : h[id]? = some (.agg u fs)) (hf : fs[i]? = some (.lst e f xs)) : ldTake h t (.ref id [i] t) = some (.lst e f xs, h.set id (.agg u (fs.set i (.lst e f.wk xs)))) := by
 simp only [ldTake, if_true, rd, wr, hh, Option.bind_some, V.at, V.upd, hf, weak_lst', Option.map_some]
end Go.Proofs.YtaghnpjlhmgioaaDoor
end

section
set_option linter.unusedVariables false
set_option linter.unusedSimpArgs false
set_option linter.unusedSectionVars false
set_option maxRecDepth 100000
namespace Go.Proofs.YtaghnpjlhmgioaaDoor
open Go AM
end Go.Proofs.YtaghnpjlhmgioaaDoor
end

section
set_option linter.unusedVariables false
set_option linter.unusedSimpArgs false
set_option linter.unusedSectionVars false
set_option maxRecDepth 100000
namespace Go.Proofs.YtaghnpjlhmgioaaDoor
open Go AM
def flatT : List (List UInt8) → List UInt8 → List UInt8
 | [], t => t
 | l :: ls, t => l ++ 10 :: flatT ls t
theorem lines_of : ∀ s : List UInt8, ∃ ls t, s = flatT ls t ∧ (∀ l ∈ ls, (10 : UInt8) ∉ l) ∧ (10 : UInt8) ∉ t
 | [] => ⟨[], [], rfl, by simp, by simp⟩
 | c :: r => by
   obtain ⟨ls, t, e, h1, h2⟩ := lines_of r
   by_cases hc : c = 10
   · exact ⟨[] :: ls, t, by rw [flatT, e, hc]; rfl, fun l h => (List.mem_cons.1 h).elim (fun e => by rw [e]; simp) (h1 l), h2⟩
   · match ls, e, h1 with
     | [], e, _ => exact ⟨[], c :: t, by rw [flatT, e]; rfl, by simp, fun h => (List.mem_cons.1 h).elim (fun e => hc e.symm) h2⟩
     | l :: ls, e, h1 =>
       refine ⟨(c :: l) :: ls, t, by rw [flatT, e]; rfl, fun x h => ?_, h2⟩
       rcases List.mem_cons.1 h with rfl | h
       · exact fun h => (List.mem_cons.1 h).elim (fun e => hc e.symm) (h1 l List.mem_cons_self)
       · exact h1 x (List.mem_cons_of_mem _ h)
theorem flatT_len : ∀ (ls : List (List UInt8)) (t : List UInt8), ls.length ≤ (flatT ls t).length
 | [], t => Nat.zero_le _
 | l :: ls, t => by
   have := flatT_len ls t
   rw [flatT, List.length_append, List.length_cons, List.length_cons]; omega
def edgesT : List (List UInt8) → List UInt8 → Nat → List E0 → Nat ⊕ List E0
 | [], t, n, acc => if t = [] then .inr acc else .inl n
 | l :: ls, t, n, acc => match numP edgeW 3 l with
   | some [a, b, c] => edgesT ls t (n + 1) (acc ++ [⟨a, b, c⟩])
   | _ => .inl n
def endT (N : Int) : Nat ⊕ List E0 → Grf × Nat × Int
 | .inl n => (⟨0, []⟩, n, 52)
 | .inr es => (normG ⟨N, es⟩, 0, chkG ⟨N, es⟩)
def readT : List (List UInt8) → List UInt8 → Grf × Nat × Int
 | [], _ => (⟨0, []⟩, 1, 52)
 | l :: ls, t => match numP graphW 1 l with
   | some [a] => endT (a : Int) (edgesT ls t 2 [])
   | _ => (⟨0, []⟩, 1, 52)
def vRes (r : Grf × Nat × Int) : V := .tup [vG .sh r.1, .int .i64 (r.2.1 : Int), .int .i64 r.2.2]
theorem numP_3 {l : List UInt8} {ns : List Nat} (h : numP edgeW 3 l = some ns) : ∃ a b c, ns = [a, b, c] := by
 have := (numP_some h).1
 match ns, this with
 | [a, b, c], _ => exact ⟨a, b, c, rfl⟩
theorem numP_1 {l : List UInt8} {ns : List Nat} (h : numP graphW 1 l = some ns) : ∃ a, ns = [a] := by
 have := (numP_some h).1
 match ns, this with
 | [a], _ => exact ⟨a, rfl⟩
abbrev gBox (N : Int) (f : Fl) (acc : List E0) : List V := [zG, .agg 23 [.int .i64 N, .lst 45 f (acc.map vE0)]]
theorem read_l0 : ∀ (ls : List (List UInt8)) (t : List UInt8) (N : Int) (acc : List E0) (f : Fl) (n : Nat), (f = .own ∨ f = .nil) → 2 ≤ n → n + ls.length ≤ 5000 → acc.length + ls.length ≤ 5000 → (∀ l ∈ ls, (10 : UInt8) ∉ l) → (10 : UInt8) ∉ t → (flatT ls t).length ≤ 2000 →
 f23_l0 (.str (flatT ls t)) (.ref 0 [] 24) (.ref 1 [] 24) (.int .i64 (n : Int)) (gBox N f acc) = some (vRes (endT N (edgesT ls t n acc)), []) := by
 intro ls
 induction ls with
 | nil =>
   intro t N acc f n hf h2 hn ha _ ht hl
   rw [flatT] at *
   have e1 : bin .eql (.int .i64 (n : Int)) (.int .i64 1) = some (.bool false) := by rw [b_eql, decide_eq_false (by omega)]
   by_cases h0 : t = []
   · subst h0
     have e2 : bin .neq (.str []) (.str []) = some (.bool false) := rfl
     have nm := Norm_am (g := ⟨N, acc⟩) (by simp at ha ⊢; omega)
     rw [show edgesT [] [] n acc = .inr acc from rfl, endT]
     generalize normG ⟨N, acc⟩ = m at *
     generalize chkG ⟨N, acc⟩ = e at *
     rw [f23_l0_eq]
     simp only [f23_r3, f23_r16, f23_r17]
     rcases hf with rfl | rfl
     all_goals (repeat' with_reducible first | refine (ite_T _ _).trans ?_ | refine (ite_F _ _).trans ?_ | refine (jn_eq _ _).trans ?_ | refine (bstep (by first | rfl | (simp (disch := first | assumption | omega | (with_reducible rfl) | (simp only [go_sem]; done) | (simp only [go_sem]; omega) | fail) only [↓reduceIte, ↓jn_eq, Nat.reduceAdd, go_sem, Bool.not_true, Bool.not_false, e1, e2, nm]; rfl)) _).trans ?_ | refine (if_pos (by first | rfl | (simp (disch := first | assumption | omega | (with_reducible rfl) | (simp only [go_sem]; done) | (simp only [go_sem]; omega) | fail) only [↓reduceIte, ↓jn_eq, Nat.reduceAdd, go_sem, Bool.not_true, Bool.not_false, e1, e2, nm]; done))).trans ?_ | refine (ite_dec (by first | assumption | omega | (simp (disch := first | assumption | omega | (with_reducible rfl) | (simp only [go_sem]; done) | (simp only [go_sem]; omega) | fail) only [↓reduceIte, ↓jn_eq, Nat.reduceAdd, go_sem, Bool.not_true, Bool.not_false, e1, e2, nm]; done) | (simp (disch := first | assumption | omega | (with_reducible rfl) | (simp only [go_sem]; done) | (simp only [go_sem]; omega) | fail) only [↓reduceIte, ↓jn_eq, Nat.reduceAdd, go_sem, Bool.not_true, Bool.not_false, e1, e2, nm]; omega)) _ _).trans ?_ | refine (ite_ndec (by first | assumption | omega | (simp (disch := first | assumption | omega | (with_reducible rfl) | (simp only [go_sem]; done) | (simp only [go_sem]; omega) | fail) only [↓reduceIte, ↓jn_eq, Nat.reduceAdd, go_sem, Bool.not_true, Bool.not_false, e1, e2, nm]; done) | (simp (disch := first | assumption | omega | (with_reducible rfl) | (simp only [go_sem]; done) | (simp only [go_sem]; omega) | fail) only [↓reduceIte, ↓jn_eq, Nat.reduceAdd, go_sem, Bool.not_true, Bool.not_false, e1, e2, nm]; omega)) _ _).trans ?_ | fail)
     all_goals rfl
   · have e2 : bin .neq (.str t) (.str []) = some (.bool true) := by simp [bin, h0]
     have ct := cutN_am ht
     obtain ⟨is, nu, _⟩ := numbers_am (w := edgeW) (s := t) (k := 3) (by simp [edgeW]) (by simp [edgeW]) hl (by omega) (by omega)
     have nu' : Cl 36 [.str t, .str edgeW, .int .i64 3] [] = _ := nu
     rw [show edgesT [] t n acc = .inl n from if_neg h0, endT]
     simp only [edgeW] at nu'
     clear nu
     generalize (numP [101, 100, 103, 101] 3 t).isSome = b at *
     rw [f23_l0_eq]
     simp only [f23_r3, f23_r5, f23_r6, f23_r7, f23_r8, f23_r9, f23_r10, f23_r11]
     rcases hf with rfl | rfl
     all_goals (repeat' with_reducible first | refine (ite_T _ _).trans ?_ | refine (ite_F _ _).trans ?_ | refine (jn_eq _ _).trans ?_ | refine (bstep (by first | rfl | (simp (disch := first | assumption | omega | (with_reducible rfl) | (simp only [go_sem]; done) | (simp only [go_sem]; omega) | fail) only [↓reduceIte, ↓jn_eq, Nat.reduceAdd, go_sem, Bool.not_true, Bool.not_false, e1, e2, ct, nu']; rfl)) _).trans ?_ | refine (if_pos (by first | rfl | (simp (disch := first | assumption | omega | (with_reducible rfl) | (simp only [go_sem]; done) | (simp only [go_sem]; omega) | fail) only [↓reduceIte, ↓jn_eq, Nat.reduceAdd, go_sem, Bool.not_true, Bool.not_false, e1, e2, ct, nu']; done))).trans ?_ | refine (ite_dec (by first | assumption | omega | (simp (disch := first | assumption | omega | (with_reducible rfl) | (simp only [go_sem]; done) | (simp only [go_sem]; omega) | fail) only [↓reduceIte, ↓jn_eq, Nat.reduceAdd, go_sem, Bool.not_true, Bool.not_false, e1, e2, ct, nu']; done) | (simp (disch := first | assumption | omega | (with_reducible rfl) | (simp only [go_sem]; done) | (simp only [go_sem]; omega) | fail) only [↓reduceIte, ↓jn_eq, Nat.reduceAdd, go_sem, Bool.not_true, Bool.not_false, e1, e2, ct, nu']; omega)) _ _).trans ?_ | refine (ite_ndec (by first | assumption | omega | (simp (disch := first | assumption | omega | (with_reducible rfl) | (simp only [go_sem]; done) | (simp only [go_sem]; omega) | fail) only [↓reduceIte, ↓jn_eq, Nat.reduceAdd, go_sem, Bool.not_true, Bool.not_false, e1, e2, ct, nu']; done) | (simp (disch := first | assumption | omega | (with_reducible rfl) | (simp only [go_sem]; done) | (simp only [go_sem]; omega) | fail) only [↓reduceIte, ↓jn_eq, Nat.reduceAdd, go_sem, Bool.not_true, Bool.not_false, e1, e2, ct, nu']; omega)) _ _).trans ?_ | fail)
     all_goals rfl
 | cons l ls ih =>
   intro t N acc f n hf h2 hn ha hls ht hl
   rw [flatT] at hl ⊢
   rw [List.length_cons] at hn ha
   have hl10 := hls l List.mem_cons_self
   have e1 : bin .eql (.int .i64 (n : Int)) (.int .i64 1) = some (.bool false) := by rw [b_eql, decide_eq_false (by omega)]
   have e2 : bin .neq (.str (l ++ 10 :: flatT ls t)) (.str []) = some (.bool true) := by simp [bin]
   have ct := cut_am (b := flatT ls t) hl10 (by omega)
   have hll : l.length ≤ 2000 ∧ (flatT ls t).length ≤ 2000 := by rw [List.length_append, List.length_cons] at hl; omega
   obtain ⟨is, nu, hns⟩ := numbers_am (w := edgeW) (s := l) (k := 3) (by simp [edgeW]) (by simp [edgeW]) hll.1 (by omega) (by omega)
   have nu' : Cl 36 [.str l, .str edgeW, .int .i64 3] [] = _ := nu
   clear nu
   rw [edgesT]
   cases hp : numP edgeW 3 l with
   | none =>
     rw [hp] at nu'
     rw [endT]
     simp only [edgeW] at nu'
     generalize l ++ 10 :: flatT ls t = s at *
     generalize flatT ls t = r at *
     rw [f23_l0_eq]
     simp only [f23_r3, f23_r5, f23_r6, f23_r7, f23_r8, f23_r9, f23_r10, f23_r11]
     rcases hf with rfl | rfl
     all_goals (repeat' with_reducible first | refine (ite_T _ _).trans ?_ | refine (ite_F _ _).trans ?_ | refine (jn_eq _ _).trans ?_ | refine (bstep (by first | rfl | (simp (disch := first | assumption | omega | (with_reducible rfl) | (simp only [go_sem]; done) | (simp only [go_sem]; omega) | fail) only [↓reduceIte, ↓jn_eq, Nat.reduceAdd, go_sem, Bool.not_true, Bool.not_false, e1, e2, ct, nu']; rfl)) _).trans ?_ | refine (if_pos (by first | rfl | (simp (disch := first | assumption | omega | (with_reducible rfl) | (simp only [go_sem]; done) | (simp only [go_sem]; omega) | fail) only [↓reduceIte, ↓jn_eq, Nat.reduceAdd, go_sem, Bool.not_true, Bool.not_false, e1, e2, ct, nu']; done))).trans ?_ | refine (ite_dec (by first | assumption | omega | (simp (disch := first | assumption | omega | (with_reducible rfl) | (simp only [go_sem]; done) | (simp only [go_sem]; omega) | fail) only [↓reduceIte, ↓jn_eq, Nat.reduceAdd, go_sem, Bool.not_true, Bool.not_false, e1, e2, ct, nu']; done) | (simp (disch := first | assumption | omega | (with_reducible rfl) | (simp only [go_sem]; done) | (simp only [go_sem]; omega) | fail) only [↓reduceIte, ↓jn_eq, Nat.reduceAdd, go_sem, Bool.not_true, Bool.not_false, e1, e2, ct, nu']; omega)) _ _).trans ?_ | refine (ite_ndec (by first | assumption | omega | (simp (disch := first | assumption | omega | (with_reducible rfl) | (simp only [go_sem]; done) | (simp only [go_sem]; omega) | fail) only [↓reduceIte, ↓jn_eq, Nat.reduceAdd, go_sem, Bool.not_true, Bool.not_false, e1, e2, ct, nu']; done) | (simp (disch := first | assumption | omega | (with_reducible rfl) | (simp only [go_sem]; done) | (simp only [go_sem]; omega) | fail) only [↓reduceIte, ↓jn_eq, Nat.reduceAdd, go_sem, Bool.not_true, Bool.not_false, e1, e2, ct, nu']; omega)) _ _).trans ?_ | fail)
     all_goals rfl
   | some ns =>
     obtain ⟨a, b, c, rfl⟩ := numP_3 hp
     have hi := hns _ hp
     subst hi
     rw [hp] at nu'
     dsimp only
     have ih' := ih t N (acc ++ [⟨a, b, c⟩]) .own (n + 1) (Or.inl rfl) (by omega) (by omega) (by simp; omega) (fun x hx => hls x (List.mem_cons_of_mem _ hx)) ht hll.2
     rw [gBox, List.map_append, List.map_cons, List.map_nil] at ih'
     have ad : bin .add (.int .i64 (n : Int)) (.int .i64 1) = some (.int .i64 ((n + 1 : Nat) : Int)) := by
      rw [b_add, wrap_i64 (by omega) (by omega)]; rfl
     have tk : ∀ (z x0 : V) (rs : List V) (f : Fl), ldTake [z, .agg 23 [x0, .lst 45 f rs]] 22 (.ref 1 [1] 22) = some (.lst 45 f rs, [z, .agg 23 [x0, .lst 45 f.wk rs]]) :=
      fun z x0 rs f => ldTake_g (h := [z, .agg 23 [x0, .lst 45 f rs]]) (id := 1) rfl rfl
     have sb1 : sameB (.ref 1 [] 24) (.ref 1 [1] 22) = true := rfl
     have lw : ∀ x, lowB true [.rop 3 (.int .i64 x)] = true := fun _ => rfl
     have i0 : ∀ a b c : Int, ixS 3 (V.weak (.lst 3 .sh [.int .i64 a, .int .i64 b, .int .i64 c])) (.int .i64 0) = some (.rop 3 (.int .i64 a)) := fun _ _ _ => rfl
     have i1 : ∀ a b c : Int, ixS 3 (V.weak (.lst 3 .sh [.int .i64 a, .int .i64 b, .int .i64 c])) (.int .i64 1) = some (.rop 3 (.int .i64 b)) := fun _ _ _ => rfl
     have i2 : ∀ a b c : Int, ixS 3 (V.weak (.lst 3 .sh [.int .i64 a, .int .i64 b, .int .i64 c])) (.int .i64 2) = some (.rop 3 (.int .i64 c)) := fun _ _ _ => rfl
     have i0' : ∀ a b c : Int, ixS 3 (.lst 3 .sh [.int .i64 a, .int .i64 b, .int .i64 c]) (.int .i64 0) = some (.rop 3 (.int .i64 a)) := fun _ _ _ => rfl
     have i1' : ∀ a b c : Int, ixS 3 (.lst 3 .sh [.int .i64 a, .int .i64 b, .int .i64 c]) (.int .i64 1) = some (.rop 3 (.int .i64 b)) := fun _ _ _ => rfl
     have i2' : ∀ a b c : Int, ixS 3 (.lst 3 .sh [.int .i64 a, .int .i64 b, .int .i64 c]) (.int .i64 2) = some (.rop 3 (.int .i64 c)) := fun _ _ _ => rfl
     have hle : acc.length ≤ 5000 := by omega
     simp only [edgeW, vInts, List.map_cons, List.map_nil, Option.isSome_some] at nu'
     rw [← ih', f23_l0_eq]
     simp only [f23_r3, f23_r4, f23_r5, f23_r6, f23_r7, f23_r8, f23_r9, f23_r10, f23_r12, f23_r13, f23_r14, f23_r15]
     clear ih ih' hns hp
     generalize l ++ 10 :: flatT ls t = s at *
     generalize flatT ls t = r at *
     simp only [gBox, vE0]
     rcases hf with rfl | rfl
     all_goals (repeat' with_reducible first | refine (ite_T _ _).trans ?_ | refine (ite_F _ _).trans ?_ | refine (jn_eq _ _).trans ?_ | refine (bstep (by first | rfl | (simp (disch := first | assumption | omega | (with_reducible rfl) | (simp only [go_sem]; done) | (simp only [go_sem]; omega) | fail) only [↓reduceIte, ↓jn_eq, Nat.reduceAdd, go_sem, Bool.not_true, Bool.not_false, e1, e2, ct, nu', ad, tk, sb1, lw, i0, i1, i2, i0', i1', i2', wk_own, wk_nil]; rfl)) _).trans ?_ | refine (if_pos (by first | rfl | (simp (disch := first | assumption | omega | (with_reducible rfl) | (simp only [go_sem]; done) | (simp only [go_sem]; omega) | fail) only [↓reduceIte, ↓jn_eq, Nat.reduceAdd, go_sem, Bool.not_true, Bool.not_false, e1, e2, ct, nu', ad, tk, sb1, lw, i0, i1, i2, i0', i1', i2', wk_own, wk_nil]; done))).trans ?_ | refine (ite_dec (by first | assumption | omega | (simp (disch := first | assumption | omega | (with_reducible rfl) | (simp only [go_sem]; done) | (simp only [go_sem]; omega) | fail) only [↓reduceIte, ↓jn_eq, Nat.reduceAdd, go_sem, Bool.not_true, Bool.not_false, e1, e2, ct, nu', ad, tk, sb1, lw, i0, i1, i2, i0', i1', i2', wk_own, wk_nil]; done) | (simp (disch := first | assumption | omega | (with_reducible rfl) | (simp only [go_sem]; done) | (simp only [go_sem]; omega) | fail) only [↓reduceIte, ↓jn_eq, Nat.reduceAdd, go_sem, Bool.not_true, Bool.not_false, e1, e2, ct, nu', ad, tk, sb1, lw, i0, i1, i2, i0', i1', i2', wk_own, wk_nil]; omega)) _ _).trans ?_ | refine (ite_ndec (by first | assumption | omega | (simp (disch := first | assumption | omega | (with_reducible rfl) | (simp only [go_sem]; done) | (simp only [go_sem]; omega) | fail) only [↓reduceIte, ↓jn_eq, Nat.reduceAdd, go_sem, Bool.not_true, Bool.not_false, e1, e2, ct, nu', ad, tk, sb1, lw, i0, i1, i2, i0', i1', i2', wk_own, wk_nil]; done) | (simp (disch := first | assumption | omega | (with_reducible rfl) | (simp only [go_sem]; done) | (simp only [go_sem]; omega) | fail) only [↓reduceIte, ↓jn_eq, Nat.reduceAdd, go_sem, Bool.not_true, Bool.not_false, e1, e2, ct, nu', ad, tk, sb1, lw, i0, i1, i2, i0', i1', i2', wk_own, wk_nil]; omega)) _ _).trans ?_ | fail)
     all_goals rfl
theorem Read_am {ls : List (List UInt8)} {t : List UInt8} (hls : ∀ l ∈ ls, (10 : UInt8) ∉ l) (ht : (10 : UInt8) ∉ t) (hl : (flatT ls t).length ≤ 2000) :
 Cl 23 [.str (flatT ls t)] [] = some (vRes (readT ls t), []) := by
 have e1 : bin .eql (.int .i64 1) (.int .i64 1) = some (.bool true) := rfl
 match ls, hls, hl with
 | [], _, hl =>
   rw [flatT] at hl ⊢
   have ct := cutN_am ht
   obtain ⟨is, nu, _⟩ := numbers_am (w := graphW) (s := t) (k := 1) (by simp [graphW]) (by simp [graphW]) hl (by omega) (by omega)
   have nu' : Cl 36 [.str t, .str graphW, .int .i64 1] [] = _ := nu
   clear nu
   simp only [graphW] at nu'
   rw [readT]
   generalize (numP [103, 114, 97, 112, 104] 1 t).isSome = b at *
   rw [f23_eq]
   simp only [f23_r0, f23_r1, f23_r2, List.nil_append, List.length_nil, List.cons_append, List.length_cons, Nat.zero_add]
   rw [f23_l0_eq]
   simp only [f23_r3, f23_r5, f23_r6, f23_r7, f23_r8, f23_r9, f23_r10, f23_r11]
   (repeat' with_reducible first | refine (ite_T _ _).trans ?_ | refine (ite_F _ _).trans ?_ | refine (jn_eq _ _).trans ?_ | refine (bstep (by first | rfl | (simp (disch := first | assumption | omega | (with_reducible rfl) | (simp only [go_sem]; done) | (simp only [go_sem]; omega) | fail) only [↓reduceIte, ↓jn_eq, Nat.reduceAdd, go_sem, Bool.not_true, Bool.not_false, e1, ct, nu']; rfl)) _).trans ?_ | refine (if_pos (by first | rfl | (simp (disch := first | assumption | omega | (with_reducible rfl) | (simp only [go_sem]; done) | (simp only [go_sem]; omega) | fail) only [↓reduceIte, ↓jn_eq, Nat.reduceAdd, go_sem, Bool.not_true, Bool.not_false, e1, ct, nu']; done))).trans ?_ | refine (ite_dec (by first | assumption | omega | (simp (disch := first | assumption | omega | (with_reducible rfl) | (simp only [go_sem]; done) | (simp only [go_sem]; omega) | fail) only [↓reduceIte, ↓jn_eq, Nat.reduceAdd, go_sem, Bool.not_true, Bool.not_false, e1, ct, nu']; done) | (simp (disch := first | assumption | omega | (with_reducible rfl) | (simp only [go_sem]; done) | (simp only [go_sem]; omega) | fail) only [↓reduceIte, ↓jn_eq, Nat.reduceAdd, go_sem, Bool.not_true, Bool.not_false, e1, ct, nu']; omega)) _ _).trans ?_ | refine (ite_ndec (by first | assumption | omega | (simp (disch := first | assumption | omega | (with_reducible rfl) | (simp only [go_sem]; done) | (simp only [go_sem]; omega) | fail) only [↓reduceIte, ↓jn_eq, Nat.reduceAdd, go_sem, Bool.not_true, Bool.not_false, e1, ct, nu']; done) | (simp (disch := first | assumption | omega | (with_reducible rfl) | (simp only [go_sem]; done) | (simp only [go_sem]; omega) | fail) only [↓reduceIte, ↓jn_eq, Nat.reduceAdd, go_sem, Bool.not_true, Bool.not_false, e1, ct, nu']; omega)) _ _).trans ?_ | fail)
   rfl
 | l :: ls, hls, hl =>
   rw [flatT] at hl ⊢
   have hl10 := hls l List.mem_cons_self
   have ct := cut_am (b := flatT ls t) hl10 (by omega)
   have hll : l.length ≤ 2000 ∧ (flatT ls t).length ≤ 2000 := by rw [List.length_append, List.length_cons] at hl; omega
   have hfl := flatT_len ls t
   obtain ⟨is, nu, hns⟩ := numbers_am (w := graphW) (s := l) (k := 1) (by simp [graphW]) (by simp [graphW]) hll.1 (by omega) (by omega)
   have nu' : Cl 36 [.str l, .str graphW, .int .i64 1] [] = _ := nu
   clear nu
   rw [readT]
   cases hp : numP graphW 1 l with
   | none =>
     rw [hp] at nu'
     dsimp only
     simp only [graphW] at nu'
     generalize l ++ 10 :: flatT ls t = s at *
     generalize flatT ls t = r at *
     rw [f23_eq]
     simp only [f23_r0, f23_r1, f23_r2, List.nil_append, List.length_nil, List.cons_append, List.length_cons, Nat.zero_add]
     rw [f23_l0_eq]
     simp only [f23_r3, f23_r5, f23_r6, f23_r7, f23_r8, f23_r9, f23_r10, f23_r11]
     (repeat' with_reducible first | refine (ite_T _ _).trans ?_ | refine (ite_F _ _).trans ?_ | refine (jn_eq _ _).trans ?_ | refine (bstep (by first | rfl | (simp (disch := first | assumption | omega | (with_reducible rfl) | (simp only [go_sem]; done) | (simp only [go_sem]; omega) | fail) only [↓reduceIte, ↓jn_eq, Nat.reduceAdd, go_sem, Bool.not_true, Bool.not_false, e1, ct, nu']; rfl)) _).trans ?_ | refine (if_pos (by first | rfl | (simp (disch := first | assumption | omega | (with_reducible rfl) | (simp only [go_sem]; done) | (simp only [go_sem]; omega) | fail) only [↓reduceIte, ↓jn_eq, Nat.reduceAdd, go_sem, Bool.not_true, Bool.not_false, e1, ct, nu']; done))).trans ?_ | refine (ite_dec (by first | assumption | omega | (simp (disch := first | assumption | omega | (with_reducible rfl) | (simp only [go_sem]; done) | (simp only [go_sem]; omega) | fail) only [↓reduceIte, ↓jn_eq, Nat.reduceAdd, go_sem, Bool.not_true, Bool.not_false, e1, ct, nu']; done) | (simp (disch := first | assumption | omega | (with_reducible rfl) | (simp only [go_sem]; done) | (simp only [go_sem]; omega) | fail) only [↓reduceIte, ↓jn_eq, Nat.reduceAdd, go_sem, Bool.not_true, Bool.not_false, e1, ct, nu']; omega)) _ _).trans ?_ | refine (ite_ndec (by first | assumption | omega | (simp (disch := first | assumption | omega | (with_reducible rfl) | (simp only [go_sem]; done) | (simp only [go_sem]; omega) | fail) only [↓reduceIte, ↓jn_eq, Nat.reduceAdd, go_sem, Bool.not_true, Bool.not_false, e1, ct, nu']; done) | (simp (disch := first | assumption | omega | (with_reducible rfl) | (simp only [go_sem]; done) | (simp only [go_sem]; omega) | fail) only [↓reduceIte, ↓jn_eq, Nat.reduceAdd, go_sem, Bool.not_true, Bool.not_false, e1, ct, nu']; omega)) _ _).trans ?_ | fail)
     rfl
   | some ns =>
     obtain ⟨a, rfl⟩ := numP_1 hp
     have hi := hns _ hp
     subst hi
     rw [hp] at nu'
     dsimp only
     have h0 := read_l0 ls t (a : Int) [] .nil 2 (Or.inr rfl) (by omega) (by omega) (by simp; omega) (fun x hx => hls x (List.mem_cons_of_mem _ hx)) ht hll.2
     rw [gBox, List.map_nil] at h0
     have ad : bin .add (.int .i64 1) (.int .i64 1) = some (.int .i64 ((2 : Nat) : Int)) := rfl
     have i0 : ∀ a : Int, ixS 3 (.lst 3 .sh [.int .i64 a]) (.int .i64 0) = some (.rop 3 (.int .i64 a)) := fun _ => rfl
     simp only [graphW, vInts, List.map_cons, List.map_nil, Option.isSome_some] at nu'
     rw [← h0, f23_eq]
     simp only [f23_r0, f23_r1, f23_r2, List.nil_append, List.length_nil, List.cons_append, List.length_cons, Nat.zero_add]
     rw [f23_l0_eq]
     simp only [f23_r3, f23_r4, f23_r5, f23_r6, f23_r7, f23_r8, f23_r9, f23_r10, f23_r12, f23_r13, f23_r14, f23_r15]
     clear h0 hns hp
     generalize l ++ 10 :: flatT ls t = s at *
     generalize flatT ls t = r at *
     (repeat' with_reducible first | refine (ite_T _ _).trans ?_ | refine (ite_F _ _).trans ?_ | refine (jn_eq _ _).trans ?_ | refine (bstep (by first | rfl | (simp (disch := first | assumption | omega | (with_reducible rfl) | (simp only [go_sem]; done) | (simp only [go_sem]; omega) | fail) only [↓reduceIte, ↓jn_eq, Nat.reduceAdd, go_sem, Bool.not_true, Bool.not_false, e1, ct, nu', ad, i0]; rfl)) _).trans ?_ | refine (if_pos (by first | rfl | (simp (disch := first | assumption | omega | (with_reducible rfl) | (simp only [go_sem]; done) | (simp only [go_sem]; omega) | fail) only [↓reduceIte, ↓jn_eq, Nat.reduceAdd, go_sem, Bool.not_true, Bool.not_false, e1, ct, nu', ad, i0]; done))).trans ?_ | refine (ite_dec (by first | assumption | omega | (simp (disch := first | assumption | omega | (with_reducible rfl) | (simp only [go_sem]; done) | (simp only [go_sem]; omega) | fail) only [↓reduceIte, ↓jn_eq, Nat.reduceAdd, go_sem, Bool.not_true, Bool.not_false, e1, ct, nu', ad, i0]; done) | (simp (disch := first | assumption | omega | (with_reducible rfl) | (simp only [go_sem]; done) | (simp only [go_sem]; omega) | fail) only [↓reduceIte, ↓jn_eq, Nat.reduceAdd, go_sem, Bool.not_true, Bool.not_false, e1, ct, nu', ad, i0]; omega)) _ _).trans ?_ | refine (ite_ndec (by first | assumption | omega | (simp (disch := first | assumption | omega | (with_reducible rfl) | (simp only [go_sem]; done) | (simp only [go_sem]; omega) | fail) only [↓reduceIte, ↓jn_eq, Nat.reduceAdd, go_sem, Bool.not_true, Bool.not_false, e1, ct, nu', ad, i0]; done) | (simp (disch := first | assumption | omega | (with_reducible rfl) | (simp only [go_sem]; done) | (simp only [go_sem]; omega) | fail) only [↓reduceIte, ↓jn_eq, Nat.reduceAdd, go_sem, Bool.not_true, Bool.not_false, e1, ct, nu', ad, i0]; omega)) _ _).trans ?_ | fail)
     rfl
end Go.Proofs.YtaghnpjlhmgioaaDoor
end

section
set_option maxRecDepth 100000
namespace Go.Proofs.YtaghnpjlhmgioaaDoor
open Go AM
theorem awake05 : Cl 10 [] [] = some (.bool true, []) := callW_run.2 ⟨60, by kernel_rfl⟩
end Go.Proofs.YtaghnpjlhmgioaaDoor
end

section
set_option linter.unusedVariables false
set_option linter.unusedSimpArgs false
set_option linter.unusedSectionVars false
set_option maxRecDepth 100000
namespace Go.Proofs.YtaghnpjlhmgioaaDoor
open Go AM
theorem normG_idem {g : Grf} (hc : chkG g = 0) : chkG (normG g) = 0 ∧ normG (normG g) = normG g := by
 obtain ⟨hp, hs⟩ := srt_ok hc
 have e : normG g = ⟨g.n, srtE g.es⟩ := by rw [normG, if_pos hc]
 have hc2 : chkG ⟨g.n, srtE g.es⟩ = 0 := by
  obtain ⟨h1, h2, h3, h4⟩ := chkG_0 hc
  have ha : (srtE g.es).any (oddE g.n) = false := by
   rw [List.any_eq_false] at h3 ⊢
   exact fun x hx => h3 x (hp.mem_iff.1 hx)
  rw [chkG, if_pos ⟨h1.1, h1.2, by simp only [srtE_len]; exact h2, ha⟩, if_pos ((hp.map kEd).nodup_iff.2 h4)]
 rw [e]
 refine ⟨hc2, ?_⟩
 obtain ⟨p2, s2⟩ := srt_ok hc2
 have : srtE (srtE g.es) = srtE g.es := uniqE s2 hs fun x => p2.mem_iff
 rw [normG, if_pos hc2, this]
def edgeL (e : E0) : List UInt8 := edgeW ++ wordsB [e.fr.toNat, e.to.toNat, e.w.toNat]
theorem edgeB_L (e : E0) : edgeB e = edgeL e ++ [10] := rfl
theorem edgesT_text : ∀ (ls : List (List UInt8)) (t : List UInt8) (n : Nat) (acc es : List E0), edgesT ls t n acc = .inr es → ∃ es', es = acc ++ es' ∧ flatT ls t = es'.flatMap edgeB
 | [], t, n, acc, es, h => by
   rw [edgesT] at h
   split at h
   · rename_i h0; cases h; exact ⟨[], by simp, by rw [flatT, h0]; rfl⟩
   · cases h
 | l :: ls, t, n, acc, es, h => by
   rw [edgesT] at h
   split at h
   · rename_i a b c hp
     obtain ⟨es', e1, e2⟩ := edgesT_text ls t _ _ es h
     obtain ⟨_, _, e3⟩ := numP_some hp
     refine ⟨⟨a, b, c⟩ :: es', by rw [e1]; simp, ?_⟩
     rw [flatT, e2, List.flatMap_cons, edgeB_L, edgeL, e3]
     simp
   · cases h
theorem readT_bad {ls : List (List UInt8)} {t : List UInt8} (h : (readT ls t).2.2 ≠ 0) : (readT ls t).1 = ⟨0, []⟩ := by
 match ls, h with
 | [], _ => rfl
 | l :: ls, h =>
   rw [readT] at h ⊢
   split
   · rename_i a hp
     rw [hp] at h
     dsimp only at h
     cases hq : edgesT ls t 2 [] with
     | inl n => rfl
     | inr es =>
       rw [hq] at h
       simp only [endT] at h ⊢
       rw [normG, if_neg h]
   · rfl
theorem readT_ok {ls : List (List UInt8)} {t : List UInt8} (h : (readT ls t).2.2 = 0) : ∃ (N : Nat) (es : List E0), chkG ⟨N, es⟩ = 0 ∧ readT ls t = (normG ⟨N, es⟩, 0, 0) ∧ flatT ls t = lineB graphW [N] ++ es.flatMap edgeB := by
 match ls, h with
 | [], h => simp [readT] at h
 | l :: ls, h =>
   rw [readT] at h ⊢
   split at h
   · rename_i a hp
     cases hq : edgesT ls t 2 [] with
     | inl n => rw [hq] at h; simp [endT] at h
     | inr es =>
       rw [hq] at h
       simp only [endT] at h
       obtain ⟨es', e1, e2⟩ := edgesT_text ls t _ _ es hq
       obtain ⟨_, _, e3⟩ := numP_some hp
       rw [List.nil_append] at e1
       subst e1
       refine ⟨a, es, h, by rw [endT, h], ?_⟩
       rw [flatT, e2, e3, lineB]
       simp
   · simp at h
theorem dig_10 (n : Nat) : (10 : UInt8) ∉ decB n := fun h => by have := decB_dig n 10 h; simp [isD] at this
theorem words_10 : ∀ ns : List Nat, (10 : UInt8) ∉ wordsB ns
 | [] => by simp [wordsB]
 | n :: ns => by
   have := words_10 ns
   simp only [wordsB, List.flatMap_cons, List.mem_cons, List.mem_append, not_or] at this ⊢
   exact ⟨⟨by decide, dig_10 n⟩, this⟩
theorem flat_edges : ∀ es : List E0, flatT (es.map edgeL) [] = es.flatMap edgeB
 | [] => rfl
 | e :: es => by rw [List.map_cons, flatT, flat_edges es, List.flatMap_cons, edgeB_L]; simp
theorem edgesT_es : ∀ (es : List E0) (n : Nat) (acc : List E0), (∀ e ∈ es, 0 ≤ e.fr ∧ e.fr ≤ 64 ∧ 0 ≤ e.to ∧ e.to ≤ 64 ∧ 0 ≤ e.w ∧ e.w ≤ 1048576) → edgesT (es.map edgeL) [] n acc = .inr (acc ++ es)
 | [], n, acc, _ => by simp [edgesT]
 | e :: es, n, acc, h => by
   obtain ⟨b1, b2, b3, b4, b5, b6⟩ := h e List.mem_cons_self
   have hp : numP edgeW 3 (edgeL e) = some [e.fr.toNat, e.to.toNat, e.w.toNat] := numP_of (ns := [e.fr.toNat, e.to.toNat, e.w.toNat]) (by simp [edgeW]) (by
    intro n hn
    simp only [List.mem_cons, List.not_mem_nil, or_false] at hn
    omega)
   rw [List.map_cons, edgesT, hp]
   dsimp only
   rw [edgesT_es es _ _ fun x hx => h x (List.mem_cons_of_mem _ hx)]
   have : (⟨(e.fr.toNat : Int), (e.to.toNat : Int), (e.w.toNat : Int)⟩ : E0) = e := by
    obtain ⟨x, y, z⟩ := e
    simp only at b1 b3 b5
    simp only [E0.mk.injEq]; omega
   rw [this]; simp
theorem readS_am {m : Grf} (hm : chkG m = 0) (hs : normG m = m) (hl : (showB m).length ≤ 2000) : Cl 23 [.str (showB m)] [] = some (vRes (m, 0, 0), []) := by
 obtain ⟨⟨g1, g2⟩, g3, g4, g5⟩ := chkG_0 hm
 have hf : flatT ((graphW ++ wordsB [m.n.toNat]) :: m.es.map edgeL) [] = showB m := by
  rw [flatT, flat_edges, showB, lineB]; simp
 have hr := Read_am (ls := (graphW ++ wordsB [m.n.toNat]) :: m.es.map edgeL) (t := []) (by
  intro l h
  rcases List.mem_cons.1 h with rfl | h
  · simp only [List.mem_append, not_or]; exact ⟨by simp [graphW], words_10 _⟩
  · obtain ⟨e, _, rfl⟩ := List.mem_map.1 h
    simp only [edgeL, List.mem_append, not_or]; exact ⟨by simp [edgeW], words_10 _⟩) (by simp) (by rw [hf]; exact hl)
 have hp : numP graphW 1 (graphW ++ wordsB [m.n.toNat]) = some [m.n.toNat] := numP_of (ns := [m.n.toNat]) (by simp [graphW]) (by
  intro n hn
  simp only [List.mem_cons, List.not_mem_nil, or_false] at hn
  omega)
 have he := edgesT_es m.es 2 [] (fun e he => by have := odds_in g4 e he; omega)
 have hn : (⟨((m.n.toNat : Nat) : Int), m.es⟩ : Grf) = m := by
  obtain ⟨n, es⟩ := m
  simp only at g1
  simp only [Grf.mk.injEq, and_true]; omega
 rw [hf, readT, hp] at hr
 dsimp only at hr
 rw [he, List.nil_append, endT, hn, hs, hm] at hr
 exact hr
theorem again_am (s : List UInt8) : Cl 9 [.str s] [] = some (.bool true, []) := by
 have hA := awake05
 by_cases h1 : 2000 < s.length
 · rw [f9_eq]
   (repeat' with_reducible first | refine (ite_T _ _).trans ?_ | refine (ite_F _ _).trans ?_ | refine (jn_eq _ _).trans ?_ | refine (bstep (by first | rfl | (simp (disch := first | assumption | omega | (with_reducible rfl) | (simp only [go_sem]; done) | (simp only [go_sem]; omega) | fail) only [↓reduceIte, ↓jn_eq, Nat.reduceAdd, go_sem, Bool.not_true, Bool.not_false, hA]; rfl)) _).trans ?_ | refine (if_pos (by first | rfl | (simp (disch := first | assumption | omega | (with_reducible rfl) | (simp only [go_sem]; done) | (simp only [go_sem]; omega) | fail) only [↓reduceIte, ↓jn_eq, Nat.reduceAdd, go_sem, Bool.not_true, Bool.not_false, hA]; done))).trans ?_ | refine (ite_dec (by first | assumption | omega | (simp (disch := first | assumption | omega | (with_reducible rfl) | (simp only [go_sem]; done) | (simp only [go_sem]; omega) | fail) only [↓reduceIte, ↓jn_eq, Nat.reduceAdd, go_sem, Bool.not_true, Bool.not_false, hA]; done) | (simp (disch := first | assumption | omega | (with_reducible rfl) | (simp only [go_sem]; done) | (simp only [go_sem]; omega) | fail) only [↓reduceIte, ↓jn_eq, Nat.reduceAdd, go_sem, Bool.not_true, Bool.not_false, hA]; omega)) _ _).trans ?_ | refine (ite_ndec (by first | assumption | omega | (simp (disch := first | assumption | omega | (with_reducible rfl) | (simp only [go_sem]; done) | (simp only [go_sem]; omega) | fail) only [↓reduceIte, ↓jn_eq, Nat.reduceAdd, go_sem, Bool.not_true, Bool.not_false, hA]; done) | (simp (disch := first | assumption | omega | (with_reducible rfl) | (simp only [go_sem]; done) | (simp only [go_sem]; omega) | fail) only [↓reduceIte, ↓jn_eq, Nat.reduceAdd, go_sem, Bool.not_true, Bool.not_false, hA]; omega)) _ _).trans ?_ | fail)
   rfl
 obtain ⟨ls, t, rfl, h2, h3⟩ := lines_of s
 have rd := Read_am h2 h3 (by omega)
 have ei : ∀ x : Int, bin .eql (.int .i64 x) (.int .i64 x) = some (.bool true) := fun x => by rw [b_eql]; simp
 have ee : ∀ x : List UInt8, bin .eql (.str x) (.str x) = some (.bool true) := fun x => by simp [bin]
 by_cases h0 : (readT ls t).2.2 = 0
 · obtain ⟨N, es, c1, c2, c3⟩ := readT_ok h0
   obtain ⟨i1, i2⟩ := normG_idem c1
   have hes : es.length ≤ 512 := (chkG_0 c1).2.1
   have hne : (normG ⟨N, es⟩).es.length < 1000000 := by
    rw [normG, if_pos c1]; simp only [srtE_len]; omega
   have sw := Show_am hne
   rw [if_pos i1, i2, i1] at sw
   have hlen : (showB (normG ⟨N, es⟩)).length = (flatT ls t).length := by
    have hp := (srt_ok c1).1
    rw [c3, normG, if_pos c1, showB]
    simp only [List.length_append, Int.toNat_natCast]
    rw [(hp.flatMap_right edgeB).length_eq]
   have rs := readS_am i1 i2 (by rw [hlen]; omega)
   have sm := same5_am (g := normG ⟨N, es⟩) hne
   have el : bin .eql (.int .i64 ((showB (normG ⟨N, es⟩)).length : Int)) (.int .i64 ((flatT ls t).length : Int)) = some (.bool true) := by rw [hlen]; exact ei _
   rw [c2] at rd
   simp only [vRes] at rd rs
   clear c1 c2 c3 i1 i2 hlen hne h0
   generalize showB (normG ⟨N, es⟩) = u at *
   generalize normG ⟨N, es⟩ = m at *
   generalize flatT ls t = s at *
   have z0 : ((0 : Nat) : Int) = 0 := rfl
   rw [z0] at rd rs
   rw [f9_eq]
   (repeat' with_reducible first | refine (ite_T _ _).trans ?_ | refine (ite_F _ _).trans ?_ | refine (jn_eq _ _).trans ?_ | refine (bstep (by first | rfl | (simp (disch := first | assumption | omega | (with_reducible rfl) | (simp only [go_sem]; done) | (simp only [go_sem]; omega) | fail) only [↓reduceIte, ↓jn_eq, Nat.reduceAdd, go_sem, Bool.not_true, Bool.not_false, hA, rd, sw, rs, sm, ee, ei, el]; rfl)) _).trans ?_ | refine (if_pos (by first | rfl | (simp (disch := first | assumption | omega | (with_reducible rfl) | (simp only [go_sem]; done) | (simp only [go_sem]; omega) | fail) only [↓reduceIte, ↓jn_eq, Nat.reduceAdd, go_sem, Bool.not_true, Bool.not_false, hA, rd, sw, rs, sm, ee, ei, el]; done))).trans ?_ | refine (ite_dec (by first | assumption | omega | (simp (disch := first | assumption | omega | (with_reducible rfl) | (simp only [go_sem]; done) | (simp only [go_sem]; omega) | fail) only [↓reduceIte, ↓jn_eq, Nat.reduceAdd, go_sem, Bool.not_true, Bool.not_false, hA, rd, sw, rs, sm, ee, ei, el]; done) | (simp (disch := first | assumption | omega | (with_reducible rfl) | (simp only [go_sem]; done) | (simp only [go_sem]; omega) | fail) only [↓reduceIte, ↓jn_eq, Nat.reduceAdd, go_sem, Bool.not_true, Bool.not_false, hA, rd, sw, rs, sm, ee, ei, el]; omega)) _ _).trans ?_ | refine (ite_ndec (by first | assumption | omega | (simp (disch := first | assumption | omega | (with_reducible rfl) | (simp only [go_sem]; done) | (simp only [go_sem]; omega) | fail) only [↓reduceIte, ↓jn_eq, Nat.reduceAdd, go_sem, Bool.not_true, Bool.not_false, hA, rd, sw, rs, sm, ee, ei, el]; done) | (simp (disch := first | assumption | omega | (with_reducible rfl) | (simp only [go_sem]; done) | (simp only [go_sem]; omega) | fail) only [↓reduceIte, ↓jn_eq, Nat.reduceAdd, go_sem, Bool.not_true, Bool.not_false, hA, rd, sw, rs, sm, ee, ei, el]; omega)) _ _).trans ?_ | fail)
   rfl
 · have hb := readT_bad h0
   have ne : bin .neq (.int .i64 (readT ls t).2.2) (.int .i64 0) = some (.bool true) := by rw [b_neq]; simp [h0]
   have hv : vG .sh ⟨0, []⟩ = .agg 23 [.int .i64 0, .lst 45 .sh []] := rfl
   simp only [vRes, hb, hv] at rd
   generalize (readT ls t).2.2 = e at *
   generalize (((readT ls t).2.1 : Nat) : Int) = n at *
   generalize flatT ls t = s at *
   rw [f9_eq]
   (repeat' with_reducible first | refine (ite_T _ _).trans ?_ | refine (ite_F _ _).trans ?_ | refine (jn_eq _ _).trans ?_ | refine (bstep (by first | rfl | (simp (disch := first | assumption | omega | (with_reducible rfl) | (simp only [go_sem]; done) | (simp only [go_sem]; omega) | fail) only [↓reduceIte, ↓jn_eq, Nat.reduceAdd, go_sem, Bool.not_true, Bool.not_false, hA, rd, ne, ei]; rfl)) _).trans ?_ | refine (if_pos (by first | rfl | (simp (disch := first | assumption | omega | (with_reducible rfl) | (simp only [go_sem]; done) | (simp only [go_sem]; omega) | fail) only [↓reduceIte, ↓jn_eq, Nat.reduceAdd, go_sem, Bool.not_true, Bool.not_false, hA, rd, ne, ei]; done))).trans ?_ | refine (ite_dec (by first | assumption | omega | (simp (disch := first | assumption | omega | (with_reducible rfl) | (simp only [go_sem]; done) | (simp only [go_sem]; omega) | fail) only [↓reduceIte, ↓jn_eq, Nat.reduceAdd, go_sem, Bool.not_true, Bool.not_false, hA, rd, ne, ei]; done) | (simp (disch := first | assumption | omega | (with_reducible rfl) | (simp only [go_sem]; done) | (simp only [go_sem]; omega) | fail) only [↓reduceIte, ↓jn_eq, Nat.reduceAdd, go_sem, Bool.not_true, Bool.not_false, hA, rd, ne, ei]; omega)) _ _).trans ?_ | refine (ite_ndec (by first | assumption | omega | (simp (disch := first | assumption | omega | (with_reducible rfl) | (simp only [go_sem]; done) | (simp only [go_sem]; omega) | fail) only [↓reduceIte, ↓jn_eq, Nat.reduceAdd, go_sem, Bool.not_true, Bool.not_false, hA, rd, ne, ei]; done) | (simp (disch := first | assumption | omega | (with_reducible rfl) | (simp only [go_sem]; done) | (simp only [go_sem]; omega) | fail) only [↓reduceIte, ↓jn_eq, Nat.reduceAdd, go_sem, Bool.not_true, Bool.not_false, hA, rd, ne, ei]; omega)) _ _).trans ?_ | fail)
   rfl
end Go.Proofs.YtaghnpjlhmgioaaDoor
end

section
namespace Go.Proofs.YtaghnpjlhmgioaaDoor
open Go AM
end Go.Proofs.YtaghnpjlhmgioaaDoor
end
