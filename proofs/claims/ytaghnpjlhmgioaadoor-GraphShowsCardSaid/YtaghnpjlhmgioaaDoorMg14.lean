/-
  Part of the proof of a statement about the given program: an abstract machine over its code, the simulation, its functions' equations, what they compute.
-/
import Derived.Sort.AssemblyPlain
import Derived.Test.YtaghnpjlhmgioaaDoorMg10
import Derived.Test.YtaghnpjlhmgioaaDoorMg13
import Derived.Test.YtaghnpjlhmgioaaDoorMg5
import Derived.Test.YtaghnpjlhmgioaaDoorMg7
import Derived.Test.YtaghnpjlhmgioaaDoorMg9
section
set_option linter.unusedVariables false
set_option linter.unusedSimpArgs false
set_option linter.unusedSectionVars false
set_option maxRecDepth 100000
namespace Go.Proofs.YtaghnpjlhmgioaaDoor
open Go AM
namespace Ed
theorem ltE_iff (x y : Edg) : ltE x y = true ↔ (x.fr < y.fr ∨ x.fr = y.fr ∧ x.to < y.to) := by
 rw [ltE, decide_eq_true_eq, cmpE]
 by_cases h : x.fr = y.fr
 · rw [if_pos h]; constructor <;> intro k <;> omega
 · rw [if_neg h]; constructor <;> intro k <;> omega
theorem ltE_iff' (x y : Edg) : ltE x y = false ↔ ¬ (x.fr < y.fr ∨ x.fr = y.fr ∧ x.to < y.to) := by
 rw [← ltE_iff, Bool.not_eq_true]
theorem ltM_swo : Sort.SWO ltE where
 irrefl x := by rw [ltE_iff']; omega
 trans x y z := by simp only [ltE_iff]; omega
 ntrans x y z := by simp only [ltE_iff']; omega
section
variable {h0 : List V} {id N : Nat} (hid : id < h0.length) (hb62 : N < 1000000000000000000)
include hid hb62
noncomputable def pdLoop (h0 : List V) (id N a b limit : Nat) (wb wp : Bool) (d : Array Edg) : Option (V × List V) :=
 f50_l0 (winM id N) (iv a) (iv b) (iv limit) cm (.bool wb) (.bool wp) h0.length (HB h0 id d)
noncomputable def pdRest (h0 : List V) (id N a b limit : Nat) (wb wp : Bool) (pivot : Nat) (d3 : Array Edg) : Option (V × List V) :=
 f50_r17 (winM id N) (iv a) cm (iv pivot) (HB h0 id d3) fun t97_20 h_21 =>
 V.ite t97_20
 (f50_r18 (winM id N) (iv a) (iv b) cm (iv pivot) h_21 fun t15_22 h_23 =>
 f50_r19 t15_22 fun t1_24 =>
 f50_l0 (winM id N) t1_24 (iv b) (iv limit) cm (.bool wb) (.bool wp) h0.length h_23)
 (f50_r20 (winM id N) (iv a) (iv b) cm (iv pivot) h_21 fun t16_25 t17_26 h_27 =>
 f50_r21 t17_26 fun t11_28 =>
 f50_r22 (iv a) (iv b) t16_25 fun t18_29 t19_30 =>
 f50_r23 (iv (b - a)) fun t20_31 =>
 f50_r24 t18_29 t19_30 fun t125_32 =>
 V.ite t125_32
 (f50_r25 t18_29 t20_31 fun t10_33 =>
 f50_r26 (winM id N) (iv a) (iv limit) cm t16_25 h_27 fun h_34 =>
 f50_r27 t16_25 fun t1_35 =>
 f50_l0 (winM id N) t1_35 (iv b) (iv limit) cm t10_33 t11_28 h0.length h_34)
 (f50_r28 t19_30 t20_31 fun t10_36 =>
 f50_r29 (winM id N) (iv b) (iv limit) cm t16_25 h_27 fun h_37 =>
 f50_r30 t16_25 fun t2_38 =>
 f50_l0 (winM id N) (iv a) t2_38 (iv limit) cm t10_36 t11_28 h0.length h_37))
theorem pd_ins {a b limit : Nat} {wb wp : Bool} {d : Array Edg} (hN : N = d.size) (hab : a ≤ b) (hb : b ≤ N) (h12 : b - a ≤ 12) : pdLoop h0 id N a b limit wb wp d = some (.tup [], HB h0 id (Sort.insertionSort ltE d a b)) := by
 rw [pdLoop, f50_l0_eq, f50_r2]
 refine (subT (by omega) (by omega) _).trans ?_
 rw [f50_r3]
 refine (leqT (by omega) _).trans ?_
 rw [ite_tt, f50_r4]
 refine (bstep (insertion_am hid hb62 hN hb hab) _).trans ?_
 exact hb_ret _
theorem pd_heap {a b : Nat} {wb wp : Bool} {d : Array Edg} (hN : N = d.size) (hab : a ≤ b) (hb : b ≤ N) (h12 : ¬ b - a ≤ 12) : pdLoop h0 id N a b 0 wb wp d = some (.tup [], HB h0 id (Sort.heapSort ltE d a b)) := by
 rw [pdLoop, f50_l0_eq, f50_r2]
 refine (subT (by omega) (by omega) _).trans ?_
 rw [f50_r3]
 refine (leqF (by omega) _).trans ?_
 rw [ite_ff, f50_r5]
 refine (eqlT (by omega) _).trans ?_
 rw [ite_tt, f50_r6]
 refine (bstep (heap_am hid hb62 hN hb (by omega)) _).trans ?_
 exact hb_ret _
theorem pd_pre {a b limit : Nat} {wb wp : Bool} {d : Array Edg} (hN : N = d.size) (hab : a ≤ b) (hb : b ≤ N) (h12 : ¬ b - a ≤ 12) (hl : ¬ limit = 0) (h62 : limit < 1000000000000000000)
 {d1 d2 : Array Edg} {limit1 pivot : Nat} {c : Nat × Sort.Hint} {hint : Sort.Hint} {pi : Array Edg × Bool}
 (e1 : d1 = if (!wb) = true then Sort.breakPatterns d a b else d) (el : limit1 = if (!wb) = true then limit - 1 else limit) (ec : c = Sort.choosePivot ltE d1 a b)
 (e2 : d2 = if c.2 = .decreasing then Sort.reverseRange d1 a b else d1) (ep : pivot = if c.2 = .decreasing then (b - 1) - (c.1 - a) else c.1)
 (eh : hint = if c.2 = .decreasing then Sort.Hint.increasing else c.2) (epi : pi = if (wb && wp && decide (hint = .increasing)) = true then Sort.partialInsertionSort ltE d2 a b else (d2, false)) :
 pdLoop h0 id N a b limit wb wp d = if pi.2 = true then some (.tup [], HB h0 id pi.1) else pdRest h0 id N a b limit1 wb wp pivot pi.1 := by
 have s1 : d1.size = d.size := by
  rw [e1]; split
  · exact (Sort.breakPatterns_holds d a b hab (by omega)).1
  · rfl
 have hN1 : N = d1.size := by rw [s1]; exact hN
 have s2 : d2.size = d1.size := by
  rw [e2]; split
  · exact (Sort.reverseRange_holds d1 a b hab (by omega)).1
  · rfl
 have hN2 : N = d2.size := by rw [s2]; exact hN1
 have hc0 := Sort.choosePivot_holds ltE d1 a b (by omega)
 rw [← ec] at hc0
 have st3 : ∀ hi : Nat, hi = hintN hint → (f50_r15 (.bool wb) (.bool wp) (iv hi) fun t75_18 =>
  jn (fun h_19 => f50_r17 (winM id N) (iv a) cm (iv pivot) h_19 fun t97_20 h_21 =>
   V.ite t97_20
   (f50_r18 (winM id N) (iv a) (iv b) cm (iv pivot) h_21 fun t15_22 h_23 =>
   f50_r19 t15_22 fun t1_24 =>
   f50_l0 (winM id N) t1_24 (iv b) (iv limit1) cm (.bool wb) (.bool wp) h0.length h_23)
   (f50_r20 (winM id N) (iv a) (iv b) cm (iv pivot) h_21 fun t16_25 t17_26 h_27 =>
   f50_r21 t17_26 fun t11_28 =>
   f50_r22 (iv a) (iv b) t16_25 fun t18_29 t19_30 =>
   f50_r23 (iv (b - a)) fun t20_31 =>
   f50_r24 t18_29 t19_30 fun t125_32 =>
   V.ite t125_32
   (f50_r25 t18_29 t20_31 fun t10_33 =>
   f50_r26 (winM id N) (iv a) (iv limit1) cm t16_25 h_27 fun h_34 =>
   f50_r27 t16_25 fun t1_35 =>
   f50_l0 (winM id N) t1_35 (iv b) (iv limit1) cm t10_33 t11_28 h0.length h_34)
   (f50_r28 t19_30 t20_31 fun t10_36 =>
   f50_r29 (winM id N) (iv b) (iv limit1) cm t16_25 h_27 fun h_37 =>
   f50_r30 t16_25 fun t2_38 =>
   f50_l0 (winM id N) (iv a) t2_38 (iv limit1) cm t10_36 t11_28 h0.length h_37)))
  (fun (j2 : List V → Option (V × List V)) => V.ite t75_18
   (f50_r16 (winM id N) (iv a) (iv b) cm (HB h0 id d2) fun t80_39 h_40 =>
   V.ite t80_39
   (if (List.all [] V.okE) = true then finT h0.length h_40 (V.tup []) else none)
   (j2 h_40))
   (j2 (HB h0 id d2)))) = if pi.2 = true then some (.tup [], HB h0 id pi.1) else pdRest h0 id N a b limit1 wb wp pivot pi.1 := by
  intro hi ehi
  rw [f50_r15]
  have no : pi = (d2, false) → (jn (fun h_19 => f50_r17 (winM id N) (iv a) cm (iv pivot) h_19 fun t97_20 h_21 =>
   V.ite t97_20
   (f50_r18 (winM id N) (iv a) (iv b) cm (iv pivot) h_21 fun t15_22 h_23 =>
   f50_r19 t15_22 fun t1_24 =>
   f50_l0 (winM id N) t1_24 (iv b) (iv limit1) cm (.bool wb) (.bool wp) h0.length h_23)
   (f50_r20 (winM id N) (iv a) (iv b) cm (iv pivot) h_21 fun t16_25 t17_26 h_27 =>
   f50_r21 t17_26 fun t11_28 =>
   f50_r22 (iv a) (iv b) t16_25 fun t18_29 t19_30 =>
   f50_r23 (iv (b - a)) fun t20_31 =>
   f50_r24 t18_29 t19_30 fun t125_32 =>
   V.ite t125_32
   (f50_r25 t18_29 t20_31 fun t10_33 =>
   f50_r26 (winM id N) (iv a) (iv limit1) cm t16_25 h_27 fun h_34 =>
   f50_r27 t16_25 fun t1_35 =>
   f50_l0 (winM id N) t1_35 (iv b) (iv limit1) cm t10_33 t11_28 h0.length h_34)
   (f50_r28 t19_30 t20_31 fun t10_36 =>
   f50_r29 (winM id N) (iv b) (iv limit1) cm t16_25 h_27 fun h_37 =>
   f50_r30 t16_25 fun t2_38 =>
   f50_l0 (winM id N) (iv a) t2_38 (iv limit1) cm t10_36 t11_28 h0.length h_37)))
   (fun (j2 : List V → Option (V × List V)) => V.ite (.bool false)
    (f50_r16 (winM id N) (iv a) (iv b) cm (HB h0 id d2) fun t80_39 h_40 =>
    V.ite t80_39
    (if (List.all [] V.okE) = true then finT h0.length h_40 (V.tup []) else none)
    (j2 h_40))
    (j2 (HB h0 id d2)))) = if pi.2 = true then some (.tup [], HB h0 id pi.1) else pdRest h0 id N a b limit1 wb wp pivot pi.1 := by
   intro e
   rw [e, jn, ite_ff]; rfl
  cases wb with
  | false => exact no (by rw [epi, if_neg (by simp)])
  | true =>
    cases wp with
    | false => exact no (by rw [epi, if_neg (by simp)])
    | true =>
      rw [ite_tt, ite_tt]
      by_cases hh : hint = .increasing
      · refine (eqlT (by rw [ehi, hh]; rfl) _).trans ?_
        rw [jn, ite_tt, f50_r16]
        refine (bstep (partIns_am hid hb62 hN2 hb (by omega)) _).trans ?_
        have ee : pi = Sort.partialInsertionSort ltE d2 a b := by rw [epi, if_pos (by simp [hh])]
        rw [← ee, ite_lt]
        by_cases hp : pi.2 = true
        · rw [if_pos hp, if_pos hp]; exact hb_ret _
        · rw [if_neg hp, if_neg hp]; rfl
      · refine (eqlF (by rw [ehi]; cases hint <;> first | exact absurd rfl hh | (simp [hintN])) _).trans ?_
        exact no (by rw [epi, if_neg (by simp [hh])])
 have st2 : (f50_r10 (winM id N) (iv a) (iv b) cm (HB h0 id d1) fun t13_11 t14_12 h_13 =>
  f50_r11 t14_12 fun t56_14 =>
  jn (fun t13_15 t14_16 h_17 => f50_r15 (.bool wb) (.bool wp) t14_16 fun t75_18 =>
  jn (fun h_19 => f50_r17 (winM id N) (iv a) cm t13_15 h_19 fun t97_20 h_21 =>
   V.ite t97_20
   (f50_r18 (winM id N) (iv a) (iv b) cm t13_15 h_21 fun t15_22 h_23 =>
   f50_r19 t15_22 fun t1_24 =>
   f50_l0 (winM id N) t1_24 (iv b) (iv limit1) cm (.bool wb) (.bool wp) h0.length h_23)
   (f50_r20 (winM id N) (iv a) (iv b) cm t13_15 h_21 fun t16_25 t17_26 h_27 =>
   f50_r21 t17_26 fun t11_28 =>
   f50_r22 (iv a) (iv b) t16_25 fun t18_29 t19_30 =>
   f50_r23 (iv (b - a)) fun t20_31 =>
   f50_r24 t18_29 t19_30 fun t125_32 =>
   V.ite t125_32
   (f50_r25 t18_29 t20_31 fun t10_33 =>
   f50_r26 (winM id N) (iv a) (iv limit1) cm t16_25 h_27 fun h_34 =>
   f50_r27 t16_25 fun t1_35 =>
   f50_l0 (winM id N) t1_35 (iv b) (iv limit1) cm t10_33 t11_28 h0.length h_34)
   (f50_r28 t19_30 t20_31 fun t10_36 =>
   f50_r29 (winM id N) (iv b) (iv limit1) cm t16_25 h_27 fun h_37 =>
   f50_r30 t16_25 fun t2_38 =>
   f50_l0 (winM id N) (iv a) t2_38 (iv limit1) cm t10_36 t11_28 h0.length h_37)))
  (fun (j2 : List V → Option (V × List V)) => V.ite t75_18
   (f50_r16 (winM id N) (iv a) (iv b) cm h_17 fun t80_39 h_40 =>
   V.ite t80_39
   (if (List.all [] V.okE) = true then finT h0.length h_40 (V.tup []) else none)
   (j2 h_40))
   (j2 h_17)))
  (fun (j1 : V → V → List V → Option (V × List V)) => V.ite t56_14
   (f50_r12 (winM id N) (iv a) (iv b) cm h_13 fun h_41 =>
   f50_r13 (iv a) (iv b) t13_11 fun t13_42 =>
   f50_r14 fun t14_43 =>
   j1 t13_42 t14_43 h_41)
   (j1 t13_11 t14_12 h_13))) = if pi.2 = true then some (.tup [], HB h0 id pi.1) else pdRest h0 id N a b limit1 wb wp pivot pi.1 := by
  rw [f50_r10]
  refine (bstep (pivot_am hid hb62 hN1 hb (by omega)) _).trans <| (ext0 _ _ _).trans <| (ext1 _ _ _).trans ?_
  rw [← ec, f50_r11]
  by_cases hd : c.2 = .decreasing
  · refine (eqlT (by rw [hd]; rfl) _).trans ?_
    rw [jn, ite_tt, f50_r12]
    rw [if_pos hd] at e2 ep eh
    refine (bstep (reverse_am hid hb62 hN1 hb (by omega)) _).trans ?_
    rw [f50_r13]
    refine (subT (b := 1) (by omega) (by omega) _).trans <| (subT (by omega) (by omega) _).trans <| (subT (by omega) (by omega) _).trans ?_
    rw [f50_r14, ← e2, ← ep]
    exact st3 1 (by rw [eh]; rfl)
  · refine (eqlF (by cases hc2 : c.2 <;> first | exact absurd hc2 hd | (simp [hintN])) _).trans ?_
    rw [jn, ite_ff]
    rw [if_neg hd] at e2 ep eh
    rw [← e2, ← ep]
    exact st3 _ (by rw [eh])
 rw [pdLoop, f50_l0_eq, f50_r2]
 refine (subT (by omega) (by omega) _).trans ?_
 rw [f50_r3]
 refine (leqF (by omega) _).trans ?_
 rw [ite_ff, f50_r5]
 refine (eqlF (by omega) _).trans ?_
 rw [ite_ff, f50_r7]
 refine (notT _ _).trans ?_
 rw [jn]
 cases wb with
 | true =>
   rw [if_neg (by simp)] at e1 el
   rw [Bool.not_true, ite_ff, ← e1, ← el]
   exact st2
 | false =>
   rw [if_pos (by simp)] at e1 el
   rw [Bool.not_false, ite_tt, f50_r8]
   refine (bstep (break_am hid hb62 hN hb (by omega)) _).trans ?_
   rw [f50_r9]
   refine (subT (b := 1) (by omega) (by omega) _).trans ?_
   rw [← e1, ← el]
   exact st2
end
end Ed
end Go.Proofs.YtaghnpjlhmgioaaDoor
end

section
set_option linter.unusedVariables false
set_option linter.unusedSimpArgs false
set_option linter.unusedSectionVars false
set_option maxRecDepth 100000
namespace Go.Proofs.YtaghnpjlhmgioaaDoor
open Go AM
namespace Ed
section
variable {h0 : List V} {id N : Nat} (hid : id < h0.length) (hb62 : N < 1000000000000000000)
include hid hb62
theorem rest_test {a b limit pivot : Nat} {wb wp : Bool} {d : Array Edg} (hN : N = d.size) (hp : pivot < N) (ha : a ≤ N) (K : V → List V → Option (V × List V)) :
 f50_r17 (winM id N) (iv a) cm (iv pivot) (HB h0 id d) K = K (.bool (decide (a > 0) && !ltE d[a - 1]! d[pivot]!)) (HB h0 id d) := by
 rw [f50_r17]
 by_cases h : a > 0
 · refine (gtrT (by omega) _).trans ?_
   rw [ite_tt]
   refine (subT (b := 1) (by omega) (by omega) _).trans <| (atH hid hN (by omega) _).trans <| (atH hid hN hp _).trans <| (cmpV _ _ (fun b h1 => (un .not b).bind fun t => _)).trans <| (notT _ _).trans ?_
   rw [decide_eq_true h, Bool.true_and]
 · refine (gtrF (by omega) _).trans ?_
   rw [ite_ff, decide_eq_false h, Bool.false_and]
theorem rest_eq {a b limit pivot : Nat} {wb wp : Bool} {d : Array Edg} (hN : N = d.size) (hp : pivot < N) (hab : a < b) (hb : b ≤ N) (h : (decide (a > 0) && !ltE d[a - 1]! d[pivot]!) = true)
 {mid : Nat} {d4 : Array Edg} (hx : Sort.partitionEqual ltE d a b pivot = (mid, d4)) : pdRest h0 id N a b limit wb wp pivot d = pdLoop h0 id N mid b limit wb wp d4 := by
 rw [pdRest, rest_test hid hb62 (b := b) (limit := limit) (wb := wb) (wp := wp) hN hp (by omega), h, ite_tt, f50_r18]
 refine (bstep (partEq_am hid hb62 hN hb hab hp) _).trans ?_
 rw [hx, f50_r19]; rfl
theorem call82 (a b limit : Nat) (d : Array Edg) : Cl 50 [winM id N, iv a, iv b, iv limit, cm] (HB h0 id d) = pdLoop h0 id N a b limit true true d := by
 rw [f50_eq, f50_r0, f50_r1, hb_len]; rfl
theorem quo8 {B : Type} {n : Nat} (hn : n < 1000000000000000000) (K : V → Option B) : (bin .quo (iv n) (.int .i64 8)).bind K = K (iv (n / 8)) := by
 refine (bstep (b_quo _ _ _ (by omega)) _).trans ?_
 rw [show (n : Int).tdiv 8 = ((n / 8 : Nat) : Int) by rfl, wrap_i64 (by omega) (by omega)] <;> rfl
theorem geqD {B : Type} {a b : Nat} (K : V → Option B) : (bin .geq (iv a) (iv b)).bind K = K (.bool (decide (a ≥ b))) := by
 refine (bstep (b_geq _ _ _) _).trans ?_
 congr 2
 simp
theorem rest_l {a b limit pivot : Nat} {wb wp : Bool} {d : Array Edg} (hN : N = d.size) (hp : pivot < N) (hab : a < b) (hb : b ≤ N) (h : ¬ (decide (a > 0) && !ltE d[a - 1]! d[pivot]!) = true)
 {mid : Nat} {ap : Bool} {d4 dl : Array Edg} (hx : Sort.partition ltE d a b pivot = (mid, ap, d4)) (h1 : a ≤ mid) (h2 : mid < b) (hlt : mid - a < b - mid)
 (hl : pdLoop h0 id N a mid limit true true d4 = some (.tup [], HB h0 id dl)) :
 pdRest h0 id N a b limit wb wp pivot d = pdLoop h0 id N (mid + 1) b limit (decide (mid - a ≥ (b - a) / 8)) ap dl := by
 rw [pdRest, rest_test hid hb62 (b := b) (limit := limit) (wb := wb) (wp := wp) hN hp (by omega), Bool.eq_false_iff.2 h, ite_ff, f50_r20]
 refine (bstep (part_am hid hb62 hN hb hab hp) _).trans <| (ext0 _ _ _).trans <| (ext1 _ _ _).trans ?_
 rw [hx, f50_r21, f50_r22]
 simp only []
 refine (subT (by omega) (by omega) _).trans <| (subT (by omega) (by omega) _).trans ?_
 rw [f50_r23]
 refine (quo8 hid hb62 (by omega) _).trans ?_
 rw [f50_r24]
 refine (lssT (by omega) _).trans ?_
 rw [ite_tt, f50_r25]
 refine (geqD hid hb62 _).trans ?_
 rw [f50_r26]
 refine (bstep ((call82 hid hb62 a mid limit d4).trans hl) _).trans ?_
 rw [f50_r27]
 refine (addT (b := 1) (by omega) _).trans ?_
 rfl
theorem rest_r {a b limit pivot : Nat} {wb wp : Bool} {d : Array Edg} (hN : N = d.size) (hp : pivot < N) (hab : a < b) (hb : b ≤ N) (h : ¬ (decide (a > 0) && !ltE d[a - 1]! d[pivot]!) = true)
 {mid : Nat} {ap : Bool} {d4 dl : Array Edg} (hx : Sort.partition ltE d a b pivot = (mid, ap, d4)) (h1 : a ≤ mid) (h2 : mid < b) (hlt : ¬ mid - a < b - mid)
 (hl : pdLoop h0 id N (mid + 1) b limit true true d4 = some (.tup [], HB h0 id dl)) :
 pdRest h0 id N a b limit wb wp pivot d = pdLoop h0 id N a mid limit (decide (b - mid ≥ (b - a) / 8)) ap dl := by
 rw [pdRest, rest_test hid hb62 (b := b) (limit := limit) (wb := wb) (wp := wp) hN hp (by omega), Bool.eq_false_iff.2 h, ite_ff, f50_r20]
 refine (bstep (part_am hid hb62 hN hb hab hp) _).trans <| (ext0 _ _ _).trans <| (ext1 _ _ _).trans ?_
 rw [hx, f50_r21, f50_r22]
 simp only []
 refine (subT (by omega) (by omega) _).trans <| (subT (by omega) (by omega) _).trans ?_
 rw [f50_r23]
 refine (quo8 hid hb62 (by omega) _).trans ?_
 rw [f50_r24]
 refine (lssF (by omega) _).trans ?_
 rw [ite_ff, f50_r28]
 refine (geqD hid hb62 _).trans ?_
 rw [f50_r29]
 refine (addT (b := 1) (by omega) _).trans ?_
 refine (bstep ((call82 hid hb62 (mid + 1) b limit d4).trans hl) _).trans ?_
 rw [f50_r30]
 rfl
theorem pd_all (d : Array Edg) (a b limit : Nat) (wb wp : Bool) : a ≤ b → b ≤ d.size → N = d.size → limit < 1000000000000000000 → Sort.Below ltE a b d →
 pdLoop h0 id N a b limit wb wp d = some (.tup [], HB h0 id (Sort.pdq ltE d a b limit wb wp)) := by
 fun_induction Sort.pdq ltE d a b limit wb wp
 case case1 d a b limit wb wp h12 => intro hab hb hN _ _; exact pd_ins hid hb62 hN hab (by omega) h12
 case case2 d a b wb wp h12 => intro hab hb hN _ _; exact pd_heap hid hb62 hN hab (by omega) h12
 case case3 d a b limit wb wp h12 hl d1 c d2 hint pi hpi2 =>
  intro hab hb hN hlim hB
  exact (pd_pre hid hb62 (limit1 := if (!wb) = true then limit - 1 else limit) (pivot := if c.2 = .decreasing then (b - 1) - (c.1 - a) else c.1) hN hab (by omega) h12 hl hlim rfl rfl rfl rfl rfl rfl rfl).trans (if_pos hpi2)
 case case4 d a b limit0 wb wp h12 hl d1 limit c d2 pivot hint pi hpi2 d3 hc mid d4 hx hg ih1 =>
  intro hab hb hN hlim hB
  have s1 : Sort.PermIn a b d d1 := Sort.step_break d hab hb _
  have b1 : b ≤ d1.size := by rw [s1.1]; exact hb
  have s2 : Sort.PermIn a b d1 d2 := Sort.step_reverse Sort.reverseRange_holds d1 hab b1 _
  have b2 : b ≤ d2.size := by rw [s2.1]; exact b1
  have B2 : Sort.Below ltE a b d2 := (hB.perm hb s1).perm b1 s2
  have s3 := Sort.step_partial (Sort.partialInsertionSort_holds (lt := ltE)) ltM_swo d2 (a := a) (b := b) (by omega) b2 B2 ((wb && wp && decide (hint = Sort.Hint.increasing)) = true)
  have s3' : Sort.PermIn a b d2 d3 := s3.1
  have b3 : b ≤ d3.size := by rw [s3'.1]; exact b2
  have B3 : Sort.Below ltE a b d3 := B2.perm b2 s3'
  have hN3 : N = d3.size := by rw [s3'.1, s2.1, s1.1]; exact hN
  have hc0 := Sort.choosePivot_holds ltE d1 a b (by omega)
  have hpv : a ≤ pivot ∧ pivot < b := Sort.pivot_range hc0.1 hc0.2 _
  have hc' := hc
  simp only [Bool.and_eq_true, decide_eq_true_eq, Bool.not_eq_true'] at hc'
  obtain ⟨_, hm2, hs4, hB4, hfin⟩ := Sort.round_eq ltM_swo (Sort.partitionEqual_holds ltE) hc'.1 hpv.1 hpv.2 b3 B3 hc'.2 hx
  have hlim1 : limit ≤ limit0 := by show (if (!wb) = true then limit0 - 1 else limit0) ≤ limit0; split <;> omega
  refine (pd_pre hid hb62 (limit1 := limit) (pivot := pivot) hN hab (by omega) h12 hl hlim rfl rfl rfl rfl rfl rfl rfl).trans ((if_neg hpi2).trans ?_)
  refine (rest_eq hid hb62 hN3 (by omega) (by omega) (by omega) hc hx).trans ?_
  exact ih1 hm2 (by rw [hs4]; exact b3) (by rw [hs4]; exact hN3) (by omega) hB4
 case case5 d a b limit wb wp h12 hl d1 c d2 pivot hint pi hpi2 d3 hc mid d4 hx hg =>
  intro hab hb hN hlim hB
  have s1 : Sort.PermIn a b d d1 := Sort.step_break d hab hb _
  have b1 : b ≤ d1.size := by rw [s1.1]; exact hb
  have s2 : Sort.PermIn a b d1 d2 := Sort.step_reverse Sort.reverseRange_holds d1 hab b1 _
  have b2 : b ≤ d2.size := by rw [s2.1]; exact b1
  have B2 : Sort.Below ltE a b d2 := (hB.perm hb s1).perm b1 s2
  have s3 := Sort.step_partial (Sort.partialInsertionSort_holds (lt := ltE)) ltM_swo d2 (a := a) (b := b) (by omega) b2 B2 ((wb && wp && decide (hint = Sort.Hint.increasing)) = true)
  have s3' : Sort.PermIn a b d2 d3 := s3.1
  have b3 : b ≤ d3.size := by rw [s3'.1]; exact b2
  have B3 : Sort.Below ltE a b d3 := B2.perm b2 s3'
  have hN3 : N = d3.size := by rw [s3'.1, s2.1, s1.1]; exact hN
  have hc0 := Sort.choosePivot_holds ltE d1 a b (by omega)
  have hpv : a ≤ pivot ∧ pivot < b := Sort.pivot_range hc0.1 hc0.2 _
  simp only [Bool.and_eq_true, decide_eq_true_eq, Bool.not_eq_true'] at hc
  obtain ⟨g1, g2, _⟩ := Sort.round_eq ltM_swo (Sort.partitionEqual_holds ltE) hc.1 hpv.1 hpv.2 b3 B3 hc.2 hx
  exact absurd ⟨g1, g2⟩ hg
 case case6 d a b limit0 wb wp h12 hl d1 limit c d2 pivot hint pi hpi2 d3 hc mid ap d4 hx hg hlt ih3 ih2 ih1 =>
  intro hab hb hN hlim hB
  have s1 : Sort.PermIn a b d d1 := Sort.step_break d hab hb _
  have b1 : b ≤ d1.size := by rw [s1.1]; exact hb
  have s2 : Sort.PermIn a b d1 d2 := Sort.step_reverse Sort.reverseRange_holds d1 hab b1 _
  have b2 : b ≤ d2.size := by rw [s2.1]; exact b1
  have B2 : Sort.Below ltE a b d2 := (hB.perm hb s1).perm b1 s2
  have s3 := Sort.step_partial (Sort.partialInsertionSort_holds (lt := ltE)) ltM_swo d2 (a := a) (b := b) (by omega) b2 B2 ((wb && wp && decide (hint = Sort.Hint.increasing)) = true)
  have s3' : Sort.PermIn a b d2 d3 := s3.1
  have b3 : b ≤ d3.size := by rw [s3'.1]; exact b2
  have B3 : Sort.Below ltE a b d3 := B2.perm b2 s3'
  have hN3 : N = d3.size := by rw [s3'.1, s2.1, s1.1]; exact hN
  have hc0 := Sort.choosePivot_holds ltE d1 a b (by omega)
  have hpv : a ≤ pivot ∧ pivot < b := Sort.pivot_range hc0.1 hc0.2 _
  obtain ⟨g1, g2, hs4, hBa, hBr, hleft, _⟩ := Sort.round_part ltM_swo (Sort.partition_holds ltE) hpv.1 hpv.2 b3 B3 hx
  have hlim1 : limit ≤ limit0 := by show (if (!wb) = true then limit0 - 1 else limit0) ≤ limit0; split <;> omega
  have L := Sort.pdq_sorts ltE ltM_swo d4 a mid limit true true g1 (by rw [hs4]; omega) hBa
  obtain ⟨hBL, hfin⟩ := hleft _ L.1 L.2
  refine (pd_pre hid hb62 (limit1 := limit) (pivot := pivot) hN hab (by omega) h12 hl hlim rfl rfl rfl rfl rfl rfl rfl).trans ((if_neg hpi2).trans ?_)
  refine (rest_l hid hb62 hN3 (by omega) (by omega) (by omega) hc hx g1 g2 hlt (ih3 g1 (by rw [hs4]; omega) (by rw [hs4]; exact hN3) (by omega) hBa)).trans ?_
  exact ih1 (by omega) (by rw [L.1.1, hs4]; exact b3) (by rw [L.1.1, hs4]; exact hN3) (by omega) hBL
 case case7 d a b limit0 wb wp h12 hl d1 limit c d2 pivot hint pi hpi2 d3 hc mid ap d4 hx hg hlt ih3 ih2 ih1 =>
  intro hab hb hN hlim hB
  have s1 : Sort.PermIn a b d d1 := Sort.step_break d hab hb _
  have b1 : b ≤ d1.size := by rw [s1.1]; exact hb
  have s2 : Sort.PermIn a b d1 d2 := Sort.step_reverse Sort.reverseRange_holds d1 hab b1 _
  have b2 : b ≤ d2.size := by rw [s2.1]; exact b1
  have B2 : Sort.Below ltE a b d2 := (hB.perm hb s1).perm b1 s2
  have s3 := Sort.step_partial (Sort.partialInsertionSort_holds (lt := ltE)) ltM_swo d2 (a := a) (b := b) (by omega) b2 B2 ((wb && wp && decide (hint = Sort.Hint.increasing)) = true)
  have s3' : Sort.PermIn a b d2 d3 := s3.1
  have b3 : b ≤ d3.size := by rw [s3'.1]; exact b2
  have B3 : Sort.Below ltE a b d3 := B2.perm b2 s3'
  have hN3 : N = d3.size := by rw [s3'.1, s2.1, s1.1]; exact hN
  have hc0 := Sort.choosePivot_holds ltE d1 a b (by omega)
  have hpv : a ≤ pivot ∧ pivot < b := Sort.pivot_range hc0.1 hc0.2 _
  obtain ⟨g1, g2, hs4, hBa, hBr, _, hright⟩ := Sort.round_part ltM_swo (Sort.partition_holds ltE) hpv.1 hpv.2 b3 B3 hx
  have hlim1 : limit ≤ limit0 := by show (if (!wb) = true then limit0 - 1 else limit0) ≤ limit0; split <;> omega
  have L := Sort.pdq_sorts ltE ltM_swo d4 (mid + 1) b limit true true (by omega) (by rw [hs4]; exact b3) hBr
  obtain ⟨hBL, hfin⟩ := hright _ L.1 L.2
  refine (pd_pre hid hb62 (limit1 := limit) (pivot := pivot) hN hab (by omega) h12 hl hlim rfl rfl rfl rfl rfl rfl rfl).trans ((if_neg hpi2).trans ?_)
  refine (rest_r hid hb62 hN3 (by omega) (by omega) (by omega) hc hx g1 g2 hlt (ih3 (by omega) (by rw [hs4]; exact b3) (by rw [hs4]; exact hN3) (by omega) hBr)).trans ?_
  exact ih1 g1 (by rw [L.1.1, hs4]; omega) (by rw [L.1.1, hs4]; exact hN3) (by omega) hBL
 case case8 d a b limit wb wp h12 hl d1 c d2 pivot hint pi hpi2 d3 hc mid ap d4 hx hg =>
  intro hab hb hN hlim hB
  have s1 : Sort.PermIn a b d d1 := Sort.step_break d hab hb _
  have b1 : b ≤ d1.size := by rw [s1.1]; exact hb
  have s2 : Sort.PermIn a b d1 d2 := Sort.step_reverse Sort.reverseRange_holds d1 hab b1 _
  have b2 : b ≤ d2.size := by rw [s2.1]; exact b1
  have B2 : Sort.Below ltE a b d2 := (hB.perm hb s1).perm b1 s2
  have s3 := Sort.step_partial (Sort.partialInsertionSort_holds (lt := ltE)) ltM_swo d2 (a := a) (b := b) (by omega) b2 B2 ((wb && wp && decide (hint = Sort.Hint.increasing)) = true)
  have s3' : Sort.PermIn a b d2 d3 := s3.1
  have b3 : b ≤ d3.size := by rw [s3'.1]; exact b2
  have B3 : Sort.Below ltE a b d3 := B2.perm b2 s3'
  have hN3 : N = d3.size := by rw [s3'.1, s2.1, s1.1]; exact hN
  have hc0 := Sort.choosePivot_holds ltE d1 a b (by omega)
  have hpv : a ≤ pivot ∧ pivot < b := Sort.pivot_range hc0.1 hc0.2 _
  obtain ⟨g1, g2, _⟩ := Sort.round_part ltM_swo (Sort.partition_holds ltE) hpv.1 hpv.2 b3 B3 hx
  exact absurd ⟨g1, g2⟩ hg
theorem sortFunc_am {d : Array Edg} (hN : N = d.size) :
 Cl 41 [winM id N, cm] (HB h0 id d) = some (.tup [], HB h0 id (Sort.sort ltE d)) := by
 rw [f41_eq, f41_r0]
 have l : lenV P 22 (winM id N).weak = some (iv N) := by simp [lenV, winM, V.weak, und_22, iv]
 refine (bstep l _).trans ?_
 rw [f41_r1]
 refine (bstep (conv_int und_77 ..) _).trans ?_
 rw [wrap_u64 (by omega) (by omega)]
 refine (bstep (len_am (n := N) (by omega)) _).trans ?_
 have hbl : Sort.bitsLen N ≤ 62 := (Sort.bitsLen_le_iff N 62).2 (by omega)
 have := pd_all hid hb62 d 0 N (Sort.bitsLen N) true true (Nat.zero_le _) (by omega) hN (by omega) (Or.inl rfl)
 refine (bstep ((call82 hid hb62 0 N (Sort.bitsLen N) d).trans this) _).trans ?_
 rw [hb_len, hb_ret, hN]; rfl
end
end Ed
end Go.Proofs.YtaghnpjlhmgioaaDoor
end

section
set_option linter.unusedVariables false
set_option linter.unusedSimpArgs false
set_option linter.unusedSectionVars false
set_option maxRecDepth 100000
namespace Go.Proofs.YtaghnpjlhmgioaaDoor
open Go AM
structure E0 where
 fr : Int
 to : Int
 w : Int
 deriving DecidableEq
abbrev tE : TypeId := 44
def vE0 (e : E0) : V := .agg tE [.int .i64 e.fr, .int .i64 e.to, .int .i64 e.w]
@[go_sem] theorem pl_vE0 (x : E0) : (vE0 x).pl = true := (rfl)
@[go_sem] theorem plL_vE0 (l : List E0) : plL (l.map vE0) = true := plL_map (fun _ => rfl) l
@[go_sem] theorem tyG_vE0 (x : E0) : tyG tE (vE0 x) = true := tyG_g ..
theorem E0_at {l : List E0} {i : Nat} (h : i < l.length) : (l.map vE0)[i]? = some (vE0 l[i]) := by simp [h]
structure Grf where
 n : Int
 es : List E0
abbrev vG (f : Fl) (g : Grf) : V := .agg 23 [.int .i64 g.n, .lst 45 f (g.es.map vE0)]
def oddE (n : Int) (e : E0) : Bool := decide (e.fr < 0) || decide (n ≤ e.fr) || decide (e.to < 0) || decide (n ≤ e.to) || decide (e.w < 0) || decide (1048576 < e.w)
abbrev rG : V := .ref 0 [] 24
theorem odd_am (n : Int) (l : V) (e : E0) : Cl 29 [vE0 e, rG] [.agg 23 [.int .i64 n, l]] = some (.bool (oddE n e), [.agg 23 [.int .i64 n, l]]) := by
 rw [f29_eq]
 simp only [vE0]
 repeat' first | rfl | refine br_d (fun _ => ?_) (fun _ => ?_) | refine br_b (fun _ => ?_) (fun _ => ?_) | simp (disch := first | assumption | omega | (with_reducible rfl) | (simp only [go_sem]; done) | (simp only [go_sem]; omega) | fail) only [↓reduceIte, ↓jn_eq, Nat.reduceAdd, go_sem]
 all_goals (simp_all [oddE] <;> omega)
abbrev cOdd : V := .clo 29 [rG]
theorem oddV {R : Type} (n : Int) (l : V) (e : E0) (k : V → List V → Option R) : callV P ann W cOdd [vE0 e] [.agg 23 [.int .i64 n, l]] k = k (.bool (oddE n e)) [.agg 23 [.int .i64 n, l]] :=
 callV_np2 k (by kernel_rfl) (by kernel_rfl) (odd_am n l e)
def fix1 {α : Type} (p : α → Bool) : Nat → List α → Int
 | _, [] => -1
 | i, x :: l => if p x = true then (i : Int) else fix1 p (i + 1) l
theorem fix1_iff {α : Type} (p : α → Bool) : ∀ (l : List α) (i : Nat), 0 ≤ fix1 p i l ↔ l.any p = true
 | [], i => by simp [fix1]
 | x :: l, i => by
   rw [fix1, List.any_cons]
   by_cases h : p x = true
   · rw [if_pos h, h]; simp
   · rw [if_neg h, fix1_iff p l (i + 1)]; simp [h]
theorem fix1_ge {α : Type} (p : α → Bool) (l : List α) (i : Nat) : decide (0 ≤ fix1 p i l) = l.any p := by
 rw [Bool.eq_iff_iff, decide_eq_true_eq]; exact fix1_iff p l i
theorem idxE_l0 (n : Int) (L : V) (es : List E0) (hl : es.length < 1000000) (f : Fl) : ∀ (m i : Nat), i + m = es.length →
 f43_l0 (.lst 45 f (es.map vE0)) cOdd (.int .i64 (es.length : Int)) (.int .i64 (i : Int)) 1 [.agg 23 [.int .i64 n, L]] =
  some (.int .i64 (fix1 (oddE n) i (es.drop i)), [.agg 23 [.int .i64 n, L]]) := by
 intro m
 induction m with
 | zero =>
   intro i hi
   rw [List.drop_eq_nil_of_le (by omega), f43_l0_eq]
   simp (disch := first | assumption | omega | (with_reducible rfl) | (simp only [go_sem]; done) | (simp only [go_sem]; omega) | fail) only [↓reduceIte, ↓jn_eq, Nat.reduceAdd, go_sem, fix1]
 | succ m ih =>
   intro i hi
   have h : i < es.length := by omega
   have := ih (i + 1) (by omega)
   rw [List.drop_eq_getElem_cons h, fix1, f43_l0_eq]
   by_cases ho : oddE n es[i] = true
   · rw [if_pos ho]
     simp (disch := first | assumption | omega | (with_reducible rfl) | (simp only [go_sem]; done) | (simp only [go_sem]; omega) | fail) only [↓reduceIte, ↓jn_eq, Nat.reduceAdd, go_sem, E0_at h, oddV, ho]
   · rw [if_neg ho, ← this]
     simp (disch := first | assumption | omega | (with_reducible rfl) | (simp only [go_sem]; done) | (simp only [go_sem]; omega) | fail) only [↓reduceIte, ↓jn_eq, Nat.reduceAdd, go_sem, E0_at h, oddV, ho]
theorem anyE_am (n : Int) (L : V) {es : List E0} (hl : es.length < 1000000) (f : Fl) : Cl 30 [.lst 45 f (es.map vE0), cOdd] [.agg 23 [.int .i64 n, L]] = some (.bool (es.any (oddE n)), [.agg 23 [.int .i64 n, L]]) := by
 have h := fun f => idxE_l0 n L es hl f es.length 0 (by omega)
 simp only [c0, List.drop_zero] at h
 have ix : ∀ f, Cl 43 [.lst 45 f (es.map vE0), cOdd] [.agg 23 [.int .i64 n, L]] = some (.int .i64 (fix1 (oddE n) 0 es), [.agg 23 [.int .i64 n, L]]) := fun f => by
  rw [← h f, f43_eq]
  simp (disch := first | assumption | omega | (with_reducible rfl) | (simp only [go_sem]; done) | (simp only [go_sem]; omega) | fail) only [↓reduceIte, ↓jn_eq, Nat.reduceAdd, go_sem]
 rw [f30_eq, ← fix1_ge (oddE n) es 0]
 simp (disch := first | assumption | omega | (with_reducible rfl) | (simp only [go_sem]; done) | (simp only [go_sem]; omega) | fail) only [↓reduceIte, ↓jn_eq, Nat.reduceAdd, go_sem, ix]
def toEdg (n : Int) (e : E0) (h : oddE n e = false) (hn : n ≤ 64) : Ed.Edg := ⟨e.fr.toNat, e.to.toNat, e.w, by simp [oddE] at h; omega, by simp [oddE] at h; omega⟩
theorem toEdgs {n : Int} (hn : n ≤ 64) : ∀ es : List E0, es.any (oddE n) = false → ∃ l : List Ed.Edg, l.map Ed.vEdg = es.map vE0 ∧ l.map (fun x => ((x.fr : Int), (x.to : Int))) = es.map fun e => (e.fr, e.to)
 | [], _ => ⟨[], rfl, rfl⟩
 | e :: es, h => by
   rw [List.any_cons, Bool.or_eq_false_iff] at h
   obtain ⟨l, h1, h2⟩ := toEdgs hn es h.2
   have hb := h.1
   simp only [oddE, Bool.or_eq_false_iff, decide_eq_false_iff_not] at hb
   refine ⟨toEdg n e h.1 hn :: l, ?_, ?_⟩
   · rw [List.map_cons, List.map_cons, h1, Ed.vEdg, vE0, toEdg]
     simp only []
     rw [show (e.fr.toNat : Int) = e.fr by omega, show (e.to.toNat : Int) = e.to by omega]
   · rw [List.map_cons, List.map_cons, h2, toEdg]
     simp only []
     rw [show (e.fr.toNat : Int) = e.fr by omega, show (e.to.toNat : Int) = e.to by omega]
abbrev vEs (f : Fl) (l : List Ed.Edg) : V := .lst 45 f (l.map Ed.vEdg)
def sortE (l : List Ed.Edg) : List Ed.Edg := (Sort.sort Ed.ltE l.toArray).toList
theorem sortE_perm (l : List Ed.Edg) : (sortE l).Perm l := by
 have h := (Sort.sort_sorts Ed.ltE Ed.ltM_swo l.toArray).1
 have h2 := h.2.2
 rw [Array.extract_eq_self_of_le (by rw [h.1]; exact Nat.le_refl _), Array.extract_eq_self_of_le (Nat.le_refl _)] at h2
 exact h2
theorem sortE_len (l : List Ed.Edg) : (sortE l).length = l.length := (sortE_perm l).length_eq
theorem values_am (a : V) (f : Fl) (l : List Ed.Edg) : Cl 27 [vEs .sh l] [a] = some (.clo 42 [.ref 1 [] 22], [a, vEs .sh l]) := by
 rw [f27_eq]
 simp (disch := first | assumption | omega | (with_reducible rfl) | (simp only [go_sem]; done) | (simp only [go_sem]; omega) | fail) only [↓reduceIte, ↓jn_eq, Nat.reduceAdd, go_sem]
 rfl
theorem i3_all (l : List Ed.Edg) : (l.map Ed.vEdg).all i3 = true := by simp [Ed.vEdg, i3]
theorem collect_am (a : V) {l : List Ed.Edg} (hl : l.length ≤ 1000000) : Cl 40 [.clo 42 [.ref 1 [] 22]] [a, vEs .sh l] = some (Ed.winM 2 l.length, [a, vEs .sh l, Ed.rowM l.toArray]) := by
 rw [f40_eq]
 have ap : aps 42 45 [.lst 45 .nil [], .clo 42 [.ref 1 [] 22]] [a, vEs .sh l] = some (Ed.winM 2 l.length, [a, vEs .sh l, Ed.rowM l.toArray]) := by
  simp only [aps, List.getElem?_cons_succ, List.getElem?_cons_zero, i3_all, List.length_map]
  rw [if_pos (by simp [most, Nat.ble_eq]; omega)]
  simp [Ed.winM, Ed.rowM]
 rw [ap]; rfl
theorem sortedE_am (a : V) {l : List Ed.Edg} (hl : l.length ≤ 1000000) : Cl 26 [.clo 42 [.ref 1 [] 22], Ed.cm] [a, vEs .sh l] = some (vEs .sh (sortE l), [a, vEs .sh l]) := by
 have c := collect_am a hl
 have s := Ed.sortFunc_am (h0 := [a, vEs .sh l, Ed.rowM l.toArray]) (id := 2) (N := l.length) (by simp) (by omega) (d := l.toArray) (by simp)
 have e0 : Ed.HB [a, vEs .sh l, Ed.rowM l.toArray] 2 l.toArray = [a, vEs .sh l, Ed.rowM l.toArray] := rfl
 have e1 : Ed.HB [a, vEs .sh l, Ed.rowM l.toArray] 2 (Sort.sort Ed.ltE l.toArray) = [a, vEs .sh l, Ed.rowM (Sort.sort Ed.ltE l.toArray)] := rfl
 rw [e0, e1] at s
 have ct : content [a, vEs .sh l, Ed.rowM (Sort.sort Ed.ltE l.toArray)] (Ed.winM 2 l.length) = some ((sortE l).map Ed.vEdg) := by
  simp [content, Ed.winM, rd, V.at, V.items, Ed.rowM, sortE]
  rw [← sortE_len l]; exact List.take_of_length_le (by simp [sortE])
 have cl : cleanL ((sortE l).map Ed.vEdg) = true := cleanL_pl (plL_map (fun _ => rfl) _)
 have nl : normL ((sortE l).map Ed.vEdg) = (sortE l).map Ed.vEdg := normL_pl (plL_map (fun _ => rfl) _)
 have fin : finT 2 [a, vEs .sh l, Ed.rowM (Sort.sort Ed.ltE l.toArray)] (Ed.winM 2 l.length) = some (vEs .sh (sortE l), [a, vEs .sh l]) := by
  have u : (Ed.winM 2 l.length).unmut [a, vEs .sh l, Ed.rowM (Sort.sort Ed.ltE l.toArray)] = vEs .sh (sortE l) := by
   rw [Ed.winM] at ct ⊢
   simp only [V.unmut, ct, cl, nl, if_true]
  simp only [finT, u]; rfl
 rw [f26_eq]
 refine (bstep c _).trans ?_
 refine (bstep s _).trans ?_
 exact fin
def adjL : Ed.Edg → List Ed.Edg → Bool
 | _, [] => false
 | x, y :: r => decide (Ed.cmpE x y = 0) || adjL y r
@[go_sem] theorem plL_vEd (l : List Ed.Edg) : plL (l.map Ed.vEdg) = true := plL_map (fun _ => rfl) l
theorem Edg_at {l : List Ed.Edg} {i : Nat} (h : i < l.length) : (l.map Ed.vEdg)[i]? = some (Ed.vEdg l[i]) := by simp [h]
theorem gchk_l0 (a b : V) {l : List Ed.Edg} (hl : l.length ≤ 1000000) : ∀ (n i : Nat) (hi : i < l.length), i + 1 + n = l.length →
 f14_l0 (vEs .sh l) (.int .i64 ((i + 1 : Nat) : Int)) [a, b] = some (.int .i64 (if adjL l[i] (l.drop (i + 1)) = true then 51 else 0), []) := by
 intro n
 induction n with
 | zero =>
   intro i hi hn
   rw [List.drop_eq_nil_of_le (by omega), adjL, f14_l0_eq]
   simp (disch := first | assumption | omega | (with_reducible rfl) | (simp only [go_sem]; done) | (simp only [go_sem]; omega) | fail) only [↓reduceIte, ↓jn_eq, Nat.reduceAdd, go_sem]
   rfl
 | succ n ih =>
   intro i hi hn
   have h : i + 1 < l.length := by omega
   have := ih (i + 1) h (by omega)
   rw [List.drop_eq_getElem_cons h, adjL, f14_l0_eq]
   by_cases hc : Ed.cmpE l[i] l[i + 1] = 0
   · rw [decide_eq_true hc, Bool.true_or, if_pos rfl]
     simp (disch := first | assumption | omega | (with_reducible rfl) | (simp only [go_sem]; done) | (simp only [go_sem]; omega) | fail) only [↓reduceIte, ↓jn_eq, Nat.reduceAdd, go_sem, Edg_at hi, Edg_at h, Ed.compare_am, hc, Nat.add_sub_cancel]
   · rw [decide_eq_false hc, Bool.false_or, ← this]
     simp (disch := first | assumption | omega | (with_reducible rfl) | (simp only [go_sem]; done) | (simp only [go_sem]; omega) | fail) only [↓reduceIte, ↓jn_eq, Nat.reduceAdd, go_sem, Edg_at hi, Edg_at h, Ed.compare_am, Nat.add_sub_cancel]
def keyE (x : Ed.Edg) : Int × Int := ((x.fr : Int), (x.to : Int))
theorem keyE_eq (x y : Ed.Edg) : Ed.cmpE x y = 0 ↔ keyE x = keyE y := by
 rw [Ed.cmpE, keyE, keyE, Prod.mk.injEq]
 by_cases h : x.fr = y.fr
 · rw [if_pos h]; omega
 · rw [if_neg h]; omega
theorem lt_of_le_ne {x y : Ed.Edg} (h : Ed.ltE y x = false) (hn : keyE x ≠ keyE y) : Ed.ltE x y = true := by
 rw [Ed.ltE_iff'] at h
 rw [Ed.ltE_iff]
 simp only [keyE, ne_eq, Prod.mk.injEq] at hn
 omega
theorem adj_iff : ∀ (r : List Ed.Edg) (x : Ed.Edg), (x :: r).Pairwise (fun a b => Ed.ltE b a = false) → (adjL x r = false ↔ ((x :: r).map keyE).Nodup)
 | [], x, _ => by simp [adjL]
 | y :: r, x, h => by
   obtain ⟨h1, h2⟩ := List.pairwise_cons.1 h
   have ih := adj_iff r y h2
   rw [adjL, Bool.or_eq_false_iff, ih, decide_eq_false_iff_not, keyE_eq, List.map_cons (l := y :: r), List.nodup_cons]
   refine and_congr_left fun hd => ⟨fun hn hm => ?_, fun hm he => hm (by rw [he]; simp)⟩
   obtain ⟨z, hz, he⟩ := List.mem_map.1 hm
   rcases List.mem_cons.1 hz with rfl | hz
   · exact hn he.symm
   · have a := lt_of_le_ne (h1 y List.mem_cons_self) hn
     have b := (List.pairwise_cons.1 h2).1 z hz
     rw [Ed.ltE_iff] at a
     rw [Ed.ltE_iff'] at b
     simp only [keyE, Prod.mk.injEq] at he
     omega
theorem sortE_sorted (l : List Ed.Edg) : (sortE l).Pairwise (fun a b => Ed.ltE b a = false) := by
 have h := (Sort.sort_sorts Ed.ltE Ed.ltM_swo l.toArray).2
 rw [List.pairwise_iff_getElem]
 intro i j hi hj hij
 have := h i j (Nat.zero_le _) hij (by simpa [sortE] using (sortE_len l) ▸ hj)
 simp only [sortE, Array.length_toList] at hi hj
 simpa [sortE, hi, hj] using this
def chkG (g : Grf) : Int := if 1 ≤ g.n ∧ g.n ≤ 64 ∧ g.es.length ≤ 512 ∧ g.es.any (oddE g.n) = false then (if (g.es.map fun e => (e.fr, e.to)).Nodup then 0 else 51) else 50
theorem gCheck_am {g : Grf} (hl : g.es.length < 1000000) : Cl 14 [vG .sh g] [] = some (.int .i64 (chkG g), []) := by
 have an := anyE_am g.n (.lst 45 .sh (g.es.map vE0)) hl .sh
 by_cases h1 : g.n < 1
 · rw [chkG, if_neg (by omega), f14_eq]
   simp (disch := first | assumption | omega | (with_reducible rfl) | (simp only [go_sem]; done) | (simp only [go_sem]; omega) | fail) only [↓reduceIte, ↓jn_eq, Nat.reduceAdd, go_sem]
 by_cases h2 : 64 < g.n
 · rw [chkG, if_neg (by omega), f14_eq]
   simp (disch := first | assumption | omega | (with_reducible rfl) | (simp only [go_sem]; done) | (simp only [go_sem]; omega) | fail) only [↓reduceIte, ↓jn_eq, Nat.reduceAdd, go_sem]
 by_cases h3 : 512 < g.es.length
 · rw [chkG, if_neg (by omega), f14_eq]
   simp (disch := first | assumption | omega | (with_reducible rfl) | (simp only [go_sem]; done) | (simp only [go_sem]; omega) | fail) only [↓reduceIte, ↓jn_eq, Nat.reduceAdd, go_sem]
 by_cases h4 : g.es.any (oddE g.n) = true
 · rw [chkG, if_neg (by rw [h4]; simp), f14_eq]
   simp (disch := first | assumption | omega | (with_reducible rfl) | (simp only [go_sem]; done) | (simp only [go_sem]; omega) | fail) only [↓reduceIte, ↓jn_eq, Nat.reduceAdd, go_sem, an, h4]
 have h4 : g.es.any (oddE g.n) = false := by simpa using h4
 obtain ⟨l, l1, l2⟩ := toEdgs (by omega) g.es h4
 have hlen : l.length = g.es.length := by have := congrArg List.length l1; simpa using this
 have v := values_am (vG .sh g) .sh l
 have st := sortedE_am (vG .sh g) (l := l) (by omega)
 have hsl := sortE_len l
 have hnd : (g.es.map fun e => (e.fr, e.to)).Nodup ↔ ((sortE l).map keyE).Nodup := by
  rw [← l2]; exact (((sortE_perm l).map keyE).nodup_iff).symm
 have so := sortE_sorted l
 rw [chkG, if_pos ⟨by omega, by omega, by omega, h4⟩]
 have e : (if (g.es.map fun e => (e.fr, e.to)).Nodup then (0 : Int) else 51) = (if ((sortE l).map keyE).Nodup then (0 : Int) else 51) := by
  by_cases hh : (g.es.map fun e => (e.fr, e.to)).Nodup
  · rw [if_pos hh, if_pos (hnd.1 hh)]
  · rw [if_neg hh, if_neg (fun k => hh (hnd.2 k))]
 rw [e]
 have rest : f14_l0 (vEs .sh (sortE l)) (.int .i64 1) [vG .sh g, vEs .sh l] = some (.int .i64 (if ((sortE l).map keyE).Nodup then (0 : Int) else 51), []) := by
  cases hs : sortE l with
  | nil =>
    rw [f14_l0_eq]
    simp (disch := first | assumption | omega | (with_reducible rfl) | (simp only [go_sem]; done) | (simp only [go_sem]; omega) | fail) only [↓reduceIte, ↓jn_eq, Nat.reduceAdd, go_sem]
    rfl
  | cons x r =>
    have := gchk_l0 (vG .sh g) (vEs .sh l) (l := x :: r) (by rw [← hs]; omega) r.length 0 (by simp) (by simp; omega)
    simp only [Nat.zero_add, c1, List.getElem_cons_zero, List.drop_succ_cons, List.drop_zero] at this
    rw [this]
    rw [hs] at so
    have ai := adj_iff r x so
    by_cases hh : ((x :: r).map keyE).Nodup
    · rw [if_pos hh, if_neg (by rw [ai.2 hh]; simp)]
    · rw [if_neg hh, if_pos (by cases ha : adjL x r with
       | true => rfl
       | false => exact absurd (ai.1 ha) hh)]
 have l3 : l.length ≤ 512 := by omega
 simp only [vG, ← l1] at an v st rest ⊢
 rw [f14_eq]
 generalize sortE l = s at *
 simp (disch := first | assumption | omega | (with_reducible rfl) | (simp only [go_sem]; done) | (simp only [go_sem]; omega) | fail) only [↓reduceIte, ↓jn_eq, Nat.reduceAdd, go_sem, an, h4, v, st, rest]
end Go.Proofs.YtaghnpjlhmgioaaDoor
end

section
set_option linter.unusedVariables false
set_option linter.unusedSimpArgs false
set_option linter.unusedSectionVars false
set_option maxRecDepth 100000
namespace Go.Proofs.YtaghnpjlhmgioaaDoor
open Go AM
abbrev kEd (e : E0) : Int × Int := (e.fr, e.to)
def kLt (a b : E0) : Prop := a.fr < b.fr ∨ a.fr = b.fr ∧ a.to < b.to
def InB (e : E0) : Prop := 0 ≤ e.fr ∧ e.fr < 64 ∧ 0 ≤ e.to ∧ e.to < 64
def toE (e : E0) : Ed.Edg := ⟨e.fr.toNat % 64, e.to.toNat % 64, e.w, Nat.mod_lt _ (by omega), Nat.mod_lt _ (by omega)⟩
def ofE (x : Ed.Edg) : E0 := ⟨(x.fr : Int), (x.to : Int), x.w⟩
theorem toE_of {e : E0} (h : InB e) : ofE (toE e) = e := by
 obtain ⟨a, b, c⟩ := e
 simp only [InB] at h
 simp only [ofE, toE, E0.mk.injEq, and_true]
 omega
theorem toE_map {es : List E0} (h : ∀ e ∈ es, InB e) : (es.map toE).map ofE = es := by
 rw [List.map_map]
 conv => rhs; rw [← List.map_id es]
 exact List.map_congr_left fun e he => toE_of (h e he)
theorem toE_v {es : List E0} (h : ∀ e ∈ es, InB e) : (es.map toE).map Ed.vEdg = es.map vE0 := by
 conv => rhs; rw [← toE_map h]
 rw [List.map_map, List.map_map, List.map_map]; rfl
def srtE (es : List E0) : List E0 := (sortE (es.map toE)).map ofE
theorem srtE_v (es : List E0) : (srtE es).map vE0 = (sortE (es.map toE)).map Ed.vEdg := by
 rw [srtE, List.map_map]; rfl
theorem srtE_perm {es : List E0} (h : ∀ e ∈ es, InB e) : (srtE es).Perm es := by
 have := (sortE_perm (es.map toE)).map ofE
 rwa [toE_map h] at this
theorem srtE_len (es : List E0) : (srtE es).length = es.length := by simp [srtE, sortE_len]
theorem srtE_sorted {es : List E0} (h : ∀ e ∈ es, InB e) (hn : (es.map kEd).Nodup) : (srtE es).Pairwise kLt := by
 have hp := srtE_perm h
 have h1 := sortE_sorted (es.map toE)
 have h2 : ((srtE es).map kEd).Nodup := ((hp.map kEd).nodup_iff).2 hn
 rw [srtE, List.map_map, List.nodup_iff_pairwise_ne, List.pairwise_map] at h2
 rw [srtE, List.pairwise_map]
 refine (h1.and h2).imp fun {a b} hab => ?_
 have hk : keyE a ≠ keyE b := hab.2
 have := lt_of_le_ne hab.1 hk
 rw [Ed.ltE_iff] at this
 simp only [kLt, ofE]
 omega
theorem kLt_irr (a : E0) : ¬ kLt a a := by simp only [kLt]; omega
theorem kLt_asymm {a b : E0} (h : kLt a b) : ¬ kLt b a := by simp only [kLt] at *; omega
theorem uniqE : ∀ {l1 l2 : List E0}, l1.Pairwise kLt → l2.Pairwise kLt → (∀ x, x ∈ l1 ↔ x ∈ l2) → l1 = l2
 | [], [], _, _, _ => rfl
 | [], y :: l2, _, _, h => by have := (h y).2 List.mem_cons_self; simp at this
 | x :: l1, [], _, _, h => by have := (h x).1 List.mem_cons_self; simp at this
 | x :: l1, y :: l2, h1, h2, h => by
   obtain ⟨a1, a2⟩ := List.pairwise_cons.1 h1
   obtain ⟨b1, b2⟩ := List.pairwise_cons.1 h2
   have e : x = y := by
    rcases List.mem_cons.1 ((h x).1 List.mem_cons_self) with r | r
    · exact r
    rcases List.mem_cons.1 ((h y).2 List.mem_cons_self) with q | q
    · exact q.symm
    exact absurd (b1 x r) (kLt_asymm (a1 y q))
   subst e
   refine congrArg (x :: ·) (uniqE a2 b2 fun z => ⟨fun hz => ?_, fun hz => ?_⟩)
   · rcases List.mem_cons.1 ((h z).1 (List.mem_cons_of_mem _ hz)) with rfl | r
     · exact absurd (a1 z hz) (kLt_irr z)
     · exact r
   · rcases List.mem_cons.1 ((h z).2 (List.mem_cons_of_mem _ hz)) with rfl | r
     · exact absurd (b1 z hz) (kLt_irr z)
     · exact r
theorem chkG_0 {g : Grf} (h : chkG g = 0) : (1 ≤ g.n ∧ g.n ≤ 64) ∧ g.es.length ≤ 512 ∧ g.es.any (oddE g.n) = false ∧ (g.es.map kEd).Nodup := by
 rw [chkG] at h
 split at h
 · rename_i hc
   split at h
   · rename_i hn; exact ⟨⟨hc.1, hc.2.1⟩, hc.2.2.1, hc.2.2.2, hn⟩
   · cases h
 · cases h
theorem odd_in {n : Int} {e : E0} (h : oddE n e = false) : 0 ≤ e.fr ∧ e.fr < n ∧ 0 ≤ e.to ∧ e.to < n ∧ 0 ≤ e.w ∧ e.w ≤ 1048576 := by
 simp only [oddE, Bool.or_eq_false_iff, decide_eq_false_iff_not] at h; omega
theorem odds_in {n : Int} {es : List E0} (h : es.any (oddE n) = false) : ∀ e ∈ es, 0 ≤ e.fr ∧ e.fr < n ∧ 0 ≤ e.to ∧ e.to < n ∧ 0 ≤ e.w ∧ e.w ≤ 1048576 := by
 intro e he
 rw [List.any_eq_false] at h
 exact odd_in (by simpa using h e he)
theorem inB_of {g : Grf} (h : chkG g = 0) : ∀ e ∈ g.es, InB e := by
 obtain ⟨⟨_, h1⟩, _, h2, _⟩ := chkG_0 h
 intro e he
 have := odds_in h2 e he
 simp only [InB]; omega
theorem srt_ok {g : Grf} (h : chkG g = 0) : (srtE g.es).Perm g.es ∧ (srtE g.es).Pairwise kLt := ⟨srtE_perm (inB_of h), srtE_sorted (inB_of h) (chkG_0 h).2.2.2⟩
def normG (g : Grf) : Grf := if chkG g = 0 then ⟨g.n, srtE g.es⟩ else ⟨0, []⟩
end Go.Proofs.YtaghnpjlhmgioaaDoor
end

section
set_option linter.unusedVariables false
set_option linter.unusedSimpArgs false
set_option linter.unusedSectionVars false
set_option maxRecDepth 100000
namespace Go.Proofs.YtaghnpjlhmgioaaDoor
open Go AM
theorem callH_np {f : FuncId} {id : Nat} {p : List Nat} {t : TypeId} {cs vs h h' : List V} {v r : V} (he : ann.ext f = false) (hp : ann.pure f = false) (hh : h[id]? = some v) (haw : awayL id (h.set id void) = true)
 (hx : V.away id (.clo f cs) = true) (hv : awayL id vs = true) (hr : r.away id = true) (ha2 : awayL id h' = true) (hlt : id < h'.length) (e : Cl f (normL (vs ++ cs)) (h.set id void) = some (r, h')) (k : V → List V → Rv) (hs : (ann.seq f).1 = 0 := by kernel_rfl) :
 callH P ann W (some (.ref id p t)) (.clo f cs) vs h k = k r (h'.set id v) := by
 simp only [callH, hh, haw, hv, hx]
 rw [if_pos (show (true && true && true) = true from rfl), callV_np _ he hp hs]
 refine (bstep e _).trans ?_
 rw [if_pos (by rw [hr, ha2]; simp only [Bool.true_and]; exact Nat.ble_eq_true_of_le hlt)]
theorem own5_am {g : Grf} (hl : g.es.length < 1000000) : Cl 13 [vG .sh g] [] = some (vG .sh g, []) := by
 have ap : ∀ h : List V, apL 45 (tyG 44) false h (.lst 45 .own []) (.lst 45 .sh (g.es.map vE0)) = some (.lst 45 .own ([] ++ g.es.map vE0)) := fun h =>
  apL_own (V.PFL _ (plL_vE0 g.es)).clean (all_map tyG_vE0 _) (by simp; omega) _ _ _
 rw [f13_eq]
 (repeat' with_reducible first | refine (ite_T _ _).trans ?_ | refine (ite_F _ _).trans ?_ | refine (jn_eq _ _).trans ?_ | refine (bstep (by first | rfl | (simp (disch := first | assumption | omega | (with_reducible rfl) | (simp only [go_sem]; done) | (simp only [go_sem]; omega) | fail) only [↓reduceIte, ↓jn_eq, Nat.reduceAdd, go_sem, Bool.not_true, Bool.not_false, ap]; rfl)) _).trans ?_ | refine (if_pos (by first | rfl | (simp (disch := first | assumption | omega | (with_reducible rfl) | (simp only [go_sem]; done) | (simp only [go_sem]; omega) | fail) only [↓reduceIte, ↓jn_eq, Nat.reduceAdd, go_sem, Bool.not_true, Bool.not_false, ap]; done))).trans ?_ | refine (ite_dec (by first | assumption | omega | (simp (disch := first | assumption | omega | (with_reducible rfl) | (simp only [go_sem]; done) | (simp only [go_sem]; omega) | fail) only [↓reduceIte, ↓jn_eq, Nat.reduceAdd, go_sem, Bool.not_true, Bool.not_false, ap]; done) | (simp (disch := first | assumption | omega | (with_reducible rfl) | (simp only [go_sem]; done) | (simp only [go_sem]; omega) | fail) only [↓reduceIte, ↓jn_eq, Nat.reduceAdd, go_sem, Bool.not_true, Bool.not_false, ap]; omega)) _ _).trans ?_ | refine (ite_ndec (by first | assumption | omega | (simp (disch := first | assumption | omega | (with_reducible rfl) | (simp only [go_sem]; done) | (simp only [go_sem]; omega) | fail) only [↓reduceIte, ↓jn_eq, Nat.reduceAdd, go_sem, Bool.not_true, Bool.not_false, ap]; done) | (simp (disch := first | assumption | omega | (with_reducible rfl) | (simp only [go_sem]; done) | (simp only [go_sem]; omega) | fail) only [↓reduceIte, ↓jn_eq, Nat.reduceAdd, go_sem, Bool.not_true, Bool.not_false, ap]; omega)) _ _).trans ?_ | fail)
 rfl
theorem values2_am (a b : V) (l : List Ed.Edg) : Cl 27 [vEs .sh l] [a, b] = some (.clo 42 [.ref 2 [] 22], [a, b, vEs .sh l]) := by
 rw [f27_eq]
 simp (disch := first | assumption | omega | (with_reducible rfl) | (simp only [go_sem]; done) | (simp only [go_sem]; omega) | fail) only [↓reduceIte, ↓jn_eq, Nat.reduceAdd, go_sem]
 rfl
theorem collect2_am (a b : V) {l : List Ed.Edg} (hl : l.length ≤ 1000000) : Cl 40 [.clo 42 [.ref 2 [] 22]] [a, b, vEs .sh l] = some (Ed.winM 3 l.length, [a, b, vEs .sh l, Ed.rowM l.toArray]) := by
 rw [f40_eq]
 have ap : aps 42 45 [.lst 45 .nil [], .clo 42 [.ref 2 [] 22]] [a, b, vEs .sh l] = some (Ed.winM 3 l.length, [a, b, vEs .sh l, Ed.rowM l.toArray]) := by
  simp only [aps, List.getElem?_cons_succ, List.getElem?_cons_zero, i3_all, List.length_map]
  rw [if_pos (by simp [most, Nat.ble_eq]; omega)]
  simp [Ed.winM, Ed.rowM]
 rw [ap]; rfl
theorem sortedE2_am (a b : V) {l : List Ed.Edg} (hl : l.length ≤ 1000000) : Cl 26 [.clo 42 [.ref 2 [] 22], Ed.cm] [a, b, vEs .sh l] = some (vEs .sh (sortE l), [a, b, vEs .sh l]) := by
 have c := collect2_am a b hl
 have s := Ed.sortFunc_am (h0 := [a, b, vEs .sh l, Ed.rowM l.toArray]) (id := 3) (N := l.length) (by simp) (by omega) (d := l.toArray) (by simp)
 have e0 : Ed.HB [a, b, vEs .sh l, Ed.rowM l.toArray] 3 l.toArray = [a, b, vEs .sh l, Ed.rowM l.toArray] := rfl
 have e1 : Ed.HB [a, b, vEs .sh l, Ed.rowM l.toArray] 3 (Sort.sort Ed.ltE l.toArray) = [a, b, vEs .sh l, Ed.rowM (Sort.sort Ed.ltE l.toArray)] := rfl
 rw [e0, e1] at s
 have ct : content [a, b, vEs .sh l, Ed.rowM (Sort.sort Ed.ltE l.toArray)] (Ed.winM 3 l.length) = some ((sortE l).map Ed.vEdg) := by
  simp [content, Ed.winM, rd, V.at, V.items, Ed.rowM, sortE]
  rw [← sortE_len l]; exact List.take_of_length_le (by simp [sortE])
 have cl : cleanL ((sortE l).map Ed.vEdg) = true := cleanL_pl (plL_map (fun _ => rfl) _)
 have nl : normL ((sortE l).map Ed.vEdg) = (sortE l).map Ed.vEdg := normL_pl (plL_map (fun _ => rfl) _)
 have fin : finT 3 [a, b, vEs .sh l, Ed.rowM (Sort.sort Ed.ltE l.toArray)] (Ed.winM 3 l.length) = some (vEs .sh (sortE l), [a, b, vEs .sh l]) := by
  have u : (Ed.winM 3 l.length).unmut [a, b, vEs .sh l, Ed.rowM (Sort.sort Ed.ltE l.toArray)] = vEs .sh (sortE l) := by
   rw [Ed.winM] at ct ⊢
   simp only [V.unmut, ct, cl, nl, if_true]
  simp only [finT, u]; rfl
 rw [f26_eq]
 refine (bstep c _).trans ?_
 refine (bstep s _).trans ?_
 exact fin
abbrev zG : V := .agg 23 [.int .i64 0, .lst 45 .nil []]
theorem Norm_am {g : Grf} (hl : g.es.length < 1000000) : Cl 12 [vG .sh g] [] = some (.tup [vG .sh (normG g), .int .i64 (chkG g)], []) := by
 have ck := gCheck_am hl
 by_cases hc : chkG g = 0
 · have hin := inB_of hc
   have hv := toE_v hin
   have hsv := srtE_v g.es
   rw [hc] at ck ⊢
   rw [normG, if_pos hc]
   simp only [vG, hsv, ← hv] at ck ⊢
   have hlt : (g.es.map toE).length ≤ 1000000 := by simp; omega
   generalize g.es.map toE = l at *
   have c1 : ∀ (x : V) (k : V → List V → Rv), x.away 0 = true → callH P ann W (some (.ref 0 [] 24)) (.clo 27 []) [vEs .sh l] [x, zG] k = k (.clo 42 [.ref 2 [] 22]) [x, zG, vEs .sh l] := by
    intro x k hx
    exact callH_np (h := [x, zG]) (h' := [void, zG, vEs .sh l]) (r := .clo 42 [.ref 2 [] 22]) (id := 0) (by kernel_rfl) (by kernel_rfl) (v := x) rfl rfl rfl rfl rfl rfl (Nat.zero_lt_succ _) (by rw [List.append_nil, normL_pl (show plL [vEs .sh l] = true by simp only [plL, V.pl, plL_vEd]; rfl)]; exact values2_am void zG l) k
   have c2 : ∀ (x : V) (k : V → List V → Rv), x.away 0 = true → callH P ann W (some (.ref 0 [] 24)) (.clo 26 []) [.clo 42 [.ref 2 [] 22], Ed.cm] [x, zG, vEs .sh l] k = k (vEs .sh (sortE l)) [x, zG, vEs .sh l] := by
    intro x k hx
    exact callH_np (h := [x, zG, vEs .sh l]) (h' := [void, zG, vEs .sh l]) (r := vEs .sh (sortE l)) (id := 0) (by kernel_rfl) (by kernel_rfl) (v := x) rfl rfl rfl rfl ((V.PF _ (show (vEs .sh (sortE l)).pl = true by simp only [V.pl, plL_vEd])).away 0) rfl (Nat.zero_lt_succ _) (sortedE2_am void zG hlt) k
   generalize sortE l = s at *
   rw [f12_eq]
   have sb : sameB (.ref 0 [] 24) (.ref 0 [0] 3) = true := rfl
   (repeat' with_reducible first | refine (ite_T _ _).trans ?_ | refine (ite_F _ _).trans ?_ | refine (jn_eq _ _).trans ?_ | refine (bstep (by first | rfl | (simp (disch := first | assumption | omega | (with_reducible rfl) | (simp only [go_sem]; done) | (simp only [go_sem]; omega) | fail) only [↓reduceIte, ↓jn_eq, Nat.reduceAdd, go_sem, Bool.not_true, Bool.not_false, ck, sb]; rfl)) _).trans ?_ | refine (if_pos (by first | rfl | (simp (disch := first | assumption | omega | (with_reducible rfl) | (simp only [go_sem]; done) | (simp only [go_sem]; omega) | fail) only [↓reduceIte, ↓jn_eq, Nat.reduceAdd, go_sem, Bool.not_true, Bool.not_false, ck, sb]; done))).trans ?_ | refine (ite_dec (by first | assumption | omega | (simp (disch := first | assumption | omega | (with_reducible rfl) | (simp only [go_sem]; done) | (simp only [go_sem]; omega) | fail) only [↓reduceIte, ↓jn_eq, Nat.reduceAdd, go_sem, Bool.not_true, Bool.not_false, ck, sb]; done) | (simp (disch := first | assumption | omega | (with_reducible rfl) | (simp only [go_sem]; done) | (simp only [go_sem]; omega) | fail) only [↓reduceIte, ↓jn_eq, Nat.reduceAdd, go_sem, Bool.not_true, Bool.not_false, ck, sb]; omega)) _ _).trans ?_ | refine (ite_ndec (by first | assumption | omega | (simp (disch := first | assumption | omega | (with_reducible rfl) | (simp only [go_sem]; done) | (simp only [go_sem]; omega) | fail) only [↓reduceIte, ↓jn_eq, Nat.reduceAdd, go_sem, Bool.not_true, Bool.not_false, ck, sb]; done) | (simp (disch := first | assumption | omega | (with_reducible rfl) | (simp only [go_sem]; done) | (simp only [go_sem]; omega) | fail) only [↓reduceIte, ↓jn_eq, Nat.reduceAdd, go_sem, Bool.not_true, Bool.not_false, ck, sb]; omega)) _ _).trans ?_ | fail)
   refine (c1 _ _ rfl).trans ?_
   refine (c2 _ _ rfl).trans ?_
   (repeat' with_reducible first | refine (ite_T _ _).trans ?_ | refine (ite_F _ _).trans ?_ | refine (jn_eq _ _).trans ?_ | refine (bstep (by first | rfl | (simp (disch := first | assumption | omega | (with_reducible rfl) | (simp only [go_sem]; done) | (simp only [go_sem]; omega) | fail) only [↓reduceIte, ↓jn_eq, Nat.reduceAdd, go_sem, Bool.not_true, Bool.not_false, ck]; rfl)) _).trans ?_ | refine (if_pos (by first | rfl | (simp (disch := first | assumption | omega | (with_reducible rfl) | (simp only [go_sem]; done) | (simp only [go_sem]; omega) | fail) only [↓reduceIte, ↓jn_eq, Nat.reduceAdd, go_sem, Bool.not_true, Bool.not_false, ck]; done))).trans ?_ | refine (ite_dec (by first | assumption | omega | (simp (disch := first | assumption | omega | (with_reducible rfl) | (simp only [go_sem]; done) | (simp only [go_sem]; omega) | fail) only [↓reduceIte, ↓jn_eq, Nat.reduceAdd, go_sem, Bool.not_true, Bool.not_false, ck]; done) | (simp (disch := first | assumption | omega | (with_reducible rfl) | (simp only [go_sem]; done) | (simp only [go_sem]; omega) | fail) only [↓reduceIte, ↓jn_eq, Nat.reduceAdd, go_sem, Bool.not_true, Bool.not_false, ck]; omega)) _ _).trans ?_ | refine (ite_ndec (by first | assumption | omega | (simp (disch := first | assumption | omega | (with_reducible rfl) | (simp only [go_sem]; done) | (simp only [go_sem]; omega) | fail) only [↓reduceIte, ↓jn_eq, Nat.reduceAdd, go_sem, Bool.not_true, Bool.not_false, ck]; done) | (simp (disch := first | assumption | omega | (with_reducible rfl) | (simp only [go_sem]; done) | (simp only [go_sem]; omega) | fail) only [↓reduceIte, ↓jn_eq, Nat.reduceAdd, go_sem, Bool.not_true, Bool.not_false, ck]; omega)) _ _).trans ?_ | fail)
   rfl
 · rw [normG, if_neg hc, f12_eq]
   generalize chkG g = e at *
   (repeat' with_reducible first | refine (ite_T _ _).trans ?_ | refine (ite_F _ _).trans ?_ | refine (jn_eq _ _).trans ?_ | refine (bstep (by first | rfl | (simp (disch := first | assumption | omega | (with_reducible rfl) | (simp only [go_sem]; done) | (simp only [go_sem]; omega) | fail) only [↓reduceIte, ↓jn_eq, Nat.reduceAdd, go_sem, Bool.not_true, Bool.not_false, ck]; rfl)) _).trans ?_ | refine (if_pos (by first | rfl | (simp (disch := first | assumption | omega | (with_reducible rfl) | (simp only [go_sem]; done) | (simp only [go_sem]; omega) | fail) only [↓reduceIte, ↓jn_eq, Nat.reduceAdd, go_sem, Bool.not_true, Bool.not_false, ck]; done))).trans ?_ | refine (ite_dec (by first | assumption | omega | (simp (disch := first | assumption | omega | (with_reducible rfl) | (simp only [go_sem]; done) | (simp only [go_sem]; omega) | fail) only [↓reduceIte, ↓jn_eq, Nat.reduceAdd, go_sem, Bool.not_true, Bool.not_false, ck]; done) | (simp (disch := first | assumption | omega | (with_reducible rfl) | (simp only [go_sem]; done) | (simp only [go_sem]; omega) | fail) only [↓reduceIte, ↓jn_eq, Nat.reduceAdd, go_sem, Bool.not_true, Bool.not_false, ck]; omega)) _ _).trans ?_ | refine (ite_ndec (by first | assumption | omega | (simp (disch := first | assumption | omega | (with_reducible rfl) | (simp only [go_sem]; done) | (simp only [go_sem]; omega) | fail) only [↓reduceIte, ↓jn_eq, Nat.reduceAdd, go_sem, Bool.not_true, Bool.not_false, ck]; done) | (simp (disch := first | assumption | omega | (with_reducible rfl) | (simp only [go_sem]; done) | (simp only [go_sem]; omega) | fail) only [↓reduceIte, ↓jn_eq, Nat.reduceAdd, go_sem, Bool.not_true, Bool.not_false, ck]; omega)) _ _).trans ?_ | fail)
   rfl
end Go.Proofs.YtaghnpjlhmgioaaDoor
end

section
set_option linter.unusedVariables false
set_option linter.unusedSimpArgs false
set_option linter.unusedSectionVars false
set_option maxRecDepth 100000
namespace Go.Proofs.YtaghnpjlhmgioaaDoor
open Go AM
def wordsB (ns : List Nat) : List UInt8 := ns.flatMap fun n => 32 :: decB n
def lineB (w : List UInt8) (ns : List Nat) : List UInt8 := w ++ wordsB ns ++ [10]
abbrev vNats (f : Fl) (ns : List Nat) : V := .lst 3 f (ns.map fun (v : Nat) => V.int .i64 (v : Int))
theorem wordsB_snoc (ns : List Nat) (n : Nat) : wordsB (ns ++ [n]) = wordsB ns ++ 32 :: decB n := by simp [wordsB]
theorem wordsB_len (ns : List Nat) : (wordsB ns).length ≤ 9 * ns.length := by
 induction ns with
 | nil => simp [wordsB]
 | cons n ns ih =>
   have := decB_len n
   simp only [wordsB, List.flatMap_cons, List.length_append, List.length_cons] at ih ⊢
   omega
theorem lineB_len (w : List UInt8) (ns : List Nat) : (lineB w ns).length ≤ w.length + 9 * ns.length + 1 := by
 have := wordsB_len ns
 simp only [lineB, List.length_append, List.length_cons, List.length_nil]; omega
theorem line_l0 {w : List UInt8} (hw : w.length ≤ 1000) {ns : List Nat} (hn : ∀ n ∈ ns, n ≤ 1048576) (hl : ns.length ≤ 1000) : ∀ (m i : Nat), i + m = ns.length →
 f34_l0 (.str (w ++ wordsB (ns.take i))) (vNats .sh ns) (.int .i64 (ns.length : Int)) (.int .i64 (i : Int)) = some (.str (lineB w ns), []) := by
 intro m
 induction m with
 | zero =>
   intro i hi
   have hwl := wordsB_len ns
   rw [List.take_of_length_le (by omega), lineB, f34_l0_eq]
   have ad : bin .add (.str (w ++ wordsB ns)) (.str [10]) = some (.str (w ++ wordsB ns ++ [10])) := s_add _ _ (by simp; omega)
   generalize w ++ wordsB ns = x at *
   (repeat' with_reducible first | refine (ite_T _ _).trans ?_ | refine (ite_F _ _).trans ?_ | refine (jn_eq _ _).trans ?_ | refine (bstep (by first | rfl | (simp (disch := first | assumption | omega | (with_reducible rfl) | (simp only [go_sem]; done) | (simp only [go_sem]; omega) | fail) only [↓reduceIte, ↓jn_eq, Nat.reduceAdd, go_sem, Bool.not_true, Bool.not_false, ad]; rfl)) _).trans ?_ | refine (if_pos (by first | rfl | (simp (disch := first | assumption | omega | (with_reducible rfl) | (simp only [go_sem]; done) | (simp only [go_sem]; omega) | fail) only [↓reduceIte, ↓jn_eq, Nat.reduceAdd, go_sem, Bool.not_true, Bool.not_false, ad]; done))).trans ?_ | refine (ite_dec (by first | assumption | omega | (simp (disch := first | assumption | omega | (with_reducible rfl) | (simp only [go_sem]; done) | (simp only [go_sem]; omega) | fail) only [↓reduceIte, ↓jn_eq, Nat.reduceAdd, go_sem, Bool.not_true, Bool.not_false, ad]; done) | (simp (disch := first | assumption | omega | (with_reducible rfl) | (simp only [go_sem]; done) | (simp only [go_sem]; omega) | fail) only [↓reduceIte, ↓jn_eq, Nat.reduceAdd, go_sem, Bool.not_true, Bool.not_false, ad]; omega)) _ _).trans ?_ | refine (ite_ndec (by first | assumption | omega | (simp (disch := first | assumption | omega | (with_reducible rfl) | (simp only [go_sem]; done) | (simp only [go_sem]; omega) | fail) only [↓reduceIte, ↓jn_eq, Nat.reduceAdd, go_sem, Bool.not_true, Bool.not_false, ad]; done) | (simp (disch := first | assumption | omega | (with_reducible rfl) | (simp only [go_sem]; done) | (simp only [go_sem]; omega) | fail) only [↓reduceIte, ↓jn_eq, Nat.reduceAdd, go_sem, Bool.not_true, Bool.not_false, ad]; omega)) _ _).trans ?_ | fail)
   rfl
 | succ m ih =>
   intro i hi
   have h : i < ns.length := by omega
   have hx : (ns.map fun (v : Nat) => V.int .i64 (v : Int))[i]? = some (V.int .i64 (ns[i] : Int)) := by simp [h]
   have it := itoa_am (hn _ (List.getElem_mem h))
   have hwl := wordsB_len (ns.take i)
   have htl : (ns.take i).length ≤ 1000 := by rw [List.length_take]; omega
   have dl := decB_len ns[i]
   have ih' := ih (i + 1) (by omega)
   rw [← List.take_append_getElem h, wordsB_snoc] at ih'
   have a1 : bin .add (.str [32]) (.str (decB ns[i])) = some (.str (32 :: decB ns[i])) := s_add [32] _ (by simp; omega)
   have a2 : bin .add (.str (w ++ wordsB (ns.take i))) (.str (32 :: decB ns[i])) = some (.str (w ++ (wordsB (ns.take i) ++ 32 :: decB ns[i]))) := by
    rw [← List.append_assoc]; exact s_add _ _ (by simp; omega)
   rw [← ih', f34_l0_eq]
   clear ih ih'
   generalize w ++ (wordsB (ns.take i) ++ 32 :: decB ns[i]) = y at *
   generalize w ++ wordsB (ns.take i) = x at *
   generalize 32 :: decB ns[i] = z at *
   generalize decB ns[i] = d at *
   generalize ns[i] = k at *
   (repeat' with_reducible first | refine (ite_T _ _).trans ?_ | refine (ite_F _ _).trans ?_ | refine (jn_eq _ _).trans ?_ | refine (bstep (by first | rfl | (simp (disch := first | assumption | omega | (with_reducible rfl) | (simp only [go_sem]; done) | (simp only [go_sem]; omega) | fail) only [↓reduceIte, ↓jn_eq, Nat.reduceAdd, go_sem, Bool.not_true, Bool.not_false, hx, it, a1, a2]; rfl)) _).trans ?_ | refine (if_pos (by first | rfl | (simp (disch := first | assumption | omega | (with_reducible rfl) | (simp only [go_sem]; done) | (simp only [go_sem]; omega) | fail) only [↓reduceIte, ↓jn_eq, Nat.reduceAdd, go_sem, Bool.not_true, Bool.not_false, hx, it, a1, a2]; done))).trans ?_ | refine (ite_dec (by first | assumption | omega | (simp (disch := first | assumption | omega | (with_reducible rfl) | (simp only [go_sem]; done) | (simp only [go_sem]; omega) | fail) only [↓reduceIte, ↓jn_eq, Nat.reduceAdd, go_sem, Bool.not_true, Bool.not_false, hx, it, a1, a2]; done) | (simp (disch := first | assumption | omega | (with_reducible rfl) | (simp only [go_sem]; done) | (simp only [go_sem]; omega) | fail) only [↓reduceIte, ↓jn_eq, Nat.reduceAdd, go_sem, Bool.not_true, Bool.not_false, hx, it, a1, a2]; omega)) _ _).trans ?_ | refine (ite_ndec (by first | assumption | omega | (simp (disch := first | assumption | omega | (with_reducible rfl) | (simp only [go_sem]; done) | (simp only [go_sem]; omega) | fail) only [↓reduceIte, ↓jn_eq, Nat.reduceAdd, go_sem, Bool.not_true, Bool.not_false, hx, it, a1, a2]; done) | (simp (disch := first | assumption | omega | (with_reducible rfl) | (simp only [go_sem]; done) | (simp only [go_sem]; omega) | fail) only [↓reduceIte, ↓jn_eq, Nat.reduceAdd, go_sem, Bool.not_true, Bool.not_false, hx, it, a1, a2]; omega)) _ _).trans ?_ | fail)
   rfl
theorem line_am {w : List UInt8} (hw : w.length ≤ 1000) {ns : List Nat} (hn : ∀ n ∈ ns, n ≤ 1048576) (hl : ns.length ≤ 1000) : Cl 34 [.str w, vNats .sh ns] [] = some (.str (lineB w ns), []) := by
 have h := line_l0 hw hn hl ns.length 0 (by omega)
 rw [List.take_zero, show wordsB [] = [] from rfl, List.append_nil] at h
 simp only [c0] at h
 rw [← h, f34_eq]
 (repeat' with_reducible first | refine (ite_T _ _).trans ?_ | refine (ite_F _ _).trans ?_ | refine (jn_eq _ _).trans ?_ | refine (bstep (by first | rfl | (simp (disch := first | assumption | omega | (with_reducible rfl) | (simp only [go_sem]; done) | (simp only [go_sem]; omega) | fail) only [↓reduceIte, ↓jn_eq, Nat.reduceAdd, go_sem, Bool.not_true, Bool.not_false]; rfl)) _).trans ?_ | refine (if_pos (by first | rfl | (simp (disch := first | assumption | omega | (with_reducible rfl) | (simp only [go_sem]; done) | (simp only [go_sem]; omega) | fail) only [↓reduceIte, ↓jn_eq, Nat.reduceAdd, go_sem, Bool.not_true, Bool.not_false]; done))).trans ?_ | refine (ite_dec (by first | assumption | omega | (simp (disch := first | assumption | omega | (with_reducible rfl) | (simp only [go_sem]; done) | (simp only [go_sem]; omega) | fail) only [↓reduceIte, ↓jn_eq, Nat.reduceAdd, go_sem, Bool.not_true, Bool.not_false]; done) | (simp (disch := first | assumption | omega | (with_reducible rfl) | (simp only [go_sem]; done) | (simp only [go_sem]; omega) | fail) only [↓reduceIte, ↓jn_eq, Nat.reduceAdd, go_sem, Bool.not_true, Bool.not_false]; omega)) _ _).trans ?_ | refine (ite_ndec (by first | assumption | omega | (simp (disch := first | assumption | omega | (with_reducible rfl) | (simp only [go_sem]; done) | (simp only [go_sem]; omega) | fail) only [↓reduceIte, ↓jn_eq, Nat.reduceAdd, go_sem, Bool.not_true, Bool.not_false]; done) | (simp (disch := first | assumption | omega | (with_reducible rfl) | (simp only [go_sem]; done) | (simp only [go_sem]; omega) | fail) only [↓reduceIte, ↓jn_eq, Nat.reduceAdd, go_sem, Bool.not_true, Bool.not_false]; omega)) _ _).trans ?_ | fail)
 rfl
def edgeW : List UInt8 := [101, 100, 103, 101]
def graphW : List UInt8 := [103, 114, 97, 112, 104]
def edgeB (e : E0) : List UInt8 := lineB edgeW [e.fr.toNat, e.to.toNat, e.w.toNat]
def showB (m : Grf) : List UInt8 := lineB graphW [m.n.toNat] ++ m.es.flatMap edgeB
theorem edgeB_len (e : E0) : (edgeB e).length ≤ 32 := by
 have := lineB_len edgeW [e.fr.toNat, e.to.toNat, e.w.toNat]
 simp only [edgeW, List.length_cons, List.length_nil] at this
 rw [edgeB]; simp only [edgeW]; omega
theorem edgesB_len (es : List E0) : (es.flatMap edgeB).length ≤ 32 * es.length := by
 induction es with
 | nil => simp
 | cons e es ih =>
   have := edgeB_len e
   rw [List.flatMap_cons, List.length_append, List.length_cons]; omega
theorem show_l0 {es : List E0} (hl : es.length ≤ 512) (hb : ∀ e ∈ es, 0 ≤ e.fr ∧ e.fr ≤ 64 ∧ 0 ≤ e.to ∧ e.to ≤ 64 ∧ 0 ≤ e.w ∧ e.w ≤ 1048576) {p : List UInt8} (hp : p.length ≤ 1000) (a b : V) : ∀ (n i : Nat), i + n = es.length →
 f22_l0 (.str (p ++ (es.take i).flatMap edgeB)) (.lst 45 .sh (es.map vE0)) (.int .i64 (es.length : Int)) (.int .i64 (i : Int)) [a, b] = some (.tup [.str (p ++ es.flatMap edgeB), .int .i64 0], []) := by
 intro n
 induction n with
 | zero =>
   intro i hi
   rw [List.take_of_length_le (by omega), f22_l0_eq]
   generalize p ++ es.flatMap edgeB = x at *
   (repeat' with_reducible first | refine (ite_T _ _).trans ?_ | refine (ite_F _ _).trans ?_ | refine (jn_eq _ _).trans ?_ | refine (bstep (by first | rfl | (simp (disch := first | assumption | omega | (with_reducible rfl) | (simp only [go_sem]; done) | (simp only [go_sem]; omega) | fail) only [↓reduceIte, ↓jn_eq, Nat.reduceAdd, go_sem, Bool.not_true, Bool.not_false]; rfl)) _).trans ?_ | refine (if_pos (by first | rfl | (simp (disch := first | assumption | omega | (with_reducible rfl) | (simp only [go_sem]; done) | (simp only [go_sem]; omega) | fail) only [↓reduceIte, ↓jn_eq, Nat.reduceAdd, go_sem, Bool.not_true, Bool.not_false]; done))).trans ?_ | refine (ite_dec (by first | assumption | omega | (simp (disch := first | assumption | omega | (with_reducible rfl) | (simp only [go_sem]; done) | (simp only [go_sem]; omega) | fail) only [↓reduceIte, ↓jn_eq, Nat.reduceAdd, go_sem, Bool.not_true, Bool.not_false]; done) | (simp (disch := first | assumption | omega | (with_reducible rfl) | (simp only [go_sem]; done) | (simp only [go_sem]; omega) | fail) only [↓reduceIte, ↓jn_eq, Nat.reduceAdd, go_sem, Bool.not_true, Bool.not_false]; omega)) _ _).trans ?_ | refine (ite_ndec (by first | assumption | omega | (simp (disch := first | assumption | omega | (with_reducible rfl) | (simp only [go_sem]; done) | (simp only [go_sem]; omega) | fail) only [↓reduceIte, ↓jn_eq, Nat.reduceAdd, go_sem, Bool.not_true, Bool.not_false]; done) | (simp (disch := first | assumption | omega | (with_reducible rfl) | (simp only [go_sem]; done) | (simp only [go_sem]; omega) | fail) only [↓reduceIte, ↓jn_eq, Nat.reduceAdd, go_sem, Bool.not_true, Bool.not_false]; omega)) _ _).trans ?_ | fail)
   rfl
 | succ n ih =>
   intro i hi
   have h : i < es.length := by omega
   have hx := E0_at h
   obtain ⟨b1, b2, b3, b4, b5, b6⟩ := hb _ (List.getElem_mem h)
   have hel := edgesB_len (es.take i)
   have htl : (es.take i).length ≤ 512 := by rw [List.length_take]; omega
   have el := edgeB_len es[i]
   have ih' := ih (i + 1) (by omega)
   rw [← List.take_append_getElem h, List.flatMap_append, List.flatMap_cons, List.flatMap_nil, List.append_nil, ← List.append_assoc] at ih'
   have a2 : bin .add (.str (p ++ (es.take i).flatMap edgeB)) (.str (edgeB es[i])) = some (.str (p ++ (es.take i).flatMap edgeB ++ edgeB es[i])) := s_add _ _ (by rw [List.length_append]; omega)
   have ln := line_am (w := edgeW) (by simp [edgeW]) (ns := [es[i].fr.toNat, es[i].to.toNat, es[i].w.toNat]) (by
    intro n hn
    simp only [List.mem_cons, List.not_mem_nil, or_false] at hn
    omega) (by simp)
   rw [← edgeB] at ln
   simp only [vNats, List.map_cons, List.map_nil, show ((es[i].fr.toNat : Nat) : Int) = es[i].fr by omega, show ((es[i].to.toNat : Nat) : Int) = es[i].to by omega, show ((es[i].w.toNat : Nat) : Int) = es[i].w by omega, edgeW] at ln
   rw [← ih', f22_l0_eq]
   clear ih ih'
   generalize p ++ (es.take i).flatMap edgeB ++ edgeB es[i] = y at *
   generalize p ++ (es.take i).flatMap edgeB = x at *
   generalize edgeB es[i] = z at *
   generalize es[i] = e at *
   simp only [vE0] at hx
   (repeat' with_reducible first | refine (ite_T _ _).trans ?_ | refine (ite_F _ _).trans ?_ | refine (jn_eq _ _).trans ?_ | refine (bstep (by first | rfl | (simp (disch := first | assumption | omega | (with_reducible rfl) | (simp only [go_sem]; done) | (simp only [go_sem]; omega) | fail) only [↓reduceIte, ↓jn_eq, Nat.reduceAdd, go_sem, Bool.not_true, Bool.not_false, hx, ln, a2]; rfl)) _).trans ?_ | refine (if_pos (by first | rfl | (simp (disch := first | assumption | omega | (with_reducible rfl) | (simp only [go_sem]; done) | (simp only [go_sem]; omega) | fail) only [↓reduceIte, ↓jn_eq, Nat.reduceAdd, go_sem, Bool.not_true, Bool.not_false, hx, ln, a2]; done))).trans ?_ | refine (ite_dec (by first | assumption | omega | (simp (disch := first | assumption | omega | (with_reducible rfl) | (simp only [go_sem]; done) | (simp only [go_sem]; omega) | fail) only [↓reduceIte, ↓jn_eq, Nat.reduceAdd, go_sem, Bool.not_true, Bool.not_false, hx, ln, a2]; done) | (simp (disch := first | assumption | omega | (with_reducible rfl) | (simp only [go_sem]; done) | (simp only [go_sem]; omega) | fail) only [↓reduceIte, ↓jn_eq, Nat.reduceAdd, go_sem, Bool.not_true, Bool.not_false, hx, ln, a2]; omega)) _ _).trans ?_ | refine (ite_ndec (by first | assumption | omega | (simp (disch := first | assumption | omega | (with_reducible rfl) | (simp only [go_sem]; done) | (simp only [go_sem]; omega) | fail) only [↓reduceIte, ↓jn_eq, Nat.reduceAdd, go_sem, Bool.not_true, Bool.not_false, hx, ln, a2]; done) | (simp (disch := first | assumption | omega | (with_reducible rfl) | (simp only [go_sem]; done) | (simp only [go_sem]; omega) | fail) only [↓reduceIte, ↓jn_eq, Nat.reduceAdd, go_sem, Bool.not_true, Bool.not_false, hx, ln, a2]; omega)) _ _).trans ?_ | fail)
   rfl
theorem Show_am {g : Grf} (hl : g.es.length < 1000000) : Cl 22 [vG .sh g] [] = some (.tup [.str (if chkG g = 0 then showB (normG g) else []), .int .i64 (chkG g)], []) := by
 have nm := Norm_am hl
 by_cases hc : chkG g = 0
 · obtain ⟨⟨g1, g2⟩, g3, g4, g5⟩ := chkG_0 hc
   have hb : ∀ e ∈ srtE g.es, 0 ≤ e.fr ∧ e.fr ≤ 64 ∧ 0 ≤ e.to ∧ e.to ≤ 64 ∧ 0 ≤ e.w ∧ e.w ≤ 1048576 := fun e he => by
    have := odds_in g4 e ((srt_ok hc).1.mem_iff.1 he); omega
   have hsl := srtE_len g.es
   have ln := line_am (w := graphW) (by simp [graphW]) (ns := [g.n.toNat]) (by
    intro n hn
    simp only [List.mem_cons, List.not_mem_nil, or_false] at hn
    omega) (by simp)
   have hg := lineB_len graphW [g.n.toNat]
   simp only [graphW, List.length_cons, List.length_nil] at hg
   have h0 := fun a b => show_l0 (es := srtE g.es) (by omega) hb (p := lineB graphW [g.n.toNat]) (by simp only [graphW]; omega) a b (srtE g.es).length 0 (by omega)
   simp only [List.take_zero, List.flatMap_nil, List.append_nil] at h0
   simp only [normG, if_pos hc] at nm ⊢
   rw [hc] at nm ⊢
   simp only [vNats, List.map_cons, List.map_nil, show ((g.n.toNat : Nat) : Int) = g.n by omega] at ln
   rw [showB]
   simp only [graphW] at ln h0 ⊢
   rw [f22_eq]
   generalize lineB [103, 114, 97, 112, 104] [g.n.toNat] = p at *
   generalize srtE g.es = s at *
   (repeat' with_reducible first | refine (ite_T _ _).trans ?_ | refine (ite_F _ _).trans ?_ | refine (jn_eq _ _).trans ?_ | refine (bstep (by first | rfl | (simp (disch := first | assumption | omega | (with_reducible rfl) | (simp only [go_sem]; done) | (simp only [go_sem]; omega) | fail) only [↓reduceIte, ↓jn_eq, Nat.reduceAdd, go_sem, Bool.not_true, Bool.not_false, nm, ln]; rfl)) _).trans ?_ | refine (if_pos (by first | rfl | (simp (disch := first | assumption | omega | (with_reducible rfl) | (simp only [go_sem]; done) | (simp only [go_sem]; omega) | fail) only [↓reduceIte, ↓jn_eq, Nat.reduceAdd, go_sem, Bool.not_true, Bool.not_false, nm, ln]; done))).trans ?_ | refine (ite_dec (by first | assumption | omega | (simp (disch := first | assumption | omega | (with_reducible rfl) | (simp only [go_sem]; done) | (simp only [go_sem]; omega) | fail) only [↓reduceIte, ↓jn_eq, Nat.reduceAdd, go_sem, Bool.not_true, Bool.not_false, nm, ln]; done) | (simp (disch := first | assumption | omega | (with_reducible rfl) | (simp only [go_sem]; done) | (simp only [go_sem]; omega) | fail) only [↓reduceIte, ↓jn_eq, Nat.reduceAdd, go_sem, Bool.not_true, Bool.not_false, nm, ln]; omega)) _ _).trans ?_ | refine (ite_ndec (by first | assumption | omega | (simp (disch := first | assumption | omega | (with_reducible rfl) | (simp only [go_sem]; done) | (simp only [go_sem]; omega) | fail) only [↓reduceIte, ↓jn_eq, Nat.reduceAdd, go_sem, Bool.not_true, Bool.not_false, nm, ln]; done) | (simp (disch := first | assumption | omega | (with_reducible rfl) | (simp only [go_sem]; done) | (simp only [go_sem]; omega) | fail) only [↓reduceIte, ↓jn_eq, Nat.reduceAdd, go_sem, Bool.not_true, Bool.not_false, nm, ln]; omega)) _ _).trans ?_ | fail)
   exact h0 _ _
 · rw [if_neg hc, f22_eq]
   generalize chkG g = e at *
   generalize normG g = m at *
   (repeat' with_reducible first | refine (ite_T _ _).trans ?_ | refine (ite_F _ _).trans ?_ | refine (jn_eq _ _).trans ?_ | refine (bstep (by first | rfl | (simp (disch := first | assumption | omega | (with_reducible rfl) | (simp only [go_sem]; done) | (simp only [go_sem]; omega) | fail) only [↓reduceIte, ↓jn_eq, Nat.reduceAdd, go_sem, Bool.not_true, Bool.not_false, nm]; rfl)) _).trans ?_ | refine (if_pos (by first | rfl | (simp (disch := first | assumption | omega | (with_reducible rfl) | (simp only [go_sem]; done) | (simp only [go_sem]; omega) | fail) only [↓reduceIte, ↓jn_eq, Nat.reduceAdd, go_sem, Bool.not_true, Bool.not_false, nm]; done))).trans ?_ | refine (ite_dec (by first | assumption | omega | (simp (disch := first | assumption | omega | (with_reducible rfl) | (simp only [go_sem]; done) | (simp only [go_sem]; omega) | fail) only [↓reduceIte, ↓jn_eq, Nat.reduceAdd, go_sem, Bool.not_true, Bool.not_false, nm]; done) | (simp (disch := first | assumption | omega | (with_reducible rfl) | (simp only [go_sem]; done) | (simp only [go_sem]; omega) | fail) only [↓reduceIte, ↓jn_eq, Nat.reduceAdd, go_sem, Bool.not_true, Bool.not_false, nm]; omega)) _ _).trans ?_ | refine (ite_ndec (by first | assumption | omega | (simp (disch := first | assumption | omega | (with_reducible rfl) | (simp only [go_sem]; done) | (simp only [go_sem]; omega) | fail) only [↓reduceIte, ↓jn_eq, Nat.reduceAdd, go_sem, Bool.not_true, Bool.not_false, nm]; done) | (simp (disch := first | assumption | omega | (with_reducible rfl) | (simp only [go_sem]; done) | (simp only [go_sem]; omega) | fail) only [↓reduceIte, ↓jn_eq, Nat.reduceAdd, go_sem, Bool.not_true, Bool.not_false, nm]; omega)) _ _).trans ?_ | fail)
   rfl
end Go.Proofs.YtaghnpjlhmgioaaDoor
end

section
set_option linter.unusedVariables false
set_option linter.unusedSimpArgs false
set_option linter.unusedSectionVars false
set_option maxRecDepth 100000
namespace Go.Proofs.YtaghnpjlhmgioaaDoor
open Go AM
theorem ix_rop' {e : TypeId} {f : Fl} {xs : List V} {i : Nat} {x : V} (h : xs[i]? = some x) (k : IntKind) : ixS e (.lst e f xs) (.int k (i : Int)) = some (.rop e x) := by rw [ixS_l, h]; rfl
@[go_sem] theorem plL_nats (l : List Nat) : plL (l.map fun (v : Nat) => V.int .i64 (v : Int)) = true := plL_map (fun _ => rfl) l
theorem nat_at {ns : List Nat} {i : Nat} (h : i < ns.length) : (ns.map fun (v : Nat) => V.int .i64 (v : Int))[i]? = some (.int .i64 (ns[i] : Int)) := by simp [h]
theorem min_l0 {ns : List Nat} (hl : ns.length ≤ 1000) : ∀ (m i a : Nat), i + m = ns.length → ∃ r : Nat, f48_l0 (vNats .sh ns) (.int .i64 (a : Int)) (.int .i64 (i : Int)) = some (.int .i64 (r : Int), []) := by
 intro m
 induction m with
 | zero =>
   intro i a hi
   refine ⟨a, ?_⟩
   rw [f48_l0_eq]
   (repeat' with_reducible first | refine (ite_T _ _).trans ?_ | refine (ite_F _ _).trans ?_ | refine (jn_eq _ _).trans ?_ | refine (bstep (by first | rfl | (simp (disch := first | assumption | omega | (with_reducible rfl) | (simp only [go_sem]; done) | (simp only [go_sem]; omega) | fail) only [↓reduceIte, ↓jn_eq, Nat.reduceAdd, go_sem, Bool.not_true, Bool.not_false]; rfl)) _).trans ?_ | refine (if_pos (by first | rfl | (simp (disch := first | assumption | omega | (with_reducible rfl) | (simp only [go_sem]; done) | (simp only [go_sem]; omega) | fail) only [↓reduceIte, ↓jn_eq, Nat.reduceAdd, go_sem, Bool.not_true, Bool.not_false]; done))).trans ?_ | refine (ite_dec (by first | assumption | omega | (simp (disch := first | assumption | omega | (with_reducible rfl) | (simp only [go_sem]; done) | (simp only [go_sem]; omega) | fail) only [↓reduceIte, ↓jn_eq, Nat.reduceAdd, go_sem, Bool.not_true, Bool.not_false]; done) | (simp (disch := first | assumption | omega | (with_reducible rfl) | (simp only [go_sem]; done) | (simp only [go_sem]; omega) | fail) only [↓reduceIte, ↓jn_eq, Nat.reduceAdd, go_sem, Bool.not_true, Bool.not_false]; omega)) _ _).trans ?_ | refine (ite_ndec (by first | assumption | omega | (simp (disch := first | assumption | omega | (with_reducible rfl) | (simp only [go_sem]; done) | (simp only [go_sem]; omega) | fail) only [↓reduceIte, ↓jn_eq, Nat.reduceAdd, go_sem, Bool.not_true, Bool.not_false]; done) | (simp (disch := first | assumption | omega | (with_reducible rfl) | (simp only [go_sem]; done) | (simp only [go_sem]; omega) | fail) only [↓reduceIte, ↓jn_eq, Nat.reduceAdd, go_sem, Bool.not_true, Bool.not_false]; omega)) _ _).trans ?_ | fail)
   rfl
 | succ m ih =>
   intro i a hi
   have h : i < ns.length := by omega
   have hx := nat_at h
   obtain ⟨r, e⟩ := ih (i + 1) (if ns[i] < a then ns[i] else a) (by omega)
   refine ⟨r, ?_⟩
   have mv : minV (.int .i64 (a : Int)) (.int .i64 (ns[i] : Int)) = some (.int .i64 ((if ns[i] < a then ns[i] else a : Nat) : Int)) := by
    simp only [minV, if_true]
    by_cases hh : ns[i] < a
    · rw [if_pos hh, if_pos (by omega)]
    · rw [if_neg hh, if_neg (by omega)]
   rw [← e, f48_l0_eq]
   clear e ih
   generalize (if ns[i] < a then ns[i] else a) = b at *
   generalize ns[i] = x at *
   (repeat' with_reducible first | refine (ite_T _ _).trans ?_ | refine (ite_F _ _).trans ?_ | refine (jn_eq _ _).trans ?_ | refine (bstep (by first | rfl | (simp (disch := first | assumption | omega | (with_reducible rfl) | (simp only [go_sem]; done) | (simp only [go_sem]; omega) | fail) only [↓reduceIte, ↓jn_eq, Nat.reduceAdd, go_sem, Bool.not_true, Bool.not_false, hx, mv]; rfl)) _).trans ?_ | refine (if_pos (by first | rfl | (simp (disch := first | assumption | omega | (with_reducible rfl) | (simp only [go_sem]; done) | (simp only [go_sem]; omega) | fail) only [↓reduceIte, ↓jn_eq, Nat.reduceAdd, go_sem, Bool.not_true, Bool.not_false, hx, mv]; done))).trans ?_ | refine (ite_dec (by first | assumption | omega | (simp (disch := first | assumption | omega | (with_reducible rfl) | (simp only [go_sem]; done) | (simp only [go_sem]; omega) | fail) only [↓reduceIte, ↓jn_eq, Nat.reduceAdd, go_sem, Bool.not_true, Bool.not_false, hx, mv]; done) | (simp (disch := first | assumption | omega | (with_reducible rfl) | (simp only [go_sem]; done) | (simp only [go_sem]; omega) | fail) only [↓reduceIte, ↓jn_eq, Nat.reduceAdd, go_sem, Bool.not_true, Bool.not_false, hx, mv]; omega)) _ _).trans ?_ | refine (ite_ndec (by first | assumption | omega | (simp (disch := first | assumption | omega | (with_reducible rfl) | (simp only [go_sem]; done) | (simp only [go_sem]; omega) | fail) only [↓reduceIte, ↓jn_eq, Nat.reduceAdd, go_sem, Bool.not_true, Bool.not_false, hx, mv]; done) | (simp (disch := first | assumption | omega | (with_reducible rfl) | (simp only [go_sem]; done) | (simp only [go_sem]; omega) | fail) only [↓reduceIte, ↓jn_eq, Nat.reduceAdd, go_sem, Bool.not_true, Bool.not_false, hx, mv]; omega)) _ _).trans ?_ | fail)
   rfl
theorem min_am {ns : List Nat} (hn : ns ≠ []) (hl : ns.length ≤ 1000) : ∃ r : Nat, Cl 48 [vNats .sh ns] [] = some (.int .i64 (r : Int), []) := by
 have hp := List.length_pos_iff.2 hn
 have hx := nat_at hp
 obtain ⟨r, e⟩ := min_l0 hl (ns.length - 1) 1 ns[0] (by omega)
 refine ⟨r, ?_⟩
 have ix : ixS 3 (.lst 3 .sh (ns.map fun (v : Nat) => V.int .i64 (v : Int))) (.int .i64 0) = some (.rop 3 (.int .i64 (ns[0] : Int))) := by
  have := ix_rop' (e := 3) (f := .sh) hx .i64
  exact this
 rw [← e, f48_eq]
 clear e
 generalize ns[0] = x at *
 (repeat' with_reducible first | refine (ite_T _ _).trans ?_ | refine (ite_F _ _).trans ?_ | refine (jn_eq _ _).trans ?_ | refine (bstep (by first | rfl | (simp (disch := first | assumption | omega | (with_reducible rfl) | (simp only [go_sem]; done) | (simp only [go_sem]; omega) | fail) only [↓reduceIte, ↓jn_eq, Nat.reduceAdd, go_sem, Bool.not_true, Bool.not_false, ix]; rfl)) _).trans ?_ | refine (if_pos (by first | rfl | (simp (disch := first | assumption | omega | (with_reducible rfl) | (simp only [go_sem]; done) | (simp only [go_sem]; omega) | fail) only [↓reduceIte, ↓jn_eq, Nat.reduceAdd, go_sem, Bool.not_true, Bool.not_false, ix]; done))).trans ?_ | refine (ite_dec (by first | assumption | omega | (simp (disch := first | assumption | omega | (with_reducible rfl) | (simp only [go_sem]; done) | (simp only [go_sem]; omega) | fail) only [↓reduceIte, ↓jn_eq, Nat.reduceAdd, go_sem, Bool.not_true, Bool.not_false, ix]; done) | (simp (disch := first | assumption | omega | (with_reducible rfl) | (simp only [go_sem]; done) | (simp only [go_sem]; omega) | fail) only [↓reduceIte, ↓jn_eq, Nat.reduceAdd, go_sem, Bool.not_true, Bool.not_false, ix]; omega)) _ _).trans ?_ | refine (ite_ndec (by first | assumption | omega | (simp (disch := first | assumption | omega | (with_reducible rfl) | (simp only [go_sem]; done) | (simp only [go_sem]; omega) | fail) only [↓reduceIte, ↓jn_eq, Nat.reduceAdd, go_sem, Bool.not_true, Bool.not_false, ix]; done) | (simp (disch := first | assumption | omega | (with_reducible rfl) | (simp only [go_sem]; done) | (simp only [go_sem]; omega) | fail) only [↓reduceIte, ↓jn_eq, Nat.reduceAdd, go_sem, Bool.not_true, Bool.not_false, ix]; omega)) _ _).trans ?_ | fail)
 rfl
theorem wordsB_cons (n : Nat) (ns : List Nat) : wordsB (n :: ns) = 32 :: (decB n ++ wordsB ns) := by simp [wordsB]
theorem joinS_eq : ∀ (ns : List Nat) (w : List UInt8), joinS (w :: ns.map decB) = w ++ wordsB ns
 | [], w => by simp [joinS, wordsB]
 | n :: ns, w => by rw [List.map_cons, joinS, joinS_eq ns (decB n), wordsB_cons]
theorem dig_32 (n : Nat) : (32 : UInt8) ∉ decB n := fun h => by have := decB_dig n 32 h; simp [isD] at this
theorem dig_10 (n : Nat) : (10 : UInt8) ∉ decB n := fun h => by have := decB_dig n 10 h; simp [isD] at this
theorem words_10 : ∀ ns : List Nat, (10 : UInt8) ∉ wordsB ns
 | [] => by simp [wordsB]
 | n :: ns => by
   rw [wordsB_cons]
   simp only [List.mem_cons, List.mem_append, not_or]
   exact ⟨by decide, dig_10 n, words_10 ns⟩
theorem num_l0 {w s : List UInt8} (hw : w.length ≤ 100) {ns : List Nat} (hs : s = w ++ wordsB ns) (hn : ∀ n ∈ ns, n ≤ 1048576) (hne : ns ≠ []) (hl : ns.length ≤ 100) : ∀ (m i : Nat), i + m = ns.length →
 f36_l0 (.str s) (.str w) (vNats .own (ns.take i)) (.lst 9 .sh ((ns.map decB).map V.str)) (.int .i64 (ns.length : Int)) (.int .i64 (i : Int)) [] = some (.tup [vNats .sh ns, .bool true], []) := by
 intro m
 induction m with
 | zero =>
   intro i hi
   have ln := line_am (w := w) (by omega) hn (by omega)
   obtain ⟨r, mn⟩ := min_am hne (by omega)
   have hwl := wordsB_len ns
   have a1 : bin .add (.str s) (.str [10]) = some (.str (lineB w ns)) := by
    rw [lineB, hs]; exact s_add _ _ (by simp; omega)
   have e1 : bin .eql (.str (lineB w ns)) (.str (lineB w ns)) = some (.bool true) := by simp [bin]
   have ge : bin .geq (.int .i64 (r : Int)) (.int .i64 0) = some (.bool true) := by rw [b_geq, decide_eq_true (by omega)]
   rw [List.take_of_length_le (by omega), f36_l0_eq]
   clear hs
   generalize lineB w ns = x at *
   (repeat' with_reducible first | refine (ite_T _ _).trans ?_ | refine (ite_F _ _).trans ?_ | refine (jn_eq _ _).trans ?_ | refine (bstep (by first | rfl | (simp (disch := first | assumption | omega | (with_reducible rfl) | (simp only [go_sem]; done) | (simp only [go_sem]; omega) | fail) only [↓reduceIte, ↓jn_eq, Nat.reduceAdd, go_sem, Bool.not_true, Bool.not_false, ln, mn, a1, e1, ge]; rfl)) _).trans ?_ | refine (if_pos (by first | rfl | (simp (disch := first | assumption | omega | (with_reducible rfl) | (simp only [go_sem]; done) | (simp only [go_sem]; omega) | fail) only [↓reduceIte, ↓jn_eq, Nat.reduceAdd, go_sem, Bool.not_true, Bool.not_false, ln, mn, a1, e1, ge]; done))).trans ?_ | refine (ite_dec (by first | assumption | omega | (simp (disch := first | assumption | omega | (with_reducible rfl) | (simp only [go_sem]; done) | (simp only [go_sem]; omega) | fail) only [↓reduceIte, ↓jn_eq, Nat.reduceAdd, go_sem, Bool.not_true, Bool.not_false, ln, mn, a1, e1, ge]; done) | (simp (disch := first | assumption | omega | (with_reducible rfl) | (simp only [go_sem]; done) | (simp only [go_sem]; omega) | fail) only [↓reduceIte, ↓jn_eq, Nat.reduceAdd, go_sem, Bool.not_true, Bool.not_false, ln, mn, a1, e1, ge]; omega)) _ _).trans ?_ | refine (ite_ndec (by first | assumption | omega | (simp (disch := first | assumption | omega | (with_reducible rfl) | (simp only [go_sem]; done) | (simp only [go_sem]; omega) | fail) only [↓reduceIte, ↓jn_eq, Nat.reduceAdd, go_sem, Bool.not_true, Bool.not_false, ln, mn, a1, e1, ge]; done) | (simp (disch := first | assumption | omega | (with_reducible rfl) | (simp only [go_sem]; done) | (simp only [go_sem]; omega) | fail) only [↓reduceIte, ↓jn_eq, Nat.reduceAdd, go_sem, Bool.not_true, Bool.not_false, ln, mn, a1, e1, ge]; omega)) _ _).trans ?_ | fail)
   rfl
 | succ m ih =>
   intro i hi
   have h : i < ns.length := by omega
   have hx : ((ns.map decB).map V.str)[i]? = some (.str (decB ns[i])) := by simp [h]
   have hk := hn _ (List.getElem_mem h)
   have at' := atoi_am (decB_ne ns[i]) (decB_dig ns[i]) (by have := decB_len ns[i]; omega) []
   rw [decB_val hk] at at'
   have dl := decB_len ns[i]
   have ih' := ih (i + 1) (by omega)
   rw [← List.take_append_getElem h, vNats, List.map_append, List.map_cons, List.map_nil] at ih'
   have htl : (ns.take i).length ≤ 100 := by rw [List.length_take]; omega
   have gt : bin .gtr (.int .i64 ((decB ns[i]).length : Int)) (.int .i64 9) = some (.bool false) := by rw [b_gtr, decide_eq_false (by omega)]
   have nn : nilE .neq .nili = some (.bool false) := rfl
   rw [← ih', f36_l0_eq]
   clear ih ih'
   generalize ns.take i = done at *
   generalize decB ns[i] = d at *
   generalize ns[i] = k at *
   (repeat' with_reducible first | refine (ite_T _ _).trans ?_ | refine (ite_F _ _).trans ?_ | refine (jn_eq _ _).trans ?_ | refine (bstep (by first | rfl | (simp (disch := first | assumption | omega | (with_reducible rfl) | (simp only [go_sem]; done) | (simp only [go_sem]; omega) | fail) only [↓reduceIte, ↓jn_eq, Nat.reduceAdd, go_sem, Bool.not_true, Bool.not_false, hx, at', gt, nn]; rfl)) _).trans ?_ | refine (if_pos (by first | rfl | (simp (disch := first | assumption | omega | (with_reducible rfl) | (simp only [go_sem]; done) | (simp only [go_sem]; omega) | fail) only [↓reduceIte, ↓jn_eq, Nat.reduceAdd, go_sem, Bool.not_true, Bool.not_false, hx, at', gt, nn]; done))).trans ?_ | refine (ite_dec (by first | assumption | omega | (simp (disch := first | assumption | omega | (with_reducible rfl) | (simp only [go_sem]; done) | (simp only [go_sem]; omega) | fail) only [↓reduceIte, ↓jn_eq, Nat.reduceAdd, go_sem, Bool.not_true, Bool.not_false, hx, at', gt, nn]; done) | (simp (disch := first | assumption | omega | (with_reducible rfl) | (simp only [go_sem]; done) | (simp only [go_sem]; omega) | fail) only [↓reduceIte, ↓jn_eq, Nat.reduceAdd, go_sem, Bool.not_true, Bool.not_false, hx, at', gt, nn]; omega)) _ _).trans ?_ | refine (ite_ndec (by first | assumption | omega | (simp (disch := first | assumption | omega | (with_reducible rfl) | (simp only [go_sem]; done) | (simp only [go_sem]; omega) | fail) only [↓reduceIte, ↓jn_eq, Nat.reduceAdd, go_sem, Bool.not_true, Bool.not_false, hx, at', gt, nn]; done) | (simp (disch := first | assumption | omega | (with_reducible rfl) | (simp only [go_sem]; done) | (simp only [go_sem]; omega) | fail) only [↓reduceIte, ↓jn_eq, Nat.reduceAdd, go_sem, Bool.not_true, Bool.not_false, hx, at', gt, nn]; omega)) _ _).trans ?_ | fail)
   rfl
theorem numbers_am {w : List UInt8} (hw : w.length ≤ 100) (h32 : (32 : UInt8) ∉ w) {ns : List Nat} (hn : ∀ n ∈ ns, n ≤ 1048576) (hne : ns ≠ []) (hl : ns.length ≤ 100) : Cl 36 [.str (w ++ wordsB ns), .str w, .int .i64 (ns.length : Int)] [] = some (.tup [vNats .sh ns, .bool true], []) := by
 have hwl := wordsB_len ns
 have sp := split_am (ps := w :: ns.map decB) (by simp) (by
  intro p hp
  rcases List.mem_cons.1 hp with rfl | hp
  · exact h32
  · obtain ⟨n, _, rfl⟩ := List.mem_map.1 hp
    exact dig_32 n) (by rw [joinS_eq, List.length_append]; omega) (by simp; omega)
 rw [joinS_eq, List.map_cons] at sp
 have h0 := num_l0 hw (s := w ++ wordsB ns) rfl hn hne hl ns.length 0 (by omega)
 rw [List.take_zero, vNats, List.map_nil] at h0
 have a1 : bin .add (.int .i64 1) (.int .i64 (ns.length : Int)) = some (.int .i64 ((ns.length + 1 : Nat) : Int)) := by
  rw [b_add, wrap_i64 (by omega) (by omega)]; congr 2; omega
 have l1 : lnL (V.weak (.lst 9 .sh (.str w :: (ns.map decB).map V.str))) = some (.int .i64 ((ns.length + 1 : Nat) : Int)) := by
  have : ((V.str w :: (ns.map decB).map V.str) : List V).length = ns.length + 1 := by simp
  rw [← this]; rfl
 have sl : slL 9 (.lst 9 .sh (.str w :: (ns.map decB).map V.str)) (some (.int .i64 1)) none none = some (.lst 9 .sh ((ns.map decB).map V.str)) := by
  have := slL_lo (xs := .str w :: (ns.map decB).map V.str) (i := 1) (by simp) 9 .sh .i64
  exact this
 have l2 : lnL (.lst 9 .sh ((ns.map decB).map V.str)) = some (.int .i64 (ns.length : Int)) := by
  have : ((ns.map decB).map V.str).length = ns.length := by simp
  rw [← this]; rfl
 have ne : bin .neq (.int .i64 ((ns.length + 1 : Nat) : Int)) (.int .i64 ((ns.length + 1 : Nat) : Int)) = some (.bool false) := by rw [b_neq]; simp
 rw [f36_eq]
 generalize w ++ wordsB ns = s at *
 generalize (ns.map decB).map V.str = D at *
 refine (bstep sp _).trans ?_
 refine (bstep l1 _).trans ?_
 refine (bstep a1 _).trans ?_
 refine (bstep ne _).trans ?_
 rw [ite_F]
 (repeat' with_reducible first | refine (ite_T _ _).trans ?_ | refine (ite_F _ _).trans ?_ | refine (jn_eq _ _).trans ?_ | refine (bstep (by first | rfl | (simp (disch := first | assumption | omega | (with_reducible rfl) | (simp only [go_sem]; done) | (simp only [go_sem]; omega) | fail) only [↓reduceIte, ↓jn_eq, Nat.reduceAdd, go_sem, Bool.not_true, Bool.not_false, sl, l2]; rfl)) _).trans ?_ | refine (if_pos (by first | rfl | (simp (disch := first | assumption | omega | (with_reducible rfl) | (simp only [go_sem]; done) | (simp only [go_sem]; omega) | fail) only [↓reduceIte, ↓jn_eq, Nat.reduceAdd, go_sem, Bool.not_true, Bool.not_false, sl, l2]; done))).trans ?_ | refine (ite_dec (by first | assumption | omega | (simp (disch := first | assumption | omega | (with_reducible rfl) | (simp only [go_sem]; done) | (simp only [go_sem]; omega) | fail) only [↓reduceIte, ↓jn_eq, Nat.reduceAdd, go_sem, Bool.not_true, Bool.not_false, sl, l2]; done) | (simp (disch := first | assumption | omega | (with_reducible rfl) | (simp only [go_sem]; done) | (simp only [go_sem]; omega) | fail) only [↓reduceIte, ↓jn_eq, Nat.reduceAdd, go_sem, Bool.not_true, Bool.not_false, sl, l2]; omega)) _ _).trans ?_ | refine (ite_ndec (by first | assumption | omega | (simp (disch := first | assumption | omega | (with_reducible rfl) | (simp only [go_sem]; done) | (simp only [go_sem]; omega) | fail) only [↓reduceIte, ↓jn_eq, Nat.reduceAdd, go_sem, Bool.not_true, Bool.not_false, sl, l2]; done) | (simp (disch := first | assumption | omega | (with_reducible rfl) | (simp only [go_sem]; done) | (simp only [go_sem]; omega) | fail) only [↓reduceIte, ↓jn_eq, Nat.reduceAdd, go_sem, Bool.not_true, Bool.not_false, sl, l2]; omega)) _ _).trans ?_ | fail)
 exact h0
end Go.Proofs.YtaghnpjlhmgioaaDoor
end

section
set_option linter.unusedVariables false
set_option linter.unusedSimpArgs false
set_option linter.unusedSectionVars false
set_option maxRecDepth 100000
namespace Go.Proofs.YtaghnpjlhmgioaaDoor
open Go AM
theorem normG_len (g : Grf) : (normG g).es.length ≤ g.es.length := by
 rw [normG]; split
 · simp only [srtE_len]; exact Nat.le_refl _
 · exact Nat.zero_le _
end Go.Proofs.YtaghnpjlhmgioaaDoor
end

section
set_option linter.unusedVariables false
set_option linter.unusedSimpArgs false
set_option linter.unusedSectionVars false
set_option maxRecDepth 100000
namespace Go.Proofs.YtaghnpjlhmgioaaDoor
open Go AM
abbrev kE (e : E0) : Int × Int := (e.fr, e.to)
theorem take_key (es : List E0) {i : Nat} (h : i < es.length) : ((es.take (i + 1)).map kE).Nodup ↔ ((es.take i).map kE).Nodup ∧ (es.take i).any (fun x => decide (kE x = kE es[i])) = false := by
 rw [List.take_add_one, List.getElem?_eq_getElem h, Option.toList_some, List.map_append, List.nodup_append]
 simp only [List.map_cons, List.map_nil, List.nodup_cons, List.not_mem_nil, not_false_eq_true, List.nodup_nil, and_self, true_and, List.mem_cons, or_false]
 refine and_congr_right fun _ => ?_
 rw [List.any_eq_false]
 constructor
 · intro h x hx; simp only [decide_eq_true_eq]; exact fun e => h (kE x) (List.mem_map_of_mem hx) _ rfl e
 · rintro h a ha b rfl e
   obtain ⟨x, hx, rfl⟩ := List.mem_map.1 ha
   exact h x hx (decide_eq_true e)
theorem r5_l2 {g : Grf} (hl : g.es.length < 1000000) {i : Nat} (hi : i < g.es.length) : ∀ (n k : Nat) (b : Bool), k + n = i →
 f11_l2 rG (.bool b) (.int .i64 (i : Int)) (.ref 1 [] 45) (.int .i64 (k : Int)) 1 [vG .sh g, vE0 g.es[i]] =
  f11_l0 rG (.bool (b || ((g.es.take i).drop k).any (fun x => decide (kE x = kE g.es[i])))) (.int .i64 ((i + 1 : Nat) : Int)) [vG .sh g] := by
 intro n
 induction n with
 | zero =>
   intro k b hk
   rw [List.drop_eq_nil_of_le (by simp; omega), List.any_nil, Bool.or_false, f11_l2_eq]
   simp (disch := first | assumption | omega | (with_reducible rfl) | (simp only [go_sem]; done) | (simp only [go_sem]; omega) | fail) only [↓reduceIte, ↓jn_eq, Nat.reduceAdd, go_sem]
 | succ n ih =>
   intro k b hk
   have hk2 : k < g.es.length := by omega
   have hx := E0_at hk2
   have hlen : k < (g.es.take i).length := by simp; omega
   have hd : (g.es.take i).drop k = g.es[k] :: (g.es.take i).drop (k + 1) := by
    rw [List.drop_eq_getElem_cons hlen, List.getElem_take]
   rw [hd, List.any_cons, f11_l2_eq]
   cases b with
   | true =>
     have := ih (k + 1) true (by omega)
     rw [Bool.true_or] at this ⊢
     rw [← this]
     simp (disch := first | assumption | omega | (with_reducible rfl) | (simp only [go_sem]; done) | (simp only [go_sem]; omega) | fail) only [↓reduceIte, ↓jn_eq, Nat.reduceAdd, go_sem]
   | false =>
     rw [Bool.false_or]
     by_cases h1 : g.es[k].fr = g.es[i].fr
     · by_cases h2 : g.es[k].to = g.es[i].to
       · have := ih (k + 1) true (by omega)
         rw [Bool.true_or] at this
         rw [decide_eq_true (show kE g.es[k] = kE g.es[i] by rw [kE, h1, h2]), Bool.true_or, ← this]
         generalize hek : g.es[k] = a at *
         generalize hei : g.es[i] = c at *
         simp only [vE0] at hx ⊢
         simp (disch := first | assumption | omega | (with_reducible rfl) | (simp only [go_sem]; done) | (simp only [go_sem]; omega) | fail) only [↓reduceIte, ↓jn_eq, Nat.reduceAdd, go_sem, hx, h1, h2, decide_true]
       · have := ih (k + 1) false (by omega)
         rw [Bool.false_or] at this
         rw [decide_eq_false (show ¬ kE g.es[k] = kE g.es[i] from fun e => h2 (Prod.mk.inj e).2), Bool.false_or, ← this]
         generalize hek : g.es[k] = a at *
         generalize hei : g.es[i] = c at *
         simp only [vE0] at hx ⊢
         simp (disch := first | assumption | omega | (with_reducible rfl) | (simp only [go_sem]; done) | (simp only [go_sem]; omega) | fail) only [↓reduceIte, ↓jn_eq, Nat.reduceAdd, go_sem, hx, h1, decide_eq_false h2]
     · have := ih (k + 1) false (by omega)
       rw [Bool.false_or] at this
       rw [decide_eq_false (show ¬ kE g.es[k] = kE g.es[i] from fun e => h1 (Prod.mk.inj e).1), Bool.false_or, ← this]
       generalize hek : g.es[k] = a at *
       generalize hei : g.es[i] = c at *
       simp only [vE0] at hx ⊢
       simp (disch := first | assumption | omega | (with_reducible rfl) | (simp only [go_sem]; done) | (simp only [go_sem]; omega) | fail) only [↓reduceIte, ↓jn_eq, Nat.reduceAdd, go_sem, hx]
def r5 (g : Grf) (i : Nat) : Int := if (g.es.drop i).any (oddE g.n) = true then 50 else if (g.es.map kE).Nodup then 0 else 51
theorem r5_l0 {g : Grf} (hl : g.es.length < 1000000) : ∀ (n i : Nat) (b : Bool), i + n = g.es.length → b = !decide ((g.es.take i).map kE).Nodup →
 f11_l0 rG (.bool b) (.int .i64 (i : Int)) [vG .sh g] = some (.int .i64 (r5 g i), []) := by
 intro n
 induction n with
 | zero =>
   intro i b hi hb
   rw [List.take_of_length_le (by omega)] at hb
   rw [r5, List.drop_eq_nil_of_le (by omega), List.any_nil, f11_l0_eq]
   by_cases hn : (g.es.map kE).Nodup
   · rw [decide_eq_true hn] at hb
     subst hb
     rw [if_pos hn]
     simp (disch := first | assumption | omega | (with_reducible rfl) | (simp only [go_sem]; done) | (simp only [go_sem]; omega) | fail) only [↓reduceIte, ↓jn_eq, Nat.reduceAdd, go_sem]
     rfl
   · rw [decide_eq_false hn] at hb
     subst hb
     rw [if_neg hn]
     simp (disch := first | assumption | omega | (with_reducible rfl) | (simp only [go_sem]; done) | (simp only [go_sem]; omega) | fail) only [↓reduceIte, ↓jn_eq, Nat.reduceAdd, go_sem]
     rfl
 | succ n ih =>
   intro i b hi hb
   have h : i < g.es.length := by omega
   have hx := E0_at h
   have l2 := r5_l2 hl h i 0 b (by omega)
   rw [List.drop_zero] at l2
   have hk := take_key g.es h
   have ih' := ih (i + 1) (b || (g.es.take i).any (fun x => decide (kE x = kE g.es[i]))) (by omega) (by
    subst hb
    rw [Bool.eq_iff_iff]
    by_cases p : ((g.es.take i).map kE).Nodup <;> cases q : (g.es.take i).any (fun x => decide (kE x = kE g.es[i])) <;> simp_all)
   rw [ih'] at l2
   have hbad : oddE g.n g.es[i] = true → r5 g i = 50 := fun ho => by rw [r5, List.drop_eq_getElem_cons h, List.any_cons, ho]; rfl
   have hok : oddE g.n g.es[i] = false → r5 g i = r5 g (i + 1) := fun ho => by rw [r5, r5, List.drop_eq_getElem_cons h, List.any_cons, ho]; rfl
   generalize r5 g i = r at *
   generalize r5 g (i + 1) = r' at *
   generalize he : g.es[i] = e at *
   rw [f11_l0_eq]
   simp only [vE0, c0] at hx l2
   repeat' first | rfl | refine br_d (fun _ => ?_) (fun _ => ?_) | refine br_b (fun _ => ?_) (fun _ => ?_) | simp (disch := first | assumption | omega | (with_reducible rfl) | (simp only [go_sem]; done) | (simp only [go_sem]; omega) | fail) only [↓reduceIte, ↓jn_eq, Nat.reduceAdd, go_sem, hx, l2]
   all_goals simp only [oddE] at hbad hok
   all_goals simp_all
   all_goals omega
theorem rchk_am {g : Grf} (hl : g.es.length < 1000000) : Cl 11 [vG .sh g] [] = some (.int .i64 (chkG g), []) := by
 have h := r5_l0 hl g.es.length 0 false (by omega) (by simp)
 simp only [c0] at h
 have e : ∀ (a : 1 ≤ g.n) (b : g.n ≤ 64) (c : g.es.length ≤ 512), chkG g = r5 g 0 := by
  intro a b c
  rw [chkG, r5, List.drop_zero]
  by_cases ho : g.es.any (oddE g.n) = true
  · rw [if_neg (fun h => by rw [ho] at h; cases h.2.2.2), if_pos ho]
  · rw [if_pos ⟨a, b, c, by simpa using ho⟩, if_neg ho]
 by_cases h1 : g.n < 1
 · rw [chkG, if_neg (by omega), f11_eq]
   simp (disch := first | assumption | omega | (with_reducible rfl) | (simp only [go_sem]; done) | (simp only [go_sem]; omega) | fail) only [↓reduceIte, ↓jn_eq, Nat.reduceAdd, go_sem]
 by_cases h2 : 64 < g.n
 · rw [chkG, if_neg (by omega), f11_eq]
   simp (disch := first | assumption | omega | (with_reducible rfl) | (simp only [go_sem]; done) | (simp only [go_sem]; omega) | fail) only [↓reduceIte, ↓jn_eq, Nat.reduceAdd, go_sem]
 by_cases h3 : 512 < g.es.length
 · rw [chkG, if_neg (by omega), f11_eq]
   simp (disch := first | assumption | omega | (with_reducible rfl) | (simp only [go_sem]; done) | (simp only [go_sem]; omega) | fail) only [↓reduceIte, ↓jn_eq, Nat.reduceAdd, go_sem]
 rw [e (by omega) (by omega) (by omega), f11_eq]
 simp (disch := first | assumption | omega | (with_reducible rfl) | (simp only [go_sem]; done) | (simp only [go_sem]; omega) | fail) only [↓reduceIte, ↓jn_eq, Nat.reduceAdd, go_sem, h]
end Go.Proofs.YtaghnpjlhmgioaaDoor
end

section
set_option linter.unusedVariables false
set_option linter.unusedSimpArgs false
set_option linter.unusedSectionVars false
set_option maxRecDepth 100000
namespace Go.Proofs.YtaghnpjlhmgioaaDoor
open Go AM
abbrev lE' (f : Fl) (l : List E0) : V := .lst 45 f (l.map vE0)
theorem eqvE (e : E0) : eqv (vE0 e) (vE0 e) = some true := by simp [vE0, eqv, eqvL]
theorem neE (e : E0) : eqT (tyG tE) .neq (vE0 e) (vE0 e) = some (.bool false) := by
 simp [eqT, eqvE, tyG_vE0]
theorem row_l0 {l : List E0} (hl : l.length < 1000000) : ∀ (n i : Nat), i + n = l.length → f19_l0 (lE' .sh l) (lE' .sh l) (.int .i64 (i : Int)) = some (.bool true, []) := by
 intro n
 induction n with
 | zero =>
   intro i hi
   rw [f19_l0_eq]
   (repeat' with_reducible first | refine (ite_T _ _).trans ?_ | refine (ite_F _ _).trans ?_ | refine (jn_eq _ _).trans ?_ | refine (bstep (by first | rfl | (simp (disch := first | assumption | omega | (with_reducible rfl) | (simp only [go_sem]; done) | (simp only [go_sem]; omega) | fail) only [↓reduceIte, ↓jn_eq, Nat.reduceAdd, go_sem, Bool.not_true, Bool.not_false]; rfl)) _).trans ?_ | refine (if_pos (by first | rfl | (simp (disch := first | assumption | omega | (with_reducible rfl) | (simp only [go_sem]; done) | (simp only [go_sem]; omega) | fail) only [↓reduceIte, ↓jn_eq, Nat.reduceAdd, go_sem, Bool.not_true, Bool.not_false]; done))).trans ?_ | refine (ite_dec (by first | assumption | omega | (simp (disch := first | assumption | omega | (with_reducible rfl) | (simp only [go_sem]; done) | (simp only [go_sem]; omega) | fail) only [↓reduceIte, ↓jn_eq, Nat.reduceAdd, go_sem, Bool.not_true, Bool.not_false]; done) | (simp (disch := first | assumption | omega | (with_reducible rfl) | (simp only [go_sem]; done) | (simp only [go_sem]; omega) | fail) only [↓reduceIte, ↓jn_eq, Nat.reduceAdd, go_sem, Bool.not_true, Bool.not_false]; omega)) _ _).trans ?_ | refine (ite_ndec (by first | assumption | omega | (simp (disch := first | assumption | omega | (with_reducible rfl) | (simp only [go_sem]; done) | (simp only [go_sem]; omega) | fail) only [↓reduceIte, ↓jn_eq, Nat.reduceAdd, go_sem, Bool.not_true, Bool.not_false]; done) | (simp (disch := first | assumption | omega | (with_reducible rfl) | (simp only [go_sem]; done) | (simp only [go_sem]; omega) | fail) only [↓reduceIte, ↓jn_eq, Nat.reduceAdd, go_sem, Bool.not_true, Bool.not_false]; omega)) _ _).trans ?_ | fail)
   rfl
 | succ n ih =>
   intro i hi
   have h : i < l.length := by omega
   have hx := E0_at h
   have hne := neE l[i]
   rw [← ih (i + 1) (by omega), f19_l0_eq]
   clear ih
   generalize vE0 l[i] = y at *
   (repeat' with_reducible first | refine (ite_T _ _).trans ?_ | refine (ite_F _ _).trans ?_ | refine (jn_eq _ _).trans ?_ | refine (bstep (by first | rfl | (simp (disch := first | assumption | omega | (with_reducible rfl) | (simp only [go_sem]; done) | (simp only [go_sem]; omega) | fail) only [↓reduceIte, ↓jn_eq, Nat.reduceAdd, go_sem, Bool.not_true, Bool.not_false, hx, hne]; rfl)) _).trans ?_ | refine (if_pos (by first | rfl | (simp (disch := first | assumption | omega | (with_reducible rfl) | (simp only [go_sem]; done) | (simp only [go_sem]; omega) | fail) only [↓reduceIte, ↓jn_eq, Nat.reduceAdd, go_sem, Bool.not_true, Bool.not_false, hx, hne]; done))).trans ?_ | refine (ite_dec (by first | assumption | omega | (simp (disch := first | assumption | omega | (with_reducible rfl) | (simp only [go_sem]; done) | (simp only [go_sem]; omega) | fail) only [↓reduceIte, ↓jn_eq, Nat.reduceAdd, go_sem, Bool.not_true, Bool.not_false, hx, hne]; done) | (simp (disch := first | assumption | omega | (with_reducible rfl) | (simp only [go_sem]; done) | (simp only [go_sem]; omega) | fail) only [↓reduceIte, ↓jn_eq, Nat.reduceAdd, go_sem, Bool.not_true, Bool.not_false, hx, hne]; omega)) _ _).trans ?_ | refine (ite_ndec (by first | assumption | omega | (simp (disch := first | assumption | omega | (with_reducible rfl) | (simp only [go_sem]; done) | (simp only [go_sem]; omega) | fail) only [↓reduceIte, ↓jn_eq, Nat.reduceAdd, go_sem, Bool.not_true, Bool.not_false, hx, hne]; done) | (simp (disch := first | assumption | omega | (with_reducible rfl) | (simp only [go_sem]; done) | (simp only [go_sem]; omega) | fail) only [↓reduceIte, ↓jn_eq, Nat.reduceAdd, go_sem, Bool.not_true, Bool.not_false, hx, hne]; omega)) _ _).trans ?_ | fail)
   rfl
theorem row5_am {l : List E0} (hl : l.length < 1000000) : Cl 19 [lE' .sh l, lE' .sh l] [] = some (.bool true, []) := by
 have h := row_l0 hl l.length 0 (by omega)
 simp only [c0] at h
 rw [← h, f19_eq]
 (repeat' with_reducible first | refine (ite_T _ _).trans ?_ | refine (ite_F _ _).trans ?_ | refine (jn_eq _ _).trans ?_ | refine (bstep (by first | rfl | (simp (disch := first | assumption | omega | (with_reducible rfl) | (simp only [go_sem]; done) | (simp only [go_sem]; omega) | fail) only [↓reduceIte, ↓jn_eq, Nat.reduceAdd, go_sem, Bool.not_true, Bool.not_false]; rfl)) _).trans ?_ | refine (if_pos (by first | rfl | (simp (disch := first | assumption | omega | (with_reducible rfl) | (simp only [go_sem]; done) | (simp only [go_sem]; omega) | fail) only [↓reduceIte, ↓jn_eq, Nat.reduceAdd, go_sem, Bool.not_true, Bool.not_false]; done))).trans ?_ | refine (ite_dec (by first | assumption | omega | (simp (disch := first | assumption | omega | (with_reducible rfl) | (simp only [go_sem]; done) | (simp only [go_sem]; omega) | fail) only [↓reduceIte, ↓jn_eq, Nat.reduceAdd, go_sem, Bool.not_true, Bool.not_false]; done) | (simp (disch := first | assumption | omega | (with_reducible rfl) | (simp only [go_sem]; done) | (simp only [go_sem]; omega) | fail) only [↓reduceIte, ↓jn_eq, Nat.reduceAdd, go_sem, Bool.not_true, Bool.not_false]; omega)) _ _).trans ?_ | refine (ite_ndec (by first | assumption | omega | (simp (disch := first | assumption | omega | (with_reducible rfl) | (simp only [go_sem]; done) | (simp only [go_sem]; omega) | fail) only [↓reduceIte, ↓jn_eq, Nat.reduceAdd, go_sem, Bool.not_true, Bool.not_false]; done) | (simp (disch := first | assumption | omega | (with_reducible rfl) | (simp only [go_sem]; done) | (simp only [go_sem]; omega) | fail) only [↓reduceIte, ↓jn_eq, Nat.reduceAdd, go_sem, Bool.not_true, Bool.not_false]; omega)) _ _).trans ?_ | fail)
 rfl
theorem same5_am {g : Grf} (hl : g.es.length < 1000000) : Cl 15 [vG .sh g, vG .sh g] [] = some (.bool true, []) := by
 have h := row5_am hl
 rw [f15_eq]
 (repeat' with_reducible first | refine (ite_T _ _).trans ?_ | refine (ite_F _ _).trans ?_ | refine (jn_eq _ _).trans ?_ | refine (bstep (by first | rfl | (simp (disch := first | assumption | omega | (with_reducible rfl) | (simp only [go_sem]; done) | (simp only [go_sem]; omega) | fail) only [↓reduceIte, ↓jn_eq, Nat.reduceAdd, go_sem, Bool.not_true, Bool.not_false, h]; rfl)) _).trans ?_ | refine (if_pos (by first | rfl | (simp (disch := first | assumption | omega | (with_reducible rfl) | (simp only [go_sem]; done) | (simp only [go_sem]; omega) | fail) only [↓reduceIte, ↓jn_eq, Nat.reduceAdd, go_sem, Bool.not_true, Bool.not_false, h]; done))).trans ?_ | refine (ite_dec (by first | assumption | omega | (simp (disch := first | assumption | omega | (with_reducible rfl) | (simp only [go_sem]; done) | (simp only [go_sem]; omega) | fail) only [↓reduceIte, ↓jn_eq, Nat.reduceAdd, go_sem, Bool.not_true, Bool.not_false, h]; done) | (simp (disch := first | assumption | omega | (with_reducible rfl) | (simp only [go_sem]; done) | (simp only [go_sem]; omega) | fail) only [↓reduceIte, ↓jn_eq, Nat.reduceAdd, go_sem, Bool.not_true, Bool.not_false, h]; omega)) _ _).trans ?_ | refine (ite_ndec (by first | assumption | omega | (simp (disch := first | assumption | omega | (with_reducible rfl) | (simp only [go_sem]; done) | (simp only [go_sem]; omega) | fail) only [↓reduceIte, ↓jn_eq, Nat.reduceAdd, go_sem, Bool.not_true, Bool.not_false, h]; done) | (simp (disch := first | assumption | omega | (with_reducible rfl) | (simp only [go_sem]; done) | (simp only [go_sem]; omega) | fail) only [↓reduceIte, ↓jn_eq, Nat.reduceAdd, go_sem, Bool.not_true, Bool.not_false, h]; omega)) _ _).trans ?_ | fail)
 rfl
def keyB (v w : Int) (e : E0) : Bool := decide (e.fr = v) && decide (e.to = w)
def rowN (es : List E0) (v : Int) (m : Nat) : List E0 := (List.range m).flatMap fun (w : Nat) => es.filter (keyB v (w : Int))
def allN (es : List E0) (N m : Nat) : List E0 := (List.range m).flatMap fun (v : Nat) => rowN es (v : Int) N
theorem rowN_succ (es : List E0) (v : Int) (m : Nat) : rowN es v (m + 1) = rowN es v m ++ es.filter (keyB v (m : Int)) := by simp [rowN, List.range_succ]
theorem allN_succ (es : List E0) (N m : Nat) : allN es N (m + 1) = allN es N m ++ rowN es (m : Int) N := by simp [allN, List.range_succ]
theorem mem_rowN {es : List E0} {v : Int} {m : Nat} {x : E0} : x ∈ rowN es v m ↔ x ∈ es ∧ x.fr = v ∧ 0 ≤ x.to ∧ x.to < m := by
 simp only [rowN, List.mem_flatMap, List.mem_range, List.mem_filter, keyB, Bool.and_eq_true, decide_eq_true_eq]
 constructor
 · rintro ⟨w, hw, h1, h2, h3⟩; exact ⟨h1, h2, by omega, by omega⟩
 · rintro ⟨h1, h2, h3, h4⟩; exact ⟨x.to.toNat, by omega, h1, h2, by omega⟩
theorem mem_allN {es : List E0} {N m : Nat} {x : E0} : x ∈ allN es N m ↔ x ∈ es ∧ 0 ≤ x.fr ∧ x.fr < m ∧ 0 ≤ x.to ∧ x.to < N := by
 simp only [allN, List.mem_flatMap, List.mem_range, mem_rowN]
 constructor
 · rintro ⟨v, hv, h1, h2, h3, h4⟩; exact ⟨h1, by omega, by omega, h3, h4⟩
 · rintro ⟨h1, h2, h3, h4, h5⟩; exact ⟨x.fr.toNat, by omega, h1, by omega, h4, h5⟩
theorem filt_sorted {es : List E0} (hn : (es.map kEd).Nodup) (v w : Int) : (es.filter (keyB v w)).Pairwise kLt := by
 rw [List.pairwise_filter]
 rw [List.nodup_iff_pairwise_ne, List.pairwise_map] at hn
 refine hn.imp fun {a b} h ha hb => ?_
 simp only [keyB, Bool.and_eq_true, decide_eq_true_eq] at ha hb
 exact absurd (Prod.ext (show (kEd a).1 = (kEd b).1 by simp only []; omega) (by simp only []; omega)) h
theorem rowN_sorted {es : List E0} (hn : (es.map kEd).Nodup) (v : Int) : ∀ m, (rowN es v m).Pairwise kLt
 | 0 => by simp [rowN]
 | m + 1 => by
   rw [rowN_succ, List.pairwise_append]
   refine ⟨rowN_sorted hn v m, filt_sorted hn v _, fun a ha b hb => ?_⟩
   have h1 := mem_rowN.1 ha
   have h2 := (List.mem_filter.1 hb).2
   simp only [keyB, Bool.and_eq_true, decide_eq_true_eq] at h2
   simp only [kLt]; omega
theorem allN_sorted {es : List E0} (hn : (es.map kEd).Nodup) (N : Nat) : ∀ m, (allN es N m).Pairwise kLt
 | 0 => by simp [allN]
 | m + 1 => by
   rw [allN_succ, List.pairwise_append]
   refine ⟨allN_sorted hn N m, rowN_sorted hn _ N, fun a ha b hb => ?_⟩
   have h1 := mem_allN.1 ha
   have h2 := mem_rowN.1 hb
   simp only [kLt]; omega
theorem allN_srt {g : Grf} (hc : chkG g = 0) : allN g.es g.n.toNat g.n.toNat = srtE g.es := by
 obtain ⟨hp, hs⟩ := srt_ok hc
 obtain ⟨⟨g1, g2⟩, g3, g4, g5⟩ := chkG_0 hc
 refine uniqE (allN_sorted g5 _ _) hs fun x => ?_
 rw [mem_allN, hp.mem_iff]
 refine ⟨fun h => h.1, fun h => ?_⟩
 have := odds_in g4 x h
 exact ⟨h, by omega, by omega, by omega, by omega⟩
theorem rowN_len (es : List E0) (v : Int) : ∀ m, (rowN es v m).length ≤ m * es.length
 | 0 => by simp [rowN]
 | m + 1 => by
   have := rowN_len es v m
   have := List.length_filter_le (keyB v (m : Int)) es
   rw [rowN_succ, List.length_append, Nat.succ_mul]; omega
theorem allN_len (es : List E0) (N : Nat) : ∀ m, (allN es N m).length ≤ m * (N * es.length)
 | 0 => by simp [allN]
 | m + 1 => by
   have := allN_len es N m
   have := rowN_len es (m : Int) N
   rw [allN_succ, List.length_append, Nat.succ_mul]; omega
theorem ldTake_g {h : List V} {id i : Nat} {u e t : TypeId} {f : Fl} {fs xs : List V} (hh : h[id]? = some (.agg u fs)) (hf : fs[i]? = some (.lst e f xs)) : ldTake h t (.ref id [i] t) = some (.lst e f xs, h.set id (.agg u (fs.set i (.lst e f.wk xs)))) := by
 simp only [ldTake, if_true, rd, wr, hh, Option.bind_some, V.at, V.upd, hf, weak_lst', Option.map_some]
abbrev accG (g : Grf) (f : Fl) (l : List E0) : List V := [vG .sh g, .agg 23 [.int .i64 0, .lst 45 .nil []], .agg 23 [.int .i64 g.n, .lst 45 f (l.map vE0)]]
theorem rn_l4 {g : Grf} (hl : g.es.length < 1000000) {v w : Int} (m0 m2 : Nat) : ∀ (n i : Nat) (f : Fl) (acc : List E0), (f = .own ∨ f = .nil) → i + n = g.es.length → acc.length + n ≤ 2147483000 →
 ∃ f', (f' = .own ∨ f' = .nil) ∧ f18_l4 (.ref 0 [] 24) (.ref 1 [] 24) (.ref 2 [] 24) (.int .i64 v) (.int .i64 w) (.int .i64 (i : Int)) m0 m2 (accG g f acc) =
   (bin .add (.int .i64 w) (.int .i64 1)).bind fun t => f18_l2 (.ref 0 [] 24) (.ref 1 [] 24) (.ref 2 [] 24) (.int .i64 v) t m0 (accG g f' (acc ++ (g.es.drop i).filter (keyB v w))) := by
 intro n
 induction n with
 | zero =>
   intro i f acc hf hi ha
   refine ⟨f, hf, ?_⟩
   rw [List.drop_eq_nil_of_le (by omega), List.filter_nil, List.append_nil, f18_l4_eq]
   generalize bin .add (.int .i64 w) (.int .i64 1) = x at *
   rcases hf with rfl | rfl
   all_goals (repeat' with_reducible first | refine (ite_T _ _).trans ?_ | refine (ite_F _ _).trans ?_ | refine (jn_eq _ _).trans ?_ | refine (bstep (by first | rfl | (simp (disch := first | assumption | omega | (with_reducible rfl) | (simp only [go_sem]; done) | (simp only [go_sem]; omega) | fail) only [↓reduceIte, ↓jn_eq, Nat.reduceAdd, go_sem, Bool.not_true, Bool.not_false]; rfl)) _).trans ?_ | refine (if_pos (by first | rfl | (simp (disch := first | assumption | omega | (with_reducible rfl) | (simp only [go_sem]; done) | (simp only [go_sem]; omega) | fail) only [↓reduceIte, ↓jn_eq, Nat.reduceAdd, go_sem, Bool.not_true, Bool.not_false]; done))).trans ?_ | refine (ite_dec (by first | assumption | omega | (simp (disch := first | assumption | omega | (with_reducible rfl) | (simp only [go_sem]; done) | (simp only [go_sem]; omega) | fail) only [↓reduceIte, ↓jn_eq, Nat.reduceAdd, go_sem, Bool.not_true, Bool.not_false]; done) | (simp (disch := first | assumption | omega | (with_reducible rfl) | (simp only [go_sem]; done) | (simp only [go_sem]; omega) | fail) only [↓reduceIte, ↓jn_eq, Nat.reduceAdd, go_sem, Bool.not_true, Bool.not_false]; omega)) _ _).trans ?_ | refine (ite_ndec (by first | assumption | omega | (simp (disch := first | assumption | omega | (with_reducible rfl) | (simp only [go_sem]; done) | (simp only [go_sem]; omega) | fail) only [↓reduceIte, ↓jn_eq, Nat.reduceAdd, go_sem, Bool.not_true, Bool.not_false]; done) | (simp (disch := first | assumption | omega | (with_reducible rfl) | (simp only [go_sem]; done) | (simp only [go_sem]; omega) | fail) only [↓reduceIte, ↓jn_eq, Nat.reduceAdd, go_sem, Bool.not_true, Bool.not_false]; omega)) _ _).trans ?_ | fail)
   all_goals rfl
 | succ n ih =>
   intro i f acc hf hi ha
   have h : i < g.es.length := by omega
   have hx := E0_at h
   have lw1 : lowB true [.rop 45 (vE0 g.es[i])] = true := rfl
   have sb0 : sameB (.ref 0 [] 24) (.ref 0 [1] 22) = true := rfl
   have sb2 : sameB (.ref 2 [] 24) (.ref 2 [1] 22) = true := rfl
   have df : diffB (.ref 2 [] 24) (.ref 0 [] 24) = true := rfl
   have tk : ∀ (a z x0 : V) (rs : List V) (f : Fl), ldTake [a, z, .agg 23 [x0, .lst 45 f rs]] 22 (.ref 2 [1] 22) = some (.lst 45 f rs, [a, z, .agg 23 [x0, .lst 45 f.wk rs]]) :=
    fun a z x0 rs f => ldTake_g (h := [a, z, .agg 23 [x0, .lst 45 f rs]]) (id := 2) rfl rfl
   rw [List.drop_eq_getElem_cons h, List.filter_cons]
   by_cases hk : keyB v w g.es[i] = true
   · obtain ⟨f', hf', e⟩ := ih (i + 1) .own (acc ++ [g.es[i]]) (Or.inl rfl) (by omega) (by simp; omega)
     rw [List.append_assoc, List.singleton_append] at e
     rw [if_pos hk]
     refine ⟨f', hf', ?_⟩
     rw [← e, f18_l4_eq]
     clear ih e
     simp only [keyB, Bool.and_eq_true, decide_eq_true_eq] at hk
     obtain ⟨k1, k2⟩ := hk
     simp only [accG, List.map_append, List.map_cons, List.map_nil]
     generalize g.es[i] = y at *
     have fr : fA 45 3 0 (.rop 45 (vE0 y)) = some (.rop 3 (.int .i64 y.fr)) := rfl
     have to : fA 45 3 1 (.rop 45 (vE0 y)) = some (.rop 3 (.int .i64 y.to)) := rfl
     rcases hf with rfl | rfl
     all_goals (repeat' with_reducible first | refine (ite_T _ _).trans ?_ | refine (ite_F _ _).trans ?_ | refine (jn_eq _ _).trans ?_ | refine (bstep (by first | rfl | (simp (disch := first | assumption | omega | (with_reducible rfl) | (simp only [go_sem]; done) | (simp only [go_sem]; omega) | fail) only [↓reduceIte, ↓jn_eq, Nat.reduceAdd, go_sem, Bool.not_true, Bool.not_false, hx, lw1, sb0, sb2, df, tk, wk_own, wk_nil, fr, to]; rfl)) _).trans ?_ | refine (if_pos (by first | rfl | (simp (disch := first | assumption | omega | (with_reducible rfl) | (simp only [go_sem]; done) | (simp only [go_sem]; omega) | fail) only [↓reduceIte, ↓jn_eq, Nat.reduceAdd, go_sem, Bool.not_true, Bool.not_false, hx, lw1, sb0, sb2, df, tk, wk_own, wk_nil, fr, to]; done))).trans ?_ | refine (ite_dec (by first | assumption | omega | (simp (disch := first | assumption | omega | (with_reducible rfl) | (simp only [go_sem]; done) | (simp only [go_sem]; omega) | fail) only [↓reduceIte, ↓jn_eq, Nat.reduceAdd, go_sem, Bool.not_true, Bool.not_false, hx, lw1, sb0, sb2, df, tk, wk_own, wk_nil, fr, to]; done) | (simp (disch := first | assumption | omega | (with_reducible rfl) | (simp only [go_sem]; done) | (simp only [go_sem]; omega) | fail) only [↓reduceIte, ↓jn_eq, Nat.reduceAdd, go_sem, Bool.not_true, Bool.not_false, hx, lw1, sb0, sb2, df, tk, wk_own, wk_nil, fr, to]; omega)) _ _).trans ?_ | refine (ite_ndec (by first | assumption | omega | (simp (disch := first | assumption | omega | (with_reducible rfl) | (simp only [go_sem]; done) | (simp only [go_sem]; omega) | fail) only [↓reduceIte, ↓jn_eq, Nat.reduceAdd, go_sem, Bool.not_true, Bool.not_false, hx, lw1, sb0, sb2, df, tk, wk_own, wk_nil, fr, to]; done) | (simp (disch := first | assumption | omega | (with_reducible rfl) | (simp only [go_sem]; done) | (simp only [go_sem]; omega) | fail) only [↓reduceIte, ↓jn_eq, Nat.reduceAdd, go_sem, Bool.not_true, Bool.not_false, hx, lw1, sb0, sb2, df, tk, wk_own, wk_nil, fr, to]; omega)) _ _).trans ?_ | fail)
     all_goals rfl
   · obtain ⟨f', hf', e⟩ := ih (i + 1) f acc hf (by omega) (by omega)
     rw [if_neg hk]
     refine ⟨f', hf', ?_⟩
     rw [← e, f18_l4_eq]
     clear ih e
     simp only [keyB, Bool.and_eq_true, decide_eq_true_eq] at hk
     generalize g.es[i] = y at *
     simp only [vE0] at hx
     by_cases k1 : y.fr = v
     · have k2 : ¬ y.to = w := fun h => hk ⟨k1, h⟩
       rcases hf with rfl | rfl
       all_goals (repeat' with_reducible first | refine (ite_T _ _).trans ?_ | refine (ite_F _ _).trans ?_ | refine (jn_eq _ _).trans ?_ | refine (bstep (by first | rfl | (simp (disch := first | assumption | omega | (with_reducible rfl) | (simp only [go_sem]; done) | (simp only [go_sem]; omega) | fail) only [↓reduceIte, ↓jn_eq, Nat.reduceAdd, go_sem, Bool.not_true, Bool.not_false, hx]; rfl)) _).trans ?_ | refine (if_pos (by first | rfl | (simp (disch := first | assumption | omega | (with_reducible rfl) | (simp only [go_sem]; done) | (simp only [go_sem]; omega) | fail) only [↓reduceIte, ↓jn_eq, Nat.reduceAdd, go_sem, Bool.not_true, Bool.not_false, hx]; done))).trans ?_ | refine (ite_dec (by first | assumption | omega | (simp (disch := first | assumption | omega | (with_reducible rfl) | (simp only [go_sem]; done) | (simp only [go_sem]; omega) | fail) only [↓reduceIte, ↓jn_eq, Nat.reduceAdd, go_sem, Bool.not_true, Bool.not_false, hx]; done) | (simp (disch := first | assumption | omega | (with_reducible rfl) | (simp only [go_sem]; done) | (simp only [go_sem]; omega) | fail) only [↓reduceIte, ↓jn_eq, Nat.reduceAdd, go_sem, Bool.not_true, Bool.not_false, hx]; omega)) _ _).trans ?_ | refine (ite_ndec (by first | assumption | omega | (simp (disch := first | assumption | omega | (with_reducible rfl) | (simp only [go_sem]; done) | (simp only [go_sem]; omega) | fail) only [↓reduceIte, ↓jn_eq, Nat.reduceAdd, go_sem, Bool.not_true, Bool.not_false, hx]; done) | (simp (disch := first | assumption | omega | (with_reducible rfl) | (simp only [go_sem]; done) | (simp only [go_sem]; omega) | fail) only [↓reduceIte, ↓jn_eq, Nat.reduceAdd, go_sem, Bool.not_true, Bool.not_false, hx]; omega)) _ _).trans ?_ | fail)
       all_goals rfl
     · rcases hf with rfl | rfl
       all_goals (repeat' with_reducible first | refine (ite_T _ _).trans ?_ | refine (ite_F _ _).trans ?_ | refine (jn_eq _ _).trans ?_ | refine (bstep (by first | rfl | (simp (disch := first | assumption | omega | (with_reducible rfl) | (simp only [go_sem]; done) | (simp only [go_sem]; omega) | fail) only [↓reduceIte, ↓jn_eq, Nat.reduceAdd, go_sem, Bool.not_true, Bool.not_false, hx]; rfl)) _).trans ?_ | refine (if_pos (by first | rfl | (simp (disch := first | assumption | omega | (with_reducible rfl) | (simp only [go_sem]; done) | (simp only [go_sem]; omega) | fail) only [↓reduceIte, ↓jn_eq, Nat.reduceAdd, go_sem, Bool.not_true, Bool.not_false, hx]; done))).trans ?_ | refine (ite_dec (by first | assumption | omega | (simp (disch := first | assumption | omega | (with_reducible rfl) | (simp only [go_sem]; done) | (simp only [go_sem]; omega) | fail) only [↓reduceIte, ↓jn_eq, Nat.reduceAdd, go_sem, Bool.not_true, Bool.not_false, hx]; done) | (simp (disch := first | assumption | omega | (with_reducible rfl) | (simp only [go_sem]; done) | (simp only [go_sem]; omega) | fail) only [↓reduceIte, ↓jn_eq, Nat.reduceAdd, go_sem, Bool.not_true, Bool.not_false, hx]; omega)) _ _).trans ?_ | refine (ite_ndec (by first | assumption | omega | (simp (disch := first | assumption | omega | (with_reducible rfl) | (simp only [go_sem]; done) | (simp only [go_sem]; omega) | fail) only [↓reduceIte, ↓jn_eq, Nat.reduceAdd, go_sem, Bool.not_true, Bool.not_false, hx]; done) | (simp (disch := first | assumption | omega | (with_reducible rfl) | (simp only [go_sem]; done) | (simp only [go_sem]; omega) | fail) only [↓reduceIte, ↓jn_eq, Nat.reduceAdd, go_sem, Bool.not_true, Bool.not_false, hx]; omega)) _ _).trans ?_ | fail)
       all_goals rfl
end Go.Proofs.YtaghnpjlhmgioaaDoor
end

section
set_option linter.unusedVariables false
set_option linter.unusedSimpArgs false
set_option linter.unusedSectionVars false
set_option maxRecDepth 100000
namespace Go.Proofs.YtaghnpjlhmgioaaDoor
open Go AM
theorem rn_l2 {g : Grf} (hl : g.es.length ≤ 512) {N : Nat} (hN : N ≤ 64) (hg : g.n = (N : Int)) {v : Nat} (base : List E0) (hb : base.length ≤ 1000000000) (m0 : Nat) : ∀ (n w : Nat) (f : Fl), (f = .own ∨ f = .nil) → w + n = N →
 ∃ f', (f' = .own ∨ f' = .nil) ∧ f18_l2 (.ref 0 [] 24) (.ref 1 [] 24) (.ref 2 [] 24) (.int .i64 (v : Int)) (.int .i64 (w : Int)) m0 (accG g f (base ++ rowN g.es (v : Int) w)) =
   (bin .add (.int .i64 (v : Int)) (.int .i64 1)).bind fun t => f18_l0 (.ref 0 [] 24) (.ref 1 [] 24) (.ref 2 [] 24) t (accG g f' (base ++ rowN g.es (v : Int) N)) := by
 intro n
 induction n with
 | zero =>
   intro w f hf hw
   obtain rfl : w = N := by omega
   refine ⟨f, hf, ?_⟩
   rw [f18_l2_eq]
   generalize base ++ rowN g.es (v : Int) w = acc at *
   generalize bin .add (.int .i64 (v : Int)) (.int .i64 1) = x at *
   rcases hf with rfl | rfl
   all_goals (repeat' with_reducible first | refine (ite_T _ _).trans ?_ | refine (ite_F _ _).trans ?_ | refine (jn_eq _ _).trans ?_ | refine (bstep (by first | rfl | (simp (disch := first | assumption | omega | (with_reducible rfl) | (simp only [go_sem]; done) | (simp only [go_sem]; omega) | fail) only [↓reduceIte, ↓jn_eq, Nat.reduceAdd, go_sem, Bool.not_true, Bool.not_false, hg]; rfl)) _).trans ?_ | refine (if_pos (by first | rfl | (simp (disch := first | assumption | omega | (with_reducible rfl) | (simp only [go_sem]; done) | (simp only [go_sem]; omega) | fail) only [↓reduceIte, ↓jn_eq, Nat.reduceAdd, go_sem, Bool.not_true, Bool.not_false, hg]; done))).trans ?_ | refine (ite_dec (by first | assumption | omega | (simp (disch := first | assumption | omega | (with_reducible rfl) | (simp only [go_sem]; done) | (simp only [go_sem]; omega) | fail) only [↓reduceIte, ↓jn_eq, Nat.reduceAdd, go_sem, Bool.not_true, Bool.not_false, hg]; done) | (simp (disch := first | assumption | omega | (with_reducible rfl) | (simp only [go_sem]; done) | (simp only [go_sem]; omega) | fail) only [↓reduceIte, ↓jn_eq, Nat.reduceAdd, go_sem, Bool.not_true, Bool.not_false, hg]; omega)) _ _).trans ?_ | refine (ite_ndec (by first | assumption | omega | (simp (disch := first | assumption | omega | (with_reducible rfl) | (simp only [go_sem]; done) | (simp only [go_sem]; omega) | fail) only [↓reduceIte, ↓jn_eq, Nat.reduceAdd, go_sem, Bool.not_true, Bool.not_false, hg]; done) | (simp (disch := first | assumption | omega | (with_reducible rfl) | (simp only [go_sem]; done) | (simp only [go_sem]; omega) | fail) only [↓reduceIte, ↓jn_eq, Nat.reduceAdd, go_sem, Bool.not_true, Bool.not_false, hg]; omega)) _ _).trans ?_ | fail)
   all_goals rfl
 | succ n ih =>
   intro w f hf hw
   have hr := rowN_len g.es (v : Int) w
   have hm : w * g.es.length ≤ 64 * 512 := Nat.mul_le_mul (by omega) hl
   obtain ⟨f1, hf1, e1⟩ := rn_l4 (g := g) (by omega) (v := (v : Int)) (w := (w : Int)) m0 3 g.es.length 0 f (base ++ rowN g.es (v : Int) w) hf (by omega) (by rw [List.length_append]; omega)
   obtain ⟨f2, hf2, e2⟩ := ih (w + 1) f1 hf1 (by omega)
   refine ⟨f2, hf2, ?_⟩
   have ad : bin .add (.int .i64 (w : Int)) (.int .i64 1) = some (.int .i64 ((w + 1 : Nat) : Int)) := by
    rw [b_add, wrap_i64 (by omega) (by omega)]; rfl
   rw [rowN_succ, ← List.append_assoc] at e2
   rw [← e2]
   rw [List.drop_zero] at e1
   have e1' := e1.trans (bstep ad _)
   rw [← e1', f18_l2_eq]
   clear e1 e2 e1' ih
   generalize base ++ rowN g.es (v : Int) w = acc at *
   rcases hf with rfl | rfl
   all_goals (repeat' with_reducible first | refine (ite_T _ _).trans ?_ | refine (ite_F _ _).trans ?_ | refine (jn_eq _ _).trans ?_ | refine (bstep (by first | rfl | (simp (disch := first | assumption | omega | (with_reducible rfl) | (simp only [go_sem]; done) | (simp only [go_sem]; omega) | fail) only [↓reduceIte, ↓jn_eq, Nat.reduceAdd, go_sem, Bool.not_true, Bool.not_false, hg]; rfl)) _).trans ?_ | refine (if_pos (by first | rfl | (simp (disch := first | assumption | omega | (with_reducible rfl) | (simp only [go_sem]; done) | (simp only [go_sem]; omega) | fail) only [↓reduceIte, ↓jn_eq, Nat.reduceAdd, go_sem, Bool.not_true, Bool.not_false, hg]; done))).trans ?_ | refine (ite_dec (by first | assumption | omega | (simp (disch := first | assumption | omega | (with_reducible rfl) | (simp only [go_sem]; done) | (simp only [go_sem]; omega) | fail) only [↓reduceIte, ↓jn_eq, Nat.reduceAdd, go_sem, Bool.not_true, Bool.not_false, hg]; done) | (simp (disch := first | assumption | omega | (with_reducible rfl) | (simp only [go_sem]; done) | (simp only [go_sem]; omega) | fail) only [↓reduceIte, ↓jn_eq, Nat.reduceAdd, go_sem, Bool.not_true, Bool.not_false, hg]; omega)) _ _).trans ?_ | refine (ite_ndec (by first | assumption | omega | (simp (disch := first | assumption | omega | (with_reducible rfl) | (simp only [go_sem]; done) | (simp only [go_sem]; omega) | fail) only [↓reduceIte, ↓jn_eq, Nat.reduceAdd, go_sem, Bool.not_true, Bool.not_false, hg]; done) | (simp (disch := first | assumption | omega | (with_reducible rfl) | (simp only [go_sem]; done) | (simp only [go_sem]; omega) | fail) only [↓reduceIte, ↓jn_eq, Nat.reduceAdd, go_sem, Bool.not_true, Bool.not_false, hg]; omega)) _ _).trans ?_ | fail)
   all_goals rfl
theorem rn_l0 {g : Grf} (hl : g.es.length ≤ 512) {N : Nat} (hN : N ≤ 64) (hg : g.n = (N : Int)) : ∀ (n v : Nat) (f : Fl), (f = .own ∨ f = .nil) → v + n = N →
 f18_l0 (.ref 0 [] 24) (.ref 1 [] 24) (.ref 2 [] 24) (.int .i64 (v : Int)) (accG g f (allN g.es N v)) = some (vG .sh ⟨g.n, allN g.es N N⟩, []) := by
 intro n
 induction n with
 | zero =>
   intro v f hf hv
   obtain rfl : v = N := by omega
   rw [f18_l0_eq]
   generalize allN g.es v v = acc at *
   rcases hf with rfl | rfl
   all_goals (repeat' with_reducible first | refine (ite_T _ _).trans ?_ | refine (ite_F _ _).trans ?_ | refine (jn_eq _ _).trans ?_ | refine (bstep (by first | rfl | (simp (disch := first | assumption | omega | (with_reducible rfl) | (simp only [go_sem]; done) | (simp only [go_sem]; omega) | fail) only [↓reduceIte, ↓jn_eq, Nat.reduceAdd, go_sem, Bool.not_true, Bool.not_false, hg]; rfl)) _).trans ?_ | refine (if_pos (by first | rfl | (simp (disch := first | assumption | omega | (with_reducible rfl) | (simp only [go_sem]; done) | (simp only [go_sem]; omega) | fail) only [↓reduceIte, ↓jn_eq, Nat.reduceAdd, go_sem, Bool.not_true, Bool.not_false, hg]; done))).trans ?_ | refine (ite_dec (by first | assumption | omega | (simp (disch := first | assumption | omega | (with_reducible rfl) | (simp only [go_sem]; done) | (simp only [go_sem]; omega) | fail) only [↓reduceIte, ↓jn_eq, Nat.reduceAdd, go_sem, Bool.not_true, Bool.not_false, hg]; done) | (simp (disch := first | assumption | omega | (with_reducible rfl) | (simp only [go_sem]; done) | (simp only [go_sem]; omega) | fail) only [↓reduceIte, ↓jn_eq, Nat.reduceAdd, go_sem, Bool.not_true, Bool.not_false, hg]; omega)) _ _).trans ?_ | refine (ite_ndec (by first | assumption | omega | (simp (disch := first | assumption | omega | (with_reducible rfl) | (simp only [go_sem]; done) | (simp only [go_sem]; omega) | fail) only [↓reduceIte, ↓jn_eq, Nat.reduceAdd, go_sem, Bool.not_true, Bool.not_false, hg]; done) | (simp (disch := first | assumption | omega | (with_reducible rfl) | (simp only [go_sem]; done) | (simp only [go_sem]; omega) | fail) only [↓reduceIte, ↓jn_eq, Nat.reduceAdd, go_sem, Bool.not_true, Bool.not_false, hg]; omega)) _ _).trans ?_ | fail)
   all_goals rw [hg]
   all_goals rfl
 | succ n ih =>
   intro v f hf hv
   have hm : v * (N * g.es.length) ≤ 64 * (64 * 512) := Nat.mul_le_mul (by omega) (Nat.mul_le_mul hN hl)
   have ha := allN_len g.es N v
   obtain ⟨f1, hf1, e1⟩ := rn_l2 hl hN hg (v := v) (allN g.es N v) (by omega) 3 N 0 f hf (by omega)
   have ih' := ih (v + 1) f1 hf1 (by omega)
   rw [allN_succ] at ih'
   have ad : bin .add (.int .i64 (v : Int)) (.int .i64 1) = some (.int .i64 ((v + 1 : Nat) : Int)) := by
    rw [b_add, wrap_i64 (by omega) (by omega)]; rfl
   have e1' := e1.trans (bstep ad _)
   rw [show rowN g.es (v : Int) 0 = [] by simp [rowN], List.append_nil] at e1'
   rw [← ih', ← e1', f18_l0_eq]
   clear e1 e1' ih ih'
   generalize allN g.es N v = acc at *
   rcases hf with rfl | rfl
   all_goals (repeat' with_reducible first | refine (ite_T _ _).trans ?_ | refine (ite_F _ _).trans ?_ | refine (jn_eq _ _).trans ?_ | refine (bstep (by first | rfl | (simp (disch := first | assumption | omega | (with_reducible rfl) | (simp only [go_sem]; done) | (simp only [go_sem]; omega) | fail) only [↓reduceIte, ↓jn_eq, Nat.reduceAdd, go_sem, Bool.not_true, Bool.not_false, hg]; rfl)) _).trans ?_ | refine (if_pos (by first | rfl | (simp (disch := first | assumption | omega | (with_reducible rfl) | (simp only [go_sem]; done) | (simp only [go_sem]; omega) | fail) only [↓reduceIte, ↓jn_eq, Nat.reduceAdd, go_sem, Bool.not_true, Bool.not_false, hg]; done))).trans ?_ | refine (ite_dec (by first | assumption | omega | (simp (disch := first | assumption | omega | (with_reducible rfl) | (simp only [go_sem]; done) | (simp only [go_sem]; omega) | fail) only [↓reduceIte, ↓jn_eq, Nat.reduceAdd, go_sem, Bool.not_true, Bool.not_false, hg]; done) | (simp (disch := first | assumption | omega | (with_reducible rfl) | (simp only [go_sem]; done) | (simp only [go_sem]; omega) | fail) only [↓reduceIte, ↓jn_eq, Nat.reduceAdd, go_sem, Bool.not_true, Bool.not_false, hg]; omega)) _ _).trans ?_ | refine (ite_ndec (by first | assumption | omega | (simp (disch := first | assumption | omega | (with_reducible rfl) | (simp only [go_sem]; done) | (simp only [go_sem]; omega) | fail) only [↓reduceIte, ↓jn_eq, Nat.reduceAdd, go_sem, Bool.not_true, Bool.not_false, hg]; done) | (simp (disch := first | assumption | omega | (with_reducible rfl) | (simp only [go_sem]; done) | (simp only [go_sem]; omega) | fail) only [↓reduceIte, ↓jn_eq, Nat.reduceAdd, go_sem, Bool.not_true, Bool.not_false, hg]; omega)) _ _).trans ?_ | fail)
   all_goals rfl
theorem rNorm_am {g : Grf} (hc : chkG g = 0) : Cl 18 [vG .sh g] [] = some (vG .sh (normG g), []) := by
 obtain ⟨⟨g1, g2⟩, g3, g4, g5⟩ := chkG_0 hc
 have h := rn_l0 g3 (N := g.n.toNat) (by omega) (by omega) g.n.toNat 0 .nil (Or.inr rfl) (by omega)
 rw [allN_srt hc, show allN g.es g.n.toNat 0 = [] by simp [allN]] at h
 rw [normG, if_pos hc, ← h, f18_eq]
 clear h
 (repeat' with_reducible first | refine (ite_T _ _).trans ?_ | refine (ite_F _ _).trans ?_ | refine (jn_eq _ _).trans ?_ | refine (bstep (by first | rfl | (simp (disch := first | assumption | omega | (with_reducible rfl) | (simp only [go_sem]; done) | (simp only [go_sem]; omega) | fail) only [↓reduceIte, ↓jn_eq, Nat.reduceAdd, go_sem, Bool.not_true, Bool.not_false]; rfl)) _).trans ?_ | refine (if_pos (by first | rfl | (simp (disch := first | assumption | omega | (with_reducible rfl) | (simp only [go_sem]; done) | (simp only [go_sem]; omega) | fail) only [↓reduceIte, ↓jn_eq, Nat.reduceAdd, go_sem, Bool.not_true, Bool.not_false]; done))).trans ?_ | refine (ite_dec (by first | assumption | omega | (simp (disch := first | assumption | omega | (with_reducible rfl) | (simp only [go_sem]; done) | (simp only [go_sem]; omega) | fail) only [↓reduceIte, ↓jn_eq, Nat.reduceAdd, go_sem, Bool.not_true, Bool.not_false]; done) | (simp (disch := first | assumption | omega | (with_reducible rfl) | (simp only [go_sem]; done) | (simp only [go_sem]; omega) | fail) only [↓reduceIte, ↓jn_eq, Nat.reduceAdd, go_sem, Bool.not_true, Bool.not_false]; omega)) _ _).trans ?_ | refine (ite_ndec (by first | assumption | omega | (simp (disch := first | assumption | omega | (with_reducible rfl) | (simp only [go_sem]; done) | (simp only [go_sem]; omega) | fail) only [↓reduceIte, ↓jn_eq, Nat.reduceAdd, go_sem, Bool.not_true, Bool.not_false]; done) | (simp (disch := first | assumption | omega | (with_reducible rfl) | (simp only [go_sem]; done) | (simp only [go_sem]; omega) | fail) only [↓reduceIte, ↓jn_eq, Nat.reduceAdd, go_sem, Bool.not_true, Bool.not_false]; omega)) _ _).trans ?_ | fail)
 rfl
end Go.Proofs.YtaghnpjlhmgioaaDoor
end

section
set_option linter.unusedVariables false
set_option linter.unusedSimpArgs false
set_option linter.unusedSectionVars false
set_option maxRecDepth 100000
namespace Go.Proofs.YtaghnpjlhmgioaaDoor
open Go AM
theorem normG_idem {g : Grf} (hc : chkG g = 0) : chkG (normG g) = 0 ∧ normG (normG g) = normG g := by
 obtain ⟨hp, hs⟩ := srt_ok hc
 have e : normG g = ⟨g.n, srtE g.es⟩ := by rw [normG, if_pos hc]
 have hc2 : chkG ⟨g.n, srtE g.es⟩ = 0 := by
  obtain ⟨h1, h2, h3, h4⟩ := chkG_0 hc
  have ha : (srtE g.es).any (oddE g.n) = false := by
   rw [List.any_eq_false] at h3 ⊢
   exact fun x hx => h3 x (hp.mem_iff.1 hx)
  rw [chkG, if_pos ⟨h1.1, h1.2, by simp only [srtE_len]; exact h2, ha⟩, if_pos ((hp.map kEd).nodup_iff.2 h4)]
 rw [e]
 refine ⟨hc2, ?_⟩
 obtain ⟨p2, s2⟩ := srt_ok hc2
 have : srtE (srtE g.es) = srtE g.es := uniqE s2 hs fun x => p2.mem_iff
 rw [normG, if_pos hc2, this]
theorem read_l0 {m : Grf} (hm : chkG m = 0) (hs : normG m = m) : ∀ (k i : Nat) (f : Fl), (f = .own ∨ f = .nil) → i + k = m.es.length →
 f23_l0 (.str ((m.es.drop i).flatMap edgeB)) (.ref 0 [] 24) (.ref 1 [] 24) (.int .i64 ((i + 2 : Nat) : Int)) [zG, .agg 23 [.int .i64 m.n, .lst 45 f ((m.es.take i).map vE0)]] = some (.tup [vG .sh m, .int .i64 0, .int .i64 0], []) := by
 obtain ⟨⟨g1, g2⟩, g3, g4, g5⟩ := chkG_0 hm
 have nm := Norm_am (g := m) (by omega)
 rw [hs, hm] at nm
 intro k
 induction k with
 | zero =>
   intro i f hf hi
   have e1 : bin .eql (.int .i64 ((i + 2 : Nat) : Int)) (.int .i64 1) = some (.bool false) := by rw [b_eql, decide_eq_false (by omega)]
   have e2 : bin .neq (.str []) (.str []) = some (.bool false) := rfl
   rw [List.drop_eq_nil_of_le (by omega), List.take_of_length_le (by omega), List.flatMap_nil, f23_l0_eq]
   simp only [f23_r3, f23_r16, f23_r17]
   rcases hf with rfl | rfl
   all_goals (repeat' with_reducible first | refine (ite_T _ _).trans ?_ | refine (ite_F _ _).trans ?_ | refine (jn_eq _ _).trans ?_ | refine (bstep (by first | rfl | (simp (disch := first | assumption | omega | (with_reducible rfl) | (simp only [go_sem]; done) | (simp only [go_sem]; omega) | fail) only [↓reduceIte, ↓jn_eq, Nat.reduceAdd, go_sem, Bool.not_true, Bool.not_false, e1, e2, nm]; rfl)) _).trans ?_ | refine (if_pos (by first | rfl | (simp (disch := first | assumption | omega | (with_reducible rfl) | (simp only [go_sem]; done) | (simp only [go_sem]; omega) | fail) only [↓reduceIte, ↓jn_eq, Nat.reduceAdd, go_sem, Bool.not_true, Bool.not_false, e1, e2, nm]; done))).trans ?_ | refine (ite_dec (by first | assumption | omega | (simp (disch := first | assumption | omega | (with_reducible rfl) | (simp only [go_sem]; done) | (simp only [go_sem]; omega) | fail) only [↓reduceIte, ↓jn_eq, Nat.reduceAdd, go_sem, Bool.not_true, Bool.not_false, e1, e2, nm]; done) | (simp (disch := first | assumption | omega | (with_reducible rfl) | (simp only [go_sem]; done) | (simp only [go_sem]; omega) | fail) only [↓reduceIte, ↓jn_eq, Nat.reduceAdd, go_sem, Bool.not_true, Bool.not_false, e1, e2, nm]; omega)) _ _).trans ?_ | refine (ite_ndec (by first | assumption | omega | (simp (disch := first | assumption | omega | (with_reducible rfl) | (simp only [go_sem]; done) | (simp only [go_sem]; omega) | fail) only [↓reduceIte, ↓jn_eq, Nat.reduceAdd, go_sem, Bool.not_true, Bool.not_false, e1, e2, nm]; done) | (simp (disch := first | assumption | omega | (with_reducible rfl) | (simp only [go_sem]; done) | (simp only [go_sem]; omega) | fail) only [↓reduceIte, ↓jn_eq, Nat.reduceAdd, go_sem, Bool.not_true, Bool.not_false, e1, e2, nm]; omega)) _ _).trans ?_ | fail)
   all_goals rfl
 | succ k ih =>
   intro i f hf hi
   have h : i < m.es.length := by omega
   obtain ⟨b1, b2, b3, b4, b5, b6⟩ := odds_in g4 _ (List.getElem_mem h)
   have ih' := ih (i + 1) .own (Or.inl rfl) (by omega)
   rw [← List.take_append_getElem h, List.map_append, List.map_cons, List.map_nil] at ih'
   have hle : (m.es.take i).length ≤ 512 := by rw [List.length_take]; omega
   have nu := numbers_am (w := edgeW) (by simp [edgeW]) (by simp [edgeW]) (ns := [m.es[i].fr.toNat, m.es[i].to.toNat, m.es[i].w.toNat]) (by
    intro n hn
    simp only [List.mem_cons, List.not_mem_nil, or_false] at hn
    omega) (by simp) (by simp)
   have w10 := words_10 [m.es[i].fr.toNat, m.es[i].to.toNat, m.es[i].w.toNat]
   have hel := edgesB_len (m.es.drop (i + 1))
   have hdl : (m.es.drop (i + 1)).length ≤ 512 := by rw [List.length_drop]; omega
   have wl := wordsB_len [m.es[i].fr.toNat, m.es[i].to.toNat, m.es[i].w.toNat]
   have ct := cut_am (a := edgeW ++ wordsB [m.es[i].fr.toNat, m.es[i].to.toNat, m.es[i].w.toNat]) (b := (m.es.drop (i + 1)).flatMap edgeB) (c := 10) (by
    simp only [List.mem_append, not_or]
    exact ⟨by simp [edgeW], w10⟩) (by simp only [List.length_append, List.length_cons, List.length_nil, edgeW] at wl ⊢; omega)
   have et : (m.es.drop i).flatMap edgeB = (edgeW ++ wordsB [m.es[i].fr.toNat, m.es[i].to.toNat, m.es[i].w.toNat]) ++ 10 :: (m.es.drop (i + 1)).flatMap edgeB := by
    rw [List.drop_eq_getElem_cons h, List.flatMap_cons, edgeB, lineB]; simp
   simp only [vNats, List.map_cons, List.map_nil, List.length_cons, List.length_nil, Nat.zero_add, Nat.reduceAdd, show ((m.es[i].fr.toNat : Nat) : Int) = m.es[i].fr by omega, show ((m.es[i].to.toNat : Nat) : Int) = m.es[i].to by omega, show ((m.es[i].w.toNat : Nat) : Int) = m.es[i].w by omega] at nu
   rw [et]
   have e1 : bin .eql (.int .i64 ((i + 2 : Nat) : Int)) (.int .i64 1) = some (.bool false) := by rw [b_eql, decide_eq_false (by omega)]
   have e2 : bin .neq (.str ((edgeW ++ wordsB [m.es[i].fr.toNat, m.es[i].to.toNat, m.es[i].w.toNat]) ++ 10 :: (m.es.drop (i + 1)).flatMap edgeB)) (.str []) = some (.bool true) := by simp [bin]
   have ad : bin .add (.int .i64 ((i + 2 : Nat) : Int)) (.int .i64 1) = some (.int .i64 ((i + 1 + 2 : Nat) : Int)) := by
    rw [b_add, wrap_i64 (by omega) (by omega)]; rw [show ((i + 2 : Nat) : Int) + 1 = ((i + 1 + 2 : Nat) : Int) by omega]
   have tk : ∀ (z x0 : V) (rs : List V) (f : Fl), ldTake [z, .agg 23 [x0, .lst 45 f rs]] 22 (.ref 1 [1] 22) = some (.lst 45 f rs, [z, .agg 23 [x0, .lst 45 f.wk rs]]) :=
    fun z x0 rs f => ldTake_g (h := [z, .agg 23 [x0, .lst 45 f rs]]) (id := 1) rfl rfl
   have sb1 : sameB (.ref 1 [] 24) (.ref 1 [1] 22) = true := rfl
   have lw : ∀ x, lowB true [.rop 3 (.int .i64 x)] = true := fun _ => rfl
   have i0 : ∀ a b c : Int, ixS 3 (V.weak (.lst 3 .sh [.int .i64 a, .int .i64 b, .int .i64 c])) (.int .i64 0) = some (.rop 3 (.int .i64 a)) := fun _ _ _ => rfl
   have i1 : ∀ a b c : Int, ixS 3 (V.weak (.lst 3 .sh [.int .i64 a, .int .i64 b, .int .i64 c])) (.int .i64 1) = some (.rop 3 (.int .i64 b)) := fun _ _ _ => rfl
   have i2 : ∀ a b c : Int, ixS 3 (V.weak (.lst 3 .sh [.int .i64 a, .int .i64 b, .int .i64 c])) (.int .i64 2) = some (.rop 3 (.int .i64 c)) := fun _ _ _ => rfl
   have i0' : ∀ a b c : Int, ixS 3 (.lst 3 .sh [.int .i64 a, .int .i64 b, .int .i64 c]) (.int .i64 0) = some (.rop 3 (.int .i64 a)) := fun _ _ _ => rfl
   have i1' : ∀ a b c : Int, ixS 3 (.lst 3 .sh [.int .i64 a, .int .i64 b, .int .i64 c]) (.int .i64 1) = some (.rop 3 (.int .i64 b)) := fun _ _ _ => rfl
   have i2' : ∀ a b c : Int, ixS 3 (.lst 3 .sh [.int .i64 a, .int .i64 b, .int .i64 c]) (.int .i64 2) = some (.rop 3 (.int .i64 c)) := fun _ _ _ => rfl
   have nu' : Cl 36 [.str (edgeW ++ wordsB [m.es[i].fr.toNat, m.es[i].to.toNat, m.es[i].w.toNat]), .str edgeW, .int .i64 3] [] = _ := nu
   simp only [edgeW] at nu' ct e2 ⊢
   rw [← ih', f23_l0_eq]
   simp only [f23_r3, f23_r4, f23_r5, f23_r6, f23_r7, f23_r8, f23_r9, f23_r10, f23_r12, f23_r13, f23_r14, f23_r15]
   clear ih ih' nm et
   generalize ([101, 100, 103, 101] : List UInt8) ++ wordsB [m.es[i].fr.toNat, m.es[i].to.toNat, m.es[i].w.toNat] ++ 10 :: (m.es.drop (i + 1)).flatMap edgeB = t at *
   generalize ([101, 100, 103, 101] : List UInt8) ++ wordsB [m.es[i].fr.toNat, m.es[i].to.toNat, m.es[i].w.toNat] = ln at *
   generalize (m.es.drop (i + 1)).flatMap edgeB = r at *
   generalize m.es.take i = done at *
   generalize m.es[i] = e at *
   simp only [vE0]
   rcases hf with rfl | rfl
   all_goals (repeat' with_reducible first | refine (ite_T _ _).trans ?_ | refine (ite_F _ _).trans ?_ | refine (jn_eq _ _).trans ?_ | refine (bstep (by first | rfl | (simp (disch := first | assumption | omega | (with_reducible rfl) | (simp only [go_sem]; done) | (simp only [go_sem]; omega) | fail) only [↓reduceIte, ↓jn_eq, Nat.reduceAdd, go_sem, Bool.not_true, Bool.not_false, e1, e2, ct, nu', ad, tk, sb1, lw, i0, i1, i2, i0', i1', i2', wk_own, wk_nil]; rfl)) _).trans ?_ | refine (if_pos (by first | rfl | (simp (disch := first | assumption | omega | (with_reducible rfl) | (simp only [go_sem]; done) | (simp only [go_sem]; omega) | fail) only [↓reduceIte, ↓jn_eq, Nat.reduceAdd, go_sem, Bool.not_true, Bool.not_false, e1, e2, ct, nu', ad, tk, sb1, lw, i0, i1, i2, i0', i1', i2', wk_own, wk_nil]; done))).trans ?_ | refine (ite_dec (by first | assumption | omega | (simp (disch := first | assumption | omega | (with_reducible rfl) | (simp only [go_sem]; done) | (simp only [go_sem]; omega) | fail) only [↓reduceIte, ↓jn_eq, Nat.reduceAdd, go_sem, Bool.not_true, Bool.not_false, e1, e2, ct, nu', ad, tk, sb1, lw, i0, i1, i2, i0', i1', i2', wk_own, wk_nil]; done) | (simp (disch := first | assumption | omega | (with_reducible rfl) | (simp only [go_sem]; done) | (simp only [go_sem]; omega) | fail) only [↓reduceIte, ↓jn_eq, Nat.reduceAdd, go_sem, Bool.not_true, Bool.not_false, e1, e2, ct, nu', ad, tk, sb1, lw, i0, i1, i2, i0', i1', i2', wk_own, wk_nil]; omega)) _ _).trans ?_ | refine (ite_ndec (by first | assumption | omega | (simp (disch := first | assumption | omega | (with_reducible rfl) | (simp only [go_sem]; done) | (simp only [go_sem]; omega) | fail) only [↓reduceIte, ↓jn_eq, Nat.reduceAdd, go_sem, Bool.not_true, Bool.not_false, e1, e2, ct, nu', ad, tk, sb1, lw, i0, i1, i2, i0', i1', i2', wk_own, wk_nil]; done) | (simp (disch := first | assumption | omega | (with_reducible rfl) | (simp only [go_sem]; done) | (simp only [go_sem]; omega) | fail) only [↓reduceIte, ↓jn_eq, Nat.reduceAdd, go_sem, Bool.not_true, Bool.not_false, e1, e2, ct, nu', ad, tk, sb1, lw, i0, i1, i2, i0', i1', i2', wk_own, wk_nil]; omega)) _ _).trans ?_ | fail)
   all_goals rfl
theorem Read_am {m : Grf} (hm : chkG m = 0) (hs : normG m = m) : Cl 23 [.str (showB m)] [] = some (.tup [vG .sh m, .int .i64 0, .int .i64 0], []) := by
 obtain ⟨⟨g1, g2⟩, g3, g4, g5⟩ := chkG_0 hm
 have h0 := read_l0 hm hs m.es.length 0 .nil (Or.inr rfl) (by omega)
 rw [List.drop_zero, List.take_zero, List.map_nil] at h0
 have nu := numbers_am (w := graphW) (by simp [graphW]) (by simp [graphW]) (ns := [m.n.toNat]) (by
  intro n hn
  simp only [List.mem_cons, List.not_mem_nil, or_false] at hn
  omega) (by simp) (by simp)
 have w10 := words_10 [m.n.toNat]
 have hel := edgesB_len m.es
 have wl := wordsB_len [m.n.toNat]
 have ct := cut_am (a := graphW ++ wordsB [m.n.toNat]) (b := m.es.flatMap edgeB) (c := 10) (by
  simp only [List.mem_append, not_or]
  exact ⟨by simp [graphW], w10⟩) (by simp only [List.length_append, List.length_cons, List.length_nil, graphW] at wl ⊢; omega)
 have et : showB m = (graphW ++ wordsB [m.n.toNat]) ++ 10 :: m.es.flatMap edgeB := by
  rw [showB, lineB]; simp
 simp only [vNats, List.map_cons, List.map_nil, List.length_cons, List.length_nil, Nat.zero_add, Nat.reduceAdd, show ((m.n.toNat : Nat) : Int) = m.n by omega] at nu
 have e1 : bin .eql (.int .i64 1) (.int .i64 1) = some (.bool true) := rfl
 have ad : bin .add (.int .i64 1) (.int .i64 1) = some (.int .i64 ((0 + 2 : Nat) : Int)) := rfl
 have i0 : ∀ a : Int, ixS 3 (.lst 3 .sh [.int .i64 a]) (.int .i64 0) = some (.rop 3 (.int .i64 a)) := fun _ => rfl
 rw [et]
 have nu' : Cl 36 [.str (graphW ++ wordsB [m.n.toNat]), .str graphW, .int .i64 1] [] = _ := nu
 simp only [graphW] at nu' ct ⊢
 rw [← h0, f23_eq]
 simp only [f23_r0, f23_r1, f23_r2, List.nil_append, List.length_nil, List.cons_append, List.length_cons, Nat.zero_add]
 rw [f23_l0_eq]
 simp only [f23_r3, f23_r4, f23_r5, f23_r6, f23_r7, f23_r8, f23_r9, f23_r10, f23_r12, f23_r13, f23_r14, f23_r15]
 clear h0 et
 simp only [List.cons_append, List.nil_append] at ct nu'
 generalize 103 :: 114 :: 97 :: 112 :: 104 :: (wordsB [m.n.toNat] ++ 10 :: m.es.flatMap edgeB) = t at *
 generalize 103 :: 114 :: 97 :: 112 :: 104 :: wordsB [m.n.toNat] = ln at *
 generalize m.es.flatMap edgeB = r at *
 (repeat' with_reducible first | refine (ite_T _ _).trans ?_ | refine (ite_F _ _).trans ?_ | refine (jn_eq _ _).trans ?_ | refine (bstep (by first | rfl | (simp (disch := first | assumption | omega | (with_reducible rfl) | (simp only [go_sem]; done) | (simp only [go_sem]; omega) | fail) only [↓reduceIte, ↓jn_eq, Nat.reduceAdd, go_sem, Bool.not_true, Bool.not_false, e1, ct, nu', ad, i0]; rfl)) _).trans ?_ | refine (if_pos (by first | rfl | (simp (disch := first | assumption | omega | (with_reducible rfl) | (simp only [go_sem]; done) | (simp only [go_sem]; omega) | fail) only [↓reduceIte, ↓jn_eq, Nat.reduceAdd, go_sem, Bool.not_true, Bool.not_false, e1, ct, nu', ad, i0]; done))).trans ?_ | refine (ite_dec (by first | assumption | omega | (simp (disch := first | assumption | omega | (with_reducible rfl) | (simp only [go_sem]; done) | (simp only [go_sem]; omega) | fail) only [↓reduceIte, ↓jn_eq, Nat.reduceAdd, go_sem, Bool.not_true, Bool.not_false, e1, ct, nu', ad, i0]; done) | (simp (disch := first | assumption | omega | (with_reducible rfl) | (simp only [go_sem]; done) | (simp only [go_sem]; omega) | fail) only [↓reduceIte, ↓jn_eq, Nat.reduceAdd, go_sem, Bool.not_true, Bool.not_false, e1, ct, nu', ad, i0]; omega)) _ _).trans ?_ | refine (ite_ndec (by first | assumption | omega | (simp (disch := first | assumption | omega | (with_reducible rfl) | (simp only [go_sem]; done) | (simp only [go_sem]; omega) | fail) only [↓reduceIte, ↓jn_eq, Nat.reduceAdd, go_sem, Bool.not_true, Bool.not_false, e1, ct, nu', ad, i0]; done) | (simp (disch := first | assumption | omega | (with_reducible rfl) | (simp only [go_sem]; done) | (simp only [go_sem]; omega) | fail) only [↓reduceIte, ↓jn_eq, Nat.reduceAdd, go_sem, Bool.not_true, Bool.not_false, e1, ct, nu', ad, i0]; omega)) _ _).trans ?_ | fail)
 rfl
end Go.Proofs.YtaghnpjlhmgioaaDoor
end

section
set_option linter.unusedVariables false
set_option linter.unusedSimpArgs false
set_option linter.unusedSectionVars false
set_option maxRecDepth 100000
namespace Go.Proofs.YtaghnpjlhmgioaaDoor
open Go AM
theorem cvT_d (h : List V) {k : Nat} (hk : k < 10) : cvT h (.lst 5 .own [.int .u8 ((48 + k : Nat) : Int)]) = some (.str [dg k]) :=
 cvT_of (fun z h => by cases h) (by
  have : (dg k).toNat = 48 + k := by simp [dg]; omega
  simp only [content, bytesOf, List.map_cons, List.map_nil, this])
theorem digits_l0 : ∀ (f n : Nat) (s : List UInt8), n < 10 ^ f → 0 < f → s.length + f ≤ 100 → f ≤ 8 → (s = [] ∨ 0 < n) →
 f37_l0 (.int .i64 (n : Int)) (.str s) = some (.str (decF f n ++ s), []) := by
 intro f
 induction f with
 | zero => intro n s hn h0; omega
 | succ f ih =>
   intro n s hn _ hs hf hc
   have hp : (10 : Nat) ^ (f + 1) ≤ 10 ^ 8 := Nat.pow_le_pow_right (by omega) hf
   have hk : n % 10 < 10 := Nat.mod_lt _ (by omega)
   have rm : bin .rem (.int .i64 (n : Int)) (.int .i64 10) = some (.int .i64 ((n % 10 : Nat) : Int)) := remN (b := 10) (by omega) _
   have ad : bin .add (.int .i64 48) (.int .i64 ((n % 10 : Nat) : Int)) = some (.int .i64 ((48 + n % 10 : Nat) : Int)) := by rw [b_add, wrap_i64 (by omega) (by omega)]; rfl
   have cv : cvI .u8 (.int .i64 ((48 + n % 10 : Nat) : Int)) = some (.int .u8 ((48 + n % 10 : Nat) : Int)) := cvI_u8 (by omega) (by omega)
   have ct := fun h => cvT_d h hk
   have qu : bin .quo (.int .i64 (n : Int)) (.int .i64 10) = some (.int .i64 ((n / 10 : Nat) : Int)) := by
    rw [b_quo _ _ _ (by omega), show (n : Int).tdiv 10 = ((n / 10 : Nat) : Int) from (natDivMod n 10).1, wrap_i64 (by omega) (by omega)]
   have a2 : bin .add (.str [dg (n % 10)]) (.str s) = some (.str (dg (n % 10) :: s)) := s_add [dg (n % 10)] s (by simp; omega)
   have step : f37_l0 (.int .i64 (n : Int)) (.str s) = f37_l0 (.int .i64 ((n / 10 : Nat) : Int)) (.str (dg (n % 10) :: s)) := by
    conv => lhs; rw [f37_l0_eq]
    generalize f37_l0 = L at *
    generalize dg (n % 10) = d at *
    generalize n / 10 = q at *
    generalize n % 10 = r at *
    rcases hc with rfl | h0
    · have e0 : bin .eql (.str []) (.str []) = some (.bool true) := rfl
      (repeat' with_reducible first | refine (ite_T _ _).trans ?_ | refine (ite_F _ _).trans ?_ | refine (jn_eq _ _).trans ?_ | refine (bstep (by first | rfl | (simp (disch := first | assumption | omega | (with_reducible rfl) | (simp only [go_sem]; done) | (simp only [go_sem]; omega) | fail) only [↓reduceIte, ↓jn_eq, Nat.reduceAdd, go_sem, Bool.not_true, Bool.not_false, rm, ad, cv, ct, qu, a2, e0]; rfl)) _).trans ?_ | refine (if_pos (by first | rfl | (simp (disch := first | assumption | omega | (with_reducible rfl) | (simp only [go_sem]; done) | (simp only [go_sem]; omega) | fail) only [↓reduceIte, ↓jn_eq, Nat.reduceAdd, go_sem, Bool.not_true, Bool.not_false, rm, ad, cv, ct, qu, a2, e0]; done))).trans ?_ | refine (ite_dec (by first | assumption | omega | (simp (disch := first | assumption | omega | (with_reducible rfl) | (simp only [go_sem]; done) | (simp only [go_sem]; omega) | fail) only [↓reduceIte, ↓jn_eq, Nat.reduceAdd, go_sem, Bool.not_true, Bool.not_false, rm, ad, cv, ct, qu, a2, e0]; done) | (simp (disch := first | assumption | omega | (with_reducible rfl) | (simp only [go_sem]; done) | (simp only [go_sem]; omega) | fail) only [↓reduceIte, ↓jn_eq, Nat.reduceAdd, go_sem, Bool.not_true, Bool.not_false, rm, ad, cv, ct, qu, a2, e0]; omega)) _ _).trans ?_ | refine (ite_ndec (by first | assumption | omega | (simp (disch := first | assumption | omega | (with_reducible rfl) | (simp only [go_sem]; done) | (simp only [go_sem]; omega) | fail) only [↓reduceIte, ↓jn_eq, Nat.reduceAdd, go_sem, Bool.not_true, Bool.not_false, rm, ad, cv, ct, qu, a2, e0]; done) | (simp (disch := first | assumption | omega | (with_reducible rfl) | (simp only [go_sem]; done) | (simp only [go_sem]; omega) | fail) only [↓reduceIte, ↓jn_eq, Nat.reduceAdd, go_sem, Bool.not_true, Bool.not_false, rm, ad, cv, ct, qu, a2, e0]; omega)) _ _).trans ?_ | fail)
      rfl
    · cases s with
      | nil =>
        have e0 : bin .eql (.str []) (.str []) = some (.bool true) := rfl
        (repeat' with_reducible first | refine (ite_T _ _).trans ?_ | refine (ite_F _ _).trans ?_ | refine (jn_eq _ _).trans ?_ | refine (bstep (by first | rfl | (simp (disch := first | assumption | omega | (with_reducible rfl) | (simp only [go_sem]; done) | (simp only [go_sem]; omega) | fail) only [↓reduceIte, ↓jn_eq, Nat.reduceAdd, go_sem, Bool.not_true, Bool.not_false, rm, ad, cv, ct, qu, a2, e0]; rfl)) _).trans ?_ | refine (if_pos (by first | rfl | (simp (disch := first | assumption | omega | (with_reducible rfl) | (simp only [go_sem]; done) | (simp only [go_sem]; omega) | fail) only [↓reduceIte, ↓jn_eq, Nat.reduceAdd, go_sem, Bool.not_true, Bool.not_false, rm, ad, cv, ct, qu, a2, e0]; done))).trans ?_ | refine (ite_dec (by first | assumption | omega | (simp (disch := first | assumption | omega | (with_reducible rfl) | (simp only [go_sem]; done) | (simp only [go_sem]; omega) | fail) only [↓reduceIte, ↓jn_eq, Nat.reduceAdd, go_sem, Bool.not_true, Bool.not_false, rm, ad, cv, ct, qu, a2, e0]; done) | (simp (disch := first | assumption | omega | (with_reducible rfl) | (simp only [go_sem]; done) | (simp only [go_sem]; omega) | fail) only [↓reduceIte, ↓jn_eq, Nat.reduceAdd, go_sem, Bool.not_true, Bool.not_false, rm, ad, cv, ct, qu, a2, e0]; omega)) _ _).trans ?_ | refine (ite_ndec (by first | assumption | omega | (simp (disch := first | assumption | omega | (with_reducible rfl) | (simp only [go_sem]; done) | (simp only [go_sem]; omega) | fail) only [↓reduceIte, ↓jn_eq, Nat.reduceAdd, go_sem, Bool.not_true, Bool.not_false, rm, ad, cv, ct, qu, a2, e0]; done) | (simp (disch := first | assumption | omega | (with_reducible rfl) | (simp only [go_sem]; done) | (simp only [go_sem]; omega) | fail) only [↓reduceIte, ↓jn_eq, Nat.reduceAdd, go_sem, Bool.not_true, Bool.not_false, rm, ad, cv, ct, qu, a2, e0]; omega)) _ _).trans ?_ | fail)
        rfl
      | cons c s =>
        have e0 : bin .eql (.str (c :: s)) (.str []) = some (.bool false) := rfl
        (repeat' with_reducible first | refine (ite_T _ _).trans ?_ | refine (ite_F _ _).trans ?_ | refine (jn_eq _ _).trans ?_ | refine (bstep (by first | rfl | (simp (disch := first | assumption | omega | (with_reducible rfl) | (simp only [go_sem]; done) | (simp only [go_sem]; omega) | fail) only [↓reduceIte, ↓jn_eq, Nat.reduceAdd, go_sem, Bool.not_true, Bool.not_false, rm, ad, cv, ct, qu, a2, e0]; rfl)) _).trans ?_ | refine (if_pos (by first | rfl | (simp (disch := first | assumption | omega | (with_reducible rfl) | (simp only [go_sem]; done) | (simp only [go_sem]; omega) | fail) only [↓reduceIte, ↓jn_eq, Nat.reduceAdd, go_sem, Bool.not_true, Bool.not_false, rm, ad, cv, ct, qu, a2, e0]; done))).trans ?_ | refine (ite_dec (by first | assumption | omega | (simp (disch := first | assumption | omega | (with_reducible rfl) | (simp only [go_sem]; done) | (simp only [go_sem]; omega) | fail) only [↓reduceIte, ↓jn_eq, Nat.reduceAdd, go_sem, Bool.not_true, Bool.not_false, rm, ad, cv, ct, qu, a2, e0]; done) | (simp (disch := first | assumption | omega | (with_reducible rfl) | (simp only [go_sem]; done) | (simp only [go_sem]; omega) | fail) only [↓reduceIte, ↓jn_eq, Nat.reduceAdd, go_sem, Bool.not_true, Bool.not_false, rm, ad, cv, ct, qu, a2, e0]; omega)) _ _).trans ?_ | refine (ite_ndec (by first | assumption | omega | (simp (disch := first | assumption | omega | (with_reducible rfl) | (simp only [go_sem]; done) | (simp only [go_sem]; omega) | fail) only [↓reduceIte, ↓jn_eq, Nat.reduceAdd, go_sem, Bool.not_true, Bool.not_false, rm, ad, cv, ct, qu, a2, e0]; done) | (simp (disch := first | assumption | omega | (with_reducible rfl) | (simp only [go_sem]; done) | (simp only [go_sem]; omega) | fail) only [↓reduceIte, ↓jn_eq, Nat.reduceAdd, go_sem, Bool.not_true, Bool.not_false, rm, ad, cv, ct, qu, a2, e0]; omega)) _ _).trans ?_ | fail)
        rfl
   rw [step]
   by_cases h10 : n < 10
   · have q0 : n / 10 = 0 := by omega
     have r0 : n % 10 = n := by omega
     rw [decF, if_pos h10, q0, r0, f37_l0_eq]
     have e0 : bin .eql (.str (dg n :: s)) (.str []) = some (.bool false) := rfl
     (repeat' with_reducible first | refine (ite_T _ _).trans ?_ | refine (ite_F _ _).trans ?_ | refine (jn_eq _ _).trans ?_ | refine (bstep (by first | rfl | (simp (disch := first | assumption | omega | (with_reducible rfl) | (simp only [go_sem]; done) | (simp only [go_sem]; omega) | fail) only [↓reduceIte, ↓jn_eq, Nat.reduceAdd, go_sem, Bool.not_true, Bool.not_false, e0]; rfl)) _).trans ?_ | refine (if_pos (by first | rfl | (simp (disch := first | assumption | omega | (with_reducible rfl) | (simp only [go_sem]; done) | (simp only [go_sem]; omega) | fail) only [↓reduceIte, ↓jn_eq, Nat.reduceAdd, go_sem, Bool.not_true, Bool.not_false, e0]; done))).trans ?_ | refine (ite_dec (by first | assumption | omega | (simp (disch := first | assumption | omega | (with_reducible rfl) | (simp only [go_sem]; done) | (simp only [go_sem]; omega) | fail) only [↓reduceIte, ↓jn_eq, Nat.reduceAdd, go_sem, Bool.not_true, Bool.not_false, e0]; done) | (simp (disch := first | assumption | omega | (with_reducible rfl) | (simp only [go_sem]; done) | (simp only [go_sem]; omega) | fail) only [↓reduceIte, ↓jn_eq, Nat.reduceAdd, go_sem, Bool.not_true, Bool.not_false, e0]; omega)) _ _).trans ?_ | refine (ite_ndec (by first | assumption | omega | (simp (disch := first | assumption | omega | (with_reducible rfl) | (simp only [go_sem]; done) | (simp only [go_sem]; omega) | fail) only [↓reduceIte, ↓jn_eq, Nat.reduceAdd, go_sem, Bool.not_true, Bool.not_false, e0]; done) | (simp (disch := first | assumption | omega | (with_reducible rfl) | (simp only [go_sem]; done) | (simp only [go_sem]; omega) | fail) only [↓reduceIte, ↓jn_eq, Nat.reduceAdd, go_sem, Bool.not_true, Bool.not_false, e0]; omega)) _ _).trans ?_ | fail)
     rfl
   · rw [decF, if_neg h10, ih (n / 10) (dg (n % 10) :: s) (by
      obtain ⟨p, hp'⟩ : ∃ p, 10 ^ f = p := ⟨_, rfl⟩
      rw [Nat.pow_succ, hp'] at hn; rw [hp']; omega) (by
      cases f with
      | zero => simp at hn; omega
      | succ => omega) (by simp; omega) (by omega) (Or.inr (by omega))]
     simp
theorem digits_am {n : Nat} (h : n ≤ 1048576) : Cl 37 [.int .i64 (n : Int)] [] = some (.str (decB n), []) := by
 have e := digits_l0 8 n [] (by omega) (by omega) (by simp) (by omega) (Or.inl rfl)
 rw [List.append_nil] at e
 rw [decB, ← e, f37_eq]
theorem edgeB_eq (e : E0) : edgeB e = ((((([101, 100, 103, 101, 32] ++ decB e.fr.toNat) ++ [32]) ++ decB e.to.toNat) ++ [32]) ++ decB e.w.toNat) ++ [10] := by simp [edgeB, lineB, wordsB, edgeW]
theorem rshow_l0 {m : Grf} (hl : m.es.length ≤ 512) (hb : ∀ e ∈ m.es, 0 ≤ e.fr ∧ e.fr ≤ 64 ∧ 0 ≤ e.to ∧ e.to ≤ 64 ∧ 0 ≤ e.w ∧ e.w ≤ 1048576) {p : List UInt8} (hp : p.length ≤ 1000) (a : V) : ∀ (n i : Nat), i + n = m.es.length →
 f24_l0 (.ref 1 [] 24) (.str (p ++ (m.es.take i).flatMap edgeB)) (.int .i64 (i : Int)) [a, vG .sh m] = some (.str (p ++ m.es.flatMap edgeB), []) := by
 intro n
 induction n with
 | zero =>
   intro i hi
   rw [List.take_of_length_le (by omega), f24_l0_eq]
   generalize p ++ m.es.flatMap edgeB = x at *
   (repeat' with_reducible first | refine (ite_T _ _).trans ?_ | refine (ite_F _ _).trans ?_ | refine (jn_eq _ _).trans ?_ | refine (bstep (by first | rfl | (simp (disch := first | assumption | omega | (with_reducible rfl) | (simp only [go_sem]; done) | (simp only [go_sem]; omega) | fail) only [↓reduceIte, ↓jn_eq, Nat.reduceAdd, go_sem, Bool.not_true, Bool.not_false]; rfl)) _).trans ?_ | refine (if_pos (by first | rfl | (simp (disch := first | assumption | omega | (with_reducible rfl) | (simp only [go_sem]; done) | (simp only [go_sem]; omega) | fail) only [↓reduceIte, ↓jn_eq, Nat.reduceAdd, go_sem, Bool.not_true, Bool.not_false]; done))).trans ?_ | refine (ite_dec (by first | assumption | omega | (simp (disch := first | assumption | omega | (with_reducible rfl) | (simp only [go_sem]; done) | (simp only [go_sem]; omega) | fail) only [↓reduceIte, ↓jn_eq, Nat.reduceAdd, go_sem, Bool.not_true, Bool.not_false]; done) | (simp (disch := first | assumption | omega | (with_reducible rfl) | (simp only [go_sem]; done) | (simp only [go_sem]; omega) | fail) only [↓reduceIte, ↓jn_eq, Nat.reduceAdd, go_sem, Bool.not_true, Bool.not_false]; omega)) _ _).trans ?_ | refine (ite_ndec (by first | assumption | omega | (simp (disch := first | assumption | omega | (with_reducible rfl) | (simp only [go_sem]; done) | (simp only [go_sem]; omega) | fail) only [↓reduceIte, ↓jn_eq, Nat.reduceAdd, go_sem, Bool.not_true, Bool.not_false]; done) | (simp (disch := first | assumption | omega | (with_reducible rfl) | (simp only [go_sem]; done) | (simp only [go_sem]; omega) | fail) only [↓reduceIte, ↓jn_eq, Nat.reduceAdd, go_sem, Bool.not_true, Bool.not_false]; omega)) _ _).trans ?_ | fail)
   rfl
 | succ n ih =>
   intro i hi
   have h : i < m.es.length := by omega
   have hx := E0_at h
   obtain ⟨b1, b2, b3, b4, b5, b6⟩ := hb _ (List.getElem_mem h)
   have hel := edgesB_len (m.es.take i)
   have htl : (m.es.take i).length ≤ 512 := by rw [List.length_take]; omega
   have ih' := ih (i + 1) (by omega)
   rw [← List.take_append_getElem h, List.flatMap_append, List.flatMap_cons, List.flatMap_nil, List.append_nil, ← List.append_assoc, edgeB_eq] at ih'
   have d1 := digits_am (n := m.es[i].fr.toNat) (by omega)
   have d2 := digits_am (n := m.es[i].to.toNat) (by omega)
   have d3 := digits_am (n := m.es[i].w.toNat) (by omega)
   have l1 := decB_len m.es[i].fr.toNat
   have l2 := decB_len m.es[i].to.toNat
   have l3 := decB_len m.es[i].w.toNat
   rw [show ((m.es[i].fr.toNat : Nat) : Int) = m.es[i].fr by omega] at d1
   rw [show ((m.es[i].to.toNat : Nat) : Int) = m.es[i].to by omega] at d2
   rw [show ((m.es[i].w.toNat : Nat) : Int) = m.es[i].w by omega] at d3
   rw [← ih', f24_l0_eq]
   clear ih ih'
   have hpl : (p ++ (m.es.take i).flatMap edgeB).length ≤ 20000 := by rw [List.length_append]; omega
   generalize p ++ (m.es.take i).flatMap edgeB = x at *
   generalize decB m.es[i].fr.toNat = y1 at *
   generalize decB m.es[i].to.toNat = y2 at *
   generalize decB m.es[i].w.toNat = y3 at *
   generalize m.es[i] = e at *
   simp only [vE0] at hx
   have a1 : bin .add (.str [101, 100, 103, 101, 32]) (.str y1) = some (.str ([101, 100, 103, 101, 32] ++ y1)) := s_add _ _ (by simp only [List.length_append, List.length_cons, List.length_nil]; omega)
   have a2 : bin .add (.str ([101, 100, 103, 101, 32] ++ y1)) (.str [32]) = some (.str (([101, 100, 103, 101, 32] ++ y1) ++ [32])) := s_add _ _ (by simp only [List.length_append, List.length_cons, List.length_nil]; omega)
   have a3 : bin .add (.str (([101, 100, 103, 101, 32] ++ y1) ++ [32])) (.str y2) = some (.str ((([101, 100, 103, 101, 32] ++ y1) ++ [32]) ++ y2)) := s_add _ _ (by simp only [List.length_append, List.length_cons, List.length_nil]; omega)
   have a4 : bin .add (.str ((([101, 100, 103, 101, 32] ++ y1) ++ [32]) ++ y2)) (.str [32]) = some (.str (((([101, 100, 103, 101, 32] ++ y1) ++ [32]) ++ y2) ++ [32])) := s_add _ _ (by simp only [List.length_append, List.length_cons, List.length_nil]; omega)
   have a5 : bin .add (.str (((([101, 100, 103, 101, 32] ++ y1) ++ [32]) ++ y2) ++ [32])) (.str y3) = some (.str ((((([101, 100, 103, 101, 32] ++ y1) ++ [32]) ++ y2) ++ [32]) ++ y3)) := s_add _ _ (by simp only [List.length_append, List.length_cons, List.length_nil]; omega)
   have a6 : bin .add (.str ((((([101, 100, 103, 101, 32] ++ y1) ++ [32]) ++ y2) ++ [32]) ++ y3)) (.str [10]) = some (.str (((((([101, 100, 103, 101, 32] ++ y1) ++ [32]) ++ y2) ++ [32]) ++ y3) ++ [10])) := s_add _ _ (by simp only [List.length_append, List.length_cons, List.length_nil]; omega)
   have a7 : bin .add (.str x) (.str (((((([101, 100, 103, 101, 32] ++ y1) ++ [32]) ++ y2) ++ [32]) ++ y3) ++ [10])) = some (.str (x ++ (((((([101, 100, 103, 101, 32] ++ y1) ++ [32]) ++ y2) ++ [32]) ++ y3) ++ [10]))) := s_add _ _ (by simp only [List.length_append, List.length_cons, List.length_nil]; omega)
   (repeat' with_reducible first | refine (ite_T _ _).trans ?_ | refine (ite_F _ _).trans ?_ | refine (jn_eq _ _).trans ?_ | refine (bstep (by first | rfl | (simp (disch := first | assumption | omega | (with_reducible rfl) | (simp only [go_sem]; done) | (simp only [go_sem]; omega) | fail) only [↓reduceIte, ↓jn_eq, Nat.reduceAdd, go_sem, Bool.not_true, Bool.not_false, hx, d1, d2, d3, a1, a2, a3, a4, a5, a6, a7]; rfl)) _).trans ?_ | refine (if_pos (by first | rfl | (simp (disch := first | assumption | omega | (with_reducible rfl) | (simp only [go_sem]; done) | (simp only [go_sem]; omega) | fail) only [↓reduceIte, ↓jn_eq, Nat.reduceAdd, go_sem, Bool.not_true, Bool.not_false, hx, d1, d2, d3, a1, a2, a3, a4, a5, a6, a7]; done))).trans ?_ | refine (ite_dec (by first | assumption | omega | (simp (disch := first | assumption | omega | (with_reducible rfl) | (simp only [go_sem]; done) | (simp only [go_sem]; omega) | fail) only [↓reduceIte, ↓jn_eq, Nat.reduceAdd, go_sem, Bool.not_true, Bool.not_false, hx, d1, d2, d3, a1, a2, a3, a4, a5, a6, a7]; done) | (simp (disch := first | assumption | omega | (with_reducible rfl) | (simp only [go_sem]; done) | (simp only [go_sem]; omega) | fail) only [↓reduceIte, ↓jn_eq, Nat.reduceAdd, go_sem, Bool.not_true, Bool.not_false, hx, d1, d2, d3, a1, a2, a3, a4, a5, a6, a7]; omega)) _ _).trans ?_ | refine (ite_ndec (by first | assumption | omega | (simp (disch := first | assumption | omega | (with_reducible rfl) | (simp only [go_sem]; done) | (simp only [go_sem]; omega) | fail) only [↓reduceIte, ↓jn_eq, Nat.reduceAdd, go_sem, Bool.not_true, Bool.not_false, hx, d1, d2, d3, a1, a2, a3, a4, a5, a6, a7]; done) | (simp (disch := first | assumption | omega | (with_reducible rfl) | (simp only [go_sem]; done) | (simp only [go_sem]; omega) | fail) only [↓reduceIte, ↓jn_eq, Nat.reduceAdd, go_sem, Bool.not_true, Bool.not_false, hx, d1, d2, d3, a1, a2, a3, a4, a5, a6, a7]; omega)) _ _).trans ?_ | fail)
   simp only [List.append_assoc, List.cons_append, List.nil_append]
   rfl
theorem rShow_am {g : Grf} (hc : chkG g = 0) : Cl 24 [vG .sh g] [] = some (.str (showB (normG g)), []) := by
 obtain ⟨⟨g1, g2⟩, g3, g4, g5⟩ := chkG_0 hc
 have rn := rNorm_am hc
 have hb : ∀ e ∈ (normG g).es, 0 ≤ e.fr ∧ e.fr ≤ 64 ∧ 0 ≤ e.to ∧ e.to ≤ 64 ∧ 0 ≤ e.w ∧ e.w ≤ 1048576 := fun e he => by
  rw [normG, if_pos hc] at he
  have := odds_in g4 e ((srt_ok hc).1.mem_iff.1 he); omega
 have hn := normG_len g
 have hN : (normG g).n = g.n := by rw [normG, if_pos hc]
 have dn := digits_am (n := g.n.toNat) (by omega)
 rw [show ((g.n.toNat : Nat) : Int) = g.n by omega, ← hN] at dn
 have l0 := decB_len g.n.toNat
 have hp : lineB graphW [(normG g).n.toNat] = ([103, 114, 97, 112, 104, 32] ++ decB (normG g).n.toNat) ++ [10] := by simp [lineB, wordsB, graphW]
 rw [← hN] at l0
 have h0 := rshow_l0 (m := normG g) (by omega) hb (p := ([103, 114, 97, 112, 104, 32] ++ decB (normG g).n.toNat) ++ [10]) (by simp only [List.length_append, List.length_cons, List.length_nil]; omega) (vG .sh g) (normG g).es.length 0 (by omega)
 simp only [List.take_zero, List.flatMap_nil, List.append_nil] at h0
 have a1 : bin .add (.str [103, 114, 97, 112, 104, 32]) (.str (decB (normG g).n.toNat)) = some (.str ([103, 114, 97, 112, 104, 32] ++ decB (normG g).n.toNat)) := s_add _ _ (by simp only [List.length_append, List.length_cons, List.length_nil]; omega)
 have a2 : bin .add (.str ([103, 114, 97, 112, 104, 32] ++ decB (normG g).n.toNat)) (.str [10]) = some (.str (([103, 114, 97, 112, 104, 32] ++ decB (normG g).n.toNat) ++ [10])) := s_add _ _ (by simp only [List.length_append, List.length_cons, List.length_nil]; omega)
 rw [showB, hp, ← h0, f24_eq]
 clear h0 hb hN
 generalize normG g = m at *
 generalize decB m.n.toNat = d at *
 (repeat' with_reducible first | refine (ite_T _ _).trans ?_ | refine (ite_F _ _).trans ?_ | refine (jn_eq _ _).trans ?_ | refine (bstep (by first | rfl | (simp (disch := first | assumption | omega | (with_reducible rfl) | (simp only [go_sem]; done) | (simp only [go_sem]; omega) | fail) only [↓reduceIte, ↓jn_eq, Nat.reduceAdd, go_sem, Bool.not_true, Bool.not_false, rn, dn, a1, a2]; rfl)) _).trans ?_ | refine (if_pos (by first | rfl | (simp (disch := first | assumption | omega | (with_reducible rfl) | (simp only [go_sem]; done) | (simp only [go_sem]; omega) | fail) only [↓reduceIte, ↓jn_eq, Nat.reduceAdd, go_sem, Bool.not_true, Bool.not_false, rn, dn, a1, a2]; done))).trans ?_ | refine (ite_dec (by first | assumption | omega | (simp (disch := first | assumption | omega | (with_reducible rfl) | (simp only [go_sem]; done) | (simp only [go_sem]; omega) | fail) only [↓reduceIte, ↓jn_eq, Nat.reduceAdd, go_sem, Bool.not_true, Bool.not_false, rn, dn, a1, a2]; done) | (simp (disch := first | assumption | omega | (with_reducible rfl) | (simp only [go_sem]; done) | (simp only [go_sem]; omega) | fail) only [↓reduceIte, ↓jn_eq, Nat.reduceAdd, go_sem, Bool.not_true, Bool.not_false, rn, dn, a1, a2]; omega)) _ _).trans ?_ | refine (ite_ndec (by first | assumption | omega | (simp (disch := first | assumption | omega | (with_reducible rfl) | (simp only [go_sem]; done) | (simp only [go_sem]; omega) | fail) only [↓reduceIte, ↓jn_eq, Nat.reduceAdd, go_sem, Bool.not_true, Bool.not_false, rn, dn, a1, a2]; done) | (simp (disch := first | assumption | omega | (with_reducible rfl) | (simp only [go_sem]; done) | (simp only [go_sem]; omega) | fail) only [↓reduceIte, ↓jn_eq, Nat.reduceAdd, go_sem, Bool.not_true, Bool.not_false, rn, dn, a1, a2]; omega)) _ _).trans ?_ | fail)
 rfl
end Go.Proofs.YtaghnpjlhmgioaaDoor
end

section
set_option maxRecDepth 100000
namespace Go.Proofs.YtaghnpjlhmgioaaDoor
open Go AM
theorem awake05 : Cl 10 [] [] = some (.bool true, []) := callW_run.2 ⟨60, by kernel_rfl⟩
end Go.Proofs.YtaghnpjlhmgioaaDoor
end

section
set_option linter.unusedVariables false
set_option linter.unusedSimpArgs false
set_option linter.unusedSectionVars false
set_option maxRecDepth 100000
namespace Go.Proofs.YtaghnpjlhmgioaaDoor
open Go AM
theorem shows_am {f : Fl} (hf : f = .sh ∨ f = .nil) (g : Grf) : Cl 4 [vG f g] [] = some (.bool true, []) := by
 have hA := awake05
 by_cases h1 : 600 < g.es.length
 · rw [f4_eq]
   rcases hf with rfl | rfl
   all_goals (repeat' with_reducible first | refine (ite_T _ _).trans ?_ | refine (ite_F _ _).trans ?_ | refine (jn_eq _ _).trans ?_ | refine (bstep (by first | rfl | (simp (disch := first | assumption | omega | (with_reducible rfl) | (simp only [go_sem]; done) | (simp only [go_sem]; omega) | fail) only [↓reduceIte, ↓jn_eq, Nat.reduceAdd, go_sem, Bool.not_true, Bool.not_false, hA]; rfl)) _).trans ?_ | refine (if_pos (by first | rfl | (simp (disch := first | assumption | omega | (with_reducible rfl) | (simp only [go_sem]; done) | (simp only [go_sem]; omega) | fail) only [↓reduceIte, ↓jn_eq, Nat.reduceAdd, go_sem, Bool.not_true, Bool.not_false, hA]; done))).trans ?_ | refine (ite_dec (by first | assumption | omega | (simp (disch := first | assumption | omega | (with_reducible rfl) | (simp only [go_sem]; done) | (simp only [go_sem]; omega) | fail) only [↓reduceIte, ↓jn_eq, Nat.reduceAdd, go_sem, Bool.not_true, Bool.not_false, hA]; done) | (simp (disch := first | assumption | omega | (with_reducible rfl) | (simp only [go_sem]; done) | (simp only [go_sem]; omega) | fail) only [↓reduceIte, ↓jn_eq, Nat.reduceAdd, go_sem, Bool.not_true, Bool.not_false, hA]; omega)) _ _).trans ?_ | refine (ite_ndec (by first | assumption | omega | (simp (disch := first | assumption | omega | (with_reducible rfl) | (simp only [go_sem]; done) | (simp only [go_sem]; omega) | fail) only [↓reduceIte, ↓jn_eq, Nat.reduceAdd, go_sem, Bool.not_true, Bool.not_false, hA]; done) | (simp (disch := first | assumption | omega | (with_reducible rfl) | (simp only [go_sem]; done) | (simp only [go_sem]; omega) | fail) only [↓reduceIte, ↓jn_eq, Nat.reduceAdd, go_sem, Bool.not_true, Bool.not_false, hA]; omega)) _ _).trans ?_ | fail)
   all_goals rfl
 have hl : g.es.length < 1000000 := by omega
 have ow := own5_am hl
 have rk := rchk_am hl
 have sw := Show_am hl
 have hn := normG_len g
 have sm := same5_am (g := normG g) (by omega)
 have ee : ∀ x : List UInt8, bin .eql (.str x) (.str x) = some (.bool true) := fun x => by simp [bin]
 have ei : ∀ x : Int, bin .eql (.int .i64 x) (.int .i64 x) = some (.bool true) := fun x => by rw [b_eql]; simp
 by_cases h3 : chkG g = 0
 · obtain ⟨i1, i2⟩ := normG_idem h3
   have rd := Read_am i1 i2
   have rn := rNorm_am h3
   have rs := rShow_am h3
   rw [if_pos h3, h3] at sw
   rw [h3] at rk
   generalize showB (normG g) = s at *
   generalize normG g = m at *
   rw [f4_eq]
   rcases hf with rfl | rfl
   all_goals (repeat' with_reducible first | refine (ite_T _ _).trans ?_ | refine (ite_F _ _).trans ?_ | refine (jn_eq _ _).trans ?_ | refine (bstep (by first | rfl | (simp (disch := first | assumption | omega | (with_reducible rfl) | (simp only [go_sem]; done) | (simp only [go_sem]; omega) | fail) only [↓reduceIte, ↓jn_eq, Nat.reduceAdd, go_sem, Bool.not_true, Bool.not_false, hA, ow, rk, sw, rd, rn, rs, sm, ee, ei]; rfl)) _).trans ?_ | refine (if_pos (by first | rfl | (simp (disch := first | assumption | omega | (with_reducible rfl) | (simp only [go_sem]; done) | (simp only [go_sem]; omega) | fail) only [↓reduceIte, ↓jn_eq, Nat.reduceAdd, go_sem, Bool.not_true, Bool.not_false, hA, ow, rk, sw, rd, rn, rs, sm, ee, ei]; done))).trans ?_ | refine (ite_dec (by first | assumption | omega | (simp (disch := first | assumption | omega | (with_reducible rfl) | (simp only [go_sem]; done) | (simp only [go_sem]; omega) | fail) only [↓reduceIte, ↓jn_eq, Nat.reduceAdd, go_sem, Bool.not_true, Bool.not_false, hA, ow, rk, sw, rd, rn, rs, sm, ee, ei]; done) | (simp (disch := first | assumption | omega | (with_reducible rfl) | (simp only [go_sem]; done) | (simp only [go_sem]; omega) | fail) only [↓reduceIte, ↓jn_eq, Nat.reduceAdd, go_sem, Bool.not_true, Bool.not_false, hA, ow, rk, sw, rd, rn, rs, sm, ee, ei]; omega)) _ _).trans ?_ | refine (ite_ndec (by first | assumption | omega | (simp (disch := first | assumption | omega | (with_reducible rfl) | (simp only [go_sem]; done) | (simp only [go_sem]; omega) | fail) only [↓reduceIte, ↓jn_eq, Nat.reduceAdd, go_sem, Bool.not_true, Bool.not_false, hA, ow, rk, sw, rd, rn, rs, sm, ee, ei]; done) | (simp (disch := first | assumption | omega | (with_reducible rfl) | (simp only [go_sem]; done) | (simp only [go_sem]; omega) | fail) only [↓reduceIte, ↓jn_eq, Nat.reduceAdd, go_sem, Bool.not_true, Bool.not_false, hA, ow, rk, sw, rd, rn, rs, sm, ee, ei]; omega)) _ _).trans ?_ | fail)
   all_goals rfl
 · rw [if_neg h3] at sw
   have e0 : bin .eql (.str []) (.str []) = some (.bool true) := rfl
   rw [f4_eq]
   generalize chkG g = e at *
   rcases hf with rfl | rfl
   all_goals (repeat' with_reducible first | refine (ite_T _ _).trans ?_ | refine (ite_F _ _).trans ?_ | refine (jn_eq _ _).trans ?_ | refine (bstep (by first | rfl | (simp (disch := first | assumption | omega | (with_reducible rfl) | (simp only [go_sem]; done) | (simp only [go_sem]; omega) | fail) only [↓reduceIte, ↓jn_eq, Nat.reduceAdd, go_sem, Bool.not_true, Bool.not_false, hA, ow, rk, sw, e0, ei]; rfl)) _).trans ?_ | refine (if_pos (by first | rfl | (simp (disch := first | assumption | omega | (with_reducible rfl) | (simp only [go_sem]; done) | (simp only [go_sem]; omega) | fail) only [↓reduceIte, ↓jn_eq, Nat.reduceAdd, go_sem, Bool.not_true, Bool.not_false, hA, ow, rk, sw, e0, ei]; done))).trans ?_ | refine (ite_dec (by first | assumption | omega | (simp (disch := first | assumption | omega | (with_reducible rfl) | (simp only [go_sem]; done) | (simp only [go_sem]; omega) | fail) only [↓reduceIte, ↓jn_eq, Nat.reduceAdd, go_sem, Bool.not_true, Bool.not_false, hA, ow, rk, sw, e0, ei]; done) | (simp (disch := first | assumption | omega | (with_reducible rfl) | (simp only [go_sem]; done) | (simp only [go_sem]; omega) | fail) only [↓reduceIte, ↓jn_eq, Nat.reduceAdd, go_sem, Bool.not_true, Bool.not_false, hA, ow, rk, sw, e0, ei]; omega)) _ _).trans ?_ | refine (ite_ndec (by first | assumption | omega | (simp (disch := first | assumption | omega | (with_reducible rfl) | (simp only [go_sem]; done) | (simp only [go_sem]; omega) | fail) only [↓reduceIte, ↓jn_eq, Nat.reduceAdd, go_sem, Bool.not_true, Bool.not_false, hA, ow, rk, sw, e0, ei]; done) | (simp (disch := first | assumption | omega | (with_reducible rfl) | (simp only [go_sem]; done) | (simp only [go_sem]; omega) | fail) only [↓reduceIte, ↓jn_eq, Nat.reduceAdd, go_sem, Bool.not_true, Bool.not_false, hA, ow, rk, sw, e0, ei]; omega)) _ _).trans ?_ | fail)
   all_goals rfl
end Go.Proofs.YtaghnpjlhmgioaaDoor
end

section
namespace Go.Proofs.YtaghnpjlhmgioaaDoor
open Go AM
def I64 (n : Int) : Prop := -9223372036854775808 ≤ n ∧ n < 9223372036854775808
end Go.Proofs.YtaghnpjlhmgioaaDoor
end
