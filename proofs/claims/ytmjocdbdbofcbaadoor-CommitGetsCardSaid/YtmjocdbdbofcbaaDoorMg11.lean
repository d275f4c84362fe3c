/-
  Part of the proof of a statement about the given program: an abstract machine over its code, the simulation, its functions' equations, what they compute.
-/
import Derived.Sort.AssemblyPlain
import Derived.Test.YtmjocdbdbofcbaaDoorMg10
import Derived.Test.YtmjocdbdbofcbaaDoorMg4
section
set_option linter.unusedVariables false
set_option linter.unusedSimpArgs false
set_option linter.unusedSectionVars false
set_option maxRecDepth 100000
namespace Go.Proofs.YtmjocdbdbofcbaaDoor
open Go AM

theorem cmp_neg (x y : Msg) : ltM x y = true ↔ (x.to < y.to ∨ (x.to = y.to ∧ (x.fr < y.fr ∨ (x.fr = y.fr ∧ x.val < y.val)))) := by
  simp only [ltM, cmpM, or3, cmpI3, decide_eq_true_eq]
  rcases Int.lt_trichotomy x.to y.to with h | h | h
  · simp [h]
  · rcases Int.lt_trichotomy x.fr y.fr with g | g | g
    · simp [h, g]
    · rcases Int.lt_trichotomy x.val y.val with k | k | k
      · simp [h, g, k]
      · simp [h, g, k]
      · have n : ¬ x.val < y.val := by omega
        simp [h, g, k, n]
    · have n : ¬ x.fr < y.fr := by omega
      have n2 : ¬ x.fr = y.fr := by omega
      simp [h, g, n, n2]
  · have n : ¬ x.to < y.to := by omega
    have n2 : ¬ x.to = y.to := by omega
    simp [h, n, n2]
theorem cmp_neg' (x y : Msg) : ltM x y = false ↔ ¬ (x.to < y.to ∨ (x.to = y.to ∧ (x.fr < y.fr ∨ (x.fr = y.fr ∧ x.val < y.val)))) := by
  rw [← cmp_neg]; simp
theorem ltM_swo : Sort.SWO ltM where
  irrefl x := by rw [cmp_neg']; omega
  trans x y z := by simp only [cmp_neg]; omega
  ntrans x y z := by simp only [cmp_neg']; omega
theorem ltM_eq (x y : Msg) (h1 : ltM x y = false) (h2 : ltM y x = false) : x = y := by
  rw [cmp_neg'] at h1 h2
  cases x; cases y
  simp only [Msg.mk.injEq]
  simp only [] at h1 h2
  omega

section
variable {h0 : List V} {id N : Nat} (hid : id < h0.length) (hb62 : N < 1000000000000000000)
include hid hb62

noncomputable def pdLoop (h0 : List V) (id N a b limit : Nat) (wb wp : Bool) (d : Array Msg) : Option (V × List V) :=
  f82_l0 (winM id N) (iv a) (iv b) (iv limit) cm (.bool wb) (.bool wp) h0.length (HB h0 id d)

/-- from the comparison with what lies to the left on -/
noncomputable def pdRest (h0 : List V) (id N a b limit : Nat) (wb wp : Bool) (pivot : Nat) (d3 : Array Msg) : Option (V × List V) :=
  f82_r17 (winM id N) (iv a) cm (iv pivot) (HB h0 id d3) fun t97_20 h_21 =>
  V.ite t97_20
  (f82_r18 (winM id N) (iv a) (iv b) cm (iv pivot) h_21 fun t15_22 h_23 =>
  f82_r19 t15_22 fun t1_24 =>
  f82_l0 (winM id N) t1_24 (iv b) (iv limit) cm (.bool wb) (.bool wp) h0.length h_23)
  (f82_r20 (winM id N) (iv a) (iv b) cm (iv pivot) h_21 fun t16_25 t17_26 h_27 =>
  f82_r21 t17_26 fun t11_28 =>
  f82_r22 (iv a) (iv b) t16_25 fun t18_29 t19_30 =>
  f82_r23 (iv (b - a)) fun t20_31 =>
  f82_r24 t18_29 t19_30 fun t125_32 =>
  V.ite t125_32
  (f82_r25 t18_29 t20_31 fun t10_33 =>
  f82_r26 (winM id N) (iv a) (iv limit) cm t16_25 h_27 fun h_34 =>
  f82_r27 t16_25 fun t1_35 =>
  f82_l0 (winM id N) t1_35 (iv b) (iv limit) cm t10_33 t11_28 h0.length h_34)
  (f82_r28 t19_30 t20_31 fun t10_36 =>
  f82_r29 (winM id N) (iv b) (iv limit) cm t16_25 h_27 fun h_37 =>
  f82_r30 t16_25 fun t2_38 =>
  f82_l0 (winM id N) (iv a) t2_38 (iv limit) cm t10_36 t11_28 h0.length h_37))

theorem pd_ins {a b limit : Nat} {wb wp : Bool} {d : Array Msg} (hN : N = d.size) (hab : a ≤ b) (hb : b ≤ N) (h12 : b - a ≤ 12) : pdLoop h0 id N a b limit wb wp d = some (.tup [], HB h0 id (Sort.insertionSort ltM d a b)) := by
  rw [pdLoop, f82_l0_eq, f82_r2]
  refine (subT (by omega) (by omega) _).trans ?_
  rw [f82_r3]
  refine (leqT (by omega) _).trans ?_
  rw [ite_tt, f82_r4]
  refine (bstep (insertion_am hid hb62 hN hb hab) _).trans ?_
  exact hb_ret _
theorem pd_heap {a b : Nat} {wb wp : Bool} {d : Array Msg} (hN : N = d.size) (hab : a ≤ b) (hb : b ≤ N) (h12 : ¬ b - a ≤ 12) : pdLoop h0 id N a b 0 wb wp d = some (.tup [], HB h0 id (Sort.heapSort ltM d a b)) := by
  rw [pdLoop, f82_l0_eq, f82_r2]
  refine (subT (by omega) (by omega) _).trans ?_
  rw [f82_r3]
  refine (leqF (by omega) _).trans ?_
  rw [ite_ff, f82_r5]
  refine (eqlT (by omega) _).trans ?_
  rw [ite_tt, f82_r6]
  refine (bstep (heap_am hid hb62 hN hb (by omega)) _).trans ?_
  exact hb_ret _

/-- a round, up to the test whether all is sorted already -/
theorem pd_pre {a b limit : Nat} {wb wp : Bool} {d : Array Msg} (hN : N = d.size) (hab : a ≤ b) (hb : b ≤ N) (h12 : ¬ b - a ≤ 12) (hl : ¬ limit = 0) (h62 : limit < 1000000000000000000)
    {d1 d2 : Array Msg} {limit1 pivot : Nat} {c : Nat × Sort.Hint} {hint : Sort.Hint} {pi : Array Msg × Bool}
    (e1 : d1 = if (!wb) = true then Sort.breakPatterns d a b else d) (el : limit1 = if (!wb) = true then limit - 1 else limit) (ec : c = Sort.choosePivot ltM d1 a b)
    (e2 : d2 = if c.2 = .decreasing then Sort.reverseRange d1 a b else d1) (ep : pivot = if c.2 = .decreasing then (b - 1) - (c.1 - a) else c.1)
    (eh : hint = if c.2 = .decreasing then Sort.Hint.increasing else c.2) (epi : pi = if (wb && wp && decide (hint = .increasing)) = true then Sort.partialInsertionSort ltM d2 a b else (d2, false)) :
    pdLoop h0 id N a b limit wb wp d = if pi.2 = true then some (.tup [], HB h0 id pi.1) else pdRest h0 id N a b limit1 wb wp pivot pi.1 := by
  have s1 : d1.size = d.size := by
    rw [e1]; split
    · exact (Sort.breakPatterns_holds d a b hab (by omega)).1
    · rfl
  have hN1 : N = d1.size := by rw [s1]; exact hN
  have s2 : d2.size = d1.size := by
    rw [e2]; split
    · exact (Sort.reverseRange_holds d1 a b hab (by omega)).1
    · rfl
  have hN2 : N = d2.size := by rw [s2]; exact hN1
  have hc0 := Sort.choosePivot_holds ltM d1 a b (by omega)
  rw [← ec] at hc0
  -- behind the pivot
  have st3 : ∀ hi : Nat, hi = hintN hint → (f82_r15 (.bool wb) (.bool wp) (iv hi) fun t75_18 =>
      jn (fun h_19 => f82_r17 (winM id N) (iv a) cm (iv pivot) h_19 fun t97_20 h_21 =>
        V.ite t97_20
        (f82_r18 (winM id N) (iv a) (iv b) cm (iv pivot) h_21 fun t15_22 h_23 =>
        f82_r19 t15_22 fun t1_24 =>
        f82_l0 (winM id N) t1_24 (iv b) (iv limit1) cm (.bool wb) (.bool wp) h0.length h_23)
        (f82_r20 (winM id N) (iv a) (iv b) cm (iv pivot) h_21 fun t16_25 t17_26 h_27 =>
        f82_r21 t17_26 fun t11_28 =>
        f82_r22 (iv a) (iv b) t16_25 fun t18_29 t19_30 =>
        f82_r23 (iv (b - a)) fun t20_31 =>
        f82_r24 t18_29 t19_30 fun t125_32 =>
        V.ite t125_32
        (f82_r25 t18_29 t20_31 fun t10_33 =>
        f82_r26 (winM id N) (iv a) (iv limit1) cm t16_25 h_27 fun h_34 =>
        f82_r27 t16_25 fun t1_35 =>
        f82_l0 (winM id N) t1_35 (iv b) (iv limit1) cm t10_33 t11_28 h0.length h_34)
        (f82_r28 t19_30 t20_31 fun t10_36 =>
        f82_r29 (winM id N) (iv b) (iv limit1) cm t16_25 h_27 fun h_37 =>
        f82_r30 t16_25 fun t2_38 =>
        f82_l0 (winM id N) (iv a) t2_38 (iv limit1) cm t10_36 t11_28 h0.length h_37)))
      (fun (j2 : List V → Option (V × List V)) => V.ite t75_18
        (f82_r16 (winM id N) (iv a) (iv b) cm (HB h0 id d2) fun t80_39 h_40 =>
        V.ite t80_39
        (if (List.all [] V.okE) = true then finT h0.length h_40 (V.tup []) else none)
        (j2 h_40))
        (j2 (HB h0 id d2)))) = if pi.2 = true then some (.tup [], HB h0 id pi.1) else pdRest h0 id N a b limit1 wb wp pivot pi.1 := by
    intro hi ehi
    rw [f82_r15]
    have no : pi = (d2, false) → (jn (fun h_19 => f82_r17 (winM id N) (iv a) cm (iv pivot) h_19 fun t97_20 h_21 =>
        V.ite t97_20
        (f82_r18 (winM id N) (iv a) (iv b) cm (iv pivot) h_21 fun t15_22 h_23 =>
        f82_r19 t15_22 fun t1_24 =>
        f82_l0 (winM id N) t1_24 (iv b) (iv limit1) cm (.bool wb) (.bool wp) h0.length h_23)
        (f82_r20 (winM id N) (iv a) (iv b) cm (iv pivot) h_21 fun t16_25 t17_26 h_27 =>
        f82_r21 t17_26 fun t11_28 =>
        f82_r22 (iv a) (iv b) t16_25 fun t18_29 t19_30 =>
        f82_r23 (iv (b - a)) fun t20_31 =>
        f82_r24 t18_29 t19_30 fun t125_32 =>
        V.ite t125_32
        (f82_r25 t18_29 t20_31 fun t10_33 =>
        f82_r26 (winM id N) (iv a) (iv limit1) cm t16_25 h_27 fun h_34 =>
        f82_r27 t16_25 fun t1_35 =>
        f82_l0 (winM id N) t1_35 (iv b) (iv limit1) cm t10_33 t11_28 h0.length h_34)
        (f82_r28 t19_30 t20_31 fun t10_36 =>
        f82_r29 (winM id N) (iv b) (iv limit1) cm t16_25 h_27 fun h_37 =>
        f82_r30 t16_25 fun t2_38 =>
        f82_l0 (winM id N) (iv a) t2_38 (iv limit1) cm t10_36 t11_28 h0.length h_37)))
      (fun (j2 : List V → Option (V × List V)) => V.ite (.bool false)
        (f82_r16 (winM id N) (iv a) (iv b) cm (HB h0 id d2) fun t80_39 h_40 =>
        V.ite t80_39
        (if (List.all [] V.okE) = true then finT h0.length h_40 (V.tup []) else none)
        (j2 h_40))
        (j2 (HB h0 id d2)))) = if pi.2 = true then some (.tup [], HB h0 id pi.1) else pdRest h0 id N a b limit1 wb wp pivot pi.1 := by
      intro e
      rw [e, jn, ite_ff]; rfl
    cases wb with
    | false => exact no (by rw [epi, if_neg (by simp)])
    | true =>
      cases wp with
      | false => exact no (by rw [epi, if_neg (by simp)])
      | true =>
        rw [ite_tt, ite_tt]
        by_cases hh : hint = .increasing
        · refine (eqlT (by rw [ehi, hh]; rfl) _).trans ?_
          rw [jn, ite_tt, f82_r16]
          refine (bstep (partIns_am hid hb62 hN2 hb (by omega)) _).trans ?_
          have ee : pi = Sort.partialInsertionSort ltM d2 a b := by rw [epi, if_pos (by simp [hh])]
          rw [← ee, ite_lt]
          by_cases hp : pi.2 = true
          · rw [if_pos hp, if_pos hp]; exact hb_ret _
          · rw [if_neg hp, if_neg hp]; rfl
        · refine (eqlF (by rw [ehi]; cases hint <;> first | exact absurd rfl hh | (simp [hintN])) _).trans ?_
          exact no (by rw [epi, if_neg (by simp [hh])])
  -- the pivot is chosen
  have st2 : (f82_r10 (winM id N) (iv a) (iv b) cm (HB h0 id d1) fun t13_11 t14_12 h_13 =>
      f82_r11 t14_12 fun t56_14 =>
      jn (fun t13_15 t14_16 h_17 => f82_r15 (.bool wb) (.bool wp) t14_16 fun t75_18 =>
      jn (fun h_19 => f82_r17 (winM id N) (iv a) cm t13_15 h_19 fun t97_20 h_21 =>
        V.ite t97_20
        (f82_r18 (winM id N) (iv a) (iv b) cm t13_15 h_21 fun t15_22 h_23 =>
        f82_r19 t15_22 fun t1_24 =>
        f82_l0 (winM id N) t1_24 (iv b) (iv limit1) cm (.bool wb) (.bool wp) h0.length h_23)
        (f82_r20 (winM id N) (iv a) (iv b) cm t13_15 h_21 fun t16_25 t17_26 h_27 =>
        f82_r21 t17_26 fun t11_28 =>
        f82_r22 (iv a) (iv b) t16_25 fun t18_29 t19_30 =>
        f82_r23 (iv (b - a)) fun t20_31 =>
        f82_r24 t18_29 t19_30 fun t125_32 =>
        V.ite t125_32
        (f82_r25 t18_29 t20_31 fun t10_33 =>
        f82_r26 (winM id N) (iv a) (iv limit1) cm t16_25 h_27 fun h_34 =>
        f82_r27 t16_25 fun t1_35 =>
        f82_l0 (winM id N) t1_35 (iv b) (iv limit1) cm t10_33 t11_28 h0.length h_34)
        (f82_r28 t19_30 t20_31 fun t10_36 =>
        f82_r29 (winM id N) (iv b) (iv limit1) cm t16_25 h_27 fun h_37 =>
        f82_r30 t16_25 fun t2_38 =>
        f82_l0 (winM id N) (iv a) t2_38 (iv limit1) cm t10_36 t11_28 h0.length h_37)))
      (fun (j2 : List V → Option (V × List V)) => V.ite t75_18
        (f82_r16 (winM id N) (iv a) (iv b) cm h_17 fun t80_39 h_40 =>
        V.ite t80_39
        (if (List.all [] V.okE) = true then finT h0.length h_40 (V.tup []) else none)
        (j2 h_40))
        (j2 h_17)))
      (fun (j1 : V → V → List V → Option (V × List V)) => V.ite t56_14
        (f82_r12 (winM id N) (iv a) (iv b) cm h_13 fun h_41 =>
        f82_r13 (iv a) (iv b) t13_11 fun t13_42 =>
        f82_r14 fun t14_43 =>
        j1 t13_42 t14_43 h_41)
        (j1 t13_11 t14_12 h_13))) = if pi.2 = true then some (.tup [], HB h0 id pi.1) else pdRest h0 id N a b limit1 wb wp pivot pi.1 := by
    rw [f82_r10]
    refine (bstep (pivot_am hid hb62 hN1 hb (by omega)) _).trans <| (ext0 _ _ _).trans <| (ext1 _ _ _).trans ?_
    rw [← ec, f82_r11]
    by_cases hd : c.2 = .decreasing
    · refine (eqlT (by rw [hd]; rfl) _).trans ?_
      rw [jn, ite_tt, f82_r12]
      rw [if_pos hd] at e2 ep eh
      refine (bstep (reverse_am hid hb62 hN1 hb (by omega)) _).trans ?_
      rw [f82_r13]
      refine (subT (b := 1) (by omega) (by omega) _).trans <| (subT (by omega) (by omega) _).trans <| (subT (by omega) (by omega) _).trans ?_
      rw [f82_r14, ← e2, ← ep]
      exact st3 1 (by rw [eh]; rfl)
    · refine (eqlF (by cases hc2 : c.2 <;> first | exact absurd hc2 hd | (simp [hintN])) _).trans ?_
      rw [jn, ite_ff]
      rw [if_neg hd] at e2 ep eh
      rw [← e2, ← ep]
      exact st3 _ (by rw [eh])
  rw [pdLoop, f82_l0_eq, f82_r2]
  refine (subT (by omega) (by omega) _).trans ?_
  rw [f82_r3]
  refine (leqF (by omega) _).trans ?_
  rw [ite_ff, f82_r5]
  refine (eqlF (by omega) _).trans ?_
  rw [ite_ff, f82_r7]
  refine (notT _ _).trans ?_
  rw [jn]
  cases wb with
  | true =>
    rw [if_neg (by simp)] at e1 el
    rw [Bool.not_true, ite_ff, ← e1, ← el]
    exact st2
  | false =>
    rw [if_pos (by simp)] at e1 el
    rw [Bool.not_false, ite_tt, f82_r8]
    refine (bstep (break_am hid hb62 hN hb (by omega)) _).trans ?_
    rw [f82_r9]
    refine (subT (b := 1) (by omega) (by omega) _).trans ?_
    rw [← e1, ← el]
    exact st2
end
end Go.Proofs.YtmjocdbdbofcbaaDoor
end

section
set_option linter.unusedVariables false
set_option linter.unusedSimpArgs false
set_option linter.unusedSectionVars false
set_option maxRecDepth 100000
namespace Go.Proofs.YtmjocdbdbofcbaaDoor
open Go AM

section
variable {h0 : List V} {id N : Nat} (hid : id < h0.length) (hb62 : N < 1000000000000000000)
include hid hb62

theorem rest_test {a b limit pivot : Nat} {wb wp : Bool} {d : Array Msg} (hN : N = d.size) (hp : pivot < N) (ha : a ≤ N) (K : V → List V → Option (V × List V)) :
    f82_r17 (winM id N) (iv a) cm (iv pivot) (HB h0 id d) K = K (.bool (decide (a > 0) && !ltM d[a - 1]! d[pivot]!)) (HB h0 id d) := by
  rw [f82_r17]
  by_cases h : a > 0
  · refine (gtrT (by omega) _).trans ?_
    rw [ite_tt]
    refine (subT (b := 1) (by omega) (by omega) _).trans <| (atH hid hN (by omega) _).trans <| (atH hid hN hp _).trans <| (cmpV _ _ (fun b h1 => (un .not b).bind fun t => _)).trans <| (notT _ _).trans ?_
    rw [decide_eq_true h, Bool.true_and]
  · refine (gtrF (by omega) _).trans ?_
    rw [ite_ff, decide_eq_false h, Bool.false_and]

theorem rest_eq {a b limit pivot : Nat} {wb wp : Bool} {d : Array Msg} (hN : N = d.size) (hp : pivot < N) (hab : a < b) (hb : b ≤ N) (h : (decide (a > 0) && !ltM d[a - 1]! d[pivot]!) = true)
    {mid : Nat} {d4 : Array Msg} (hx : Sort.partitionEqual ltM d a b pivot = (mid, d4)) : pdRest h0 id N a b limit wb wp pivot d = pdLoop h0 id N mid b limit wb wp d4 := by
  rw [pdRest, rest_test hid hb62 (b := b) (limit := limit) (wb := wb) (wp := wp) hN hp (by omega), h, ite_tt, f82_r18]
  refine (bstep (partEq_am hid hb62 hN hb hab hp) _).trans ?_
  rw [hx, f82_r19]; rfl

theorem call82 (a b limit : Nat) (d : Array Msg) : Cl 82 [winM id N, iv a, iv b, iv limit, cm] (HB h0 id d) = pdLoop h0 id N a b limit true true d := by
  rw [f82_eq, f82_r0, f82_r1, hb_len]; rfl
theorem quo8 {B : Type} {n : Nat} (hn : n < 1000000000000000000) (K : V → Option B) : (bin .quo (iv n) (.int .i64 8)).bind K = K (iv (n / 8)) := by
  refine (bstep (b_quo _ _ _ (by omega)) _).trans ?_
  rw [show (n : Int).tdiv 8 = ((n / 8 : Nat) : Int) by rfl, wrap_i64 (by omega) (by omega)] <;> rfl
theorem geqD {B : Type} {a b : Nat} (K : V → Option B) : (bin .geq (iv a) (iv b)).bind K = K (.bool (decide (a ≥ b))) := by
  refine (bstep (b_geq _ _ _) _).trans ?_
  congr 2
  simp

theorem rest_l {a b limit pivot : Nat} {wb wp : Bool} {d : Array Msg} (hN : N = d.size) (hp : pivot < N) (hab : a < b) (hb : b ≤ N) (h : ¬ (decide (a > 0) && !ltM d[a - 1]! d[pivot]!) = true)
    {mid : Nat} {ap : Bool} {d4 dl : Array Msg} (hx : Sort.partition ltM d a b pivot = (mid, ap, d4)) (h1 : a ≤ mid) (h2 : mid < b) (hlt : mid - a < b - mid)
    (hl : pdLoop h0 id N a mid limit true true d4 = some (.tup [], HB h0 id dl)) :
    pdRest h0 id N a b limit wb wp pivot d = pdLoop h0 id N (mid + 1) b limit (decide (mid - a ≥ (b - a) / 8)) ap dl := by
  rw [pdRest, rest_test hid hb62 (b := b) (limit := limit) (wb := wb) (wp := wp) hN hp (by omega), Bool.eq_false_iff.2 h, ite_ff, f82_r20]
  refine (bstep (part_am hid hb62 hN hb hab hp) _).trans <| (ext0 _ _ _).trans <| (ext1 _ _ _).trans ?_
  rw [hx, f82_r21, f82_r22]
  simp only []
  refine (subT (by omega) (by omega) _).trans <| (subT (by omega) (by omega) _).trans ?_
  rw [f82_r23]
  refine (quo8 hid hb62 (by omega) _).trans ?_
  rw [f82_r24]
  refine (lssT (by omega) _).trans ?_
  rw [ite_tt, f82_r25]
  refine (geqD hid hb62 _).trans ?_
  rw [f82_r26]
  refine (bstep ((call82 hid hb62 a mid limit d4).trans hl) _).trans ?_
  rw [f82_r27]
  refine (addT (b := 1) (by omega) _).trans ?_
  rfl

theorem rest_r {a b limit pivot : Nat} {wb wp : Bool} {d : Array Msg} (hN : N = d.size) (hp : pivot < N) (hab : a < b) (hb : b ≤ N) (h : ¬ (decide (a > 0) && !ltM d[a - 1]! d[pivot]!) = true)
    {mid : Nat} {ap : Bool} {d4 dl : Array Msg} (hx : Sort.partition ltM d a b pivot = (mid, ap, d4)) (h1 : a ≤ mid) (h2 : mid < b) (hlt : ¬ mid - a < b - mid)
    (hl : pdLoop h0 id N (mid + 1) b limit true true d4 = some (.tup [], HB h0 id dl)) :
    pdRest h0 id N a b limit wb wp pivot d = pdLoop h0 id N a mid limit (decide (b - mid ≥ (b - a) / 8)) ap dl := by
  rw [pdRest, rest_test hid hb62 (b := b) (limit := limit) (wb := wb) (wp := wp) hN hp (by omega), Bool.eq_false_iff.2 h, ite_ff, f82_r20]
  refine (bstep (part_am hid hb62 hN hb hab hp) _).trans <| (ext0 _ _ _).trans <| (ext1 _ _ _).trans ?_
  rw [hx, f82_r21, f82_r22]
  simp only []
  refine (subT (by omega) (by omega) _).trans <| (subT (by omega) (by omega) _).trans ?_
  rw [f82_r23]
  refine (quo8 hid hb62 (by omega) _).trans ?_
  rw [f82_r24]
  refine (lssF (by omega) _).trans ?_
  rw [ite_ff, f82_r28]
  refine (geqD hid hb62 _).trans ?_
  rw [f82_r29]
  refine (addT (b := 1) (by omega) _).trans ?_
  refine (bstep ((call82 hid hb62 (mid + 1) b limit d4).trans hl) _).trans ?_
  rw [f82_r30]
  rfl

/-- THE RECURSION -/
theorem pd_all (d : Array Msg) (a b limit : Nat) (wb wp : Bool) : a ≤ b → b ≤ d.size → N = d.size → limit < 1000000000000000000 → Sort.Below ltM a b d →
    pdLoop h0 id N a b limit wb wp d = some (.tup [], HB h0 id (Sort.pdq ltM d a b limit wb wp)) := by
  fun_induction Sort.pdq ltM d a b limit wb wp
  case case1 d a b limit wb wp h12 => intro hab hb hN _ _; exact pd_ins hid hb62 hN hab (by omega) h12
  case case2 d a b wb wp h12 => intro hab hb hN _ _; exact pd_heap hid hb62 hN hab (by omega) h12
  case case3 d a b limit wb wp h12 hl d1 c d2 hint pi hpi2 =>
    intro hab hb hN hlim hB
    exact (pd_pre hid hb62 (limit1 := if (!wb) = true then limit - 1 else limit) (pivot := if c.2 = .decreasing then (b - 1) - (c.1 - a) else c.1) hN hab (by omega) h12 hl hlim rfl rfl rfl rfl rfl rfl rfl).trans (if_pos hpi2)
  case case4 d a b limit0 wb wp h12 hl d1 limit c d2 pivot hint pi hpi2 d3 hc mid d4 hx hg ih1 =>
    intro hab hb hN hlim hB
    have s1 : Sort.PermIn a b d d1 := Sort.step_break d hab hb _
    have b1 : b ≤ d1.size := by rw [s1.1]; exact hb
    have s2 : Sort.PermIn a b d1 d2 := Sort.step_reverse Sort.reverseRange_holds d1 hab b1 _
    have b2 : b ≤ d2.size := by rw [s2.1]; exact b1
    have B2 : Sort.Below ltM a b d2 := (hB.perm hb s1).perm b1 s2
    have s3 := Sort.step_partial (Sort.partialInsertionSort_holds (lt := ltM)) ltM_swo d2 (a := a) (b := b) (by omega) b2 B2 ((wb && wp && decide (hint = Sort.Hint.increasing)) = true)
    have s3' : Sort.PermIn a b d2 d3 := s3.1
    have b3 : b ≤ d3.size := by rw [s3'.1]; exact b2
    have B3 : Sort.Below ltM a b d3 := B2.perm b2 s3'
    have hN3 : N = d3.size := by rw [s3'.1, s2.1, s1.1]; exact hN
    have hc0 := Sort.choosePivot_holds ltM d1 a b (by omega)
    have hpv : a ≤ pivot ∧ pivot < b := Sort.pivot_range hc0.1 hc0.2 _
    have hc' := hc
    simp only [Bool.and_eq_true, decide_eq_true_eq, Bool.not_eq_true'] at hc'
    obtain ⟨_, hm2, hs4, hB4, hfin⟩ := Sort.round_eq ltM_swo (Sort.partitionEqual_holds ltM) hc'.1 hpv.1 hpv.2 b3 B3 hc'.2 hx
    have hlim1 : limit ≤ limit0 := by show (if (!wb) = true then limit0 - 1 else limit0) ≤ limit0; split <;> omega
    refine (pd_pre hid hb62 (limit1 := limit) (pivot := pivot) hN hab (by omega) h12 hl hlim rfl rfl rfl rfl rfl rfl rfl).trans ((if_neg hpi2).trans ?_)
    refine (rest_eq hid hb62 hN3 (by omega) (by omega) (by omega) hc hx).trans ?_
    exact ih1 hm2 (by rw [hs4]; exact b3) (by rw [hs4]; exact hN3) (by omega) hB4
  case case5 d a b limit wb wp h12 hl d1 c d2 pivot hint pi hpi2 d3 hc mid d4 hx hg =>
    intro hab hb hN hlim hB
    have s1 : Sort.PermIn a b d d1 := Sort.step_break d hab hb _
    have b1 : b ≤ d1.size := by rw [s1.1]; exact hb
    have s2 : Sort.PermIn a b d1 d2 := Sort.step_reverse Sort.reverseRange_holds d1 hab b1 _
    have b2 : b ≤ d2.size := by rw [s2.1]; exact b1
    have B2 : Sort.Below ltM a b d2 := (hB.perm hb s1).perm b1 s2
    have s3 := Sort.step_partial (Sort.partialInsertionSort_holds (lt := ltM)) ltM_swo d2 (a := a) (b := b) (by omega) b2 B2 ((wb && wp && decide (hint = Sort.Hint.increasing)) = true)
    have s3' : Sort.PermIn a b d2 d3 := s3.1
    have b3 : b ≤ d3.size := by rw [s3'.1]; exact b2
    have B3 : Sort.Below ltM a b d3 := B2.perm b2 s3'
    have hN3 : N = d3.size := by rw [s3'.1, s2.1, s1.1]; exact hN
    have hc0 := Sort.choosePivot_holds ltM d1 a b (by omega)
    have hpv : a ≤ pivot ∧ pivot < b := Sort.pivot_range hc0.1 hc0.2 _
    simp only [Bool.and_eq_true, decide_eq_true_eq, Bool.not_eq_true'] at hc
    obtain ⟨g1, g2, _⟩ := Sort.round_eq ltM_swo (Sort.partitionEqual_holds ltM) hc.1 hpv.1 hpv.2 b3 B3 hc.2 hx
    exact absurd ⟨g1, g2⟩ hg
  case case6 d a b limit0 wb wp h12 hl d1 limit c d2 pivot hint pi hpi2 d3 hc mid ap d4 hx hg hlt ih3 ih2 ih1 =>
    intro hab hb hN hlim hB
    have s1 : Sort.PermIn a b d d1 := Sort.step_break d hab hb _
    have b1 : b ≤ d1.size := by rw [s1.1]; exact hb
    have s2 : Sort.PermIn a b d1 d2 := Sort.step_reverse Sort.reverseRange_holds d1 hab b1 _
    have b2 : b ≤ d2.size := by rw [s2.1]; exact b1
    have B2 : Sort.Below ltM a b d2 := (hB.perm hb s1).perm b1 s2
    have s3 := Sort.step_partial (Sort.partialInsertionSort_holds (lt := ltM)) ltM_swo d2 (a := a) (b := b) (by omega) b2 B2 ((wb && wp && decide (hint = Sort.Hint.increasing)) = true)
    have s3' : Sort.PermIn a b d2 d3 := s3.1
    have b3 : b ≤ d3.size := by rw [s3'.1]; exact b2
    have B3 : Sort.Below ltM a b d3 := B2.perm b2 s3'
    have hN3 : N = d3.size := by rw [s3'.1, s2.1, s1.1]; exact hN
    have hc0 := Sort.choosePivot_holds ltM d1 a b (by omega)
    have hpv : a ≤ pivot ∧ pivot < b := Sort.pivot_range hc0.1 hc0.2 _
    obtain ⟨g1, g2, hs4, hBa, hBr, hleft, _⟩ := Sort.round_part ltM_swo (Sort.partition_holds ltM) hpv.1 hpv.2 b3 B3 hx
    have hlim1 : limit ≤ limit0 := by show (if (!wb) = true then limit0 - 1 else limit0) ≤ limit0; split <;> omega
    have L := Sort.pdq_sorts ltM ltM_swo d4 a mid limit true true g1 (by rw [hs4]; omega) hBa
    obtain ⟨hBL, hfin⟩ := hleft _ L.1 L.2
    refine (pd_pre hid hb62 (limit1 := limit) (pivot := pivot) hN hab (by omega) h12 hl hlim rfl rfl rfl rfl rfl rfl rfl).trans ((if_neg hpi2).trans ?_)
    refine (rest_l hid hb62 hN3 (by omega) (by omega) (by omega) hc hx g1 g2 hlt (ih3 g1 (by rw [hs4]; omega) (by rw [hs4]; exact hN3) (by omega) hBa)).trans ?_
    exact ih1 (by omega) (by rw [L.1.1, hs4]; exact b3) (by rw [L.1.1, hs4]; exact hN3) (by omega) hBL
  case case7 d a b limit0 wb wp h12 hl d1 limit c d2 pivot hint pi hpi2 d3 hc mid ap d4 hx hg hlt ih3 ih2 ih1 =>
    intro hab hb hN hlim hB
    have s1 : Sort.PermIn a b d d1 := Sort.step_break d hab hb _
    have b1 : b ≤ d1.size := by rw [s1.1]; exact hb
    have s2 : Sort.PermIn a b d1 d2 := Sort.step_reverse Sort.reverseRange_holds d1 hab b1 _
    have b2 : b ≤ d2.size := by rw [s2.1]; exact b1
    have B2 : Sort.Below ltM a b d2 := (hB.perm hb s1).perm b1 s2
    have s3 := Sort.step_partial (Sort.partialInsertionSort_holds (lt := ltM)) ltM_swo d2 (a := a) (b := b) (by omega) b2 B2 ((wb && wp && decide (hint = Sort.Hint.increasing)) = true)
    have s3' : Sort.PermIn a b d2 d3 := s3.1
    have b3 : b ≤ d3.size := by rw [s3'.1]; exact b2
    have B3 : Sort.Below ltM a b d3 := B2.perm b2 s3'
    have hN3 : N = d3.size := by rw [s3'.1, s2.1, s1.1]; exact hN
    have hc0 := Sort.choosePivot_holds ltM d1 a b (by omega)
    have hpv : a ≤ pivot ∧ pivot < b := Sort.pivot_range hc0.1 hc0.2 _
    obtain ⟨g1, g2, hs4, hBa, hBr, _, hright⟩ := Sort.round_part ltM_swo (Sort.partition_holds ltM) hpv.1 hpv.2 b3 B3 hx
    have hlim1 : limit ≤ limit0 := by show (if (!wb) = true then limit0 - 1 else limit0) ≤ limit0; split <;> omega
    have L := Sort.pdq_sorts ltM ltM_swo d4 (mid + 1) b limit true true (by omega) (by rw [hs4]; exact b3) hBr
    obtain ⟨hBL, hfin⟩ := hright _ L.1 L.2
    refine (pd_pre hid hb62 (limit1 := limit) (pivot := pivot) hN hab (by omega) h12 hl hlim rfl rfl rfl rfl rfl rfl rfl).trans ((if_neg hpi2).trans ?_)
    refine (rest_r hid hb62 hN3 (by omega) (by omega) (by omega) hc hx g1 g2 hlt (ih3 (by omega) (by rw [hs4]; exact b3) (by rw [hs4]; exact hN3) (by omega) hBr)).trans ?_
    exact ih1 g1 (by rw [L.1.1, hs4]; omega) (by rw [L.1.1, hs4]; exact hN3) (by omega) hBL
  case case8 d a b limit wb wp h12 hl d1 c d2 pivot hint pi hpi2 d3 hc mid ap d4 hx hg =>
    intro hab hb hN hlim hB
    have s1 : Sort.PermIn a b d d1 := Sort.step_break d hab hb _
    have b1 : b ≤ d1.size := by rw [s1.1]; exact hb
    have s2 : Sort.PermIn a b d1 d2 := Sort.step_reverse Sort.reverseRange_holds d1 hab b1 _
    have b2 : b ≤ d2.size := by rw [s2.1]; exact b1
    have B2 : Sort.Below ltM a b d2 := (hB.perm hb s1).perm b1 s2
    have s3 := Sort.step_partial (Sort.partialInsertionSort_holds (lt := ltM)) ltM_swo d2 (a := a) (b := b) (by omega) b2 B2 ((wb && wp && decide (hint = Sort.Hint.increasing)) = true)
    have s3' : Sort.PermIn a b d2 d3 := s3.1
    have b3 : b ≤ d3.size := by rw [s3'.1]; exact b2
    have B3 : Sort.Below ltM a b d3 := B2.perm b2 s3'
    have hN3 : N = d3.size := by rw [s3'.1, s2.1, s1.1]; exact hN
    have hc0 := Sort.choosePivot_holds ltM d1 a b (by omega)
    have hpv : a ≤ pivot ∧ pivot < b := Sort.pivot_range hc0.1 hc0.2 _
    obtain ⟨g1, g2, _⟩ := Sort.round_part ltM_swo (Sort.partition_holds ltM) hpv.1 hpv.2 b3 B3 hx
    exact absurd ⟨g1, g2⟩ hg

theorem sortFunc_am {d : Array Msg} (hN : N = d.size) :
    Cl 69 [winM id N, cm] (HB h0 id d) = some (.tup [], HB h0 id (Sort.sort ltM d)) := by
  rw [f69_eq, f69_r0]
  have l : lenV P 23 (winM id N).weak = some (iv N) := by simp [lenV, winM, V.weak, und_23, iv]
  refine (bstep l _).trans ?_
  rw [f69_r1]
  refine (bstep (conv_int und_98 ..) _).trans ?_
  rw [wrap_u64 (by omega) (by omega)]
  refine (bstep (len_am (n := N) (by omega)) _).trans ?_
  have hbl : Sort.bitsLen N ≤ 62 := (Sort.bitsLen_le_iff N 62).2 (by omega)
  have := pd_all hid hb62 d 0 N (Sort.bitsLen N) true true (Nat.zero_le _) (by omega) hN (by omega) (Or.inl rfl)
  refine (bstep ((call82 hid hb62 0 N (Sort.bitsLen N) d).trans this) _).trans ?_
  rw [hb_len, hb_ret, hN]; rfl
end

/-! ### fold.Sort -/
def vMs (f : Fl) (l : List Msg) : V := .lst 38 f (l.map vMsg)
def sortM (l : List Msg) : List Msg := l.mergeSort (fun x y => !ltM y x)
theorem sort_toList (l : List Msg) : (Sort.sort ltM l.toArray).toList = sortM l := by
  have h := Sort.sort_sorts ltM ltM_swo l.toArray
  exact Sort.sorted_unique_holds ltM_swo ltM_eq _ _ h.1 h.2

theorem clean_Ms : ∀ l : List Msg, cleanL (l.map vMsg) = true
  | [] => rfl
  | x :: l => by simp only [List.map_cons, cleanL, clean_Ms l]; rfl
theorem norm_Ms : ∀ l : List Msg, normL (l.map vMsg) = l.map vMsg
  | [] => rfl
  | x :: l => by simp only [List.map_cons, normL, norm_Ms l]; rfl
theorem tyOkL_Ms (l : List Msg) : tyOkL P 38 (l.map vMsg) = true := by simp [tyOkL, tyMsg]

theorem Sort_am (f : Fl) (l : List Msg) (hl : l.length ≤ 1000000) : Cl 50 [vMs f l] [] = some (vMs .sh (sortM l), []) := by
  rw [f50_eq, f50_r0, f50_r1]
  refine (bstep (appL K_23 (Or.inr rfl) (y := vMs f l) (ys := l.map vMsg) rfl (clean_Ms l) (tyOkL_Ms l) (by simp; omega) hs_38) _).trans ?_
  rw [List.nil_append]
  refine (bstep (show toBox [] (.lst 38 .own (l.map vMsg)) = some (winM 0 l.length, [rowM l.toArray]) by simp [toBox, winM, rowM]) _).trans ?_
  rw [f50_r2]
  have hb : [rowM l.toArray] = HB [rowM l.toArray] 0 l.toArray := rfl
  rw [hb]
  refine (bstep (sortFunc_am (h0 := [rowM l.toArray]) (id := 0) (N := l.length) (by simp) (by omega) (by simp)) _).trans ?_
  rw [f50_r3]
  have hp := (Sort.sort_sorts ltM ltM_swo l.toArray).1.1
  have hs : (sortM l).length = l.length := by rw [sortM, List.length_mergeSort]
  have c : content (HB [rowM l.toArray] 0 (Sort.sort ltM l.toArray)) (winM 0 l.length) = some ((sortM l).map vMsg) := by
    simp [content, winM, HB, rd, V.at, V.items, rowM, sort_toList]
    rw [← hs]; exact List.take_of_length_le (by simp)
  simp only [finT]
  have u : (winM 0 l.length).unmut (HB [rowM l.toArray] 0 (Sort.sort ltM l.toArray)) = .lst 38 .sh ((sortM l).map vMsg) := by
    rw [winM] at c ⊢
    simp only [V.unmut, c, clean_Ms, norm_Ms, if_true]
  rw [u]
  rfl
end Go.Proofs.YtmjocdbdbofcbaaDoor
end

section
set_option linter.unusedVariables false
set_option linter.unusedSimpArgs false
set_option linter.unusedSectionVars false
set_option maxRecDepth 100000
namespace Go.Proofs.YtmjocdbdbofcbaaDoor
open Go AM

def I64 (x : Int) : Prop := -9223372036854775808 ≤ x ∧ x < 9223372036854775808
def MOk (m : Msg) : Prop := I64 m.fr ∧ I64 m.to ∧ I64 m.val
def rowB (m : Msg) : List UInt8 := if m.fr < 0 ∨ m.to < 0 then [] else numB m.fr.toNat ++ numB m.to.toNat ++ numB (unz m.val)
theorem rowB_len (m : Msg) : (rowB m).length ≤ 30 := by
  have a := numBf_len 10 m.fr.toNat; have b := numBf_len 10 m.to.toNat; have c := numBf_len 10 (unz m.val)
  simp only [rowB]; split
  · simp
  · simp only [List.length_append, numB]; omega

theorem reify_Ms' (h : List V) : ∀ l : List Msg, reifyL h (l.map vMsg) = l.map vMsg
  | [] => rfl
  | x :: l => by simp only [List.map_cons, reifyL, reify_Ms' h l]; rfl
theorem reify_Ms (h : List V) (f : Fl) (l : List Msg) : ∃ g, V.reify h (vMs f l) = vMs g l := by
  cases f <;> simp only [vMs, V.reify, reify_Ms'] <;> exact ⟨_, rfl⟩
theorem reify1_Ms (h : List V) (f : Fl) (l : List Msg) : ∃ g, reifyL h [vMs f l] = [vMs g l] := by
  obtain ⟨g, hg⟩ := reify_Ms h f l; exact ⟨g, by simp only [reifyL, hg]⟩
theorem convI {B : Type} {h : List V} {x : Int} (h0 : 0 ≤ x) (h1 : x < 9223372036854775808) (K : V → Option B) : (conv P h 3 61 (.int .i64 x)).bind K = K (.int .u64 (x.toNat : Int)) := by
  refine (bstep (conv_int und_61 ..) _).trans ?_
  rw [wrap_u64 (by omega) (by omega)]
  congr 2; omega

theorem row_am {m : Msg} (hm : MOk m) : Cl 58 [vMsg m] [] = some (.str (rowB m), []) := by
  obtain ⟨h1, h2, h3⟩ := hm
  have c1 : (tyOk P 38 (vMsg m) && V.under (List.length ([] : List V)) (vMsg m)) = true := by rw [tyMsg, unMsg]; rfl
  have g0 : ([] ++ [vMsg m] : List V)[0]? = some (vMsg m) := rfl
  rw [f58_eq, f58_r0, if_pos c1, f58_r1]
  refine (msgFr g0 _).trans ?_
  by_cases hf : m.fr < 0
  · refine (lssT hf _).trans ?_
    rw [ite_tt, ite_tt, f58_r2, rowB, if_pos (Or.inl hf)]; rfl
  refine (lssF hf _).trans ?_
  rw [ite_ff]
  refine (msgTo g0 _).trans ?_
  by_cases ht : m.to < 0
  · refine (lssT ht _).trans ?_
    rw [ite_tt, f58_r2, rowB, if_pos (Or.inr ht)]; rfl
  refine (lssF ht _).trans ?_
  rw [ite_ff, f58_r3]
  refine (bstep (NewOut_am _) _).trans ?_
  have g1 : ∀ o : V, ([] ++ [vMsg m] ++ [o] : List V)[0]? = some (vMsg m) := fun o => rfl
  have o1 : ∀ o : V, ([] ++ [vMsg m] ++ [o] : List V)[1]? = some o := fun o => rfl
  have st : ∀ o o' : V, ([] ++ [vMsg m] ++ [o] : List V).set 1 o' = [] ++ [vMsg m] ++ [o'] := fun o o' => rfl
  have a := numBf_len 10 m.fr.toNat; have b := numBf_len 10 m.to.toNat; have c := numBf_len 10 (unz m.val)
  have nr : ∀ (x : Int) (k : IntKind), normL [rOut ([] ++ [vMsg m] : List V).length, .int k x] = [rOut 1, .int k x] := fun x k => rfl
  rw [f58_r4]
  refine (msgFr (g1 _) _).trans <| (convI (by omega) h1.2 _).trans ?_
  rw [nr]
  refine (bstep (OutNum_am (o1 _) (Or.inr rfl) (by have := h1.2; omega) (by simp)) _).trans ?_
  rw [st, f58_r5]
  refine (msgTo (g1 _) _).trans <| (convI (by omega) h2.2 _).trans ?_
  rw [nr]
  refine (bstep (OutNum_am (o1 _) (Or.inl rfl) (by have := h2.2; omega) (by simp only [numB, List.length_append, List.length_nil]; omega)) _).trans ?_
  rw [st, f58_r6]
  refine (msgVal (g1 _) _).trans ?_
  rw [nr]
  refine (bstep (OutInt_am (o1 _) (Or.inl rfl) h3.1 h3.2 (by simp only [numB, List.length_append, List.length_nil]; omega)) _).trans ?_
  rw [st, f58_r7]
  refine (bstep (OutDone_am (o1 _)) _).trans ?_
  rw [fin_str, rowB, if_neg (by omega)]
  simp

/-! ### the rows of messages -/
def sL (f : Fl) (l : List (List UInt8)) : V := .lst 9 f (l.map V.str)
theorem tyStr (s : List UInt8) : tyOk P 9 (.str s) = true := by simp [tyOk, K_9, scalOk, und_9]
theorem fin_sL (n : Nat) (h : List V) (f : Fl) (hf : f ≠ .lent) (l : List (List UInt8)) : finT n h (sL f l) = some (sL .sh l, h.take n) := by
  cases f <;> first | exact absurd rfl hf | rfl
theorem under_str : ∀ (n : Nat) (l : List (List UInt8)), underL n (l.map V.str) = true
  | _, [] => rfl
  | n, x :: l => by simp only [List.map_cons, underL, under_str n l]; rfl
theorem under_msg : ∀ (n : Nat) (l : List Msg), underL n (l.map vMsg) = true
  | _, [] => rfl
  | n, x :: l => by simp only [List.map_cons, underL, under_msg n l]; rfl
theorem under_sL (n : Nat) (f : Fl) (l : List (List UInt8)) : (sL f l).under n = true := by cases f <;> first | rfl | exact under_str n l
theorem under_Ms (n : Nat) (f : Fl) (l : List Msg) : (vMs f l).under n = true := by cases f <;> first | rfl | exact under_msg n l

theorem app1S {B : Type} {f : Fl} {h : List V} {l : List (List UInt8)} (hf : OK f) (hl : l.length + 1 ≤ 2147483648) (x : List UInt8) (K' : V → Option B) :
    (bldS P 57 1 [(0, .str x)]).bind (fun y => (appd P 57 h (sL f l) y).bind K') = K' (sL .own (l ++ [x])) := by
  refine (bstep (bldS1 K_57 (tyStr x) rfl hs_9 ⟨_, rfl⟩) _).trans ?_
  have t1 : tyOkL P 9 [V.str x] = true := by simp [tyOkL, tyStr]
  refine (bstep (appL K_57 hf (y := V.lst 9 .own [.str x]) rfl rfl t1 (by simpa using hl) hs_9) _).trans ?_
  rw [sL, List.map_append]; rfl

theorem Ms_get {l : List Msg} {i : Nat} (hi : i < l.length) : (l.map vMsg)[i]? = some (vMsg l[i]) := by simp [hi]

theorem rows_l0 (l : List Msg) (hl : ∀ m ∈ l, MOk m) (hn : l.length ≤ 1000000) (g : Fl) : ∀ (n i : Nat) (f : Fl) (done : List (List UInt8)), i + n = l.length → OK f → done.length = i →
    f33_l0 (sL f done) (vMs g l) (iv l.length) (iv i) [] = some (sL .sh (done ++ (l.drop i).map rowB), []) := by
  intro n
  induction n with
  | zero =>
    intro i f done hi hf hd
    rw [f33_l0_eq, f33_r3]
    refine (lssF (by omega) _).trans ?_
    rw [ite_ff, f33_r7, fin_sL 0 [] f (by rcases hf with rfl | rfl <;> (intro h; cases h)), List.drop_eq_nil_of_le (by omega)]
    simp
  | succ n ih =>
    intro i f done hi hf hd
    have hlt : i < l.length := by omega
    rw [f33_l0_eq, f33_r3]
    refine (lssT (by omega) _).trans ?_
    rw [ite_tt, f33_r4]
    refine (idxL K_23 (Ms_get hlt) _).trans <| (ldR _).trans ?_
    refine (bstep (sto_nil (P := P) (h := [] ++ [zero P 38]) (id := 0) rfl (tyMsg _) rfl) _).trans ?_
    rw [f33_r5]
    refine (bstep (ldP_ref (v := vMsg l[i]) (rd_nil rfl)) _).trans ?_
    refine (bstep (row_am (hl _ (List.getElem_mem hlt))) _).trans ?_
    refine (app1S hf (by omega) _ _).trans ?_
    rw [f33_r6]
    refine (addT (b := 1) (by omega) _).trans ?_
    have u : underL (List.length ([] : List V)) [sL .own (done ++ [rowB l[i]]), vMs g l, iv l.length, iv (i + 1)] = true := by
      simp only [underL, under_sL, under_Ms]; rfl
    refine (if_pos u).trans ?_
    have := ih (i + 1) .own (done ++ [rowB l[i]]) (by omega) (Or.inl rfl) (by simp [hd])
    rw [List.append_assoc] at this
    rw [List.drop_eq_getElem_cons hlt, List.map_cons]
    exact this

theorem sortM_mem {l : List Msg} {m : Msg} : m ∈ sortM l ↔ m ∈ l := List.mem_mergeSort
theorem sortM_len (l : List Msg) : (sortM l).length = l.length := List.length_mergeSort l

def rowsB (l : List Msg) : List (List UInt8) := (sortM l).map rowB
theorem Rows_am {f : Fl} {l : List Msg} (hl : ∀ m ∈ l, MOk m) (hn : l.length ≤ 1000000) : Cl 33 [vMs f l] [] = some (sL .sh (rowsB l), []) := by
  rw [f33_eq, f33_r0, f33_r1, f33_r2]
  obtain ⟨g, hg⟩ := reify1_Ms [] f l
  rw [hg]
  refine (bstep (Sort_am g l hn) _).trans ?_
  refine (lenL und_23 _).trans ?_
  have := rows_l0 (sortM l) (fun m hm => hl m (sortM_mem.1 hm)) (by rw [sortM_len]; exact hn) .sh (sortM l).length 0 .nil [] (by omega) (Or.inr rfl) rfl
  rw [List.drop_zero, List.nil_append] at this
  rw [List.length_map]
  exact this
end Go.Proofs.YtmjocdbdbofcbaaDoor
end

section
set_option linter.unusedVariables false
set_option linter.unusedSimpArgs false
set_option linter.unusedSectionVars false
set_option maxRecDepth 100000
namespace Go.Proofs.YtmjocdbdbofcbaaDoor
open Go AM

theorem bldP2 (a b : List UInt8) : bldS P 123 2 [(0, bL .own a), (1, bL .own b)] = some (.lst 55 .own (parts [(.sh, a), (.sh, b)])) := by
  simp [bldS, K_123, setParts, tyB, cp, hs_55, bL, List.replicate, cleanL, V.clean, nrmL, normL, V.norm, V.weak, parts, part, K_55, tyOk]

theorem flat2 (f g : Fl) (a b : List UInt8) : flat [(f, a), (g, b)] = a ++ b := by simp [flat]

theorem Leaf_am {s : List UInt8} (hs : s.length < 2147000000) : Cl 79 [.str s] [] = some (A32 (sha (0 :: s)), []) := by
  rw [f79_eq, f79_r0, f79_r1, zr32]
  refine (bstep (bld1B 0 (by omega)) _).trans <| (cvStr (by omega) _).trans <| (bstep (bldP2 _ _) _).trans ?_
  obtain ⟨f', L', e1, e2, e3⟩ := reify_parts ([] ++ [A32 (List.replicate 32 0)]) .own [(.sh, [UInt8.ofNat 0]), (.sh, s)]
  have er : reifyL ([] ++ [A32 (List.replicate 32 0)]) [.lst 55 .own (parts [(.sh, [UInt8.ofNat 0]), (.sh, s)])] = [.lst 55 f' (parts L')] := by simp only [reifyL, e1]
  rw [er]
  rw [flat2] at e2
  refine (bstep (of_am L' (by rw [e3]; simp) f' (by rw [e2]; simp; omega) (by rw [e2]; simp)) _).trans ?_
  refine (bstep (sto_nil (P := P) (h := [] ++ [A32 (List.replicate 32 0)]) (id := 0) rfl (tyA32 _) (unA32 _ _)) _).trans ?_
  refine (bstep (ldP_ref (h := [A32 (sha (flat L'))]) (id := 0) (v := A32 (sha (flat L'))) (rd_nil rfl)) _).trans ?_
  rw [fin_A32, e2]; rfl

/-! ### the document's -/
end Go.Proofs.YtmjocdbdbofcbaaDoor
end

section
set_option linter.unusedVariables false
set_option linter.unusedSimpArgs false
set_option linter.unusedSectionVars false
set_option maxRecDepth 100000
namespace Go.Proofs.YtmjocdbdbofcbaaDoor
open Go AM

theorem bldP3w (a b c : List UInt8) (id : Nat) (h : List V) : bldS P 123 3 [(0, bL .own a), (1, bL .own b), (2, .win id [] 0 32 5)] = some (.lst 55 .lent [bL .sh a, bL .sh b, .win id [] 0 32 5]) := by
  simp [bldS, K_123, setParts, tyB, cp, hs_55, bL, List.replicate, cleanL, V.clean, nrmL, normL, V.norm, V.weak, K_55, tyOk]
theorem sliA {id : Nat} : sli P 33 (.ref id [] 33) none none none = some (.win id [] 0 32 5) := by
  simp [sli, K_33, bounds]
theorem reify_w {h : List V} {id : Nat} {c : List UInt8} (hh : h[id]? = some (A32 c)) (hc : c.length = 32) : V.reify h (.win id [] 0 32 5) = bL .lent c := by
  have : content h (.win id [] 0 32 5) = some (bytesOf c) := by
    simp [content, rd, hh, V.at, V.items, A32]
    rw [List.take_of_length_le (by rw [bytesOf_len]; omega)]
  simp only [V.reify, this, clean_bytes, norm_bytes, if_true, bL]

/-- the root: a number of leaves, and their top -/
def rootB (n : Nat) (t : List UInt8) : List UInt8 := sha ([3] ++ numB n ++ t)

theorem root_am {n : Nat} {t : List UInt8} (hn : n < 1000000000) (ht : t.length = 32) : Cl 67 [iv n, A32 t] [] = some (A32 (rootB n t), []) := by
  have c1 : (tyOk P 33 (A32 t) && V.under (List.length ([] : List V)) (A32 t)) = true := by rw [tyA32, unA32]; rfl
  have nb := numBf_len 10 n
  rw [f67_eq, f67_r0, if_pos c1, zr32, f67_r1]
  refine (bstep (NewOut_am _) _).trans ?_
  rw [f67_r2]
  refine (convI (by omega) (by omega) _).trans ?_
  have e1 : normL [rOut (([] ++ [A32 t]) ++ [A32 (List.replicate 32 0)] : List V).length, V.int .u64 ((n : Int).toNat : Int)] = [rOut 2, V.int .u64 (n : Int)] := rfl
  rw [e1]
  refine (bstep (OutNum_am (id := 2) (h := (([] ++ [A32 t]) ++ [A32 (List.replicate 32 0)]) ++ [vOut .nil []]) rfl (Or.inr rfl) (by omega) (by simp)) _).trans ?_
  rw [f67_r3]
  have eh : ((([] ++ [A32 t]) ++ [A32 (List.replicate 32 0)]) ++ [vOut .nil []] : List V).set 2 (vOut .own ([] ++ numB n)) = [A32 t, A32 (List.replicate 32 0), vOut .own (numB n)] := rfl
  rw [eh]
  refine (bstep (bld1B 3 (by omega)) _).trans ?_
  refine (bstep (OutDone_am (id := 2) (h := [A32 t, A32 (List.replicate 32 0), vOut .own (numB n)]) rfl) _).trans ?_
  refine (cvStr (by rw [numB]; omega) _).trans <| (bstep sliA _).trans <| (bstep (bldP3w [UInt8.ofNat 3] (numB n) [] 0 []) _).trans ?_
  have er : reifyL [A32 t, A32 (List.replicate 32 0), vOut .own (numB n)] [.lst 55 .lent [bL .sh [UInt8.ofNat 3], bL .sh (numB n), .win 0 [] 0 32 5]] = [.lst 55 .lent (parts [(.sh, [UInt8.ofNat 3]), (.sh, numB n), (.lent, t)])] := by
    have w := reify_w (h := [A32 t, A32 (List.replicate 32 0), vOut .own (numB n)]) (id := 0) (c := t) rfl ht
    show [V.lst 55 .lent [V.reify _ (bL .sh [UInt8.ofNat 3]), V.reify _ (bL .sh (numB n)), V.reify [A32 t, A32 (List.replicate 32 0), vOut .own (numB n)] (.win 0 [] 0 32 5)]] = _
    rw [w]; rfl
  rw [er]
  have ef : flat [(.sh, [UInt8.ofNat 3]), (.sh, numB n), (.lent, t)] = [3] ++ numB n ++ t := by simp [flat]
  refine (bstep (of_am _ (by simp) .lent (by rw [ef]; simp only [List.length_append, numB]; simp; omega) (by rw [ef]; simp)) _).trans ?_
  rw [ef]
  refine (bstep (sto_nil (P := P) (h := [A32 t, A32 (List.replicate 32 0), vOut .own (numB n)]) (id := 1) rfl (tyA32 _) (unA32 _ _)) _).trans ?_
  refine (bstep (ldP_ref (h := [A32 t, A32 (sha ([3] ++ numB n ++ t)), vOut .own (numB n)]) (id := 1) (v := A32 (sha ([3] ++ numB n ++ t))) (rd_nil rfl)) _).trans ?_
  exact fin_A32 _ _ _

/-! ### the document's numbers -/
end Go.Proofs.YtmjocdbdbofcbaaDoor
end
