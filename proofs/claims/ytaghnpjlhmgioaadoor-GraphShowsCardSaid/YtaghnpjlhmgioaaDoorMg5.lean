/-
  Part of the proof of a statement about the given program: an abstract machine over its code, the simulation, its functions' equations, what they compute.
-/
import Derived.Test.YtaghnpjlhmgioaaDoorMg4
section
set_option maxRecDepth 100000
set_option linter.unusedVariables false
namespace Go.Proofs.YtaghnpjlhmgioaaDoor
open Go AM
theorem f4_eq (t0 : V) : Cl 4 [t0] [] =
 if ((tyG 23) (V.weak t0) && V.under 0 (V.weak t0)) = true then jn (fun t16_1 =>
 V.ite t16_1
  ((Cl 10 (reifyL [(V.weak t0)] []) []).bind fun r_2 => finT 0 [(V.weak t0)] r_2.1)
  ((ldS [(V.weak t0)] 24 (V.ref 0 [] 24)).bind fun t19_3 => (Cl 13 (reifyL [(V.weak t0)] [t19_3]) []).bind fun r_4 => (Cl 22 (reifyL [(V.weak t0)] [r_4.1]) []).bind fun r_5 => (ext r_5.1 0).bind fun t22_6 => (ext r_5.1 1).bind fun t23_7 => (ldS [(V.weak t0)] 24 (V.ref 0 [] 24)).bind fun t24_8 => (Cl 11 (reifyL [(V.weak t0)] [t24_8]) []).bind fun r_9 => (bin .neq r_9.1 (V.int .i64 0)).bind fun t27_10 => V.ite t27_10
  (jn (fun t2_11 =>
 finT 0 [(V.weak t0)] t2_11) (fun (k_12 : V → Rv) => (bin .eql t22_6 (V.str [])).bind fun t29_13 => V.ite t29_13 ((bin .eql t23_7 r_9.1).bind fun t33_14 => k_12 t33_14) (k_12 (V.bool false))))
  ((Cl 23 (reifyL [(V.weak t0)] [t22_6]) []).bind fun r_15 => (extS r_15.1 0).bind fun t38_16 => (ext r_15.1 1).bind fun t39_17 => (ext r_15.1 2).bind fun t40_18 => (stT (tyG 23) 24 [(V.weak t0), (V.agg 23 [(V.int .i64 0), (V.lst 45 .nil [])])] (V.ref 1 [] 24) t38_16).bind fun h_19 => jn (fun t2_20 =>
 finT 0 h_19 t2_20) (fun (k_21 : V → Rv) => (bin .eql t23_7 (V.int .i64 0)).bind fun t42_22 => V.ite t42_22 ((ldS h_19 24 (V.ref 0 [] 24)).bind fun t45_23 => (Cl 24 (reifyL h_19 [t45_23]) []).bind fun r_24 => (bin .eql t22_6 r_24.1).bind fun t47_25 => V.ite t47_25 ((ldS h_19 24 (V.ref 1 [] 24)).bind fun t50_26 => (ldS h_19 24 (V.ref 0 [] 24)).bind fun t51_27 => (Cl 18 (reifyL h_19 [t51_27]) []).bind fun r_28 => (Cl 15 (reifyL h_19 [t50_26, r_28.1]) []).bind fun r_29 => V.ite r_29.1 ((bin .eql t39_17 (V.int .i64 0)).bind fun t57_30 => V.ite t57_30 ((bin .eql t40_18 (V.int .i64 0)).bind fun t61_31 => k_21 t61_31) (k_21 (V.bool false))) (k_21 (V.bool false))) (k_21 (V.bool false))) (k_21 (V.bool false)))))) (fun (k_32 : V → Rv) => (Cl 10 (reifyL [(V.weak t0)] []) []).bind fun r_33 => (un .not r_33.1).bind fun t10_34 => V.ite t10_34 (k_32 (V.bool true)) ((fA 24 22 1 (V.ref 0 [] 24)).bind fun t12_35 => (ldS [(V.weak t0)] 22 t12_35).bind fun t13_36 => (lnL t13_36).bind fun t14_37 => (bin .gtr t14_37 (V.int .i64 600)).bind fun t15_38 => k_32 t15_38)) else none :=
 f_eq (by kernel_rfl)
noncomputable def f11_l0 (t1 t3 t4 : V) (h : List V) : Rv := lp W 11 0 (cd 11 151) (bk 0 (sk 11 0 31 (lv 11 0))) ⟨[(1, t1), (3, t3), (4, t4)], h⟩
noncomputable def f11_l2 (t1 t3 t4 t5 t6 : V) (m0 : Nat) (h : List V) : Rv := lp W 11 2 (cd 11 40087) (bk 2 (bk 1 (sk 11 0 919 (lk 11 0 m0 151 (bk 0 (sk 11 0 31 (lv 11 0))))))) ⟨[(1, t1), (3, t3), (4, t4), (5, t5), (6, t6)], h⟩
theorem f11_l2_eq (t1 t3 t4 t5 t6 : V) (m0 : Nat) (h : List V) : f11_l2 t1 t3 t4 t5 t6 m0 h =
 (bin .lss t6 t4).bind fun t67_12 => V.ite t67_12
  (jn (fun t3_13 =>
 (bin .add t6 (V.int .i64 1)).bind fun t69_14 => f11_l2 t1 t3_13 t4 t5 t69_14 m0 h) (fun (k_15 : V → Rv) => V.ite t3 (k_15 (V.bool true)) ((fA 24 22 1 t1).bind fun t72_16 => (ldS h 22 t72_16).bind fun t73_17 => (ixS 45 t73_17 t6).bind fun t75_18 => (fA 45 3 0 t75_18).bind fun t76_19 => (ldP h 3 t76_19).bind fun t77_20 => (fA 45 3 0 t5).bind fun t78_21 => (ldP h 3 t78_21).bind fun t79_22 => (bin .eql t77_20 t79_22).bind fun t80_23 => V.ite t80_23 ((fA 24 22 1 t1).bind fun t82_24 => (ldS h 22 t82_24).bind fun t83_25 => (ixS 45 t83_25 t6).bind fun t85_26 => (fA 45 3 1 t85_26).bind fun t86_27 => (ldP h 3 t86_27).bind fun t87_28 => (fA 45 3 1 t5).bind fun t88_29 => (ldP h 3 t88_29).bind fun t89_30 => (bin .eql t87_28 t89_30).bind fun t90_31 => k_15 t90_31) (k_15 (V.bool false)))))
  ((bin .add t4 (V.int .i64 1)).bind fun t27_32 => if underL m0 [t1, t3, t27_32] = true then f11_l0 t1 t3 t27_32 (List.take m0 h) else none) :=
 l_eq (by kernel_rfl)
theorem f11_l0_eq (t1 t3 t4 : V) (h : List V) : f11_l0 t1 t3 t4 h =
 (fA 24 22 1 t1).bind fun t22_2 => (ldS h 22 t22_2).bind fun t23_3 => (lnL t23_3).bind fun t24_4 => (bin .lss t4 t24_4).bind fun t25_5 => V.ite t25_5
  ((fA 24 22 1 t1).bind fun t28_6 => (ldS h 22 t28_6).bind fun t29_7 => (ixS 45 t29_7 t4).bind fun t31_8 => (ldP h 45 t31_8).bind fun t32_9 => (stT (tyG 44) 45 (h ++ [(V.agg 44 [(V.int .i64 0), (V.int .i64 0), (V.int .i64 0)])]) (V.ref (List.length h) [] 45) t32_9).bind fun h_10 => jn (fun t64_11 =>
 V.ite t64_11
  (finT 0 h_10 (V.int .i64 50))
  (f11_l2 t1 t3 t4 (V.ref (List.length h) [] 45) (V.int .i64 0) (List.length h) h_10)) (fun (k_33 : V → Rv) => (fA 45 3 0 (V.ref (List.length h) [] 45)).bind fun t33_34 => (ldP h_10 3 t33_34).bind fun t34_35 => (bin .lss t34_35 (V.int .i64 0)).bind fun t35_36 => V.ite t35_36 (k_33 (V.bool true)) ((fA 45 3 0 (V.ref (List.length h) [] 45)).bind fun t37_37 => (ldP h_10 3 t37_37).bind fun t38_38 => (fA 24 3 0 t1).bind fun t39_39 => (ldP h_10 3 t39_39).bind fun t40_40 => (bin .geq t38_38 t40_40).bind fun t41_41 => V.ite t41_41 (k_33 (V.bool true)) ((fA 45 3 1 (V.ref (List.length h) [] 45)).bind fun t44_42 => (ldP h_10 3 t44_42).bind fun t45_43 => (bin .lss t45_43 (V.int .i64 0)).bind fun t46_44 => V.ite t46_44 (k_33 (V.bool true)) ((fA 45 3 1 (V.ref (List.length h) [] 45)).bind fun t49_45 => (ldP h_10 3 t49_45).bind fun t50_46 => (fA 24 3 0 t1).bind fun t51_47 => (ldP h_10 3 t51_47).bind fun t52_48 => (bin .geq t50_46 t52_48).bind fun t53_49 => V.ite t53_49 (k_33 (V.bool true)) ((fA 45 2 2 (V.ref (List.length h) [] 45)).bind fun t56_50 => (ldP h_10 2 t56_50).bind fun t57_51 => (bin .lss t57_51 (V.int .i64 0)).bind fun t58_52 => V.ite t58_52 (k_33 (V.bool true)) ((fA 45 2 2 (V.ref (List.length h) [] 45)).bind fun t61_53 => (ldP h_10 2 t61_53).bind fun t62_54 => (bin .gtr t62_54 (V.int .i64 1048576)).bind fun t63_55 => k_33 t63_55)))))))
  (V.ite t3
  (finT 0 h (V.int .i64 51))
  (finT 0 h (V.int .i64 0))) :=
 l_eq (by kernel_rfl)
theorem f11_eq (t0 : V) : Cl 11 [t0] [] =
 if ((tyG 23) (V.weak t0) && V.under 0 (V.weak t0)) = true then jn (fun t20_1 =>
 V.ite t20_1
  (finT 0 [(V.weak t0)] (V.int .i64 50))
  (f11_l0 (V.ref 0 [] 24) (V.bool false) (V.int .i64 0) [(V.weak t0)])) (fun (k_56 : V → Rv) => (fA 24 3 0 (V.ref 0 [] 24)).bind fun t7_57 => (ldP [(V.weak t0)] 3 t7_57).bind fun t8_58 => (bin .lss t8_58 (V.int .i64 1)).bind fun t9_59 => V.ite t9_59 (k_56 (V.bool true)) ((fA 24 3 0 (V.ref 0 [] 24)).bind fun t11_60 => (ldP [(V.weak t0)] 3 t11_60).bind fun t12_61 => (bin .gtr t12_61 (V.int .i64 64)).bind fun t13_62 => V.ite t13_62 (k_56 (V.bool true)) ((fA 24 22 1 (V.ref 0 [] 24)).bind fun t16_63 => (ldS [(V.weak t0)] 22 t16_63).bind fun t17_64 => (lnL t17_64).bind fun t18_65 => (bin .gtr t18_65 (V.int .i64 512)).bind fun t19_66 => k_56 t19_66))) else none :=
 f_eq (by kernel_rfl)
theorem f12_eq (t0 : V) : Cl 12 [t0] [] =
 if ((tyG 23) (V.weak t0) && V.under 0 (V.weak t0)) = true then (ldS [(V.weak t0), (V.agg 23 [(V.int .i64 0), (V.lst 45 .nil [])])] 24 (V.ref 0 [] 24)).bind fun t5_1 => (Cl 14 (reifyL [(V.weak t0), (V.agg 23 [(V.int .i64 0), (V.lst 45 .nil [])])] [t5_1]) []).bind fun r_2 => (bin .neq r_2.1 (V.int .i64 0)).bind fun t8_3 => V.ite t8_3
  (((ck [] [(V.int .i64 0), (V.lst 45 .nil [])]).map (.agg 23)).bind fun t9_4 => (stT (tyG 23) 24 [(V.weak t0), (V.agg 23 [(V.int .i64 0), (V.lst 45 .nil [])])] (V.ref 1 [] 24) t9_4).bind fun h_5 => (ldS h_5 24 (V.ref 1 [] 24)).bind fun c_6 => if (List.all [r_2.1, c_6] V.okE) = true then finT 0 h_5 (V.tup [c_6, r_2.1]) else none)
  ((fA 24 3 0 (V.ref 0 [] 24)).bind fun t11_7 => if sameB (V.ref 0 [] 24) t11_7 = true then (ldP [(V.weak t0), (V.agg 23 [(V.int .i64 0), (V.lst 45 .nil [])])] 3 t11_7).bind fun t12_8 => (fA 24 22 1 (V.ref 0 [] 24)).bind fun t13_9 => (ldS [(V.weak t0), (V.agg 23 [(V.int .i64 0), (V.lst 45 .nil [])])] 22 t13_9).bind fun t14_10 => callH P ann W (some (V.ref 0 [] 24)) (V.clo 27 []) [t14_10] [(V.weak t0), (V.agg 23 [(V.int .i64 0), (V.lst 45 .nil [])])] fun t15_11 h_12 => callH P ann W (some (V.ref 0 [] 24)) (V.clo 26 []) [t15_11, (V.clo 28 [])] h_12 fun t16_13 h_14 => ((ck [(tyI .i64) t12_8, (tyL 45) t16_13] [t12_8, (V.weak t16_13)]).map (.agg 23)).bind fun t17_15 => (stT (tyG 23) 24 h_14 (V.ref 1 [] 24) t17_15).bind fun h_16 => (ldS h_16 24 (V.ref 1 [] 24)).bind fun c_17 => if (List.all [(V.int .i64 0), c_17] V.okE) = true then finT 0 h_16 (V.tup [c_17, (V.int .i64 0)]) else none else none) else none :=
 f_eq (by kernel_rfl)
theorem f13_eq (t0 : V) : Cl 13 [t0] [] =
 if ((tyG 23) (V.weak t0) && V.under 0 (V.weak t0)) = true then (fA 24 3 0 (V.ref 0 [] 24)).bind fun t3_1 => (ldP [(V.weak t0), (V.agg 23 [(V.int .i64 0), (V.lst 45 .nil [])])] 3 t3_1).bind fun t4_2 => (bsL 45 false (ck [] [])).bind fun t5_3 => (fA 24 22 1 (V.ref 0 [] 24)).bind fun t6_4 => (ldS [(V.weak t0), (V.agg 23 [(V.int .i64 0), (V.lst 45 .nil [])])] 22 t6_4).bind fun t7_5 => (apL 45 (tyG 44) false [(V.weak t0), (V.agg 23 [(V.int .i64 0), (V.lst 45 .nil [])])] t5_3 t7_5).bind fun t8_6 => ((ck [(tyI .i64) t4_2, (tyL 45) t8_6] [t4_2, (V.weak t8_6)]).map (.agg 23)).bind fun t9_7 => (stT (tyG 23) 24 [(V.weak t0), (V.agg 23 [(V.int .i64 0), (V.lst 45 .nil [])])] (V.ref 1 [] 24) t9_7).bind fun h_8 => (ldS h_8 24 (V.ref 1 [] 24)).bind fun c_9 => finT 0 h_8 c_9 else none :=
 f_eq (by kernel_rfl)
noncomputable def f14_l0 (t4 t5 : V) (h : List V) : Rv := lp W 14 0 (cd 14 303) (bk 0 (sk 14 0 63 (lv 14 0))) ⟨[(4, t4), (5, t5)], h⟩
theorem f14_l0_eq (t4 t5 : V) (h : List V) : f14_l0 t4 t5 h =
 (lnL (V.weak t4)).bind fun t33_8 => (bin .lss t5 t33_8).bind fun t34_9 => V.ite t34_9
  ((bin .sub t5 (V.int .i64 1)).bind fun t39_10 => (ixS 45 (V.weak t4) t39_10).bind fun t40_11 => (ldP h 45 t40_11).bind fun t41_12 => (ixS 45 (V.weak t4) t5).bind fun t44_13 => (ldP h 45 t44_13).bind fun t45_14 => (Cl 28 (reifyL h [t41_12, t45_14]) []).bind fun r_15 => (bin .eql r_15.1 (V.int .i64 0)).bind fun t47_16 => V.ite t47_16
  (finT 0 h (V.int .i64 51))
  ((bin .add t5 (V.int .i64 1)).bind fun t36_17 => f14_l0 t4 t36_17 h))
  (finT 0 h (V.int .i64 0)) :=
 l_eq (by kernel_rfl)
theorem f14_eq (t0 : V) : Cl 14 [t0] [] =
 if ((tyG 23) (V.weak t0) && V.under 0 (V.weak t0)) = true then (if (List.all [(V.ref 0 [] 24)] V.capOk) = true then some (V.clo 29 [(V.ref 0 [] 24)]) else none).bind fun t6_1 => jn (fun t26_2 h_3 =>
 V.ite t26_2
  (finT 0 h_3 (V.int .i64 50))
  ((fA 24 22 1 (V.ref 0 [] 24)).bind fun t27_4 => (ldS h_3 22 t27_4).bind fun t28_5 => (Cl 27 (normL [t28_5]) h_3).bind fun r_6 => (Cl 26 (normL [r_6.1, (V.clo 28 [])]) r_6.2).bind fun r_7 => f14_l0 r_7.1 (V.int .i64 1) r_7.2)) (fun (k_18 : V → List V → Rv) => (fA 24 3 0 (V.ref 0 [] 24)).bind fun t7_19 => (ldP [(V.weak t0)] 3 t7_19).bind fun t8_20 => (bin .lss t8_20 (V.int .i64 1)).bind fun t9_21 => V.ite t9_21 (k_18 (V.bool true) [(V.weak t0)]) ((fA 24 3 0 (V.ref 0 [] 24)).bind fun t11_22 => (ldP [(V.weak t0)] 3 t11_22).bind fun t12_23 => (bin .gtr t12_23 (V.int .i64 64)).bind fun t13_24 => V.ite t13_24 (k_18 (V.bool true) [(V.weak t0)]) ((fA 24 22 1 (V.ref 0 [] 24)).bind fun t16_25 => (ldS [(V.weak t0)] 22 t16_25).bind fun t17_26 => (lnL t17_26).bind fun t18_27 => (bin .gtr t18_27 (V.int .i64 512)).bind fun t19_28 => V.ite t19_28 (k_18 (V.bool true) [(V.weak t0)]) ((fA 24 22 1 (V.ref 0 [] 24)).bind fun t22_29 => (ldS [(V.weak t0)] 22 t22_29).bind fun t23_30 => (Cl 30 (normL [t23_30, t6_1]) [(V.weak t0)]).bind fun r_31 => k_18 r_31.1 r_31.2)))) else none :=
 f_eq (by kernel_rfl)
theorem f15_eq (t0 t1 : V) : Cl 15 [t0, t1] [] =
 if ((tyG 23) (V.weak t0) && V.under 0 (V.weak t0)) = true then if ((tyG 23) (V.weak t1) && V.under 1 (V.weak t1)) = true then jn (fun t4_1 =>
 finT 0 [(V.weak t0), (V.weak t1)] t4_1) (fun (k_2 : V → Rv) => (fA 24 3 0 (V.ref 0 [] 24)).bind fun t5_3 => (ldP [(V.weak t0), (V.weak t1)] 3 t5_3).bind fun t6_4 => (fA 24 3 0 (V.ref 1 [] 24)).bind fun t7_5 => (ldP [(V.weak t0), (V.weak t1)] 3 t7_5).bind fun t8_6 => (bin .eql t6_4 t8_6).bind fun t9_7 => V.ite t9_7 ((fA 24 22 1 (V.ref 0 [] 24)).bind fun t11_8 => (ldS [(V.weak t0), (V.weak t1)] 22 t11_8).bind fun t12_9 => (fA 24 22 1 (V.ref 1 [] 24)).bind fun t13_10 => (ldS [(V.weak t0), (V.weak t1)] 22 t13_10).bind fun t14_11 => (Cl 19 (reifyL [(V.weak t0), (V.weak t1)] [t12_9, t14_11]) []).bind fun r_12 => k_2 r_12.1) (k_2 (V.bool false))) else none else none :=
 f_eq (by kernel_rfl)
noncomputable def f18_l0 (t1 t2 t3 t4 : V) (h : List V) : Rv := lp W 18 0 (cd 18 75) (bk 0 (sk 18 0 15 (lv 18 0))) ⟨[(1, t1), (2, t2), (3, t3), (4, t4)], h⟩
noncomputable def f18_l2 (t1 t2 t3 t4 t5 : V) (m0 : Nat) (h : List V) : Rv := lp W 18 2 (cd 18 4683) (bk 2 (bk 1 (sk 18 0 459 (lk 18 0 m0 75 (bk 0 (sk 18 0 15 (lv 18 0))))))) ⟨[(1, t1), (2, t2), (3, t3), (4, t4), (5, t5)], h⟩
noncomputable def f18_l4 (t1 t2 t3 t4 t5 t6 : V) (m0 : Nat) (m2 : Nat) (h : List V) : Rv := lp W 18 4 (cd 18 299595) (bk 4 (bk 3 (sk 18 2 29259 (lk 18 2 m2 4683 (bk 2 (bk 1 (sk 18 0 459 (lk 18 0 m0 75 (bk 0 (sk 18 0 15 (lv 18 0))))))))))) ⟨[(1, t1), (2, t2), (3, t3), (4, t4), (5, t5), (6, t6)], h⟩
theorem f18_l4_eq (t1 t2 t3 t4 t5 t6 : V) (m0 : Nat) (m2 : Nat) (h : List V) : f18_l4 t1 t2 t3 t4 t5 t6 m0 m2 h =
 (fA 24 22 1 t1).bind fun t23_11 => (ldS h 22 t23_11).bind fun t24_12 => (lnL t24_12).bind fun t25_13 => (bin .lss t6 t25_13).bind fun t26_14 => V.ite t26_14
  (jn (fun t46_15 =>
 V.ite t46_15
  (if (diffB t3 t1 && true) = true then (fA 24 22 1 t3).bind fun t47_16 => if sameB t3 t47_16 = true then (ldTake h 22 t47_16).bind fun r_17 => (fA 24 22 1 t1).bind fun t49_18 => if sameB t1 t49_18 = true then (ldS r_17.2 22 t49_18).bind fun t50_19 => (ixS 45 t50_19 t6).bind fun t52_20 => if lowB true [t52_20] = true then (ldP r_17.2 45 t52_20).bind fun t53_21 => (bsL 45 false (ck [(tyG 44) t53_21] [t53_21])).bind fun t54_22 => (apL 45 (tyG 44) false r_17.2 r_17.1 t54_22).bind fun t55_23 => (fA 24 22 1 t3).bind fun t56_24 => (stT (tyL 45) 22 r_17.2 t56_24 t55_23).bind fun h_25 => (bin .add t6 (V.int .i64 1)).bind fun t28_26 => f18_l4 t1 t2 t3 t4 t5 t28_26 m0 m2 h_25 else none else none else none else none)
  ((bin .add t6 (V.int .i64 1)).bind fun t28_27 => f18_l4 t1 t2 t3 t4 t5 t28_27 m0 m2 h)) (fun (k_28 : V → Rv) => (fA 24 22 1 t1).bind fun t29_29 => (ldS h 22 t29_29).bind fun t30_30 => (ixS 45 t30_30 t6).bind fun t32_31 => (fA 45 3 0 t32_31).bind fun t33_32 => (ldP h 3 t33_32).bind fun t34_33 => (bin .eql t34_33 t4).bind fun t36_34 => V.ite t36_34 ((fA 24 22 1 t1).bind fun t38_35 => (ldS h 22 t38_35).bind fun t39_36 => (ixS 45 t39_36 t6).bind fun t41_37 => (fA 45 3 1 t41_37).bind fun t42_38 => (ldP h 3 t42_38).bind fun t43_39 => (bin .eql t43_39 t5).bind fun t45_40 => k_28 t45_40) (k_28 (V.bool false))))
  ((bin .add t5 (V.int .i64 1)).bind fun t21_41 => f18_l2 t1 t2 t3 t4 t21_41 m0 h) :=
 l_eq (by kernel_rfl)
theorem f18_l2_eq (t1 t2 t3 t4 t5 : V) (m0 : Nat) (h : List V) : f18_l2 t1 t2 t3 t4 t5 m0 h =
 (fA 24 3 0 t1).bind fun t17_8 => (ldP h 3 t17_8).bind fun t18_9 => (bin .lss t5 t18_9).bind fun t19_10 => V.ite t19_10
  (f18_l4 t1 t2 t3 t4 t5 (V.int .i64 0) m0 (List.length h) h)
  ((bin .add t4 (V.int .i64 1)).bind fun t15_42 => f18_l0 t1 t2 t3 t15_42 h) :=
 l_eq (by kernel_rfl)
theorem f18_l0_eq (t1 t2 t3 t4 : V) (h : List V) : f18_l0 t1 t2 t3 t4 h =
 (fA 24 3 0 t1).bind fun t11_5 => (ldP h 3 t11_5).bind fun t12_6 => (bin .lss t4 t12_6).bind fun t13_7 => V.ite t13_7
  (f18_l2 t1 t2 t3 t4 (V.int .i64 0) (List.length h) h)
  ((ldS h 24 t3).bind fun t57_43 => (stT (tyG 23) 24 h t2 t57_43).bind fun h_44 => (ldS h_44 24 t2).bind fun c_45 => finT 0 h_44 c_45) :=
 l_eq (by kernel_rfl)
theorem f18_eq (t0 : V) : Cl 18 [t0] [] =
 if ((tyG 23) (V.weak t0) && V.under 0 (V.weak t0)) = true then (fA 24 3 0 (V.ref 0 [] 24)).bind fun t7_1 => (ldP [(V.weak t0), (V.agg 23 [(V.int .i64 0), (V.lst 45 .nil [])])] 3 t7_1).bind fun t8_2 => ((ck [(tyI .i64) t8_2] [t8_2, (V.lst 45 .nil [])]).map (.agg 23)).bind fun t9_3 => (stT (tyG 23) 24 [(V.weak t0), (V.agg 23 [(V.int .i64 0), (V.lst 45 .nil [])]), (V.agg 23 [(V.int .i64 0), (V.lst 45 .nil [])])] (V.ref 2 [] 24) t9_3).bind fun h_4 => f18_l0 (V.ref 0 [] 24) (V.ref 1 [] 24) (V.ref 2 [] 24) (V.int .i64 0) h_4 else none :=
 f_eq (by kernel_rfl)
noncomputable def f19_l0 (t0 t1 t5 : V) : Rv := lp W 19 0 (cd 19 75) (bk 0 (sk 19 0 15 (lv 19 0))) ⟨[(0, t0), (1, t1), (5, t5)], []⟩
theorem f19_l0_eq (t0 t1 t5 : V) : f19_l0 t0 t1 t5 =
 (lnL (V.weak t0)).bind fun t13_4 => (bin .lss t5 t13_4).bind fun t14_5 => V.ite t14_5
  ((ixS 45 (V.weak t0) t5).bind fun t19_6 => (ldP [] 45 t19_6).bind fun t20_7 => (ixS 45 (V.weak t1) t5).bind fun t23_8 => (ldP [] 45 t23_8).bind fun t24_9 => (eqT (tyG 44) .neq t20_7 t24_9).bind fun t25_10 => V.ite t25_10
  (finT 0 [] (V.bool false))
  ((bin .add t5 (V.int .i64 1)).bind fun t16_11 => f19_l0 t0 t1 t16_11))
  (finT 0 [] (V.bool true)) :=
 l_eq (by kernel_rfl)
theorem f19_eq (t0 t1 : V) : Cl 19 [t0, t1] [] =
 (lnL (V.weak t0)).bind fun t7_1 => (lnL (V.weak t1)).bind fun t9_2 => (bin .neq t7_1 t9_2).bind fun t10_3 => V.ite t10_3
  (finT 0 [] (V.bool false))
  (f19_l0 t0 t1 (V.int .i64 0)) :=
 f_eq (by kernel_rfl)
noncomputable def f22_l0 (t6 t22 t23 t24 : V) (h : List V) : Rv := lp W 22 0 (cd 22 303) (bk 0 (sk 22 0 63 (lv 22 0))) ⟨[(6, t6), (22, t22), (23, t23), (24, t24)], h⟩
theorem f22_l0_eq (t6 t22 t23 t24 : V) (h : List V) : f22_l0 t6 t22 t23 t24 h =
 (bin .lss t24 t23).bind fun t25_14 => V.ite t25_14
  ((ixS 45 t22 t24).bind fun t26_15 => (ldP h 45 t26_15).bind fun t27_16 => (stT (tyG 44) 45 (h ++ [(V.agg 44 [(V.int .i64 0), (V.int .i64 0), (V.int .i64 0)])]) (V.ref (List.length h) [] 45) t27_16).bind fun h_17 => (fA 45 3 0 (V.ref (List.length h) [] 45)).bind fun t29_18 => (ldP h_17 3 t29_18).bind fun t30_19 => (fA 45 3 1 (V.ref (List.length h) [] 45)).bind fun t31_20 => (ldP h_17 3 t31_20).bind fun t32_21 => (fA 45 2 2 (V.ref (List.length h) [] 45)).bind fun t33_22 => (ldP h_17 2 t33_22).bind fun t34_23 => (bsL 3 false (ck [(tyI .i64) t30_19, (tyI .i64) t32_21, (tyI .i64) t34_23] [t30_19, t32_21, t34_23])).bind fun t35_24 => (Cl 34 (reifyL h_17 [(V.str [101, 100, 103, 101]), t35_24]) []).bind fun r_25 => (bin .add t6 r_25.1).bind fun t37_26 => (bin .add t24 (V.int .i64 1)).bind fun t38_27 => if underL (List.length h) [t37_26, t22, t23, t38_27] = true then f22_l0 t37_26 t22 t23 t38_27 (List.take (List.length h) h_17) else none)
  (if (List.all [(V.int .i64 0), t6] V.okE) = true then finT 0 h (V.tup [t6, (V.int .i64 0)]) else none) :=
 l_eq (by kernel_rfl)
theorem f22_eq (t0 : V) : Cl 22 [t0] [] =
 if ((tyG 23) (V.weak t0) && V.under 0 (V.weak t0)) = true then (ldS [(V.weak t0)] 24 (V.ref 0 [] 24)).bind fun t10_1 => (Cl 12 (reifyL [(V.weak t0)] [t10_1]) []).bind fun r_2 => (extS r_2.1 0).bind fun t12_3 => (ext r_2.1 1).bind fun t13_4 => (stT (tyG 23) 24 [(V.weak t0), (V.agg 23 [(V.int .i64 0), (V.lst 45 .nil [])])] (V.ref 1 [] 24) t12_3).bind fun h_5 => (bin .neq t13_4 (V.int .i64 0)).bind fun t15_6 => V.ite t15_6
  (if (List.all [t13_4, (V.str [])] V.okE) = true then finT 0 h_5 (V.tup [(V.str []), t13_4]) else none)
  ((fA 24 3 0 (V.ref 1 [] 24)).bind fun t17_7 => (ldP h_5 3 t17_7).bind fun t18_8 => (bsL 3 false (ck [(tyI .i64) t18_8] [t18_8])).bind fun t19_9 => (Cl 34 (reifyL h_5 [(V.str [103, 114, 97, 112, 104]), t19_9]) []).bind fun r_10 => (fA 24 22 1 (V.ref 1 [] 24)).bind fun t21_11 => (ldS h_5 22 t21_11).bind fun t22_12 => (lnL t22_12).bind fun t23_13 => f22_l0 r_10.1 t22_12 t23_13 (V.int .i64 0) h_5) else none :=
 f_eq (by kernel_rfl)
noncomputable def f23_r0 (h : List V) (k : V → List V → Rv) : Rv :=
 k (V.ref (List.length h) [] 24) (h ++ [(V.agg 23 [(V.int .i64 0), (V.lst 45 .nil [])])])
noncomputable def f23_r1 (h : List V) (k : V → List V → Rv) : Rv :=
 k (V.ref (List.length h) [] 24) (h ++ [(V.agg 23 [(V.int .i64 0), (V.lst 45 .nil [])])])
noncomputable def f23_r2 (k : V → Rv) : Rv :=
 k (V.int .i64 1)
noncomputable def f23_l0 (t0 t2 t5 t6 : V) (h : List V) : Rv := lp W 23 0 (cd 23 75) (bk 0 (sk 23 0 15 (lv 23 0))) ⟨[(0, t0), (2, t2), (5, t5), (6, t6)], h⟩
noncomputable def f23_r3 (t0 t6 : V) (k : V → Rv) : Rv :=
 (bin .eql t6 (V.int .i64 1)).bind fun t16 => V.ite t16 (k (V.bool true)) ((bin .neq t0 (V.str [])).bind fun t19 => k t19)
noncomputable def f23_r5 (t0 : V) (h : List V) (k : V → V → V → Rv) : Rv :=
 (Cl 35 (reifyL h [t0, (V.str [10])]) []).bind fun r => (ext r.1 0).bind fun t26 => (ext r.1 1).bind fun t27 => (ext r.1 2).bind fun t28 => k t26 t27 t28
noncomputable def f23_r6 (k : V → V → Rv) : Rv :=
 k (V.str [101, 100, 103, 101]) (V.int .i64 3)
noncomputable def f23_r7 (t6 : V) (k : V → Rv) : Rv :=
 (bin .eql t6 (V.int .i64 1)).bind fun t30 => k t30
noncomputable def f23_r9 (t7 t10 t11 : V) (h : List V) (k : V → V → Rv) : Rv :=
 (Cl 36 (reifyL h [t7, t10, t11]) []).bind fun r => (extS r.1 0).bind fun t36 => (ext r.1 1).bind fun t37 => k t36 t37
noncomputable def f23_r10 (t9 t13 : V) (k : V → Rv) : Rv :=
 (un .not t9).bind fun t39 => V.ite t39 (k (V.bool true)) ((un .not t13).bind fun t42 => k t42)
noncomputable def f23_r11 (t2 t6 : V) (h : List V) (k : V → V → List V → Rv) : Rv :=
 ((ck [] [(V.int .i64 0), (V.lst 45 .nil [])]).map (.agg 23)).bind fun t44 => (stT (tyG 23) 24 h t2 t44).bind fun h_1 => k t6 (V.int .i64 52) h_1
noncomputable def f23_r12 (t6 : V) (k : V → Rv) : Rv :=
 (bin .eql t6 (V.int .i64 1)).bind fun t47 => k t47
noncomputable def f23_r15 (t8 : V) (k : V → Rv) : Rv :=
 k t8
noncomputable def f23_r4 (t6 : V) (k : V → Rv) : Rv :=
 (bin .add t6 (V.int .i64 1)).bind fun t22 => k t22
noncomputable def f23_r13 (t5 t12 : V) (h : List V) (k : List V → Rv) : Rv :=
 (ixS 3 t12 (V.int .i64 0)).bind fun t49 => (ldP h 3 t49).bind fun t50 => (fA 24 3 0 t5).bind fun t51 => (stT (tyI .i64) 3 h t51 t50).bind fun h_1 => k h_1
noncomputable def f23_r14 (t5 t12 : V) (h : List V) (k : List V → Rv) : Rv :=
 (fA 24 22 1 t5).bind fun t52 => if sameB t5 t52 = true then (ldTake h 22 t52).bind fun r => (ixS 3 (V.weak t12) (V.int .i64 0)).bind fun t55 => if lowB true [t55] = true then (ldP r.2 3 t55).bind fun t56 => (ixS 3 (V.weak t12) (V.int .i64 1)).bind fun t58 => if lowB true [t58] = true then (ldP r.2 3 t58).bind fun t59 => (ixS 3 (V.weak t12) (V.int .i64 2)).bind fun t61 => if lowB true [t61] = true then (ldP r.2 3 t61).bind fun t62 => ((ck [(tyI .i64) t56, (tyI .i64) t59, (tyI .i64) t62] [t56, t59, t62]).map (.agg 44)).bind fun t63 => (bsL 45 false (ck [(tyG 44) t63] [t63])).bind fun t64 => (apL 45 (tyG 44) false r.2 r.1 t64).bind fun t65 => (fA 24 22 1 t5).bind fun t66 => (stT (tyL 45) 22 r.2 t66 t65).bind fun h_1 => k h_1 else none else none else none else none
noncomputable def f23_r8 (k : V → V → Rv) : Rv :=
 k (V.str [103, 114, 97, 112, 104]) (V.int .i64 1)
noncomputable def f23_r16 (t5 : V) (h : List V) (k : V → List V → Rv) : Rv :=
 (ldS h 24 t5).bind fun t69 => (Cl 12 (reifyL h [t69]) []).bind fun r => (extS r.1 0).bind fun t71 => (ext r.1 1).bind fun t72 => (stT (tyG 23) 24 h t5 t71).bind fun h_1 => k t72 h_1
noncomputable def f23_r17 (t2 t5 t14 : V) (h : List V) (k : V → V → List V → Rv) : Rv :=
 (ldS h 24 t5).bind fun t73 => (stT (tyG 23) 24 h t2 t73).bind fun h_1 => k (V.int .i64 0) t14 h_1
theorem f23_l0_eq (t0 t2 t5 t6 : V) (h : List V) : f23_l0 t0 t2 t5 t6 h =
 f23_r3 t0 t6 fun t20_6 =>
  V.ite t20_6
  (f23_r5 t0 h fun t7_7 t8_8 t9_9 =>
  f23_r6 fun t10_10 t11_11 =>
  f23_r7 t6 fun t30_12 =>
  jn (fun t10_13 t11_14 => f23_r9 t7_7 t10_13 t11_14 h fun t12_15 t13_16 =>
  f23_r10 t9_9 t13_16 fun t43_17 =>
  V.ite t43_17
  (f23_r11 t2 t6 h fun t3_18 t4_19 h_20 =>
  (ldS h_20 24 t2).bind fun c_21 => if (List.all [t4_19, t3_18, c_21] V.okE) = true then finT 0 h_20 (V.tup [c_21, t3_18, t4_19]) else none)
  (f23_r12 t6 fun t47_22 =>
  jn (fun h_23 => f23_r15 t8_8 fun t0_24 =>
  f23_r4 t6 fun t6_25 =>
  f23_l0 t0_24 t2 t5 t6_25 h_23)
  (fun (j1 : List V → Rv) => V.ite t47_22
  (f23_r13 t5 t12_15 h fun h_26 =>
  j1 h_26)
  (f23_r14 t5 t12_15 h fun h_27 =>
  j1 h_27))))
  (fun (j0 : V → V → Rv) => V.ite t30_12
  (f23_r8 fun t10_28 t11_29 =>
  j0 t10_28 t11_29)
  (j0 t10_10 t11_11)))
  (f23_r16 t5 h fun t14_30 h_31 =>
  f23_r17 t2 t5 t14_30 h_31 fun t3_32 t4_33 h_34 =>
  (ldS h_34 24 t2).bind fun c_35 => if (List.all [t4_33, t3_32, c_35] V.okE) = true then finT 0 h_34 (V.tup [c_35, t3_32, t4_33]) else none) :=
 l_eq (y_seq <| y_seq <| y_reg (fun K u20 => K ⟨[(0, t0), (2, t2), (5, t5), (6, t6), (20, u20)], h⟩) (funext fun t20_6 => seqK_n <| y_cond (y_skip <| seqK_n <| y_seq <| y_block <| y_seq <| y_reg (fun K u7 u8 u9 => K ⟨[(2, t2), (5, t5), (6, t6), (7, u7), (8, u8), (9, u9)], h⟩) (funext fun t7_7 => funext fun t8_8 => funext fun t9_9 => seqK_n <| y_seq <| y_reg (fun K u10 u11 => K ⟨[(2, t2), (5, t5), (6, t6), (7, t7_7), (8, t8_8), (9, t9_9), (10, u10), (11, u11)], h⟩) (funext fun t10_10 => funext fun t11_11 => seqK_n <| y_seq <| y_seq <| y_reg (fun K u30 => K ⟨[(2, t2), (5, t5), (6, t6), (7, t7_7), (8, t8_8), (9, t9_9), (10, t10_10), (11, t11_11), (30, u30)], h⟩) (funext fun t30_12 => seqK_n <| y_jn (fun K t10_13 t11_14 => K ⟨[(2, t2), (5, t5), (6, t6), (7, t7_7), (8, t8_8), (9, t9_9), (10, t10_13), (11, t11_14)], h⟩) (funext fun t10_13 => funext fun t11_14 => seqK_n <| y_seq <| y_reg (fun K u12 u13 => K ⟨[(2, t2), (5, t5), (6, t6), (8, t8_8), (9, t9_9), (12, u12), (13, u13)], h⟩) (funext fun t12_15 => funext fun t13_16 => seqK_n <| y_seq <| y_seq <| y_reg (fun K u43 => K ⟨[(2, t2), (5, t5), (6, t6), (8, t8_8), (12, t12_15), (43, u43)], h⟩) (funext fun t43_17 => seqK_n <| y_cond (by kernel_rfl) (y_skip <| seqK_n <| y_seq <| y_seq <| y_reg (fun K u47 => K ⟨[(2, t2), (5, t5), (6, t6), (8, t8_8), (12, t12_15), (47, u47)], h⟩) (funext fun t47_22 => seqK_n <| y_jn (fun K h_23 => K ⟨[(2, t2), (5, t5), (6, t6), (8, t8_8)], h_23⟩) (funext fun h_23 => by kernel_rfl) (y_cond (y_reg (fun K h' => K ⟨[(2, t2), (5, t5), (6, t6), (8, t8_8)], h'⟩) (funext fun h_26 => rfl)) (y_reg (fun K h' => K ⟨[(2, t2), (5, t5), (6, t6), (8, t8_8)], h'⟩) (funext fun h_27 => rfl)))))))) (y_cond (y_reg (fun K u10 u11 => K ⟨[(2, t2), (5, t5), (6, t6), (7, t7_7), (8, t8_8), (9, t9_9), (10, u10), (11, u11)], h⟩) (funext fun t10_28 => funext fun t11_29 => rfl)) (y_skip <| y_nf)))))) (by kernel_rfl)))
theorem f23_eq (t0 : V) : Cl 23 [t0] [] =
 f23_r0 [] fun t2_1 h_2 =>
  f23_r1 h_2 fun t5_3 h_4 =>
  f23_r2 fun t6_5 =>
  f23_l0 t0 t2_1 t5_3 t6_5 h_4 :=
 f_eq (by kernel_rfl)
noncomputable def f24_l0 (t3 t4 t5 : V) (h : List V) : Rv := lp W 24 0 (cd 24 151) (bk 0 (sk 24 0 31 (lv 24 0))) ⟨[(3, t3), (4, t4), (5, t5)], h⟩
theorem f24_l0_eq (t3 t4 t5 : V) (h : List V) : f24_l0 t3 t4 t5 h =
 (fA 24 22 1 t3).bind fun t15_9 => (ldS h 22 t15_9).bind fun t16_10 => (lnL t16_10).bind fun t17_11 => (bin .lss t5 t17_11).bind fun t18_12 => V.ite t18_12
  ((fA 24 22 1 t3).bind fun t21_13 => (ldS h 22 t21_13).bind fun t22_14 => (ixS 45 t22_14 t5).bind fun t24_15 => (ldP h 45 t24_15).bind fun t25_16 => (stT (tyG 44) 45 (h ++ [(V.agg 44 [(V.int .i64 0), (V.int .i64 0), (V.int .i64 0)])]) (V.ref (List.length h) [] 45) t25_16).bind fun h_17 => (fA 45 3 0 (V.ref (List.length h) [] 45)).bind fun t27_18 => (ldP h_17 3 t27_18).bind fun t28_19 => (Cl 37 (reifyL h_17 [t28_19]) []).bind fun r_20 => (bin .add (V.str [101, 100, 103, 101, 32]) r_20.1).bind fun t30_21 => (bin .add t30_21 (V.str [32])).bind fun t31_22 => (fA 45 3 1 (V.ref (List.length h) [] 45)).bind fun t32_23 => (ldP h_17 3 t32_23).bind fun t33_24 => (Cl 37 (reifyL h_17 [t33_24]) []).bind fun r_25 => (bin .add t31_22 r_25.1).bind fun t35_26 => (bin .add t35_26 (V.str [32])).bind fun t36_27 => (fA 45 2 2 (V.ref (List.length h) [] 45)).bind fun t37_28 => (ldP h_17 2 t37_28).bind fun t38_29 => (Cl 37 (reifyL h_17 [t38_29]) []).bind fun r_30 => (bin .add t36_27 r_30.1).bind fun t40_31 => (bin .add t40_31 (V.str [10])).bind fun t41_32 => (bin .add t4 t41_32).bind fun t42_33 => (bin .add t5 (V.int .i64 1)).bind fun t20_34 => if underL (List.length h) [t3, t42_33, t20_34] = true then f24_l0 t3 t42_33 t20_34 (List.take (List.length h) h_17) else none)
  (finT 0 h t4) :=
 l_eq (by kernel_rfl)
theorem f24_eq (t0 : V) : Cl 24 [t0] [] =
 if ((tyG 23) (V.weak t0) && V.under 0 (V.weak t0)) = true then (ldS [(V.weak t0)] 24 (V.ref 0 [] 24)).bind fun t7_1 => (Cl 18 (reifyL [(V.weak t0)] [t7_1]) []).bind fun r_2 => (stT (tyG 23) 24 [(V.weak t0), (V.agg 23 [(V.int .i64 0), (V.lst 45 .nil [])])] (V.ref 1 [] 24) r_2.1).bind fun h_3 => (fA 24 3 0 (V.ref 1 [] 24)).bind fun t9_4 => (ldP h_3 3 t9_4).bind fun t10_5 => (Cl 37 (reifyL h_3 [t10_5]) []).bind fun r_6 => (bin .add (V.str [103, 114, 97, 112, 104, 32]) r_6.1).bind fun t12_7 => (bin .add t12_7 (V.str [10])).bind fun t13_8 => f24_l0 (V.ref 1 [] 24) t13_8 (V.int .i64 0) h_3 else none :=
 f_eq (by kernel_rfl)
theorem f26_eq (t0 t1 : V) (h : List V) : Cl 26 [t0, t1] h =
 (Cl 40 (normL [t0]) h).bind fun r_1 => (Cl 41 (normL [(V.weak r_1.1), t1]) r_1.2).bind fun r_2 => finT (List.length h) r_2.2 r_1.1 :=
 f_eq (by kernel_rfl)
theorem f27_eq (t0 : V) (h : List V) : Cl 27 [t0] h =
 if ((tyL 45) (V.weak t0) && V.under (List.length h) (V.weak t0)) = true then (if (List.all [(V.ref (List.length h) [] 22)] V.capOk) = true then some (V.clo 42 [(V.ref (List.length h) [] 22)]) else none).bind fun t3_1 => finK (h ++ [(V.weak t0)]) t3_1 else none :=
 f_eq (by kernel_rfl)
theorem f28_eq (t0 t1 : V) : Cl 28 [t0, t1] [] =
 if ((tyG 44) t0 && V.under 0 t0) = true then if ((tyG 44) t1 && V.under 1 t1) = true then (fA 45 3 0 (V.ref 0 [] 45)).bind fun t5_1 => (ldP [t0, t1] 3 t5_1).bind fun t6_2 => (fA 45 3 0 (V.ref 1 [] 45)).bind fun t7_3 => (ldP [t0, t1] 3 t7_3).bind fun t8_4 => (bin .neq t6_2 t8_4).bind fun t9_5 => V.ite t9_5
  ((fA 45 3 0 (V.ref 0 [] 45)).bind fun t10_6 => (ldP [t0, t1] 3 t10_6).bind fun t11_7 => (fA 45 3 0 (V.ref 1 [] 45)).bind fun t12_8 => (ldP [t0, t1] 3 t12_8).bind fun t13_9 => (bin .sub t11_7 t13_9).bind fun t14_10 => finT 0 [t0, t1] t14_10)
  ((fA 45 3 1 (V.ref 0 [] 45)).bind fun t15_11 => (ldP [t0, t1] 3 t15_11).bind fun t16_12 => (fA 45 3 1 (V.ref 1 [] 45)).bind fun t17_13 => (ldP [t0, t1] 3 t17_13).bind fun t18_14 => (bin .sub t16_12 t18_14).bind fun t19_15 => finT 0 [t0, t1] t19_15) else none else none :=
 f_eq (by kernel_rfl)
theorem f29_eq (t0 t1 : V) (h : List V) : Cl 29 [t0, t1] h =
 if ((tyG 44) t0 && V.under (List.length h) t0) = true then jn (fun t3_1 =>
 finT (List.length h) (h ++ [t0]) t3_1) (fun (k_2 : V → Rv) => (fA 45 3 0 (V.ref (List.length h) [] 45)).bind fun t4_3 => (ldP (h ++ [t0]) 3 t4_3).bind fun t5_4 => (bin .lss t5_4 (V.int .i64 0)).bind fun t6_5 => V.ite t6_5 (k_2 (V.bool true)) ((fA 45 3 0 (V.ref (List.length h) [] 45)).bind fun t8_6 => (ldP (h ++ [t0]) 3 t8_6).bind fun t9_7 => (fA 24 3 0 t1).bind fun t10_8 => (ldP (h ++ [t0]) 3 t10_8).bind fun t11_9 => (bin .geq t9_7 t11_9).bind fun t12_10 => V.ite t12_10 (k_2 (V.bool true)) ((fA 45 3 1 (V.ref (List.length h) [] 45)).bind fun t15_11 => (ldP (h ++ [t0]) 3 t15_11).bind fun t16_12 => (bin .lss t16_12 (V.int .i64 0)).bind fun t17_13 => V.ite t17_13 (k_2 (V.bool true)) ((fA 45 3 1 (V.ref (List.length h) [] 45)).bind fun t20_14 => (ldP (h ++ [t0]) 3 t20_14).bind fun t21_15 => (fA 24 3 0 t1).bind fun t22_16 => (ldP (h ++ [t0]) 3 t22_16).bind fun t23_17 => (bin .geq t21_15 t23_17).bind fun t24_18 => V.ite t24_18 (k_2 (V.bool true)) ((fA 45 2 2 (V.ref (List.length h) [] 45)).bind fun t27_19 => (ldP (h ++ [t0]) 2 t27_19).bind fun t28_20 => (bin .lss t28_20 (V.int .i64 0)).bind fun t29_21 => V.ite t29_21 (k_2 (V.bool true)) ((fA 45 2 2 (V.ref (List.length h) [] 45)).bind fun t32_22 => (ldP (h ++ [t0]) 2 t32_22).bind fun t33_23 => (bin .gtr t33_23 (V.int .i64 1048576)).bind fun t34_24 => k_2 t34_24)))))) else none :=
 f_eq (by kernel_rfl)
theorem f30_eq (t0 t1 : V) (h : List V) : Cl 30 [t0, t1] h =
 (Cl 43 (normL [t0, t1]) h).bind fun r_1 => (bin .geq r_1.1 (V.int .i64 0)).bind fun t8_2 => finT (List.length h) r_1.2 t8_2 :=
 f_eq (by kernel_rfl)
noncomputable def f34_l0 (t0 t7 t8 t9 : V) : Rv := lp W 34 0 (cd 34 37) (bk 0 (sk 34 0 7 (lv 34 0))) ⟨[(0, t0), (7, t7), (8, t8), (9, t9)], []⟩
theorem f34_l0_eq (t0 t7 t8 t9 : V) : f34_l0 t0 t7 t8 t9 =
 (bin .lss t9 t8).bind fun t10_2 => V.ite t10_2
  ((ixS 3 t7 t9).bind fun t11_3 => (ldP [] 3 t11_3).bind fun t12_4 => (Cl 44 (reifyL [] [t12_4]) []).bind fun r_5 => (bin .add (V.str [32]) r_5.1).bind fun t16_6 => (bin .add t0 t16_6).bind fun t17_7 => (bin .add t9 (V.int .i64 1)).bind fun t18_8 => f34_l0 t17_7 t7 t8 t18_8)
  ((bin .add t0 (V.str [10])).bind fun t20_9 => finT 0 [] t20_9) :=
 l_eq (by kernel_rfl)
theorem f34_eq (t0 t1 : V) : Cl 34 [t0, t1] [] =
 (lnL t1).bind fun t8_1 => f34_l0 t0 t1 t8_1 (V.int .i64 0) :=
 f_eq (by kernel_rfl)
theorem f35_eq (t0 t1 : V) : Cl 35 [t0, t1] [] =
 (Cl 45 (reifyL [] [t0, t1]) []).bind fun r_1 => (ext r_1.1 0).bind fun t10_2 => (ext r_1.1 1).bind fun t11_3 => (ext r_1.1 2).bind fun t12_4 => if (List.all [t12_4, t11_3, t10_2] V.okE) = true then finT 0 [] (V.tup [t10_2, t11_3, t12_4]) else none :=
 f_eq (by kernel_rfl)
noncomputable def f36_l0 (t0 t1 t9 t23 t24 t25 : V) (h : List V) : Rv := lp W 36 0 (cd 36 303) (bk 0 (sk 36 0 63 (lv 36 0))) ⟨[(0, t0), (1, t1), (9, t9), (23, t23), (24, t24), (25, t25)], h⟩
theorem f36_l0_eq (t0 t1 t9 t23 t24 t25 : V) (h : List V) : f36_l0 t0 t1 t9 t23 t24 t25 h =
 (bin .lss t25 t24).bind fun t26_8 => V.ite t26_8
  ((ixS 9 t23 t25).bind fun t27_9 => (ldP h 9 t27_9).bind fun t28_10 => (Cl 47 (normL [t28_10]) h).bind fun r_11 => (ext r_11.1 0).bind fun t32_12 => (ext r_11.1 1).bind fun t33_13 => jn (fun t40_14 =>
 V.ite t40_14
  (if (List.all [(V.bool false), (V.weak (V.lst 3 .nil []))] V.okE) = true then finT 0 r_11.2 (V.tup [(V.weak (V.lst 3 .nil [])), (V.bool false)]) else none)
  ((bsL 3 false (ck [(tyI .i64) t32_12] [t32_12])).bind fun t43_15 => (apL 3 (tyI .i64) false r_11.2 t9 t43_15).bind fun t44_16 => (bin .add t25 (V.int .i64 1)).bind fun t45_17 => if underL (List.length h) [t0, t1, t44_16, t23, t24, t45_17] = true then f36_l0 t0 t1 t44_16 t23 t24 t45_17 (List.take (List.length h) r_11.2) else none)) (fun (k_18 : V → Rv) => (nilE .neq t33_13).bind fun t35_19 => V.ite t35_19 (k_18 (V.bool true)) ((lnS t28_10).bind fun t38_20 => (bin .gtr t38_20 (V.int .i64 9)).bind fun t39_21 => k_18 t39_21)))
  (jn (fun t6_22 t7_23 =>
 if (List.all [t7_23, t6_22] V.okE) = true then finT 0 h (V.tup [t6_22, t7_23]) else none) (fun (k_24 : V → V → Rv) => (Cl 34 (reifyL h [t1, (V.weak t9)]) []).bind fun r_25 => (bin .add t0 (V.str [10])).bind fun t51_26 => (bin .eql r_25.1 t51_26).bind fun t52_27 => V.ite t52_27 ((Cl 48 (reifyL h [t9]) []).bind fun r_28 => (bin .geq r_28.1 (V.int .i64 0)).bind fun t56_29 => k_24 (V.weak t9) t56_29) (k_24 (V.weak t9) (V.bool false)))) :=
 l_eq (by kernel_rfl)
theorem f36_eq (t0 t1 t2 : V) : Cl 36 [t0, t1, t2] [] =
 (Cl 46 (reifyL [] [t0, (V.str [32])]) []).bind fun r_1 => (lnL (V.weak r_1.1)).bind fun t17_2 => (bin .add (V.int .i64 1) t2).bind fun t19_3 => (bin .neq t17_2 t19_3).bind fun t20_4 => V.ite t20_4
  (if (List.all [(V.bool false), (V.weak (V.lst 3 .nil []))] V.okE) = true then finT 0 [] (V.tup [(V.weak (V.lst 3 .nil [])), (V.bool false)]) else none)
  ((bsL 3 false (ck [] [])).bind fun t21_5 => (slL 9 r_1.1 (some (V.int .i64 1)) none none).bind fun t23_6 => (lnL t23_6).bind fun t24_7 => f36_l0 t0 t1 t21_5 t23_6 t24_7 (V.int .i64 0) []) :=
 f_eq (by kernel_rfl)
noncomputable def f37_l0 (t0 t3 : V) : Rv := lp W 37 0 (cd 37 35) (bk 0 (sk 37 0 15 (lv 37 0))) ⟨[(0, t0), (3, t3)], []⟩
theorem f37_l0_eq (t0 t3 : V) : f37_l0 t0 t3 =
 jn (fun t9_1 =>
 V.ite t9_1
  ((bin .rem t0 (V.int .i64 10)).bind fun t11_2 => (bin .add (V.int .i64 48) t11_2).bind fun t12_3 => (cvI .u8 t12_3).bind fun t13_4 => (bsL 5 false (ck [(tyI .u8) t13_4] [t13_4])).bind fun t14_5 => (cvT [] t14_5).bind fun t15_6 => (bin .add t15_6 t3).bind fun t17_7 => (bin .quo t0 (V.int .i64 10)).bind fun t19_8 => f37_l0 t19_8 t17_7)
  (finT 0 [] t3)) (fun (k_9 : V → Rv) => (bin .eql t3 (V.str [])).bind fun t5_10 => V.ite t5_10 (k_9 (V.bool true)) ((bin .gtr t0 (V.int .i64 0)).bind fun t8_11 => k_9 t8_11)) :=
 l_eq (by kernel_rfl)
theorem f37_eq (t0 : V) : Cl 37 [t0] [] =
 f37_l0 t0 (V.str []) :=
 f_eq (by kernel_rfl)
theorem f40_eq (t0 : V) (h : List V) : Cl 40 [t0] h =
 (aps 42 45 [(V.lst 45 .nil []), t0] h).bind fun r_1 => finK r_1.2 r_1.1 :=
 f_eq (by kernel_rfl)
noncomputable def f41_r0 (t0 : V) (k : V → Rv) : Rv :=
 (lenV P 22 (V.weak t0)).bind fun t6 => k t6
noncomputable def f41_r1 (t0 t1 t4 : V) (h : List V) (k : List V → Rv) : Rv :=
 (conv P h 3 77 t4).bind fun t10 => (Cl 51 (reifyL h [t10]) []).bind fun r => (Cl 50 (normL [t0, (V.int .i64 0), t4, r.1, t1]) h).bind fun r_1 => k r_1.2
theorem f41_eq (t0 t1 : V) (h : List V) : Cl 41 [t0, t1] h =
 f41_r0 t0 fun t4_1 =>
  f41_r1 t0 t1 t4_1 h fun h_2 =>
  if (List.all [] V.okE) = true then finT (List.length h) h_2 (V.tup []) else none :=
 f_eq (by kernel_rfl)
noncomputable def f43_l0 (t0 t1 t7 t8 : V) (n : Nat) (h : List V) : Rv := lp W 43 0 (cd 43 37) (bk 0 (sk 43 0 7 (lv 43 n))) ⟨[(0, t0), (1, t1), (7, t7), (8, t8)], h⟩
theorem f43_l0_eq (t0 t1 t7 t8 : V) (n : Nat) (h : List V) : f43_l0 t0 t1 t7 t8 n h =
 (bin .lss t8 t7).bind fun t9_2 => V.ite t9_2
  ((ixS 45 (V.weak t0) t8).bind fun t14_3 => (ldP h 45 t14_3).bind fun t15_4 => callV P ann W t1 [t15_4] h fun t16_5 h_6 => if V.noOwn t16_5 = true then V.ite t16_5
  (finT n h_6 t8)
  ((bin .add t8 (V.int .i64 1)).bind fun t18_7 => f43_l0 t0 t1 t7 t18_7 n h_6) else none)
  (finT n h (V.int .i64 (-1))) :=
 l_eq (by kernel_rfl)
theorem f43_eq (t0 t1 : V) (h : List V) : Cl 43 [t0, t1] h =
 (lnL (V.weak t0)).bind fun t7_1 => f43_l0 t0 t1 t7_1 (V.int .i64 0) (List.length h) h :=
 f_eq (by kernel_rfl)
theorem f44_eq (t0 : V) : Cl 44 [t0] [] =
 (Cl 52 (reifyL [] [t0]) []).bind fun r_1 => finT 0 [] r_1.1 :=
 f_eq (by kernel_rfl)
theorem f45_eq (t0 t1 : V) : Cl 45 [t0, t1] [] =
 (Cl 53 (reifyL [] [t0, t1]) []).bind fun r_1 => (bin .geq r_1.1 (V.int .i64 0)).bind fun t12_2 => V.ite t12_2
  ((slT t0 none (some r_1.1)).bind fun t15_3 => (lnS t1).bind fun t19_4 => (bin .add r_1.1 t19_4).bind fun t20_5 => (slT t0 (some t20_5) none).bind fun t21_6 => if (List.all [(V.bool true), t21_6, t15_3] V.okE) = true then finT 0 [] (V.tup [t15_3, t21_6, (V.bool true)]) else none)
  (if (List.all [(V.bool false), (V.str []), t0] V.okE) = true then finT 0 [] (V.tup [t0, (V.str []), (V.bool false)]) else none) :=
 f_eq (by kernel_rfl)
theorem f46_eq (t0 t1 : V) : Cl 46 [t0, t1] [] =
 (Cl 54 (reifyL [] [t0, t1, (V.int .i64 0), (V.int .i64 (-1))]) []).bind fun r_1 => finT 0 [] r_1.1 :=
 f_eq (by kernel_rfl)
theorem f47_eq (t0 : V) (h : List V) : Cl 47 [t0] h =
 (Cl 55 (normL [t0]) h).bind fun r_1 => (ext r_1.1 0).bind fun t9_2 => (ext r_1.1 1).bind fun t10_3 => (nilE .neq t10_3).bind fun t12_4 => V.ite t12_4
  ((Cl 56 (normL [(V.str [65, 116, 111, 105]), t0, (V.int .i64 0), (V.int .i64 0), t10_3]) r_1.2).bind fun r_5 => if (List.all [r_5.1, t9_2] V.okE) = true then finK r_5.2 (V.tup [t9_2, r_5.1]) else none)
  (if (List.all [V.nili, t9_2] V.okE) = true then finK r_1.2 (V.tup [t9_2, V.nili]) else none) :=
 f_eq (by kernel_rfl)
noncomputable def f48_l0 (t0 t3 t4 : V) : Rv := lp W 48 0 (cd 48 151) (bk 0 (sk 48 0 31 (lv 48 0))) ⟨[(0, t0), (3, t3), (4, t4)], []⟩
theorem f48_l0_eq (t0 t3 t4 : V) : f48_l0 t0 t3 t4 =
 (lnL (V.weak t0)).bind fun t14_5 => (bin .lss t4 t14_5).bind fun t15_6 => V.ite t15_6
  ((ixS 3 (V.weak t0) t4).bind fun t21_7 => (ldP [] 3 t21_7).bind fun t22_8 => (minV t3 t22_8).bind fun t23_9 => (bin .add t4 (V.int .i64 1)).bind fun t17_10 => f48_l0 t0 t23_9 t17_10)
  (finT 0 [] t3) :=
 l_eq (by kernel_rfl)
theorem f48_eq (t0 : V) : Cl 48 [t0] [] =
 (lnL (V.weak t0)).bind fun t6_1 => (bin .lss t6_1 (V.int .i64 1)).bind fun t7_2 => V.ite t7_2
  (none)
  ((ixS 3 (V.weak t0) (V.int .i64 0)).bind fun t10_3 => (ldP [] 3 t10_3).bind fun t11_4 => f48_l0 t0 t11_4 (V.int .i64 1)) :=
 f_eq (by kernel_rfl)
noncomputable def f50_r0 (k : V → Rv) : Rv :=
 k (V.bool true)
noncomputable def f50_r1 (k : V → Rv) : Rv :=
 k (V.bool true)
noncomputable def f50_l0 (t0 t1 t2 t3 t4 t10 t11 : V) (n : Nat) (h : List V) : Rv := lp W 50 0 (cd 50 19) (bk 0 (lv 50 n)) ⟨[(0, t0), (1, t1), (2, t2), (3, t3), (4, t4), (10, t10), (11, t11)], h⟩
noncomputable def f50_r2 (t1 t2 : V) (k : V → Rv) : Rv :=
 (bin .sub t2 t1).bind fun t23 => k t23
noncomputable def f50_r3 (t12 : V) (k : V → Rv) : Rv :=
 (bin .leq t12 (V.int .i64 12)).bind fun t25 => k t25
noncomputable def f50_r4 (t0 t1 t2 t4 : V) (h : List V) (k : List V → Rv) : Rv :=
 (Cl 57 (normL [t0, t1, t2, t4]) h).bind fun r => k r.2
noncomputable def f50_r5 (t3 : V) (k : V → Rv) : Rv :=
 (bin .eql t3 (V.int .i64 0)).bind fun t32 => k t32
noncomputable def f50_r6 (t0 t1 t2 t4 : V) (h : List V) (k : List V → Rv) : Rv :=
 (Cl 58 (normL [t0, t1, t2, t4]) h).bind fun r => k r.2
noncomputable def f50_r7 (t10 : V) (k : V → Rv) : Rv :=
 (un .not t10).bind fun t39 => k t39
noncomputable def f50_r10 (t0 t1 t2 t4 : V) (h : List V) (k : V → V → List V → Rv) : Rv :=
 (Cl 60 (normL [(V.weak t0), t1, t2, t4]) h).bind fun r => (ext r.1 0).bind fun t53 => (ext r.1 1).bind fun t54 => k t53 t54 r.2
noncomputable def f50_r11 (t14 : V) (k : V → Rv) : Rv :=
 (bin .eql t14 (V.int .i64 2)).bind fun t56 => k t56
noncomputable def f50_r15 (t10 t11 t14 : V) (k : V → Rv) : Rv :=
 V.ite t10 (V.ite t11 ((bin .eql t14 (V.int .i64 1)).bind fun t74 => k t74) (k (V.bool false))) (k (V.bool false))
noncomputable def f50_r17 (t0 t1 t4 t13 : V) (h : List V) (k : V → List V → Rv) : Rv :=
 (bin .gtr t1 (V.int .i64 0)).bind fun t82 => V.ite t82 ((bin .sub t1 (V.int .i64 1)).bind fun t87 => (indexA P 22 (V.weak t0) t87).bind fun t88 => (ldP h 45 t88).bind fun t89 => (indexA P 22 (V.weak t0) t13).bind fun t92 => (ldP h 45 t92).bind fun t93 => callV P ann W t4 [t89, t93] h fun t94 h_1 => if V.noOwn t94 = true then (bin .lss t94 (V.int .i64 0)).bind fun t95 => (un .not t95).bind fun t96 => k t96 h_1 else none) (k (V.bool false) h)
noncomputable def f50_r18 (t0 t1 t2 t4 t13 : V) (h : List V) (k : V → List V → Rv) : Rv :=
 (Cl 63 (normL [(V.weak t0), t1, t2, t13, t4]) h).bind fun r => k r.1 r.2
noncomputable def f50_r19 (t15 : V) (k : V → Rv) : Rv :=
 k t15
noncomputable def f50_r20 (t0 t1 t2 t4 t13 : V) (h : List V) (k : V → V → List V → Rv) : Rv :=
 (Cl 64 (normL [(V.weak t0), t1, t2, t13, t4]) h).bind fun r => (ext r.1 0).bind fun t112 => (ext r.1 1).bind fun t113 => k t112 t113 r.2
noncomputable def f50_r21 (t17 : V) (k : V → Rv) : Rv :=
 k t17
noncomputable def f50_r22 (t1 t2 t16 : V) (k : V → V → Rv) : Rv :=
 (bin .sub t16 t1).bind fun t117 => (bin .sub t2 t16).bind fun t120 => k t117 t120
noncomputable def f50_r23 (t12 : V) (k : V → Rv) : Rv :=
 (bin .quo t12 (V.int .i64 8)).bind fun t122 => k t122
noncomputable def f50_r24 (t18 t19 : V) (k : V → Rv) : Rv :=
 (bin .lss t18 t19).bind fun t125 => k t125
noncomputable def f50_r25 (t18 t20 : V) (k : V → Rv) : Rv :=
 (bin .geq t18 t20).bind fun t128 => k t128
noncomputable def f50_r26 (t0 t1 t3 t4 t16 : V) (h : List V) (k : List V → Rv) : Rv :=
 (Cl 50 (normL [(V.weak t0), t1, t16, t3, t4]) h).bind fun r => k r.2
noncomputable def f50_r27 (t16 : V) (k : V → Rv) : Rv :=
 (bin .add t16 (V.int .i64 1)).bind fun t136 => k t136
noncomputable def f50_r28 (t19 t20 : V) (k : V → Rv) : Rv :=
 (bin .geq t19 t20).bind fun t139 => k t139
noncomputable def f50_r29 (t0 t2 t3 t4 t16 : V) (h : List V) (k : List V → Rv) : Rv :=
 (bin .add t16 (V.int .i64 1)).bind fun t142 => (Cl 50 (normL [(V.weak t0), t142, t2, t3, t4]) h).bind fun r => k r.2
noncomputable def f50_r30 (t16 : V) (k : V → Rv) : Rv :=
 k t16
noncomputable def f50_r16 (t0 t1 t2 t4 : V) (h : List V) (k : V → List V → Rv) : Rv :=
 (Cl 62 (normL [(V.weak t0), t1, t2, t4]) h).bind fun r => k r.1 r.2
noncomputable def f50_r12 (t0 t1 t2 t4 : V) (h : List V) (k : List V → Rv) : Rv :=
 (Cl 61 (normL [(V.weak t0), t1, t2, t4]) h).bind fun r => k r.2
noncomputable def f50_r13 (t1 t2 t13 : V) (k : V → Rv) : Rv :=
 (bin .sub t2 (V.int .i64 1)).bind fun t63 => (bin .sub t13 t1).bind fun t66 => (bin .sub t63 t66).bind fun t67 => k t67
noncomputable def f50_r14 (k : V → Rv) : Rv :=
 k (V.int .i64 1)
noncomputable def f50_r8 (t0 t1 t2 t4 : V) (h : List V) (k : List V → Rv) : Rv :=
 (Cl 59 (normL [(V.weak t0), t1, t2, t4]) h).bind fun r => k r.2
noncomputable def f50_r9 (t3 : V) (k : V → Rv) : Rv :=
 (bin .sub t3 (V.int .i64 1)).bind fun t46 => k t46
theorem f50_l0_eq (t0 t1 t2 t3 t4 t10 t11 : V) (n : Nat) (h : List V) : f50_l0 t0 t1 t2 t3 t4 t10 t11 n h =
 f50_r2 t1 t2 fun t12_3 =>
  f50_r3 t12_3 fun t25_4 =>
  V.ite t25_4
  (f50_r4 t0 t1 t2 t4 h fun h_5 =>
  if (List.all [] V.okE) = true then finT n h_5 (V.tup []) else none)
  (f50_r5 t3 fun t32_6 =>
  V.ite t32_6
  (f50_r6 t0 t1 t2 t4 h fun h_7 =>
  if (List.all [] V.okE) = true then finT n h_7 (V.tup []) else none)
  (f50_r7 t10 fun t39_8 =>
  jn (fun t3_9 h_10 => f50_r10 t0 t1 t2 t4 h_10 fun t13_11 t14_12 h_13 =>
  f50_r11 t14_12 fun t56_14 =>
  jn (fun t13_15 t14_16 h_17 => f50_r15 t10 t11 t14_16 fun t75_18 =>
  jn (fun h_19 => f50_r17 t0 t1 t4 t13_15 h_19 fun t97_20 h_21 =>
  V.ite t97_20
  (f50_r18 t0 t1 t2 t4 t13_15 h_21 fun t15_22 h_23 =>
  f50_r19 t15_22 fun t1_24 =>
  f50_l0 t0 t1_24 t2 t3_9 t4 t10 t11 n h_23)
  (f50_r20 t0 t1 t2 t4 t13_15 h_21 fun t16_25 t17_26 h_27 =>
  f50_r21 t17_26 fun t11_28 =>
  f50_r22 t1 t2 t16_25 fun t18_29 t19_30 =>
  f50_r23 t12_3 fun t20_31 =>
  f50_r24 t18_29 t19_30 fun t125_32 =>
  V.ite t125_32
  (f50_r25 t18_29 t20_31 fun t10_33 =>
  f50_r26 t0 t1 t3_9 t4 t16_25 h_27 fun h_34 =>
  f50_r27 t16_25 fun t1_35 =>
  f50_l0 t0 t1_35 t2 t3_9 t4 t10_33 t11_28 n h_34)
  (f50_r28 t19_30 t20_31 fun t10_36 =>
  f50_r29 t0 t2 t3_9 t4 t16_25 h_27 fun h_37 =>
  f50_r30 t16_25 fun t2_38 =>
  f50_l0 t0 t1 t2_38 t3_9 t4 t10_36 t11_28 n h_37)))
  (fun (j2 : List V → Rv) => V.ite t75_18
  (f50_r16 t0 t1 t2 t4 h_17 fun t80_39 h_40 =>
  V.ite t80_39
  (if (List.all [] V.okE) = true then finT n h_40 (V.tup []) else none)
  (j2 h_40))
  (j2 h_17)))
  (fun (j1 : V → V → List V → Rv) => V.ite t56_14
  (f50_r12 t0 t1 t2 t4 h_13 fun h_41 =>
  f50_r13 t1 t2 t13_11 fun t13_42 =>
  f50_r14 fun t14_43 =>
  j1 t13_42 t14_43 h_41)
  (j1 t13_11 t14_12 h_13)))
  (fun (j0 : V → List V → Rv) => V.ite t39_8
  (f50_r8 t0 t1 t2 t4 h fun h_44 =>
  f50_r9 t3 fun t3_45 =>
  j0 t3_45 h_44)
  (j0 t3 h)))) :=
 l_eq (y_block <| y_seq <| y_reg (fun K u12 => K ⟨[(0, t0), (1, t1), (2, t2), (3, t3), (4, t4), (10, t10), (11, t11), (12, u12)], h⟩) (funext fun t12_3 => seqK_n <| y_seq <| y_seq <| y_reg (fun K u25 => K ⟨[(0, t0), (1, t1), (2, t2), (3, t3), (4, t4), (10, t10), (11, t11), (12, t12_3), (25, u25)], h⟩) (funext fun t25_4 => seqK_n <| y_cond (by kernel_rfl) (y_skip <| seqK_n <| y_seq <| y_seq <| y_reg (fun K u32 => K ⟨[(0, t0), (1, t1), (2, t2), (3, t3), (4, t4), (10, t10), (11, t11), (12, t12_3), (32, u32)], h⟩) (funext fun t32_6 => seqK_n <| y_cond (by kernel_rfl) (y_skip <| seqK_n <| y_seq <| y_seq <| y_reg (fun K u39 => K ⟨[(0, t0), (1, t1), (2, t2), (3, t3), (4, t4), (10, t10), (11, t11), (12, t12_3), (39, u39)], h⟩) (funext fun t39_8 => seqK_n <| y_jn (fun K t3_9 h_10 => K ⟨[(0, t0), (1, t1), (2, t2), (3, t3_9), (4, t4), (10, t10), (11, t11), (12, t12_3)], h_10⟩) (funext fun t3_9 => funext fun h_10 => seqK_n <| y_seq <| y_reg (fun K u13 u14 h' => K ⟨[(0, t0), (1, t1), (2, t2), (3, t3_9), (4, t4), (10, t10), (11, t11), (12, t12_3), (13, u13), (14, u14)], h'⟩) (funext fun t13_11 => funext fun t14_12 => funext fun h_13 => seqK_n <| y_seq <| y_seq <| y_reg (fun K u56 => K ⟨[(0, t0), (1, t1), (2, t2), (3, t3_9), (4, t4), (10, t10), (11, t11), (12, t12_3), (13, t13_11), (14, t14_12), (56, u56)], h_13⟩) (funext fun t56_14 => seqK_n <| y_jn (fun K t13_15 t14_16 h_17 => K ⟨[(0, t0), (1, t1), (2, t2), (3, t3_9), (4, t4), (10, t10), (11, t11), (12, t12_3), (13, t13_15), (14, t14_16)], h_17⟩) (funext fun t13_15 => funext fun t14_16 => funext fun h_17 => seqK_n <| y_seq <| y_seq <| y_reg (fun K u75 => K ⟨[(0, t0), (1, t1), (2, t2), (3, t3_9), (4, t4), (10, t10), (11, t11), (12, t12_3), (13, t13_15), (75, u75)], h_17⟩) (funext fun t75_18 => seqK_n <| y_jn (fun K h_19 => K ⟨[(0, t0), (1, t1), (2, t2), (3, t3_9), (4, t4), (10, t10), (11, t11), (12, t12_3), (13, t13_15)], h_19⟩) (funext fun h_19 => by kernel_rfl) (y_cond (y_seq <| y_reg (fun K u80 h' => K ⟨[(0, t0), (1, t1), (2, t2), (3, t3_9), (4, t4), (10, t10), (11, t11), (12, t12_3), (13, t13_15), (80, u80)], h'⟩) (funext fun t80_39 => funext fun h_40 => seqK_n <| y_cond (by kernel_rfl) (y_skip <| y_nf))) (y_skip <| y_nf)))) (y_cond (y_seq <| y_reg (fun K h' => K ⟨[(0, t0), (1, t1), (2, t2), (3, t3_9), (4, t4), (10, t10), (11, t11), (12, t12_3), (13, t13_11)], h'⟩) (funext fun h_41 => seqK_n <| y_seq <| y_reg (fun K u13 => K ⟨[(0, t0), (1, t1), (2, t2), (3, t3_9), (4, t4), (10, t10), (11, t11), (12, t12_3), (13, u13)], h_41⟩) (funext fun t13_42 => seqK_n <| y_reg (fun K u14 => K ⟨[(0, t0), (1, t1), (2, t2), (3, t3_9), (4, t4), (10, t10), (11, t11), (12, t12_3), (13, t13_42), (14, u14)], h_41⟩) (funext fun t14_43 => rfl)))) (y_skip <| y_nf))))) (y_cond (y_seq <| y_reg (fun K h' => K ⟨[(0, t0), (1, t1), (2, t2), (3, t3), (4, t4), (10, t10), (11, t11), (12, t12_3)], h'⟩) (funext fun h_44 => seqK_n <| y_reg (fun K u3 => K ⟨[(0, t0), (1, t1), (2, t2), (3, u3), (4, t4), (10, t10), (11, t11), (12, t12_3)], h_44⟩) (funext fun t3_45 => rfl))) (y_skip <| y_nf)))))))))
theorem f50_eq (t0 t1 t2 t3 t4 : V) (h : List V) : Cl 50 [t0, t1, t2, t3, t4] h =
 f50_r0 fun t10_1 =>
  f50_r1 fun t11_2 =>
  f50_l0 t0 t1 t2 t3 t4 t10_1 t11_2 (List.length h) h :=
 f_eq (by kernel_rfl)
noncomputable def f51_r0 (k : Rv) : Rv :=
 k
noncomputable def f51_r1 (t0 : V) (k : V → Rv) : Rv :=
 (conv P [] 77 90 t0).bind fun t4 => (Cl 65 (reifyL [] [t4]) []).bind fun r => k r.1
noncomputable def f51_r2 (t0 : V) (k : V → Rv) : Rv :=
 (Cl 66 (reifyL [] [t0]) []).bind fun r => k r.1
theorem f51_eq (t0 : V) : Cl 51 [t0] [] =
 f51_r0 (V.ite (V.bool false)
  (f51_r1 t0 fun t2_1 =>
  finT 0 [] t2_1)
  (f51_r2 t0 fun t2_2 =>
  finT 0 [] t2_2)) :=
 f_eq (by kernel_rfl)
theorem f52_eq (t0 : V) : Cl 52 [t0] [] =
 (Cl 67 (reifyL [] [t0, (V.int .i64 10)]) []).bind fun r_1 => finT 0 [] r_1.1 :=
 f_eq (by kernel_rfl)
noncomputable def f54_l0 (t0 t1 t2 t3 t9 t10 : V) (h : List V) : Rv := lp W 54 0 (cd 54 2303) (bk 0 (sk 54 0 1023 (lv 54 0))) ⟨[(0, t0), (1, t1), (2, t2), (3, t3), (9, t9), (10, t10)], h⟩
theorem f54_l0_eq (t0 t1 t2 t3 t9 t10 : V) (h : List V) : f54_l0 t0 t1 t2 t3 t9 t10 h =
 (bin .lss t10 t3).bind fun t36_12 => V.ite t36_12
  ((Cl 74 (reifyL h [t0, t1]) []).bind fun r_13 => (bin .lss r_13.1 (V.int .i64 0)).bind fun t41_14 => V.ite t41_14
  ((ixS 9 (V.weak t9) t10).bind fun t61_15 => (stT tyS 9 h t61_15 t0).bind fun h_16 => (bin .add t10 (V.int .i64 1)).bind fun t64_17 => (slL 9 t9 none (some t64_17) none).bind fun t65_18 => finT 0 h_16 t65_18)
  ((bin .add r_13.1 t2).bind fun t47_19 => (slT t0 none (some t47_19)).bind fun t48_20 => (ixS 9 (V.weak t9) t10).bind fun t49_21 => (stT tyS 9 h t49_21 t48_20).bind fun h_22 => (lnS t1).bind fun t53_23 => (bin .add r_13.1 t53_23).bind fun t54_24 => (slT t0 (some t54_24) none).bind fun t55_25 => (bin .add t10 (V.int .i64 1)).bind fun t57_26 => f54_l0 t55_25 t1 t2 t3 t9 t57_26 h_22))
  ((ixS 9 (V.weak t9) t10).bind fun t61_27 => (stT tyS 9 h t61_27 t0).bind fun h_28 => (bin .add t10 (V.int .i64 1)).bind fun t64_29 => (slL 9 t9 none (some t64_29) none).bind fun t65_30 => finT 0 h_28 t65_30) :=
 l_eq (by kernel_rfl)
theorem f54_eq (t0 t1 t2 t3 : V) : Cl 54 [t0, t1, t2, t3] [] =
 (bin .eql t3 (V.int .i64 0)).bind fun t13_1 => V.ite t13_1
  (finT 0 [] (V.weak (V.lst 9 .nil [])))
  ((bin .eql t1 (V.str [])).bind fun t15_2 => V.ite t15_2
  ((Cl 72 (reifyL [] [t0, t3]) []).bind fun r_3 => finT 0 [] r_3.1)
  ((bin .lss t3 (V.int .i64 0)).bind fun t20_4 => jn (fun t3_5 => (lnS t0).bind fun t27_6 => (bin .add t27_6 (V.int .i64 1)).bind fun t28_7 => (minV t3_5 t28_7).bind fun t29_8 => (mkL 9 (V.str []) t29_8 t29_8).bind fun v_9 => (toBox [] v_9).bind fun r_10 => (bin .sub t29_8 (V.int .i64 1)).bind fun t33_11 => f54_l0 t0 t1 t2 t33_11 r_10.1 (V.int .i64 0) r_10.2)
  (fun (j0 : V → Rv) => V.ite t20_4
  ((Cl 73 (reifyL [] [t0, t1]) []).bind fun r_31 => (bin .add r_31.1 (V.int .i64 1)).bind fun t24_32 => j0 t24_32)
  (j0 t3)))) :=
 f_eq (by kernel_rfl)
noncomputable def f55_r0 (k : Rv) : Rv :=
 k
noncomputable def f55_r1 (t0 : V) (k : V → Rv) : Rv :=
 (lnS t0).bind fun t12 => k t12
noncomputable def f55_r2 (t4 : V) (k : V → Rv) : Rv :=
 (bin .lss (V.int .i64 0) t4).bind fun t24 => V.ite t24 ((bin .lss t4 (V.int .i64 19)).bind fun t27 => k t27) (k (V.bool false))
noncomputable def f55_r3 (t0 : V) (k : V → Rv) : Rv :=
 k t0
noncomputable def f55_r4 (t0 : V) (k : V → Rv) : Rv :=
 (ixT t0 (V.int .i64 0)).bind fun t33 => (bin .eql t33 (V.int .u8 45)).bind fun t34 => V.ite t34 (k (V.bool true)) ((ixT t0 (V.int .i64 0)).bind fun t37 => (bin .eql t37 (V.int .u8 43)).bind fun t38 => k t38)
noncomputable def f55_r8 (k : V → Rv) : Rv :=
 k (V.int .i64 0)
noncomputable def f55_r9 (t0 : V) (k : V → V → V → Rv) : Rv :=
 (cvB 5 t0).bind fun t47 => (lnL t47).bind fun t48 => k t47 t48 (V.int .i64 0)
noncomputable def f55_l0 (t5 t6 t47 t48 t49 : V) (n : Nat) (h : List V) : Rv := lp W 55 0 (cd 55 4843) (bk 0 (sk 55 0 1003 (sk 55 0 15 (lv 55 n)))) ⟨[(5, t5), (6, t6), (47, t47), (48, t48), (49, t49)], h⟩
noncomputable def f55_r10 (t48 t49 : V) (k : V → Rv) : Rv :=
 (bin .lss t49 t48).bind fun t50 => k t50
noncomputable def f55_r11 (t47 t49 : V) (h : List V) (k : V → Rv) : Rv :=
 (ixS 5 t47 t49).bind fun t51 => (ldP h 5 t51).bind fun t52 => k t52
noncomputable def f55_r12 (t8 : V) (k : V → Rv) : Rv :=
 (bin .sub t8 (V.int .u8 48)).bind fun t54 => k t54
noncomputable def f55_r13 (t8 : V) (k : V → Rv) : Rv :=
 (bin .gtr t8 (V.int .u8 9)).bind fun t56 => k t56
noncomputable def f55_r14 (k : Rv) : Rv :=
 none
noncomputable def f55_r15 (t6 t8 : V) (k : V → Rv) : Rv :=
 (bin .mul t6 (V.int .i64 10)).bind fun t59 => (cvI .i64 t8).bind fun t61 => (bin .add t59 t61).bind fun t62 => k t62
noncomputable def f55_r16 (t49 : V) (k : V → Rv) : Rv :=
 (bin .add t49 (V.int .i64 1)).bind fun t63 => k t63
noncomputable def f55_r17 (t5 : V) (k : V → Rv) : Rv :=
 (ixT t5 (V.int .i64 0)).bind fun t65 => (bin .eql t65 (V.int .u8 45)).bind fun t66 => k t66
noncomputable def f55_r19 (t6 : V) (k : V → V → Rv) : Rv :=
 k t6 V.nili
noncomputable def f55_r18 (t6 : V) (k : V → Rv) : Rv :=
 (un .neg t6).bind fun t68 => k t68
theorem f55_l0_eq (t5 t6 t47 t48 t49 : V) (n : Nat) (h : List V) : f55_l0 t5 t6 t47 t48 t49 n h =
 f55_r10 t48 t49 fun t50_10 =>
  V.ite t50_10
  (f55_r11 t47 t49 h fun t8_11 =>
  f55_r12 t8_11 fun t8_12 =>
  f55_r13 t8_12 fun t56_13 =>
  V.ite t56_13
  (f55_r14 (if (List.all [V.undef, V.undef] V.okE) = true then finK h (V.tup [V.undef, V.undef]) else none))
  (f55_r15 t6 t8_12 fun t6_14 =>
  f55_r16 t49 fun t49_15 =>
  f55_l0 t5 t6_14 t47 t48 t49_15 n h))
  (f55_r17 t5 fun t66_16 =>
  jn (fun t6_17 => f55_r19 t6_17 fun t2_18 t3_19 =>
  if (List.all [t3_19, t2_18] V.okE) = true then finK h (V.tup [t2_18, t3_19]) else none)
  (fun (j1 : V → Rv) => V.ite t66_16
  (f55_r18 t6 fun t6_20 =>
  j1 t6_20)
  (j1 t6))) :=
 l_eq (y_seq <| y_reg (fun K u50 => K ⟨[(5, t5), (6, t6), (47, t47), (48, t48), (49, t49), (50, u50)], h⟩) (funext fun t50_10 => seqK_n <| y_seq <| y_cond (by kernel_rfl) (y_exit <| seqK_x <| loopK_x <| blockK_h <| seqK_n <| y_seq <| y_seq <| y_reg (fun K u66 => K ⟨[(6, t6), (66, u66)], h⟩) (funext fun t66_16 => seqK_n <| y_jn (fun K t6_17 => K ⟨[(6, t6_17)], h⟩) (funext fun t6_17 => by kernel_rfl) (y_cond (y_reg (fun K u6 => K ⟨[(6, u6)], h⟩) (funext fun t6_20 => rfl)) (y_skip <| y_nf))))))
noncomputable def f55_r5 (t0 : V) (k : V → Rv) : Rv :=
 (slT t0 (some (V.int .i64 1)) none).bind fun t41 => k t41
noncomputable def f55_r6 (t0 : V) (k : V → Rv) : Rv :=
 (lnS t0).bind fun t43 => (bin .lss t43 (V.int .i64 1)).bind fun t44 => k t44
noncomputable def f55_r7 (k : Rv) : Rv :=
 none
noncomputable def f55_r20 (t0 : V) (h : List V) (k : V → V → List V → Rv) : Rv :=
 (Cl 75 (normL [t0, (V.int .i64 10), (V.int .i64 0)]) h).bind fun r => (ext r.1 0).bind fun t73 => (ext r.1 1).bind fun t74 => k t73 t74 r.2
noncomputable def f55_r21 (t9 t10 : V) (k : V → V → Rv) : Rv :=
 k t9 t10
theorem f55_eq (t0 : V) (h : List V) : Cl 55 [t0] h =
 f55_r0 (f55_r1 t0 fun t4_1 =>
  f55_r2 t4_1 fun t30_2 =>
  V.ite t30_2
  (f55_r3 t0 fun t5_3 =>
  f55_r4 t0 fun t39_4 =>
  jn (fun t0_5 => f55_r8 fun t6_6 =>
  f55_r9 t0_5 fun t47_7 t48_8 t49_9 =>
  f55_l0 t5_3 t6_6 t47_7 t48_8 t49_9 (List.length h) h)
  (fun (j0 : V → Rv) => V.ite t39_4
  (f55_r5 t0 fun t0_21 =>
  f55_r6 t0_21 fun t44_22 =>
  V.ite t44_22
  (f55_r7 (if (List.all [V.undef, V.undef] V.okE) = true then finK h (V.tup [V.undef, V.undef]) else none))
  (j0 t0_21))
  (j0 t0)))
  (f55_r20 t0 h fun t9_23 t10_24 h_25 =>
  f55_r21 t9_23 t10_24 fun t2_26 t3_27 =>
  if (List.all [t3_27, t2_26] V.okE) = true then finK h_25 (V.tup [t2_26, t3_27]) else none)) :=
 f_eq (y_seq <| y_reg (fun K => K ⟨[(0, t0)], h⟩) (seqK_n <| y_seq <| y_reg (fun K u4 => K ⟨[(0, t0), (4, u4)], h⟩) (funext fun t4_1 => seqK_n <| y_seq <| y_seq <| y_reg (fun K u30 => K ⟨[(0, t0), (30, u30)], h⟩) (funext fun t30_2 => seqK_n <| y_cond (y_seq <| y_reg (fun K u5 => K ⟨[(0, t0), (5, u5)], h⟩) (funext fun t5_3 => seqK_n <| y_seq <| y_seq <| y_reg (fun K u39 => K ⟨[(0, t0), (5, t5_3), (39, u39)], h⟩) (funext fun t39_4 => seqK_n <| y_jn (fun K t0_5 => K ⟨[(0, t0_5), (5, t5_3)], h⟩) (funext fun t0_5 => by kernel_rfl) (y_cond (y_seq <| y_reg (fun K u0 => K ⟨[(0, u0), (5, t5_3)], h⟩) (funext fun t0_21 => seqK_n <| y_seq <| y_reg (fun K u44 => K ⟨[(0, t0_21), (5, t5_3), (44, u44)], h⟩) (funext fun t44_22 => seqK_n <| y_cond (by kernel_rfl) (y_skip <| y_nf)))) (y_skip <| y_nf))))) (by kernel_rfl)))))
noncomputable def f57_r0 (t1 : V) (k : V → Rv) : Rv :=
 (bin .add t1 (V.int .i64 1)).bind fun t11 => k t11
noncomputable def f57_l0 (t0 t1 t2 t3 t8 : V) (n : Nat) (h : List V) : Rv := lp W 57 0 (cd 57 9) (bk 0 (lv 57 n)) ⟨[(0, t0), (1, t1), (2, t2), (3, t3), (8, t8)], h⟩
noncomputable def f57_r1 (t2 t8 : V) (k : V → Rv) : Rv :=
 (bin .lss t8 t2).bind fun t14 => k t14
noncomputable def f57_r3 (t8 : V) (k : V → Rv) : Rv :=
 k t8
noncomputable def f57_l2 (t0 t1 t2 t3 t8 t9 : V) (n : Nat) (m0 : Nat) (h : List V) : Rv := lp W 57 2 (cd 57 585) (bk 2 (bk 1 (sk 57 0 57 (lk 57 0 m0 9 (bk 0 (lv 57 n)))))) ⟨[(0, t0), (1, t1), (2, t2), (3, t3), (8, t8), (9, t9)], h⟩
noncomputable def f57_r4 (t0 t1 t3 t9 : V) (h : List V) (k : V → List V → Rv) : Rv :=
 (bin .gtr t9 t1).bind fun t20 => V.ite t20 ((indexA P 22 (V.weak t0) t9).bind fun t25 => (ldP h 45 t25).bind fun t26 => (bin .sub t9 (V.int .i64 1)).bind fun t29 => (indexA P 22 (V.weak t0) t29).bind fun t30 => (ldP h 45 t30).bind fun t31 => callV P ann W t3 [t26, t31] h fun t32 h_1 => if V.noOwn t32 = true then (bin .lss t32 (V.int .i64 0)).bind fun t33 => k t33 h_1 else none) (k (V.bool false) h)
noncomputable def f57_r6 (t0 t9 : V) (h : List V) (k : List V → Rv) : Rv :=
 (bin .sub t9 (V.int .i64 1)).bind fun t41 => (bin .sub t9 (V.int .i64 1)).bind fun t44 => (indexA P 22 (V.weak t0) t44).bind fun t45 => (ldP h 45 t45).bind fun t46 => (indexA P 22 (V.weak t0) t9).bind fun t49 => (ldP h 45 t49).bind fun t50 => (indexA P 22 (V.weak t0) t9).bind fun t51 => (sto P h 45 t51 t46).bind fun h_1 => (indexA P 22 (V.weak t0) t41).bind fun t52 => (sto P h_1 45 t52 t50).bind fun h_2 => k h_2
noncomputable def f57_r5 (t9 : V) (k : V → Rv) : Rv :=
 (bin .sub t9 (V.int .i64 1)).bind fun t36 => k t36
noncomputable def f57_r2 (t8 : V) (k : V → Rv) : Rv :=
 (bin .add t8 (V.int .i64 1)).bind fun t16 => k t16
theorem f57_l2_eq (t0 t1 t2 t3 t8 t9 : V) (n : Nat) (m0 : Nat) (h : List V) : f57_l2 t0 t1 t2 t3 t8 t9 n m0 h =
 f57_r4 t0 t1 t3 t9 h fun t34_4 h_5 =>
  V.ite t34_4
  (f57_r6 t0 t9 h_5 fun h_6 =>
  f57_r5 t9 fun t9_7 =>
  f57_l2 t0 t1 t2 t3 t8 t9_7 n m0 h_6)
  (f57_r2 t8 fun t8_8 =>
  f57_l0 t0 t1 t2 t3 t8_8 n h_5) :=
 l_eq (by kernel_rfl)
theorem f57_l0_eq (t0 t1 t2 t3 t8 : V) (n : Nat) (h : List V) : f57_l0 t0 t1 t2 t3 t8 n h =
 f57_r1 t2 t8 fun t14_2 =>
  V.ite t14_2
  (f57_r3 t8 fun t9_3 =>
  f57_l2 t0 t1 t2 t3 t8 t9_3 n (List.length h) h)
  (if (List.all [] V.okE) = true then finT n h (V.tup []) else none) :=
 l_eq (by kernel_rfl)
theorem f57_eq (t0 t1 t2 t3 : V) (h : List V) : Cl 57 [t0, t1, t2, t3] h =
 f57_r0 t1 fun t8_1 =>
  f57_l0 t0 t1 t2 t3 t8_1 (List.length h) h :=
 f_eq (by kernel_rfl)
noncomputable def f58_r0 (t1 : V) (k : V → Rv) : Rv :=
 k t1
noncomputable def f58_r1 (k : V → Rv) : Rv :=
 k (V.int .i64 0)
noncomputable def f58_r2 (t1 t2 : V) (k : V → Rv) : Rv :=
 (bin .sub t2 t1).bind fun t16 => k t16
noncomputable def f58_r3 (t10 : V) (k : V → Rv) : Rv :=
 (bin .sub t10 (V.int .i64 1)).bind fun t18 => (bin .quo t18 (V.int .i64 2)).bind fun t19 => k t19
noncomputable def f58_l0 (t0 t3 t8 t9 t10 t11 : V) (n : Nat) (h : List V) : Rv := lp W 58 0 (cd 58 151) (bk 0 (sk 58 0 31 (lv 58 n))) ⟨[(0, t0), (3, t3), (8, t8), (9, t9), (10, t10), (11, t11)], h⟩
noncomputable def f58_r4 (t11 : V) (k : V → Rv) : Rv :=
 (bin .geq t11 (V.int .i64 0)).bind fun t21 => k t21
noncomputable def f58_r6 (t0 t3 t8 t10 t11 : V) (h : List V) (k : List V → Rv) : Rv :=
 (Cl 80 (normL [(V.weak t0), t11, t10, t8, t3]) h).bind fun r => k r.2
noncomputable def f58_r5 (t11 : V) (k : V → Rv) : Rv :=
 (bin .sub t11 (V.int .i64 1)).bind fun t23 => k t23
noncomputable def f58_r7 (t10 : V) (k : V → Rv) : Rv :=
 (bin .sub t10 (V.int .i64 1)).bind fun t31 => k t31
noncomputable def f58_l2 (t0 t3 t8 t9 t12 : V) (n : Nat) (h : List V) : Rv := lp W 58 2 (cd 58 159) (bk 2 (lv 58 n)) ⟨[(0, t0), (3, t3), (8, t8), (9, t9), (12, t12)], h⟩
noncomputable def f58_r8 (t12 : V) (k : V → Rv) : Rv :=
 (bin .geq t12 (V.int .i64 0)).bind fun t33 => k t33
noncomputable def f58_r10 (t0 t8 t12 : V) (h : List V) (k : List V → Rv) : Rv :=
 (bin .add t8 t12).bind fun t41 => (bin .add t8 t12).bind fun t45 => (indexA P 22 (V.weak t0) t45).bind fun t46 => (ldP h 45 t46).bind fun t47 => (indexA P 22 (V.weak t0) t8).bind fun t50 => (ldP h 45 t50).bind fun t51 => (indexA P 22 (V.weak t0) t8).bind fun t52 => (sto P h 45 t52 t47).bind fun h_1 => (indexA P 22 (V.weak t0) t41).bind fun t53 => (sto P h_1 45 t53 t51).bind fun h_2 => k h_2
noncomputable def f58_r11 (t0 t3 t8 t9 t12 : V) (h : List V) (k : List V → Rv) : Rv :=
 (Cl 80 (normL [(V.weak t0), t9, t12, t8, t3]) h).bind fun r => k r.2
noncomputable def f58_r9 (t12 : V) (k : V → Rv) : Rv :=
 (bin .sub t12 (V.int .i64 1)).bind fun t35 => k t35
theorem f58_l2_eq (t0 t3 t8 t9 t12 : V) (n : Nat) (h : List V) : f58_l2 t0 t3 t8 t9 t12 n h =
 f58_r8 t12 fun t33_9 =>
  V.ite t33_9
  (f58_r10 t0 t8 t12 h fun h_10 =>
  f58_r11 t0 t3 t8 t9 t12 h_10 fun h_11 =>
  f58_r9 t12 fun t12_12 =>
  f58_l2 t0 t3 t8 t9 t12_12 n h_11)
  (if (List.all [] V.okE) = true then finT n h (V.tup []) else none) :=
 l_eq (by kernel_rfl)
theorem f58_l0_eq (t0 t3 t8 t9 t10 t11 : V) (n : Nat) (h : List V) : f58_l0 t0 t3 t8 t9 t10 t11 n h =
 f58_r4 t11 fun t21_5 =>
  V.ite t21_5
  (f58_r6 t0 t3 t8 t10 t11 h fun h_6 =>
  f58_r5 t11 fun t11_7 =>
  f58_l0 t0 t3 t8 t9 t10 t11_7 n h_6)
  (f58_r7 t10 fun t12_8 =>
  f58_l2 t0 t3 t8 t9 t12_8 n h) :=
 l_eq (by kernel_rfl)
theorem f58_eq (t0 t1 t2 t3 : V) (h : List V) : Cl 58 [t0, t1, t2, t3] h =
 f58_r0 t1 fun t8_1 =>
  f58_r1 fun t9_2 =>
  f58_r2 t1 t2 fun t10_3 =>
  f58_r3 t10_3 fun t11_4 =>
  f58_l0 t0 t3 t8_1 t9_2 t10_3 t11_4 (List.length h) h :=
 f_eq (by kernel_rfl)
noncomputable def f59_r0 (t1 t2 : V) (k : V → Rv) : Rv :=
 (bin .sub t2 t1).bind fun t15 => k t15
noncomputable def f59_r1 (t8 : V) (k : V → Rv) : Rv :=
 (bin .geq t8 (V.int .i64 8)).bind fun t17 => k t17
noncomputable def f59_r2 (t8 : V) (h : List V) (k : V → List V → Rv) : Rv :=
 (conv P h 3 103 t8).bind fun t19 => (sto P (h ++ [zero P 103]) 103 (V.ref (List.length h) [] 103) t19).bind fun h_1 => k (V.ref (List.length h) [] 103) h_1
noncomputable def f59_r3 (t8 : V) (h : List V) (k : V → Rv) : Rv :=
 (Cl 81 (reifyL h [t8]) []).bind fun r => k r.1
noncomputable def f59_r4 (t1 t8 : V) (k : V → Rv) : Rv :=
 (bin .quo t8 (V.int .i64 4)).bind fun t24 => (bin .mul t24 (V.int .i64 2)).bind fun t25 => (bin .add t1 t25).bind fun t26 => (bin .sub t26 (V.int .i64 1)).bind fun t27 => k t27
noncomputable def f59_l0 (t0 t1 t8 t9 t10 t11 : V) (n : Nat) (h : List V) : Rv := lp W 59 0 (cd 59 315) (bk 0 (lv 59 n)) ⟨[(0, t0), (1, t1), (8, t8), (9, t9), (10, t10), (11, t11)], h⟩
noncomputable def f59_r5 (t1 t8 t11 : V) (k : V → Rv) : Rv :=
 (bin .quo t8 (V.int .i64 4)).bind fun t31 => (bin .mul t31 (V.int .i64 2)).bind fun t32 => (bin .add t1 t32).bind fun t33 => (bin .add t33 (V.int .i64 1)).bind fun t34 => (bin .leq t11 t34).bind fun t35 => k t35
noncomputable def f59_r7 (t9 t10 : V) (h : List V) (k : V → List V → Rv) : Rv :=
 (Cl 82 (normL [t9]) h).bind fun r => (bin .sub t10 (V.int .u64 1)).bind fun t40 => (bin .and r.1 t40).bind fun t41 => (conv P r.2 77 3 t41).bind fun t42 => k t42 r.2
noncomputable def f59_r8 (t8 t12 : V) (k : V → Rv) : Rv :=
 (bin .geq t12 t8).bind fun t45 => k t45
noncomputable def f59_r10 (t0 t1 t11 t12 : V) (h : List V) (k : List V → Rv) : Rv :=
 (bin .add t1 t12).bind fun t54 => (bin .add t1 t12).bind fun t58 => (indexA P 22 (V.weak t0) t58).bind fun t59 => (ldP h 45 t59).bind fun t60 => (indexA P 22 (V.weak t0) t11).bind fun t63 => (ldP h 45 t63).bind fun t64 => (indexA P 22 (V.weak t0) t11).bind fun t65 => (sto P h 45 t65 t60).bind fun h_1 => (indexA P 22 (V.weak t0) t54).bind fun t66 => (sto P h_1 45 t66 t64).bind fun h_2 => k h_2
noncomputable def f59_r6 (t11 : V) (k : V → Rv) : Rv :=
 (bin .add t11 (V.int .i64 1)).bind fun t37 => k t37
noncomputable def f59_r9 (t8 t12 : V) (k : V → Rv) : Rv :=
 (bin .sub t12 t8).bind fun t48 => k t48
theorem f59_l0_eq (t0 t1 t8 t9 t10 t11 : V) (n : Nat) (h : List V) : f59_l0 t0 t1 t8 t9 t10 t11 n h =
 f59_r5 t1 t8 t11 fun t35_7 =>
  V.ite t35_7
  (f59_r7 t9 t10 h fun t12_8 h_9 =>
  f59_r8 t8 t12_8 fun t45_10 =>
  jn (fun t12_11 => f59_r10 t0 t1 t11 t12_11 h_9 fun h_12 =>
  f59_r6 t11 fun t11_13 =>
  f59_l0 t0 t1 t8 t9 t10 t11_13 n h_12)
  (fun (j0 : V → Rv) => V.ite t45_10
  (f59_r9 t8 t12_8 fun t12_14 =>
  j0 t12_14)
  (j0 t12_8)))
  (if (List.all [] V.okE) = true then finT n h (V.tup []) else none) :=
 l_eq (y_seq <| y_seq <| y_reg (fun K u35 => K ⟨[(0, t0), (1, t1), (8, t8), (9, t9), (10, t10), (11, t11), (35, u35)], h⟩) (funext fun t35_7 => seqK_n <| y_cond (y_skip <| seqK_n <| y_seq <| y_block <| y_seq <| y_reg (fun K u12 h' => K ⟨[(0, t0), (1, t1), (8, t8), (9, t9), (10, t10), (11, t11), (12, u12)], h'⟩) (funext fun t12_8 => funext fun h_9 => seqK_n <| y_seq <| y_seq <| y_reg (fun K u45 => K ⟨[(0, t0), (1, t1), (8, t8), (9, t9), (10, t10), (11, t11), (12, t12_8), (45, u45)], h_9⟩) (funext fun t45_10 => seqK_n <| y_jn (fun K t12_11 => K ⟨[(0, t0), (1, t1), (8, t8), (9, t9), (10, t10), (11, t11), (12, t12_11)], h_9⟩) (funext fun t12_11 => by kernel_rfl) (y_cond (by kernel_rfl) (by kernel_rfl))))) (by kernel_rfl)))
theorem f59_eq (t0 t1 t2 t3 : V) (h : List V) : Cl 59 [t0, t1, t2, t3] h =
 f59_r0 t1 t2 fun t8_1 =>
  f59_r1 t8_1 fun t17_2 =>
  V.ite t17_2
  (f59_r2 t8_1 h fun t9_3 h_4 =>
  f59_r3 t8_1 h_4 fun t10_5 =>
  f59_r4 t1 t8_1 fun t11_6 =>
  f59_l0 t0 t1 t8_1 t9_3 t10_5 t11_6 (List.length h) h_4)
  (if (List.all [] V.okE) = true then finT (List.length h) h (V.tup []) else none) :=
 f_eq (by kernel_rfl)
noncomputable def f60_r0 (k : Rv) : Rv :=
 k
noncomputable def f60_r1 (t1 t2 : V) (k : V → Rv) : Rv :=
 (bin .sub t2 t1).bind fun t17 => k t17
noncomputable def f60_r2 (h : List V) (k : V → List V → Rv) : Rv :=
 k (V.ref (List.length h) [] 3) (h ++ [zero P 3])
noncomputable def f60_r3 (t1 t10 : V) (k : V → Rv) : Rv :=
 (bin .quo t10 (V.int .i64 4)).bind fun t20 => (bin .mul t20 (V.int .i64 1)).bind fun t21 => (bin .add t1 t21).bind fun t22 => k t22
noncomputable def f60_r4 (t1 t10 : V) (k : V → Rv) : Rv :=
 (bin .quo t10 (V.int .i64 4)).bind fun t25 => (bin .mul t25 (V.int .i64 2)).bind fun t26 => (bin .add t1 t26).bind fun t27 => k t27
noncomputable def f60_r5 (t1 t10 : V) (k : V → Rv) : Rv :=
 (bin .quo t10 (V.int .i64 4)).bind fun t30 => (bin .mul t30 (V.int .i64 3)).bind fun t31 => (bin .add t1 t31).bind fun t32 => k t32
noncomputable def f60_r6 (t10 : V) (k : V → Rv) : Rv :=
 (bin .geq t10 (V.int .i64 8)).bind fun t34 => k t34
noncomputable def f60_r12 (t11 : V) (h : List V) (k : V → Rv) : Rv :=
 (ldP h 3 t11).bind fun t55 => k t55
noncomputable def f60_r14 (t55 : V) (k : V → Rv) : Rv :=
 (bin .eql t55 (V.int .i64 0)).bind fun t58 => k t58
noncomputable def f60_r15 (t13 : V) (k : V → V → Rv) : Rv :=
 k t13 (V.int .i64 1)
noncomputable def f60_r16 (t55 : V) (k : V → Rv) : Rv :=
 (bin .eql t55 (V.int .i64 12)).bind fun t61 => k t61
noncomputable def f60_r17 (t13 : V) (k : V → V → Rv) : Rv :=
 k t13 (V.int .i64 2)
noncomputable def f60_r13 (t13 : V) (k : V → V → Rv) : Rv :=
 k t13 (V.int .i64 0)
noncomputable def f60_r7 (t10 : V) (k : V → Rv) : Rv :=
 (bin .geq t10 (V.int .i64 50)).bind fun t36 => k t36
noncomputable def f60_r11 (t0 t3 t11 t12 t13 t14 : V) (h : List V) (k : V → List V → Rv) : Rv :=
 (Cl 84 (normL [t0, t12, t13, t14, t11, t3]) h).bind fun r => k r.1 r.2
noncomputable def f60_r8 (t0 t3 t11 t12 : V) (h : List V) (k : V → List V → Rv) : Rv :=
 (Cl 83 (normL [(V.weak t0), t12, t11, t3]) h).bind fun r => k r.1 r.2
noncomputable def f60_r9 (t0 t3 t11 t13 : V) (h : List V) (k : V → List V → Rv) : Rv :=
 (Cl 83 (normL [(V.weak t0), t13, t11, t3]) h).bind fun r => k r.1 r.2
noncomputable def f60_r10 (t0 t3 t11 t14 : V) (h : List V) (k : V → List V → Rv) : Rv :=
 (Cl 83 (normL [(V.weak t0), t14, t11, t3]) h).bind fun r => k r.1 r.2
theorem f60_eq (t0 t1 t2 t3 : V) (h : List V) : Cl 60 [t0, t1, t2, t3] h =
 f60_r0 (f60_r1 t1 t2 fun t10_1 =>
  f60_r2 h fun t11_2 h_3 =>
  f60_r3 t1 t10_1 fun t12_4 =>
  f60_r4 t1 t10_1 fun t13_5 =>
  f60_r5 t1 t10_1 fun t14_6 =>
  f60_r6 t10_1 fun t34_7 =>
  jn (fun t13_8 h_9 => f60_r12 t11_2 h_9 fun t55_10 =>
  f60_r14 t55_10 fun t57_11 =>
  V.ite t57_11
  (f60_r15 t13_8 fun t8_12 t9_13 =>
  if (List.all [t9_13, t8_12] V.okE) = true then finT (List.length h) h_9 (V.tup [t8_12, t9_13]) else none)
  (f60_r16 t55_10 fun t60_14 =>
  V.ite t60_14
  (f60_r17 t13_8 fun t8_15 t9_16 =>
  if (List.all [t9_16, t8_15] V.okE) = true then finT (List.length h) h_9 (V.tup [t8_15, t9_16]) else none)
  (f60_r13 t13_8 fun t8_17 t9_18 =>
  if (List.all [t9_18, t8_17] V.okE) = true then finT (List.length h) h_9 (V.tup [t8_17, t9_18]) else none)))
  (fun (j0 : V → List V → Rv) => V.ite t34_7
  (f60_r7 t10_1 fun t36_19 =>
  jn (fun t12_20 t13_21 t14_22 h_23 => f60_r11 t0 t3 t11_2 t12_20 t13_21 t14_22 h_23 fun t13_24 h_25 =>
  j0 t13_24 h_25)
  (fun (j1 : V → V → V → List V → Rv) => V.ite t36_19
  (f60_r8 t0 t3 t11_2 t12_4 h_3 fun t12_26 h_27 =>
  f60_r9 t0 t3 t11_2 t13_5 h_27 fun t13_28 h_29 =>
  f60_r10 t0 t3 t11_2 t14_6 h_29 fun t14_30 h_31 =>
  j1 t12_26 t13_28 t14_30 h_31)
  (j1 t12_4 t13_5 t14_6 h_3)))
  (j0 t13_5 h_3))) :=
 f_eq (y_seq <| y_reg (fun K => K ⟨[(0, t0), (1, t1), (2, t2), (3, t3)], h⟩) (seqK_n <| y_seq <| y_reg (fun K u10 => K ⟨[(0, t0), (1, t1), (3, t3), (10, u10)], h⟩) (funext fun t10_1 => seqK_n <| y_seq <| y_reg (fun K u11 h' => K ⟨[(0, t0), (1, t1), (3, t3), (10, t10_1), (11, u11)], h'⟩) (funext fun t11_2 => funext fun h_3 => seqK_n <| y_seq <| y_reg (fun K u12 => K ⟨[(0, t0), (1, t1), (3, t3), (10, t10_1), (11, t11_2), (12, u12)], h_3⟩) (funext fun t12_4 => seqK_n <| y_seq <| y_reg (fun K u13 => K ⟨[(0, t0), (1, t1), (3, t3), (10, t10_1), (11, t11_2), (12, t12_4), (13, u13)], h_3⟩) (funext fun t13_5 => seqK_n <| y_seq <| y_reg (fun K u14 => K ⟨[(0, t0), (3, t3), (10, t10_1), (11, t11_2), (12, t12_4), (13, t13_5), (14, u14)], h_3⟩) (funext fun t14_6 => seqK_n <| y_seq <| y_seq <| y_reg (fun K u34 => K ⟨[(0, t0), (3, t3), (10, t10_1), (11, t11_2), (12, t12_4), (13, t13_5), (14, t14_6), (34, u34)], h_3⟩) (funext fun t34_7 => seqK_n <| y_jn (fun K t13_8 h_9 => K ⟨[(11, t11_2), (13, t13_8)], h_9⟩) (funext fun t13_8 => funext fun h_9 => by kernel_rfl) (y_cond (y_seq <| y_seq <| y_reg (fun K u36 => K ⟨[(0, t0), (3, t3), (11, t11_2), (12, t12_4), (13, t13_5), (14, t14_6), (36, u36)], h_3⟩) (funext fun t36_19 => seqK_n <| y_jn (fun K t12_20 t13_21 t14_22 h_23 => K ⟨[(0, t0), (3, t3), (11, t11_2), (12, t12_20), (13, t13_21), (14, t14_22)], h_23⟩) (funext fun t12_20 => funext fun t13_21 => funext fun t14_22 => funext fun h_23 => seqK_n <| y_reg (fun K u13 h' => K ⟨[(11, t11_2), (13, u13)], h'⟩) (funext fun t13_24 => funext fun h_25 => rfl)) (y_cond (y_seq <| y_reg (fun K u12 h' => K ⟨[(0, t0), (3, t3), (11, t11_2), (12, u12), (13, t13_5), (14, t14_6)], h'⟩) (funext fun t12_26 => funext fun h_27 => seqK_n <| y_seq <| y_reg (fun K u13 h' => K ⟨[(0, t0), (3, t3), (11, t11_2), (12, t12_26), (13, u13), (14, t14_6)], h'⟩) (funext fun t13_28 => funext fun h_29 => seqK_n <| y_reg (fun K u14 h' => K ⟨[(0, t0), (3, t3), (11, t11_2), (12, t12_26), (13, t13_28), (14, u14)], h'⟩) (funext fun t14_30 => funext fun h_31 => rfl)))) (y_skip <| y_nf)))) (y_skip <| y_nf))))))))))
noncomputable def f61_r0 (t1 : V) (k : V → Rv) : Rv :=
 k t1
noncomputable def f61_r1 (t2 : V) (k : V → Rv) : Rv :=
 (bin .sub t2 (V.int .i64 1)).bind fun t12 => k t12
noncomputable def f61_l0 (t0 t8 t9 : V) (n : Nat) (h : List V) : Rv := lp W 61 0 (cd 61 19) (bk 0 (lv 61 n)) ⟨[(0, t0), (8, t8), (9, t9)], h⟩
noncomputable def f61_r2 (t8 t9 : V) (k : V → Rv) : Rv :=
 (bin .lss t8 t9).bind fun t15 => k t15
noncomputable def f61_r3 (t0 t8 t9 : V) (h : List V) (k : List V → Rv) : Rv :=
 (indexA P 22 (V.weak t0) t9).bind fun t22 => (ldP h 45 t22).bind fun t23 => (indexA P 22 (V.weak t0) t8).bind fun t26 => (ldP h 45 t26).bind fun t27 => (indexA P 22 (V.weak t0) t8).bind fun t28 => (sto P h 45 t28 t23).bind fun h_1 => (indexA P 22 (V.weak t0) t9).bind fun t29 => (sto P h_1 45 t29 t27).bind fun h_2 => k h_2
noncomputable def f61_r4 (t8 : V) (k : V → Rv) : Rv :=
 (bin .add t8 (V.int .i64 1)).bind fun t31 => k t31
noncomputable def f61_r5 (t9 : V) (k : V → Rv) : Rv :=
 (bin .sub t9 (V.int .i64 1)).bind fun t33 => k t33
theorem f61_l0_eq (t0 t8 t9 : V) (n : Nat) (h : List V) : f61_l0 t0 t8 t9 n h =
 f61_r2 t8 t9 fun t15_3 =>
  V.ite t15_3
  (f61_r3 t0 t8 t9 h fun h_4 =>
  f61_r4 t8 fun t8_5 =>
  f61_r5 t9 fun t9_6 =>
  f61_l0 t0 t8_5 t9_6 n h_4)
  (if (List.all [] V.okE) = true then finT n h (V.tup []) else none) :=
 l_eq (by kernel_rfl)
theorem f61_eq (t0 t1 t2 t3 : V) (h : List V) : Cl 61 [t0, t1, t2, t3] h =
 f61_r0 t1 fun t8_1 =>
  f61_r1 t2 fun t9_2 =>
  f61_l0 t0 t8_1 t9_2 (List.length h) h :=
 f_eq (by kernel_rfl)
noncomputable def f62_r0 (k : Rv) : Rv :=
 k
noncomputable def f62_r1 (t1 : V) (k : V → Rv) : Rv :=
 (bin .add t1 (V.int .i64 1)).bind fun t14 => k t14
noncomputable def f62_r2 (k : V → Rv) : Rv :=
 k (V.int .i64 0)
noncomputable def f62_l0 (t0 t1 t2 t3 t9 t10 : V) (n : Nat) (h : List V) : Rv := lp W 62 0 (cd 62 75) (bk 0 (sk 62 0 15 (lv 62 n))) ⟨[(0, t0), (1, t1), (2, t2), (3, t3), (9, t9), (10, t10)], h⟩
noncomputable def f62_r3 (t10 : V) (k : V → Rv) : Rv :=
 (bin .lss t10 (V.int .i64 5)).bind fun t16 => k t16
noncomputable def f62_l2 (t0 t1 t2 t3 t9 t10 : V) (n : Nat) (m0 : Nat) (h : List V) : Rv := lp W 62 2 (cd 62 4171) (bk 2 (sk 62 1 1611 (bk 1 (sk 62 0 459 (lk 62 0 m0 75 (bk 0 (sk 62 0 15 (lv 62 n)))))))) ⟨[(0, t0), (1, t1), (2, t2), (3, t3), (9, t9), (10, t10)], h⟩
noncomputable def f62_r5 (t0 t2 t3 t9 : V) (h : List V) (k : V → List V → Rv) : Rv :=
 (bin .lss t9 t2).bind fun t21 => V.ite t21 ((indexA P 22 (V.weak t0) t9).bind fun t26 => (ldP h 45 t26).bind fun t27 => (bin .sub t9 (V.int .i64 1)).bind fun t30 => (indexA P 22 (V.weak t0) t30).bind fun t31 => (ldP h 45 t31).bind fun t32 => callV P ann W t3 [t27, t32] h fun t33 h_1 => if V.noOwn t33 = true then (bin .lss t33 (V.int .i64 0)).bind fun t34 => (un .not t34).bind fun t35 => k t35 h_1 else none) (k (V.bool false) h)
noncomputable def f62_r6 (t9 : V) (k : V → Rv) : Rv :=
 (bin .add t9 (V.int .i64 1)).bind fun t38 => k t38
noncomputable def f62_r7 (t2 t9 : V) (k : V → Rv) : Rv :=
 (bin .eql t9 t2).bind fun t41 => k t41
noncomputable def f62_r8 (k : V → Rv) : Rv :=
 k (V.bool true)
noncomputable def f62_r9 (t1 t2 : V) (k : V → Rv) : Rv :=
 (bin .sub t2 t1).bind fun t44 => (bin .lss t44 (V.int .i64 50)).bind fun t45 => k t45
noncomputable def f62_r10 (k : V → Rv) : Rv :=
 k (V.bool false)
noncomputable def f62_r11 (t0 t9 : V) (h : List V) (k : List V → Rv) : Rv :=
 (bin .sub t9 (V.int .i64 1)).bind fun t50 => (bin .sub t9 (V.int .i64 1)).bind fun t53 => (indexA P 22 (V.weak t0) t53).bind fun t54 => (ldP h 45 t54).bind fun t55 => (indexA P 22 (V.weak t0) t9).bind fun t58 => (ldP h 45 t58).bind fun t59 => (indexA P 22 (V.weak t0) t9).bind fun t60 => (sto P h 45 t60 t55).bind fun h_1 => (indexA P 22 (V.weak t0) t50).bind fun t61 => (sto P h_1 45 t61 t59).bind fun h_2 => k h_2
noncomputable def f62_r12 (t1 t9 : V) (k : V → Rv) : Rv :=
 (bin .sub t9 t1).bind fun t64 => (bin .geq t64 (V.int .i64 2)).bind fun t65 => k t65
noncomputable def f62_r18 (t2 t9 : V) (k : V → Rv) : Rv :=
 (bin .sub t2 t9).bind fun t103 => (bin .geq t103 (V.int .i64 2)).bind fun t104 => k t104
noncomputable def f62_r19 (t9 : V) (k : V → Rv) : Rv :=
 (bin .add t9 (V.int .i64 1)).bind fun t106 => k t106
noncomputable def f62_l6 (t0 t1 t2 t3 t9 t10 t12 : V) (n : Nat) (m0 : Nat) (h : List V) : Rv := lp W 62 6 (cd 62 622155) (bk 6 (bk 1 (sk 62 0 459 (lk 62 0 m0 75 (bk 0 (sk 62 0 15 (lv 62 n))))))) ⟨[(0, t0), (1, t1), (2, t2), (3, t3), (9, t9), (10, t10), (12, t12)], h⟩
noncomputable def f62_r20 (t2 t12 : V) (k : V → Rv) : Rv :=
 (bin .lss t12 t2).bind fun t109 => k t109
noncomputable def f62_r22 (t0 t3 t12 : V) (h : List V) (k : V → List V → Rv) : Rv :=
 (indexA P 22 (V.weak t0) t12).bind fun t115 => (ldP h 45 t115).bind fun t116 => (bin .sub t12 (V.int .i64 1)).bind fun t119 => (indexA P 22 (V.weak t0) t119).bind fun t120 => (ldP h 45 t120).bind fun t121 => callV P ann W t3 [t116, t121] h fun t122 h_1 => if V.noOwn t122 = true then (bin .lss t122 (V.int .i64 0)).bind fun t123 => (un .not t123).bind fun t124 => k t124 h_1 else none
noncomputable def f62_r4 (t10 : V) (k : V → Rv) : Rv :=
 (bin .add t10 (V.int .i64 1)).bind fun t18 => k t18
noncomputable def f62_r23 (t0 t12 : V) (h : List V) (k : List V → Rv) : Rv :=
 (bin .sub t12 (V.int .i64 1)).bind fun t129 => (bin .sub t12 (V.int .i64 1)).bind fun t132 => (indexA P 22 (V.weak t0) t132).bind fun t133 => (ldP h 45 t133).bind fun t134 => (indexA P 22 (V.weak t0) t12).bind fun t137 => (ldP h 45 t137).bind fun t138 => (indexA P 22 (V.weak t0) t12).bind fun t139 => (sto P h 45 t139 t134).bind fun h_1 => (indexA P 22 (V.weak t0) t129).bind fun t140 => (sto P h_1 45 t140 t138).bind fun h_2 => k h_2
noncomputable def f62_r21 (t12 : V) (k : V → Rv) : Rv :=
 (bin .add t12 (V.int .i64 1)).bind fun t111 => k t111
theorem f62_l6_eq (t0 t1 t2 t3 t9 t10 t12 : V) (n : Nat) (m0 : Nat) (h : List V) : f62_l6 t0 t1 t2 t3 t9 t10 t12 n m0 h =
 f62_r20 t2 t12 fun t109_16 =>
  V.ite t109_16
  (f62_r22 t0 t3 t12 h fun t124_17 h_18 =>
  V.ite t124_17
  (f62_r4 t10 fun t10_19 =>
  f62_l0 t0 t1 t2 t3 t9 t10_19 n h_18)
  (f62_r23 t0 t12 h_18 fun h_20 =>
  f62_r21 t12 fun t12_21 =>
  f62_l6 t0 t1 t2 t3 t9 t10 t12_21 n m0 h_20))
  (f62_r4 t10 fun t10_22 =>
  f62_l0 t0 t1 t2 t3 t9 t10_22 n h) :=
 l_eq (by kernel_rfl)
noncomputable def f62_r13 (t9 : V) (k : V → Rv) : Rv :=
 (bin .sub t9 (V.int .i64 1)).bind fun t67 => k t67
noncomputable def f62_l4 (t0 t1 t2 t3 t9 t10 t11 : V) (n : Nat) (m0 : Nat) (h : List V) : Rv := lp W 62 4 (cd 62 613963) (bk 4 (sk 62 1 32331 (bk 1 (sk 62 0 459 (lk 62 0 m0 75 (bk 0 (sk 62 0 15 (lv 62 n)))))))) ⟨[(0, t0), (1, t1), (2, t2), (3, t3), (9, t9), (10, t10), (11, t11)], h⟩
noncomputable def f62_r14 (t11 : V) (k : V → Rv) : Rv :=
 (bin .geq t11 (V.int .i64 1)).bind fun t69 => k t69
noncomputable def f62_r16 (t0 t3 t11 : V) (h : List V) (k : V → List V → Rv) : Rv :=
 (indexA P 22 (V.weak t0) t11).bind fun t75 => (ldP h 45 t75).bind fun t76 => (bin .sub t11 (V.int .i64 1)).bind fun t79 => (indexA P 22 (V.weak t0) t79).bind fun t80 => (ldP h 45 t80).bind fun t81 => callV P ann W t3 [t76, t81] h fun t82 h_1 => if V.noOwn t82 = true then (bin .lss t82 (V.int .i64 0)).bind fun t83 => (un .not t83).bind fun t84 => k t84 h_1 else none
noncomputable def f62_r17 (t0 t11 : V) (h : List V) (k : List V → Rv) : Rv :=
 (bin .sub t11 (V.int .i64 1)).bind fun t89 => (bin .sub t11 (V.int .i64 1)).bind fun t92 => (indexA P 22 (V.weak t0) t92).bind fun t93 => (ldP h 45 t93).bind fun t94 => (indexA P 22 (V.weak t0) t11).bind fun t97 => (ldP h 45 t97).bind fun t98 => (indexA P 22 (V.weak t0) t11).bind fun t99 => (sto P h 45 t99 t94).bind fun h_1 => (indexA P 22 (V.weak t0) t89).bind fun t100 => (sto P h_1 45 t100 t98).bind fun h_2 => k h_2
noncomputable def f62_r15 (t11 : V) (k : V → Rv) : Rv :=
 (bin .sub t11 (V.int .i64 1)).bind fun t71 => k t71
theorem f62_l4_eq (t0 t1 t2 t3 t9 t10 t11 : V) (n : Nat) (m0 : Nat) (h : List V) : f62_l4 t0 t1 t2 t3 t9 t10 t11 n m0 h =
 f62_r14 t11 fun t69_25 =>
  V.ite t69_25
  (f62_r16 t0 t3 t11 h fun t84_26 h_27 =>
  V.ite t84_26
  (f62_r18 t2 t9 fun t104_28 =>
  V.ite t104_28
  (f62_r19 t9 fun t12_29 =>
  f62_l6 t0 t1 t2 t3 t9 t10 t12_29 n m0 h_27)
  (f62_r4 t10 fun t10_30 =>
  f62_l0 t0 t1 t2 t3 t9 t10_30 n h_27))
  (f62_r17 t0 t11 h_27 fun h_31 =>
  f62_r15 t11 fun t11_32 =>
  f62_l4 t0 t1 t2 t3 t9 t10 t11_32 n m0 h_31))
  (f62_r18 t2 t9 fun t104_33 =>
  V.ite t104_33
  (f62_r19 t9 fun t12_34 =>
  f62_l6 t0 t1 t2 t3 t9 t10 t12_34 n m0 h)
  (f62_r4 t10 fun t10_35 =>
  f62_l0 t0 t1 t2 t3 t9 t10_35 n h)) :=
 l_eq (by kernel_rfl)
theorem f62_l2_eq (t0 t1 t2 t3 t9 t10 : V) (n : Nat) (m0 : Nat) (h : List V) : f62_l2 t0 t1 t2 t3 t9 t10 n m0 h =
 f62_r5 t0 t2 t3 t9 h fun t36_4 h_5 =>
  V.ite t36_4
  (f62_r6 t9 fun t9_6 =>
  f62_l2 t0 t1 t2 t3 t9_6 t10 n m0 h_5)
  (f62_r7 t2 t9 fun t41_7 =>
  V.ite t41_7
  (f62_r8 fun t8_8 =>
  finT n h_5 t8_8)
  (f62_r9 t1 t2 fun t45_9 =>
  V.ite t45_9
  (f62_r10 fun t8_10 =>
  finT n h_5 t8_10)
  (f62_r11 t0 t9 h_5 fun h_11 =>
  f62_r12 t1 t9 fun t65_12 =>
  jn (fun h_13 => f62_r18 t2 t9 fun t104_14 =>
  V.ite t104_14
  (f62_r19 t9 fun t12_15 =>
  f62_l6 t0 t1 t2 t3 t9 t10 t12_15 n m0 h_13)
  (f62_r4 t10 fun t10_23 =>
  f62_l0 t0 t1 t2 t3 t9 t10_23 n h_13))
  (fun (j0 : List V → Rv) => V.ite t65_12
  (f62_r13 t9 fun t11_24 =>
  f62_l4 t0 t1 t2 t3 t9 t10 t11_24 n m0 h_11)
  (j0 h_11))))) :=
 l_eq (y_seq <| y_seq <| y_reg (fun K u36 h' => K ⟨[(0, t0), (1, t1), (2, t2), (3, t3), (9, t9), (10, t10), (36, u36)], h'⟩) (funext fun t36_4 => funext fun h_5 => seqK_n <| y_cond (by kernel_rfl) (y_exit <| seqK_x <| loopK_x <| blockK_h <| seqK_n <| y_seq <| y_seq <| y_reg (fun K u41 => K ⟨[(0, t0), (1, t1), (2, t2), (3, t3), (9, t9), (10, t10), (41, u41)], h_5⟩) (funext fun t41_7 => seqK_n <| y_cond (by kernel_rfl) (y_skip <| seqK_n <| y_seq <| y_seq <| y_reg (fun K u45 => K ⟨[(0, t0), (1, t1), (2, t2), (3, t3), (9, t9), (10, t10), (45, u45)], h_5⟩) (funext fun t45_9 => seqK_n <| y_cond (by kernel_rfl) (y_skip <| seqK_n <| y_seq <| y_reg (fun K h' => K ⟨[(0, t0), (1, t1), (2, t2), (3, t3), (9, t9), (10, t10)], h'⟩) (funext fun h_11 => seqK_n <| y_seq <| y_seq <| y_reg (fun K u65 => K ⟨[(0, t0), (1, t1), (2, t2), (3, t3), (9, t9), (10, t10), (65, u65)], h_11⟩) (funext fun t65_12 => seqK_n <| y_jn (fun K h_13 => K ⟨[(0, t0), (1, t1), (2, t2), (3, t3), (9, t9), (10, t10)], h_13⟩) (funext fun h_13 => by kernel_rfl) (y_cond (by kernel_rfl) (by kernel_rfl)))))))))))
noncomputable def f62_r24 (k : V → Rv) : Rv :=
 k (V.bool false)
theorem f62_l0_eq (t0 t1 t2 t3 t9 t10 : V) (n : Nat) (h : List V) : f62_l0 t0 t1 t2 t3 t9 t10 n h =
 f62_r3 t10 fun t16_3 =>
  V.ite t16_3
  (f62_l2 t0 t1 t2 t3 t9 t10 n (List.length h) h)
  (f62_r24 fun t8_36 =>
  finT n h t8_36) :=
 l_eq (by kernel_rfl)
theorem f62_eq (t0 t1 t2 t3 : V) (h : List V) : Cl 62 [t0, t1, t2, t3] h =
 f62_r0 (f62_r1 t1 fun t9_1 =>
  f62_r2 fun t10_2 =>
  f62_l0 t0 t1 t2 t3 t9_1 t10_2 (List.length h) h) :=
 f_eq (by kernel_rfl)
noncomputable def f63_r0 (k : Rv) : Rv :=
 k
noncomputable def f63_r1 (t0 t1 t3 : V) (h : List V) (k : List V → Rv) : Rv :=
 (indexA P 22 (V.weak t0) t3).bind fun t19 => (ldP h 45 t19).bind fun t20 => (indexA P 22 (V.weak t0) t1).bind fun t23 => (ldP h 45 t23).bind fun t24 => (indexA P 22 (V.weak t0) t1).bind fun t25 => (sto P h 45 t25 t20).bind fun h_1 => (indexA P 22 (V.weak t0) t3).bind fun t26 => (sto P h_1 45 t26 t24).bind fun h_2 => k h_2
noncomputable def f63_r2 (t1 t2 : V) (k : V → V → Rv) : Rv :=
 (bin .add t1 (V.int .i64 1)).bind fun t28 => (bin .sub t2 (V.int .i64 1)).bind fun t30 => k t28 t30
noncomputable def f63_l0 (t0 t1 t4 t11 t12 : V) (n : Nat) (h : List V) : Rv := lp W 63 0 (cd 63 71) (bk 0 (sk 63 0 31 (lv 63 n))) ⟨[(0, t0), (1, t1), (4, t4), (11, t11), (12, t12)], h⟩
noncomputable def f63_l2 (t0 t1 t4 t11 t12 : V) (n : Nat) (m0 : Nat) (h : List V) : Rv := lp W 63 2 (cd 63 1031) (bk 2 (sk 63 1 391 (bk 1 (lk 63 0 m0 71 (bk 0 (sk 63 0 31 (lv 63 n))))))) ⟨[(0, t0), (1, t1), (4, t4), (11, t11), (12, t12)], h⟩
noncomputable def f63_r3 (t0 t1 t4 t11 t12 : V) (h : List V) (k : V → List V → Rv) : Rv :=
 (bin .leq t11 t12).bind fun t33 => V.ite t33 ((indexA P 22 (V.weak t0) t1).bind fun t38 => (ldP h 45 t38).bind fun t39 => (indexA P 22 (V.weak t0) t11).bind fun t42 => (ldP h 45 t42).bind fun t43 => callV P ann W t4 [t39, t43] h fun t44 h_1 => if V.noOwn t44 = true then (bin .lss t44 (V.int .i64 0)).bind fun t45 => (un .not t45).bind fun t46 => k t46 h_1 else none) (k (V.bool false) h)
noncomputable def f63_r4 (t11 : V) (k : V → Rv) : Rv :=
 (bin .add t11 (V.int .i64 1)).bind fun t49 => k t49
noncomputable def f63_l4 (t0 t1 t4 t11 t12 : V) (n : Nat) (m0 : Nat) (h : List V) : Rv := lp W 63 4 (cd 63 2183) (bk 4 (sk 63 1 903 (bk 1 (lk 63 0 m0 71 (bk 0 (sk 63 0 31 (lv 63 n))))))) ⟨[(0, t0), (1, t1), (4, t4), (11, t11), (12, t12)], h⟩
noncomputable def f63_r5 (t0 t1 t4 t11 t12 : V) (h : List V) (k : V → List V → Rv) : Rv :=
 (bin .leq t11 t12).bind fun t52 => V.ite t52 ((indexA P 22 (V.weak t0) t1).bind fun t57 => (ldP h 45 t57).bind fun t58 => (indexA P 22 (V.weak t0) t12).bind fun t61 => (ldP h 45 t61).bind fun t62 => callV P ann W t4 [t58, t62] h fun t63 h_1 => if V.noOwn t63 = true then (bin .lss t63 (V.int .i64 0)).bind fun t64 => k t64 h_1 else none) (k (V.bool false) h)
noncomputable def f63_r6 (t12 : V) (k : V → Rv) : Rv :=
 (bin .sub t12 (V.int .i64 1)).bind fun t67 => k t67
noncomputable def f63_r7 (t11 t12 : V) (k : V → Rv) : Rv :=
 (bin .gtr t11 t12).bind fun t70 => k t70
noncomputable def f63_r11 (t11 : V) (k : V → Rv) : Rv :=
 k t11
noncomputable def f63_r8 (t0 t11 t12 : V) (h : List V) (k : List V → Rv) : Rv :=
 (indexA P 22 (V.weak t0) t12).bind fun t77 => (ldP h 45 t77).bind fun t78 => (indexA P 22 (V.weak t0) t11).bind fun t81 => (ldP h 45 t81).bind fun t82 => (indexA P 22 (V.weak t0) t11).bind fun t83 => (sto P h 45 t83 t78).bind fun h_1 => (indexA P 22 (V.weak t0) t12).bind fun t84 => (sto P h_1 45 t84 t82).bind fun h_2 => k h_2
noncomputable def f63_r9 (t11 : V) (k : V → Rv) : Rv :=
 (bin .add t11 (V.int .i64 1)).bind fun t86 => k t86
noncomputable def f63_r10 (t12 : V) (k : V → Rv) : Rv :=
 (bin .sub t12 (V.int .i64 1)).bind fun t88 => k t88
theorem f63_l4_eq (t0 t1 t4 t11 t12 : V) (n : Nat) (m0 : Nat) (h : List V) : f63_l4 t0 t1 t4 t11 t12 n m0 h =
 f63_r5 t0 t1 t4 t11 t12 h fun t65_7 h_8 =>
  V.ite t65_7
  (f63_r6 t12 fun t12_9 =>
  f63_l4 t0 t1 t4 t11 t12_9 n m0 h_8)
  (f63_r7 t11 t12 fun t70_10 =>
  V.ite t70_10
  (f63_r11 t11 fun t10_11 =>
  finT n h_8 t10_11)
  (f63_r8 t0 t11 t12 h_8 fun h_12 =>
  f63_r9 t11 fun t11_13 =>
  f63_r10 t12 fun t12_14 =>
  f63_l0 t0 t1 t4 t11_13 t12_14 n h_12)) :=
 l_eq (by kernel_rfl)
theorem f63_l2_eq (t0 t1 t4 t11 t12 : V) (n : Nat) (m0 : Nat) (h : List V) : f63_l2 t0 t1 t4 t11 t12 n m0 h =
 f63_r3 t0 t1 t4 t11 t12 h fun t47_4 h_5 =>
  V.ite t47_4
  (f63_r4 t11 fun t11_6 =>
  f63_l2 t0 t1 t4 t11_6 t12 n m0 h_5)
  (f63_l4 t0 t1 t4 t11 t12 n m0 h_5) :=
 l_eq (by kernel_rfl)
theorem f63_l0_eq (t0 t1 t4 t11 t12 : V) (n : Nat) (h : List V) : f63_l0 t0 t1 t4 t11 t12 n h =
 f63_l2 t0 t1 t4 t11 t12 n (List.length h) h :=
 l_eq (by kernel_rfl)
theorem f63_eq (t0 t1 t2 t3 t4 : V) (h : List V) : Cl 63 [t0, t1, t2, t3, t4] h =
 f63_r0 (f63_r1 t0 t1 t3 h fun h_1 =>
  f63_r2 t1 t2 fun t11_2 t12_3 =>
  f63_l0 t0 t1 t4 t11_2 t12_3 (List.length h) h_1) :=
 f_eq (by kernel_rfl)
noncomputable def f64_r0 (k : Rv) : Rv :=
 k
noncomputable def f64_r1 (t0 t1 t3 : V) (h : List V) (k : List V → Rv) : Rv :=
 (indexA P 22 (V.weak t0) t3).bind fun t20 => (ldP h 45 t20).bind fun t21 => (indexA P 22 (V.weak t0) t1).bind fun t24 => (ldP h 45 t24).bind fun t25 => (indexA P 22 (V.weak t0) t1).bind fun t26 => (sto P h 45 t26 t21).bind fun h_1 => (indexA P 22 (V.weak t0) t3).bind fun t27 => (sto P h_1 45 t27 t25).bind fun h_2 => k h_2
noncomputable def f64_r2 (t1 t2 : V) (k : V → V → Rv) : Rv :=
 (bin .add t1 (V.int .i64 1)).bind fun t29 => (bin .sub t2 (V.int .i64 1)).bind fun t31 => k t29 t31
noncomputable def f64_l0 (t0 t1 t4 t12 t13 : V) (n : Nat) (h : List V) : Rv := lp W 64 0 (cd 64 71) (bk 0 (sk 64 0 31 (lv 64 n))) ⟨[(0, t0), (1, t1), (4, t4), (12, t12), (13, t13)], h⟩
noncomputable def f64_r3 (t0 t1 t4 t12 t13 : V) (h : List V) (k : V → List V → Rv) : Rv :=
 (bin .leq t12 t13).bind fun t34 => V.ite t34 ((indexA P 22 (V.weak t0) t12).bind fun t39 => (ldP h 45 t39).bind fun t40 => (indexA P 22 (V.weak t0) t1).bind fun t43 => (ldP h 45 t43).bind fun t44 => callV P ann W t4 [t40, t44] h fun t45 h_1 => if V.noOwn t45 = true then (bin .lss t45 (V.int .i64 0)).bind fun t46 => k t46 h_1 else none) (k (V.bool false) h)
noncomputable def f64_r4 (t12 : V) (k : V → Rv) : Rv :=
 (bin .add t12 (V.int .i64 1)).bind fun t49 => k t49
noncomputable def f64_l2 (t0 t1 t4 t12 t13 : V) (n : Nat) (h : List V) : Rv := lp W 64 2 (cd 64 143) (bk 2 (sk 64 0 63 (lv 64 n))) ⟨[(0, t0), (1, t1), (4, t4), (12, t12), (13, t13)], h⟩
noncomputable def f64_r5 (t0 t1 t4 t12 t13 : V) (h : List V) (k : V → List V → Rv) : Rv :=
 (bin .leq t12 t13).bind fun t52 => V.ite t52 ((indexA P 22 (V.weak t0) t13).bind fun t57 => (ldP h 45 t57).bind fun t58 => (indexA P 22 (V.weak t0) t1).bind fun t61 => (ldP h 45 t61).bind fun t62 => callV P ann W t4 [t58, t62] h fun t63 h_1 => if V.noOwn t63 = true then (bin .lss t63 (V.int .i64 0)).bind fun t64 => (un .not t64).bind fun t65 => k t65 h_1 else none) (k (V.bool false) h)
noncomputable def f64_r6 (t13 : V) (k : V → Rv) : Rv :=
 (bin .sub t13 (V.int .i64 1)).bind fun t68 => k t68
noncomputable def f64_r7 (t12 t13 : V) (k : V → Rv) : Rv :=
 (bin .gtr t12 t13).bind fun t71 => k t71
noncomputable def f64_r8 (t0 t1 t13 : V) (h : List V) (k : List V → Rv) : Rv :=
 (indexA P 22 (V.weak t0) t1).bind fun t78 => (ldP h 45 t78).bind fun t79 => (indexA P 22 (V.weak t0) t13).bind fun t82 => (ldP h 45 t82).bind fun t83 => (indexA P 22 (V.weak t0) t13).bind fun t84 => (sto P h 45 t84 t79).bind fun h_1 => (indexA P 22 (V.weak t0) t1).bind fun t85 => (sto P h_1 45 t85 t83).bind fun h_2 => k h_2
noncomputable def f64_r9 (t13 : V) (k : V → V → Rv) : Rv :=
 k t13 (V.bool true)
noncomputable def f64_r10 (t0 t12 t13 : V) (h : List V) (k : List V → Rv) : Rv :=
 (indexA P 22 (V.weak t0) t13).bind fun t93 => (ldP h 45 t93).bind fun t94 => (indexA P 22 (V.weak t0) t12).bind fun t97 => (ldP h 45 t97).bind fun t98 => (indexA P 22 (V.weak t0) t12).bind fun t99 => (sto P h 45 t99 t94).bind fun h_1 => (indexA P 22 (V.weak t0) t13).bind fun t100 => (sto P h_1 45 t100 t98).bind fun h_2 => k h_2
noncomputable def f64_r11 (t12 : V) (k : V → Rv) : Rv :=
 (bin .add t12 (V.int .i64 1)).bind fun t102 => k t102
noncomputable def f64_r12 (t13 : V) (k : V → Rv) : Rv :=
 (bin .sub t13 (V.int .i64 1)).bind fun t104 => k t104
noncomputable def f64_l4 (t0 t1 t4 t12 t13 : V) (n : Nat) (h : List V) : Rv := lp W 64 4 (cd 64 4607) (bk 4 (sk 64 0 2047 (lv 64 n))) ⟨[(0, t0), (1, t1), (4, t4), (12, t12), (13, t13)], h⟩
noncomputable def f64_l6 (t0 t1 t4 t12 t13 : V) (n : Nat) (m4 : Nat) (h : List V) : Rv := lp W 64 6 (cd 64 66047) (bk 6 (sk 64 5 25087 (bk 5 (lk 64 4 m4 4607 (bk 4 (sk 64 0 2047 (lv 64 n))))))) ⟨[(0, t0), (1, t1), (4, t4), (12, t12), (13, t13)], h⟩
noncomputable def f64_r13 (t0 t1 t4 t12 t13 : V) (h : List V) (k : V → List V → Rv) : Rv :=
 (bin .leq t12 t13).bind fun t107 => V.ite t107 ((indexA P 22 (V.weak t0) t12).bind fun t112 => (ldP h 45 t112).bind fun t113 => (indexA P 22 (V.weak t0) t1).bind fun t116 => (ldP h 45 t116).bind fun t117 => callV P ann W t4 [t113, t117] h fun t118 h_1 => if V.noOwn t118 = true then (bin .lss t118 (V.int .i64 0)).bind fun t119 => k t119 h_1 else none) (k (V.bool false) h)
noncomputable def f64_r14 (t12 : V) (k : V → Rv) : Rv :=
 (bin .add t12 (V.int .i64 1)).bind fun t122 => k t122
noncomputable def f64_l8 (t0 t1 t4 t12 t13 : V) (n : Nat) (m4 : Nat) (h : List V) : Rv := lp W 64 8 (cd 64 139775) (bk 8 (sk 64 5 57855 (bk 5 (lk 64 4 m4 4607 (bk 4 (sk 64 0 2047 (lv 64 n))))))) ⟨[(0, t0), (1, t1), (4, t4), (12, t12), (13, t13)], h⟩
noncomputable def f64_r15 (t0 t1 t4 t12 t13 : V) (h : List V) (k : V → List V → Rv) : Rv :=
 (bin .leq t12 t13).bind fun t125 => V.ite t125 ((indexA P 22 (V.weak t0) t13).bind fun t130 => (ldP h 45 t130).bind fun t131 => (indexA P 22 (V.weak t0) t1).bind fun t134 => (ldP h 45 t134).bind fun t135 => callV P ann W t4 [t131, t135] h fun t136 h_1 => if V.noOwn t136 = true then (bin .lss t136 (V.int .i64 0)).bind fun t137 => (un .not t137).bind fun t138 => k t138 h_1 else none) (k (V.bool false) h)
noncomputable def f64_r16 (t13 : V) (k : V → Rv) : Rv :=
 (bin .sub t13 (V.int .i64 1)).bind fun t141 => k t141
noncomputable def f64_r17 (t12 t13 : V) (k : V → Rv) : Rv :=
 (bin .gtr t12 t13).bind fun t144 => k t144
noncomputable def f64_r21 (t0 t1 t13 : V) (h : List V) (k : List V → Rv) : Rv :=
 (indexA P 22 (V.weak t0) t1).bind fun t169 => (ldP h 45 t169).bind fun t170 => (indexA P 22 (V.weak t0) t13).bind fun t173 => (ldP h 45 t173).bind fun t174 => (indexA P 22 (V.weak t0) t13).bind fun t175 => (sto P h 45 t175 t170).bind fun h_1 => (indexA P 22 (V.weak t0) t1).bind fun t176 => (sto P h_1 45 t176 t174).bind fun h_2 => k h_2
noncomputable def f64_r22 (t13 : V) (k : V → V → Rv) : Rv :=
 k t13 (V.bool false)
noncomputable def f64_r18 (t0 t12 t13 : V) (h : List V) (k : List V → Rv) : Rv :=
 (indexA P 22 (V.weak t0) t13).bind fun t151 => (ldP h 45 t151).bind fun t152 => (indexA P 22 (V.weak t0) t12).bind fun t155 => (ldP h 45 t155).bind fun t156 => (indexA P 22 (V.weak t0) t12).bind fun t157 => (sto P h 45 t157 t152).bind fun h_1 => (indexA P 22 (V.weak t0) t13).bind fun t158 => (sto P h_1 45 t158 t156).bind fun h_2 => k h_2
noncomputable def f64_r19 (t12 : V) (k : V → Rv) : Rv :=
 (bin .add t12 (V.int .i64 1)).bind fun t160 => k t160
noncomputable def f64_r20 (t13 : V) (k : V → Rv) : Rv :=
 (bin .sub t13 (V.int .i64 1)).bind fun t162 => k t162
theorem f64_l8_eq (t0 t1 t4 t12 t13 : V) (n : Nat) (m4 : Nat) (h : List V) : f64_l8 t0 t1 t4 t12 t13 n m4 h =
 f64_r15 t0 t1 t4 t12 t13 h fun t139_20 h_21 =>
  V.ite t139_20
  (f64_r16 t13 fun t13_22 =>
  f64_l8 t0 t1 t4 t12 t13_22 n m4 h_21)
  (f64_r17 t12 t13 fun t144_23 =>
  V.ite t144_23
  (f64_r21 t0 t1 t13 h_21 fun h_24 =>
  f64_r22 t13 fun t10_25 t11_26 =>
  if (List.all [t11_26, t10_25] V.okE) = true then finT n h_24 (V.tup [t10_25, t11_26]) else none)
  (f64_r18 t0 t12 t13 h_21 fun h_27 =>
  f64_r19 t12 fun t12_28 =>
  f64_r20 t13 fun t13_29 =>
  f64_l4 t0 t1 t4 t12_28 t13_29 n h_27)) :=
 l_eq (by kernel_rfl)
theorem f64_l6_eq (t0 t1 t4 t12 t13 : V) (n : Nat) (m4 : Nat) (h : List V) : f64_l6 t0 t1 t4 t12 t13 n m4 h =
 f64_r13 t0 t1 t4 t12 t13 h fun t120_17 h_18 =>
  V.ite t120_17
  (f64_r14 t12 fun t12_19 =>
  f64_l6 t0 t1 t4 t12_19 t13 n m4 h_18)
  (f64_l8 t0 t1 t4 t12 t13 n m4 h_18) :=
 l_eq (by kernel_rfl)
theorem f64_l4_eq (t0 t1 t4 t12 t13 : V) (n : Nat) (h : List V) : f64_l4 t0 t1 t4 t12 t13 n h =
 f64_l6 t0 t1 t4 t12 t13 n (List.length h) h :=
 l_eq (by kernel_rfl)
theorem f64_l2_eq (t0 t1 t4 t12 t13 : V) (n : Nat) (h : List V) : f64_l2 t0 t1 t4 t12 t13 n h =
 f64_r5 t0 t1 t4 t12 t13 h fun t66_7 h_8 =>
  V.ite t66_7
  (f64_r6 t13 fun t13_9 =>
  f64_l2 t0 t1 t4 t12 t13_9 n h_8)
  (f64_r7 t12 t13 fun t71_10 =>
  V.ite t71_10
  (f64_r8 t0 t1 t13 h_8 fun h_11 =>
  f64_r9 t13 fun t10_12 t11_13 =>
  if (List.all [t11_13, t10_12] V.okE) = true then finT n h_11 (V.tup [t10_12, t11_13]) else none)
  (f64_r10 t0 t12 t13 h_8 fun h_14 =>
  f64_r11 t12 fun t12_15 =>
  f64_r12 t13 fun t13_16 =>
  f64_l4 t0 t1 t4 t12_15 t13_16 n h_14)) :=
 l_eq (by kernel_rfl)
theorem f64_l0_eq (t0 t1 t4 t12 t13 : V) (n : Nat) (h : List V) : f64_l0 t0 t1 t4 t12 t13 n h =
 f64_r3 t0 t1 t4 t12 t13 h fun t47_4 h_5 =>
  V.ite t47_4
  (f64_r4 t12 fun t12_6 =>
  f64_l0 t0 t1 t4 t12_6 t13 n h_5)
  (f64_l2 t0 t1 t4 t12 t13 n h_5) :=
 l_eq (by kernel_rfl)
theorem f64_eq (t0 t1 t2 t3 t4 : V) (h : List V) : Cl 64 [t0, t1, t2, t3, t4] h =
 f64_r0 (f64_r1 t0 t1 t3 h fun h_1 =>
  f64_r2 t1 t2 fun t12_2 t13_3 =>
  f64_l0 t0 t1 t4 t12_2 t13_3 (List.length h) h_1) :=
 f_eq (by kernel_rfl)
noncomputable def f66_r0 (k : V → Rv) : Rv :=
 k (V.int .i64 0)
noncomputable def f66_r1 (t0 : V) (k : V → Rv) : Rv :=
 (bin .geq t0 (V.int .u64 4294967296)).bind fun t4 => k t4
noncomputable def f66_r4 (t0 : V) (k : V → Rv) : Rv :=
 (bin .geq t0 (V.int .u64 65536)).bind fun t8 => k t8
noncomputable def f66_r7 (t0 : V) (k : V → Rv) : Rv :=
 (bin .geq t0 (V.int .u64 256)).bind fun t14 => k t14
noncomputable def f66_r10 (t0 t2 : V) (k : V → Rv) : Rv :=
 (conv P [] 92 5 t0).bind fun t21 => (indexV P 9 (V.str [0, 1, 2, 2, 3, 3, 3, 3, 4, 4, 4, 4, 4, 4, 4, 4, 5, 5, 5, 5, 5, 5, 5, 5, 5, 5, 5, 5, 5, 5, 5, 5, 6, 6, 6, 6, 6, 6, 6, 6, 6, 6, 6, 6, 6, 6, 6, 6, 6, 6, 6, 6, 6, 6, 6, 6, 6, 6, 6, 6, 6, 6, 6, 6, 7, 7, 7, 7, 7, 7, 7, 7, 7, 7, 7, 7, 7, 7, 7, 7, 7, 7, 7, 7, 7, 7, 7, 7, 7, 7, 7, 7, 7, 7, 7, 7, 7, 7, 7, 7, 7, 7, 7, 7, 7, 7, 7, 7, 7, 7, 7, 7, 7, 7, 7, 7, 7, 7, 7, 7, 7, 7, 7, 7, 7, 7, 7, 7, 8, 8, 8, 8, 8, 8, 8, 8, 8, 8, 8, 8, 8, 8, 8, 8, 8, 8, 8, 8, 8, 8, 8, 8, 8, 8, 8, 8, 8, 8, 8, 8, 8, 8, 8, 8, 8, 8, 8, 8, 8, 8, 8, 8, 8, 8, 8, 8, 8, 8, 8, 8, 8, 8, 8, 8, 8, 8, 8, 8, 8, 8, 8, 8, 8, 8, 8, 8, 8, 8, 8, 8, 8, 8, 8, 8, 8, 8, 8, 8, 8, 8, 8, 8, 8, 8, 8, 8, 8, 8, 8, 8, 8, 8, 8, 8, 8, 8, 8, 8, 8, 8, 8, 8, 8, 8, 8, 8, 8, 8, 8, 8, 8, 8, 8, 8, 8, 8, 8, 8, 8, 8, 8, 8, 8, 8, 8, 8]) t21).bind fun t22 => (conv P [] 5 3 t22).bind fun t23 => (bin .add t2 t23).bind fun t24 => k t24
noncomputable def f66_r8 (t0 : V) (k : V → Rv) : Rv :=
 (bin .shr t0 (V.int .u64 8)).bind fun t16 => k t16
noncomputable def f66_r9 (t2 : V) (k : V → Rv) : Rv :=
 (bin .add t2 (V.int .i64 8)).bind fun t18 => k t18
noncomputable def f66_r5 (t0 : V) (k : V → Rv) : Rv :=
 (bin .shr t0 (V.int .u64 16)).bind fun t10 => k t10
noncomputable def f66_r6 (t2 : V) (k : V → Rv) : Rv :=
 (bin .add t2 (V.int .i64 16)).bind fun t12 => k t12
noncomputable def f66_r2 (t0 : V) (k : V → Rv) : Rv :=
 (bin .shr t0 (V.int .u64 32)).bind fun t6 => k t6
noncomputable def f66_r3 (k : V → Rv) : Rv :=
 k (V.int .i64 32)
theorem f66_eq (t0 : V) : Cl 66 [t0] [] =
 f66_r0 fun t2_1 =>
  f66_r1 t0 fun t4_2 =>
  jn (fun t0_3 t2_4 => f66_r4 t0_3 fun t8_5 =>
  jn (fun t0_6 t2_7 => f66_r7 t0_6 fun t14_8 =>
  jn (fun t0_9 t2_10 => f66_r10 t0_9 t2_10 fun t2_11 =>
  finT 0 [] t2_11)
  (fun (j2 : V → V → Rv) => V.ite t14_8
  (f66_r8 t0_6 fun t0_12 =>
  f66_r9 t2_7 fun t2_13 =>
  j2 t0_12 t2_13)
  (j2 t0_6 t2_7)))
  (fun (j1 : V → V → Rv) => V.ite t8_5
  (f66_r5 t0_3 fun t0_14 =>
  f66_r6 t2_4 fun t2_15 =>
  j1 t0_14 t2_15)
  (j1 t0_3 t2_4)))
  (fun (j0 : V → V → Rv) => V.ite t4_2
  (f66_r2 t0 fun t0_16 =>
  f66_r3 fun t2_17 =>
  j0 t0_16 t2_17)
  (j0 t0 t2_1)) :=
 f_eq (y_seq <| y_reg (fun K u2 => K ⟨[(0, t0), (2, u2)], []⟩) (funext fun t2_1 => seqK_n <| y_seq <| y_seq <| y_reg (fun K u4 => K ⟨[(0, t0), (2, t2_1), (4, u4)], []⟩) (funext fun t4_2 => seqK_n <| y_jn (fun K t0_3 t2_4 => K ⟨[(0, t0_3), (2, t2_4)], []⟩) (funext fun t0_3 => funext fun t2_4 => seqK_n <| y_seq <| y_seq <| y_reg (fun K u8 => K ⟨[(0, t0_3), (2, t2_4), (8, u8)], []⟩) (funext fun t8_5 => seqK_n <| y_jn (fun K t0_6 t2_7 => K ⟨[(0, t0_6), (2, t2_7)], []⟩) (funext fun t0_6 => funext fun t2_7 => seqK_n <| y_seq <| y_seq <| y_reg (fun K u14 => K ⟨[(0, t0_6), (2, t2_7), (14, u14)], []⟩) (funext fun t14_8 => seqK_n <| y_jn (fun K t0_9 t2_10 => K ⟨[(0, t0_9), (2, t2_10)], []⟩) (funext fun t0_9 => funext fun t2_10 => by kernel_rfl) (y_cond (y_seq <| y_reg (fun K u0 => K ⟨[(0, u0), (2, t2_7)], []⟩) (funext fun t0_12 => seqK_n <| y_reg (fun K u2 => K ⟨[(0, t0_12), (2, u2)], []⟩) (funext fun t2_13 => rfl))) (y_skip <| y_nf)))) (y_cond (y_seq <| y_reg (fun K u0 => K ⟨[(0, u0), (2, t2_4)], []⟩) (funext fun t0_14 => seqK_n <| y_reg (fun K u2 => K ⟨[(0, t0_14), (2, u2)], []⟩) (funext fun t2_15 => rfl))) (y_skip <| y_nf)))) (y_cond (y_seq <| y_reg (fun K u0 => K ⟨[(0, u0)], []⟩) (funext fun t0_16 => seqK_n <| y_reg (fun K u2 => K ⟨[(0, t0_16), (2, u2)], []⟩) (funext fun t2_17 => rfl))) (y_skip <| y_nf)))))
theorem f67_eq (t0 t1 : V) : Cl 67 [t0, t1] [] =
 (bin .eql t1 (V.int .i64 10)).bind fun t11_1 => V.ite t11_1
  (jn (fun t17_2 =>
 V.ite t17_2
  ((Cl 85 (reifyL [] [t0]) []).bind fun r_3 => finT 0 [] r_3.1)
  ((cvI .u64 t0).bind fun t21_4 => (bin .lss t0 (V.int .i64 0)).bind fun t23_5 => jn (fun t6_6 => (Cl 86 (reifyL [(V.agg 109 (List.replicate 24 (V.int .u8 0)))] [t6_6]) []).bind fun r_7 => (bin .add (V.int .i64 1) r_7.1).bind fun t29_8 => (slA 109 109 24 5 (V.ref 0 [] 109) (some (V.int .i64 1)) (some t29_8) none).bind fun t30_9 => (Cl 87 (normL [t30_9, t6_6]) [(V.agg 109 (List.replicate 24 (V.int .u8 0)))]).bind fun r_10 => (bin .lss t0 (V.int .i64 0)).bind fun t34_11 => V.ite t34_11
  ((ixA 109 109 24 5 (V.ref 0 [] 109) (V.int .i64 0)).bind fun t35_12 => (stT (tyI .u8) 5 r_10.2 t35_12 (V.int .u8 45)).bind fun h_13 => (bin .add (V.int .i64 1) r_7.1).bind fun t37_14 => (slA 109 109 24 5 (V.ref 0 [] 109) none (some t37_14) none).bind fun t38_15 => (cvT h_13 t38_15).bind fun t39_16 => finT 0 h_13 t39_16)
  ((bin .add (V.int .i64 1) r_7.1).bind fun t41_17 => (slA 109 109 24 5 (V.ref 0 [] 109) (some (V.int .i64 1)) (some t41_17) none).bind fun t42_18 => (cvT r_10.2 t42_18).bind fun t43_19 => finT 0 r_10.2 t43_19))
  (fun (j0 : V → Rv) => V.ite t23_5
  ((un .neg t21_4).bind fun t25_20 => j0 t25_20)
  (j0 t21_4)))) (fun (k_21 : V → Rv) => (bin .leq (V.int .i64 0) t0).bind fun t13_22 => V.ite t13_22 ((bin .lss t0 (V.int .i64 100)).bind fun t16_23 => k_21 t16_23) (k_21 (V.bool false))))
  ((cvI .u64 t0).bind fun t46_24 => (bin .lss t0 (V.int .i64 0)).bind fun t49_25 => (Cl 88 (reifyL [] [(V.lst 5 .nil []), t46_24, t1, t49_25, (V.bool false)]) []).bind fun r_26 => (extS r_26.1 0).bind fun t51_27 => (ext r_26.1 1).bind fun t52_28 => finT 0 [] t52_28) :=
 f_eq (by kernel_rfl)
theorem f68_eq (t0 t1 : V) : Cl 68 [t0, t1] [] =
 mnz P 1 89 [t0, t1] [] fun t7_1 h_2 => finT 0 h_2 t7_1 :=
 f_eq (by kernel_rfl)
noncomputable def f73_l0 (t0 t1 t5 : V) (h : List V) : Rv := lp W 73 0 (cd 73 79) (bk 0 (lv 73 0)) ⟨[(0, t0), (1, t1), (5, t5)], h⟩
theorem f73_eq (t0 t1 : V) : Cl 73 [t0, t1] [] =
 (lnS t1).bind fun t8_1 => (bin .eql t8_1 (V.int .i64 0)).bind fun t9_2 => V.ite t9_2
  ((Cl 91 (reifyL [] [t0]) []).bind fun r_3 => (bin .add r_3.1 (V.int .i64 1)).bind fun t12_4 => finT 0 [] t12_4)
  ((lnS t1).bind fun t14_5 => (bin .eql t14_5 (V.int .i64 1)).bind fun t15_6 => V.ite t15_6
  ((ixT t1 (V.int .i64 0)).bind fun t18_7 => mnz P 2 93 [t0, t18_7] [] fun t19_8 h_9 => finT 0 h_9 t19_8)
  (f73_l0 t0 t1 (V.int .i64 0) [])) :=
 f_eq (by kernel_rfl)
theorem f74_eq (t0 t1 : V) : Cl 74 [t0, t1] [] =
 (Cl 53 (reifyL [] [t0, t1]) []).bind fun r_1 => finT 0 [] r_1.1 :=
 f_eq (by kernel_rfl)
noncomputable def f80_r0 (t1 : V) (k : V → Rv) : Rv :=
 k t1
noncomputable def f80_l0 (t0 t2 t3 t4 t10 : V) (n : Nat) (h : List V) : Rv := lp W 80 0 (cd 80 9) (bk 0 (lv 80 n)) ⟨[(0, t0), (2, t2), (3, t3), (4, t4), (10, t10)], h⟩
noncomputable def f80_r1 (t10 : V) (k : V → Rv) : Rv :=
 (bin .mul (V.int .i64 2) t10).bind fun t14 => (bin .add t14 (V.int .i64 1)).bind fun t15 => k t15
noncomputable def f80_r2 (t2 t11 : V) (k : V → Rv) : Rv :=
 (bin .geq t11 t2).bind fun t18 => k t18
noncomputable def f80_r3 (t0 t2 t3 t4 t11 : V) (h : List V) (k : V → List V → Rv) : Rv :=
 (bin .add t11 (V.int .i64 1)).bind fun t20 => (bin .lss t20 t2).bind fun t22 => V.ite t22 ((bin .add t3 t11).bind fun t28 => (indexA P 22 (V.weak t0) t28).bind fun t29 => (ldP h 45 t29).bind fun t30 => (bin .add t3 t11).bind fun t34 => (bin .add t34 (V.int .i64 1)).bind fun t35 => (indexA P 22 (V.weak t0) t35).bind fun t36 => (ldP h 45 t36).bind fun t37 => callV P ann W t4 [t30, t37] h fun t38 h_1 => if V.noOwn t38 = true then (bin .lss t38 (V.int .i64 0)).bind fun t39 => k t39 h_1 else none) (k (V.bool false) h)
noncomputable def f80_r5 (t0 t3 t4 t10 t11 : V) (h : List V) (k : V → List V → Rv) : Rv :=
 (bin .add t3 t10).bind fun t47 => (indexA P 22 (V.weak t0) t47).bind fun t48 => (ldP h 45 t48).bind fun t49 => (bin .add t3 t11).bind fun t53 => (indexA P 22 (V.weak t0) t53).bind fun t54 => (ldP h 45 t54).bind fun t55 => callV P ann W t4 [t49, t55] h fun t56 h_1 => if V.noOwn t56 = true then (bin .lss t56 (V.int .i64 0)).bind fun t57 => (un .not t57).bind fun t58 => k t58 h_1 else none
noncomputable def f80_r6 (t0 t3 t10 t11 : V) (h : List V) (k : List V → Rv) : Rv :=
 (bin .add t3 t10).bind fun t62 => (bin .add t3 t11).bind fun t66 => (bin .add t3 t11).bind fun t70 => (indexA P 22 (V.weak t0) t70).bind fun t71 => (ldP h 45 t71).bind fun t72 => (bin .add t3 t10).bind fun t76 => (indexA P 22 (V.weak t0) t76).bind fun t77 => (ldP h 45 t77).bind fun t78 => (indexA P 22 (V.weak t0) t62).bind fun t79 => (sto P h 45 t79 t72).bind fun h_1 => (indexA P 22 (V.weak t0) t66).bind fun t80 => (sto P h_1 45 t80 t78).bind fun h_2 => k h_2
noncomputable def f80_r7 (t11 : V) (k : V → Rv) : Rv :=
 k t11
noncomputable def f80_r4 (t11 : V) (k : V → Rv) : Rv :=
 (bin .add t11 (V.int .i64 1)).bind fun t42 => k t42
theorem f80_l0_eq (t0 t2 t3 t4 t10 : V) (n : Nat) (h : List V) : f80_l0 t0 t2 t3 t4 t10 n h =
 f80_r1 t10 fun t11_2 =>
  f80_r2 t2 t11_2 fun t18_3 =>
  V.ite t18_3
  (if (List.all [] V.okE) = true then finT n h (V.tup []) else none)
  (f80_r3 t0 t2 t3 t4 t11_2 h fun t40_4 h_5 =>
  jn (fun t11_6 => f80_r5 t0 t3 t4 t10 t11_6 h_5 fun t58_7 h_8 =>
  V.ite t58_7
  (if (List.all [] V.okE) = true then finT n h_8 (V.tup []) else none)
  (f80_r6 t0 t3 t10 t11_6 h_8 fun h_9 =>
  f80_r7 t11_6 fun t10_10 =>
  f80_l0 t0 t2 t3 t4 t10_10 n h_9))
  (fun (j0 : V → Rv) => V.ite t40_4
  (f80_r4 t11_2 fun t11_11 =>
  j0 t11_11)
  (j0 t11_2))) :=
 l_eq (y_block <| y_seq <| y_reg (fun K u11 => K ⟨[(0, t0), (2, t2), (3, t3), (4, t4), (10, t10), (11, u11)], h⟩) (funext fun t11_2 => seqK_n <| y_seq <| y_seq <| y_reg (fun K u18 => K ⟨[(0, t0), (2, t2), (3, t3), (4, t4), (10, t10), (11, t11_2), (18, u18)], h⟩) (funext fun t18_3 => seqK_n <| y_cond (by kernel_rfl) (y_skip <| seqK_n <| y_seq <| y_seq <| y_reg (fun K u40 h' => K ⟨[(0, t0), (2, t2), (3, t3), (4, t4), (10, t10), (11, t11_2), (40, u40)], h'⟩) (funext fun t40_4 => funext fun h_5 => seqK_n <| y_jn (fun K t11_6 => K ⟨[(0, t0), (2, t2), (3, t3), (4, t4), (10, t10), (11, t11_6)], h_5⟩) (funext fun t11_6 => by kernel_rfl) (y_cond (by kernel_rfl) (by kernel_rfl)))))))
theorem f80_eq (t0 t1 t2 t3 t4 : V) (h : List V) : Cl 80 [t0, t1, t2, t3, t4] h =
 f80_r0 t1 fun t10_1 =>
  f80_l0 t0 t2 t3 t4 t10_1 (List.length h) h :=
 f_eq (by kernel_rfl)
noncomputable def f81_r0 (k : Rv) : Rv :=
 k
noncomputable def f81_r1 (t0 : V) (k : V → Rv) : Rv :=
 (conv P [] 3 77 t0).bind fun t4 => (Cl 51 (reifyL [] [t4]) []).bind fun r => (bin .shl (V.int .u64 1) r.1).bind fun t6 => k t6
theorem f81_eq (t0 : V) : Cl 81 [t0] [] =
 f81_r0 (f81_r1 t0 fun t2_1 =>
  finT 0 [] t2_1) :=
 f_eq (by kernel_rfl)
noncomputable def f82_r0 (k : Rv) : Rv :=
 k
noncomputable def f82_r1 (t0 : V) (h : List V) (k : List V → Rv) : Rv :=
 (notNil t0).bind fun t4 => (ldP h 103 t4).bind fun t5 => (notNil t0).bind fun t7 => (ldP h 103 t7).bind fun t8 => (bin .shl t8 (V.int .u64 13)).bind fun t9 => (bin .xor t5 t9).bind fun t10 => (notNil t0).bind fun t11 => (sto P h 103 t11 t10).bind fun h_1 => k h_1
noncomputable def f82_r2 (t0 : V) (h : List V) (k : List V → Rv) : Rv :=
 (notNil t0).bind fun t13 => (ldP h 103 t13).bind fun t14 => (notNil t0).bind fun t16 => (ldP h 103 t16).bind fun t17 => (bin .shr t17 (V.int .u64 7)).bind fun t18 => (bin .xor t14 t18).bind fun t19 => (notNil t0).bind fun t20 => (sto P h 103 t20 t19).bind fun h_1 => k h_1
noncomputable def f82_r3 (t0 : V) (h : List V) (k : List V → Rv) : Rv :=
 (notNil t0).bind fun t22 => (ldP h 103 t22).bind fun t23 => (notNil t0).bind fun t25 => (ldP h 103 t25).bind fun t26 => (bin .shl t26 (V.int .u64 17)).bind fun t27 => (bin .xor t23 t27).bind fun t28 => (notNil t0).bind fun t29 => (sto P h 103 t29 t28).bind fun h_1 => k h_1
noncomputable def f82_r4 (t0 : V) (h : List V) (k : V → Rv) : Rv :=
 (notNil t0).bind fun t31 => (ldP h 103 t31).bind fun t32 => k t32
theorem f82_eq (t0 : V) (h : List V) : Cl 82 [t0] h =
 f82_r0 (f82_r1 t0 h fun h_1 =>
  f82_r2 t0 h_1 fun h_2 =>
  f82_r3 t0 h_2 fun h_3 =>
  f82_r4 t0 h_3 fun t2_4 =>
  finT (List.length h) h_3 t2_4) :=
 f_eq (by kernel_rfl)
noncomputable def f83_r0 (k : Rv) : Rv :=
 k
noncomputable def f83_r1 (t0 t1 t2 t3 : V) (h : List V) (k : V → List V → Rv) : Rv :=
 (bin .sub t1 (V.int .i64 1)).bind fun t11 => (bin .add t1 (V.int .i64 1)).bind fun t14 => (Cl 84 (normL [t0, t11, t1, t14, t2, t3]) h).bind fun r => k r.1 r.2
theorem f83_eq (t0 t1 t2 t3 : V) (h : List V) : Cl 83 [t0, t1, t2, t3] h =
 f83_r0 (f83_r1 t0 t1 t2 t3 h fun t8_1 h_2 =>
  finT (List.length h) h_2 t8_1) :=
 f_eq (by kernel_rfl)
noncomputable def f84_r0 (k : Rv) : Rv :=
 k
noncomputable def f84_r1 (t0 t1 t2 t4 t5 : V) (h : List V) (k : V → V → List V → Rv) : Rv :=
 (Cl 97 (normL [(V.weak t0), t1, t2, t4, t5]) h).bind fun r => (ext r.1 0).bind fun t20 => (ext r.1 1).bind fun t21 => k t20 t21 r.2
noncomputable def f84_r2 (t0 t2 t3 t4 t5 : V) (h : List V) (k : V → List V → Rv) : Rv :=
 (Cl 97 (normL [(V.weak t0), t2, t3, t4, t5]) h).bind fun r => (ext r.1 0).bind fun t29 => (ext r.1 1).bind fun t30 => k t29 r.2
noncomputable def f84_r3 (t0 t1 t2 t4 t5 : V) (h : List V) (k : V → List V → Rv) : Rv :=
 (Cl 97 (normL [t0, t1, t2, t4, t5]) h).bind fun r => (ext r.1 0).bind fun t38 => (ext r.1 1).bind fun t39 => k t39 r.2
noncomputable def f84_r4 (t2 : V) (k : V → Rv) : Rv :=
 k t2
theorem f84_eq (t0 t1 t2 t3 t4 t5 : V) (h : List V) : Cl 84 [t0, t1, t2, t3, t4, t5] h =
 f84_r0 (f84_r1 t0 t1 t2 t4 t5 h fun t1_1 t2_2 h_3 =>
  f84_r2 t0 t2_2 t3 t4 t5 h_3 fun t2_4 h_5 =>
  f84_r3 t0 t1_1 t2_4 t4 t5 h_5 fun t2_6 h_7 =>
  f84_r4 t2_6 fun t12_8 =>
  finT (List.length h) h_7 t12_8) :=
 f_eq (by kernel_rfl)
theorem f86_eq (t0 : V) : Cl 86 [t0] [] =
 (Cl 66 (reifyL [] [t0]) []).bind fun r_1 => (Cl 98 (reifyL [] [r_1.1]) []).bind fun r_2 => (ixA 128 128 20 92 (V.rop 128 glob3) r_2.1).bind fun t10_3 => (ldP [] 92 t10_3).bind fun t11_4 => (bin .geq t0 t11_4).bind fun t12_5 => (Cl 99 (reifyL [] [t12_5]) []).bind fun r_6 => (bin .add r_2.1 r_6.1).bind fun t14_7 => finT 0 [] t14_7 :=
 f_eq (by kernel_rfl)
noncomputable def f87_r0 (t0 : V) (k : V → Rv) : Rv :=
 (lnL (V.weak t0)).bind fun t18 => k t18
noncomputable def f87_l0 (t0 t1 t4 : V) (n : Nat) (h : List V) : Rv := lp W 87 0 (cd 87 17) (bk 0 (sk 87 0 7 (lv 87 n))) ⟨[(0, t0), (1, t1), (4, t4)], h⟩
noncomputable def f87_r1 (t4 : V) (k : V → Rv) : Rv :=
 (bin .geq t4 (V.int .i64 8)).bind fun t20 => k t20
noncomputable def f87_r2 (t1 : V) (k : V → Rv) : Rv :=
 (bin .rem t1 (V.int .u64 100000000)).bind fun t22 => (cvI .u32 t22).bind fun t23 => k t23
noncomputable def f87_r3 (t1 : V) (k : V → Rv) : Rv :=
 (bin .quo t1 (V.int .u64 100000000)).bind fun t25 => k t25
noncomputable def f87_r4 (t5 : V) (k : V → V → Rv) : Rv :=
 (bin .quo t5 (V.int .u32 10000)).bind fun t27 => (bin .rem t5 (V.int .u32 10000)).bind fun t29 => k t27 t29
noncomputable def f87_r5 (t7 : V) (k : V → V → Rv) : Rv :=
 (bin .quo t7 (V.int .u32 100)).bind fun t31 => (bin .mul t31 (V.int .u32 2)).bind fun t32 => (bin .rem t7 (V.int .u32 100)).bind fun t34 => (bin .mul t34 (V.int .u32 2)).bind fun t35 => k t32 t35
noncomputable def f87_r6 (t6 : V) (k : V → V → Rv) : Rv :=
 (bin .quo t6 (V.int .u32 100)).bind fun t37 => (bin .mul t37 (V.int .u32 2)).bind fun t38 => (bin .rem t6 (V.int .u32 100)).bind fun t40 => (bin .mul t40 (V.int .u32 2)).bind fun t41 => k t38 t41
noncomputable def f87_r7 (t0 t4 t9 : V) (h : List V) (k : List V → Rv) : Rv :=
 (bin .sub t4 (V.int .i64 1)).bind fun t44 => (bin .sub t4 (V.int .i64 2)).bind fun t47 => (bin .add t9 (V.int .u32 1)).bind fun t49 => (ixT (V.str [48, 48, 48, 49, 48, 50, 48, 51, 48, 52, 48, 53, 48, 54, 48, 55, 48, 56, 48, 57, 49, 48, 49, 49, 49, 50, 49, 51, 49, 52, 49, 53, 49, 54, 49, 55, 49, 56, 49, 57, 50, 48, 50, 49, 50, 50, 50, 51, 50, 52, 50, 53, 50, 54, 50, 55, 50, 56, 50, 57, 51, 48, 51, 49, 51, 50, 51, 51, 51, 52, 51, 53, 51, 54, 51, 55, 51, 56, 51, 57, 52, 48, 52, 49, 52, 50, 52, 51, 52, 52, 52, 53, 52, 54, 52, 55, 52, 56, 52, 57, 53, 48, 53, 49, 53, 50, 53, 51, 53, 52, 53, 53, 53, 54, 53, 55, 53, 56, 53, 57, 54, 48, 54, 49, 54, 50, 54, 51, 54, 52, 54, 53, 54, 54, 54, 55, 54, 56, 54, 57, 55, 48, 55, 49, 55, 50, 55, 51, 55, 52, 55, 53, 55, 54, 55, 55, 55, 56, 55, 57, 56, 48, 56, 49, 56, 50, 56, 51, 56, 52, 56, 53, 56, 54, 56, 55, 56, 56, 56, 57, 57, 48, 57, 49, 57, 50, 57, 51, 57, 52, 57, 53, 57, 54, 57, 55, 57, 56, 57, 57]) t49).bind fun t50 => (ixT (V.str [48, 48, 48, 49, 48, 50, 48, 51, 48, 52, 48, 53, 48, 54, 48, 55, 48, 56, 48, 57, 49, 48, 49, 49, 49, 50, 49, 51, 49, 52, 49, 53, 49, 54, 49, 55, 49, 56, 49, 57, 50, 48, 50, 49, 50, 50, 50, 51, 50, 52, 50, 53, 50, 54, 50, 55, 50, 56, 50, 57, 51, 48, 51, 49, 51, 50, 51, 51, 51, 52, 51, 53, 51, 54, 51, 55, 51, 56, 51, 57, 52, 48, 52, 49, 52, 50, 52, 51, 52, 52, 52, 53, 52, 54, 52, 55, 52, 56, 52, 57, 53, 48, 53, 49, 53, 50, 53, 51, 53, 52, 53, 53, 53, 54, 53, 55, 53, 56, 53, 57, 54, 48, 54, 49, 54, 50, 54, 51, 54, 52, 54, 53, 54, 54, 54, 55, 54, 56, 54, 57, 55, 48, 55, 49, 55, 50, 55, 51, 55, 52, 55, 53, 55, 54, 55, 55, 55, 56, 55, 57, 56, 48, 56, 49, 56, 50, 56, 51, 56, 52, 56, 53, 56, 54, 56, 55, 56, 56, 56, 57, 57, 48, 57, 49, 57, 50, 57, 51, 57, 52, 57, 53, 57, 54, 57, 55, 57, 56, 57, 57]) t9).bind fun t52 => (ixS 5 (V.weak t0) t44).bind fun t53 => (stT (tyI .u8) 5 h t53 t50).bind fun h_1 => (ixS 5 (V.weak t0) t47).bind fun t54 => (stT (tyI .u8) 5 h_1 t54 t52).bind fun h_2 => k h_2
noncomputable def f87_r8 (t0 t4 t8 : V) (h : List V) (k : List V → Rv) : Rv :=
 (bin .sub t4 (V.int .i64 3)).bind fun t57 => (bin .sub t4 (V.int .i64 4)).bind fun t60 => (bin .add t8 (V.int .u32 1)).bind fun t62 => (ixT (V.str [48, 48, 48, 49, 48, 50, 48, 51, 48, 52, 48, 53, 48, 54, 48, 55, 48, 56, 48, 57, 49, 48, 49, 49, 49, 50, 49, 51, 49, 52, 49, 53, 49, 54, 49, 55, 49, 56, 49, 57, 50, 48, 50, 49, 50, 50, 50, 51, 50, 52, 50, 53, 50, 54, 50, 55, 50, 56, 50, 57, 51, 48, 51, 49, 51, 50, 51, 51, 51, 52, 51, 53, 51, 54, 51, 55, 51, 56, 51, 57, 52, 48, 52, 49, 52, 50, 52, 51, 52, 52, 52, 53, 52, 54, 52, 55, 52, 56, 52, 57, 53, 48, 53, 49, 53, 50, 53, 51, 53, 52, 53, 53, 53, 54, 53, 55, 53, 56, 53, 57, 54, 48, 54, 49, 54, 50, 54, 51, 54, 52, 54, 53, 54, 54, 54, 55, 54, 56, 54, 57, 55, 48, 55, 49, 55, 50, 55, 51, 55, 52, 55, 53, 55, 54, 55, 55, 55, 56, 55, 57, 56, 48, 56, 49, 56, 50, 56, 51, 56, 52, 56, 53, 56, 54, 56, 55, 56, 56, 56, 57, 57, 48, 57, 49, 57, 50, 57, 51, 57, 52, 57, 53, 57, 54, 57, 55, 57, 56, 57, 57]) t62).bind fun t63 => (ixT (V.str [48, 48, 48, 49, 48, 50, 48, 51, 48, 52, 48, 53, 48, 54, 48, 55, 48, 56, 48, 57, 49, 48, 49, 49, 49, 50, 49, 51, 49, 52, 49, 53, 49, 54, 49, 55, 49, 56, 49, 57, 50, 48, 50, 49, 50, 50, 50, 51, 50, 52, 50, 53, 50, 54, 50, 55, 50, 56, 50, 57, 51, 48, 51, 49, 51, 50, 51, 51, 51, 52, 51, 53, 51, 54, 51, 55, 51, 56, 51, 57, 52, 48, 52, 49, 52, 50, 52, 51, 52, 52, 52, 53, 52, 54, 52, 55, 52, 56, 52, 57, 53, 48, 53, 49, 53, 50, 53, 51, 53, 52, 53, 53, 53, 54, 53, 55, 53, 56, 53, 57, 54, 48, 54, 49, 54, 50, 54, 51, 54, 52, 54, 53, 54, 54, 54, 55, 54, 56, 54, 57, 55, 48, 55, 49, 55, 50, 55, 51, 55, 52, 55, 53, 55, 54, 55, 55, 55, 56, 55, 57, 56, 48, 56, 49, 56, 50, 56, 51, 56, 52, 56, 53, 56, 54, 56, 55, 56, 56, 56, 57, 57, 48, 57, 49, 57, 50, 57, 51, 57, 52, 57, 53, 57, 54, 57, 55, 57, 56, 57, 57]) t8).bind fun t65 => (ixS 5 (V.weak t0) t57).bind fun t66 => (stT (tyI .u8) 5 h t66 t63).bind fun h_1 => (ixS 5 (V.weak t0) t60).bind fun t67 => (stT (tyI .u8) 5 h_1 t67 t65).bind fun h_2 => k h_2
noncomputable def f87_r9 (t0 t4 t11 : V) (h : List V) (k : List V → Rv) : Rv :=
 (bin .sub t4 (V.int .i64 5)).bind fun t70 => (bin .sub t4 (V.int .i64 6)).bind fun t73 => (bin .add t11 (V.int .u32 1)).bind fun t75 => (ixT (V.str [48, 48, 48, 49, 48, 50, 48, 51, 48, 52, 48, 53, 48, 54, 48, 55, 48, 56, 48, 57, 49, 48, 49, 49, 49, 50, 49, 51, 49, 52, 49, 53, 49, 54, 49, 55, 49, 56, 49, 57, 50, 48, 50, 49, 50, 50, 50, 51, 50, 52, 50, 53, 50, 54, 50, 55, 50, 56, 50, 57, 51, 48, 51, 49, 51, 50, 51, 51, 51, 52, 51, 53, 51, 54, 51, 55, 51, 56, 51, 57, 52, 48, 52, 49, 52, 50, 52, 51, 52, 52, 52, 53, 52, 54, 52, 55, 52, 56, 52, 57, 53, 48, 53, 49, 53, 50, 53, 51, 53, 52, 53, 53, 53, 54, 53, 55, 53, 56, 53, 57, 54, 48, 54, 49, 54, 50, 54, 51, 54, 52, 54, 53, 54, 54, 54, 55, 54, 56, 54, 57, 55, 48, 55, 49, 55, 50, 55, 51, 55, 52, 55, 53, 55, 54, 55, 55, 55, 56, 55, 57, 56, 48, 56, 49, 56, 50, 56, 51, 56, 52, 56, 53, 56, 54, 56, 55, 56, 56, 56, 57, 57, 48, 57, 49, 57, 50, 57, 51, 57, 52, 57, 53, 57, 54, 57, 55, 57, 56, 57, 57]) t75).bind fun t76 => (ixT (V.str [48, 48, 48, 49, 48, 50, 48, 51, 48, 52, 48, 53, 48, 54, 48, 55, 48, 56, 48, 57, 49, 48, 49, 49, 49, 50, 49, 51, 49, 52, 49, 53, 49, 54, 49, 55, 49, 56, 49, 57, 50, 48, 50, 49, 50, 50, 50, 51, 50, 52, 50, 53, 50, 54, 50, 55, 50, 56, 50, 57, 51, 48, 51, 49, 51, 50, 51, 51, 51, 52, 51, 53, 51, 54, 51, 55, 51, 56, 51, 57, 52, 48, 52, 49, 52, 50, 52, 51, 52, 52, 52, 53, 52, 54, 52, 55, 52, 56, 52, 57, 53, 48, 53, 49, 53, 50, 53, 51, 53, 52, 53, 53, 53, 54, 53, 55, 53, 56, 53, 57, 54, 48, 54, 49, 54, 50, 54, 51, 54, 52, 54, 53, 54, 54, 54, 55, 54, 56, 54, 57, 55, 48, 55, 49, 55, 50, 55, 51, 55, 52, 55, 53, 55, 54, 55, 55, 55, 56, 55, 57, 56, 48, 56, 49, 56, 50, 56, 51, 56, 52, 56, 53, 56, 54, 56, 55, 56, 56, 56, 57, 57, 48, 57, 49, 57, 50, 57, 51, 57, 52, 57, 53, 57, 54, 57, 55, 57, 56, 57, 57]) t11).bind fun t78 => (ixS 5 (V.weak t0) t70).bind fun t79 => (stT (tyI .u8) 5 h t79 t76).bind fun h_1 => (ixS 5 (V.weak t0) t73).bind fun t80 => (stT (tyI .u8) 5 h_1 t80 t78).bind fun h_2 => k h_2
noncomputable def f87_r10 (t0 t4 t10 : V) (h : List V) (k : List V → Rv) : Rv :=
 (bin .sub t4 (V.int .i64 7)).bind fun t83 => (bin .sub t4 (V.int .i64 8)).bind fun t86 => (bin .add t10 (V.int .u32 1)).bind fun t88 => (ixT (V.str [48, 48, 48, 49, 48, 50, 48, 51, 48, 52, 48, 53, 48, 54, 48, 55, 48, 56, 48, 57, 49, 48, 49, 49, 49, 50, 49, 51, 49, 52, 49, 53, 49, 54, 49, 55, 49, 56, 49, 57, 50, 48, 50, 49, 50, 50, 50, 51, 50, 52, 50, 53, 50, 54, 50, 55, 50, 56, 50, 57, 51, 48, 51, 49, 51, 50, 51, 51, 51, 52, 51, 53, 51, 54, 51, 55, 51, 56, 51, 57, 52, 48, 52, 49, 52, 50, 52, 51, 52, 52, 52, 53, 52, 54, 52, 55, 52, 56, 52, 57, 53, 48, 53, 49, 53, 50, 53, 51, 53, 52, 53, 53, 53, 54, 53, 55, 53, 56, 53, 57, 54, 48, 54, 49, 54, 50, 54, 51, 54, 52, 54, 53, 54, 54, 54, 55, 54, 56, 54, 57, 55, 48, 55, 49, 55, 50, 55, 51, 55, 52, 55, 53, 55, 54, 55, 55, 55, 56, 55, 57, 56, 48, 56, 49, 56, 50, 56, 51, 56, 52, 56, 53, 56, 54, 56, 55, 56, 56, 56, 57, 57, 48, 57, 49, 57, 50, 57, 51, 57, 52, 57, 53, 57, 54, 57, 55, 57, 56, 57, 57]) t88).bind fun t89 => (ixT (V.str [48, 48, 48, 49, 48, 50, 48, 51, 48, 52, 48, 53, 48, 54, 48, 55, 48, 56, 48, 57, 49, 48, 49, 49, 49, 50, 49, 51, 49, 52, 49, 53, 49, 54, 49, 55, 49, 56, 49, 57, 50, 48, 50, 49, 50, 50, 50, 51, 50, 52, 50, 53, 50, 54, 50, 55, 50, 56, 50, 57, 51, 48, 51, 49, 51, 50, 51, 51, 51, 52, 51, 53, 51, 54, 51, 55, 51, 56, 51, 57, 52, 48, 52, 49, 52, 50, 52, 51, 52, 52, 52, 53, 52, 54, 52, 55, 52, 56, 52, 57, 53, 48, 53, 49, 53, 50, 53, 51, 53, 52, 53, 53, 53, 54, 53, 55, 53, 56, 53, 57, 54, 48, 54, 49, 54, 50, 54, 51, 54, 52, 54, 53, 54, 54, 54, 55, 54, 56, 54, 57, 55, 48, 55, 49, 55, 50, 55, 51, 55, 52, 55, 53, 55, 54, 55, 55, 55, 56, 55, 57, 56, 48, 56, 49, 56, 50, 56, 51, 56, 52, 56, 53, 56, 54, 56, 55, 56, 56, 56, 57, 57, 48, 57, 49, 57, 50, 57, 51, 57, 52, 57, 53, 57, 54, 57, 55, 57, 56, 57, 57]) t10).bind fun t91 => (ixS 5 (V.weak t0) t83).bind fun t92 => (stT (tyI .u8) 5 h t92 t89).bind fun h_1 => (ixS 5 (V.weak t0) t86).bind fun t93 => (stT (tyI .u8) 5 h_1 t93 t91).bind fun h_2 => k h_2
noncomputable def f87_r11 (t4 : V) (k : V → Rv) : Rv :=
 (bin .sub t4 (V.int .i64 8)).bind fun t95 => k t95
noncomputable def f87_r12 (t1 : V) (k : V → Rv) : Rv :=
 (cvI .u32 t1).bind fun t97 => k t97
noncomputable def f87_r13 (t4 : V) (k : V → Rv) : Rv :=
 (bin .geq t4 (V.int .i64 4)).bind fun t99 => k t99
noncomputable def f87_r20 (t4 : V) (k : V → Rv) : Rv :=
 (bin .geq t4 (V.int .i64 2)).bind fun t139 => k t139
noncomputable def f87_r25 (t4 : V) (k : V → Rv) : Rv :=
 (bin .gtr t4 (V.int .i64 0)).bind fun t161 => k t161
noncomputable def f87_r26 (t0 t12 : V) (h : List V) (k : List V → Rv) : Rv :=
 (bin .add (V.int .u32 48) t12).bind fun t164 => (cvI .u8 t164).bind fun t165 => (ixS 5 t0 (V.int .i64 0)).bind fun t166 => (stT (tyI .u8) 5 h t166 t165).bind fun h_1 => k h_1
noncomputable def f87_r21 (t12 : V) (k : V → Rv) : Rv :=
 (bin .rem t12 (V.int .u32 100)).bind fun t141 => (bin .mul t141 (V.int .u32 2)).bind fun t142 => k t142
noncomputable def f87_r22 (t12 : V) (k : V → Rv) : Rv :=
 (bin .quo t12 (V.int .u32 100)).bind fun t144 => k t144
noncomputable def f87_r23 (t0 t4 t16 : V) (h : List V) (k : List V → Rv) : Rv :=
 (bin .sub t4 (V.int .i64 1)).bind fun t147 => (bin .sub t4 (V.int .i64 2)).bind fun t150 => (bin .add t16 (V.int .u32 1)).bind fun t152 => (ixT (V.str [48, 48, 48, 49, 48, 50, 48, 51, 48, 52, 48, 53, 48, 54, 48, 55, 48, 56, 48, 57, 49, 48, 49, 49, 49, 50, 49, 51, 49, 52, 49, 53, 49, 54, 49, 55, 49, 56, 49, 57, 50, 48, 50, 49, 50, 50, 50, 51, 50, 52, 50, 53, 50, 54, 50, 55, 50, 56, 50, 57, 51, 48, 51, 49, 51, 50, 51, 51, 51, 52, 51, 53, 51, 54, 51, 55, 51, 56, 51, 57, 52, 48, 52, 49, 52, 50, 52, 51, 52, 52, 52, 53, 52, 54, 52, 55, 52, 56, 52, 57, 53, 48, 53, 49, 53, 50, 53, 51, 53, 52, 53, 53, 53, 54, 53, 55, 53, 56, 53, 57, 54, 48, 54, 49, 54, 50, 54, 51, 54, 52, 54, 53, 54, 54, 54, 55, 54, 56, 54, 57, 55, 48, 55, 49, 55, 50, 55, 51, 55, 52, 55, 53, 55, 54, 55, 55, 55, 56, 55, 57, 56, 48, 56, 49, 56, 50, 56, 51, 56, 52, 56, 53, 56, 54, 56, 55, 56, 56, 56, 57, 57, 48, 57, 49, 57, 50, 57, 51, 57, 52, 57, 53, 57, 54, 57, 55, 57, 56, 57, 57]) t152).bind fun t153 => (ixT (V.str [48, 48, 48, 49, 48, 50, 48, 51, 48, 52, 48, 53, 48, 54, 48, 55, 48, 56, 48, 57, 49, 48, 49, 49, 49, 50, 49, 51, 49, 52, 49, 53, 49, 54, 49, 55, 49, 56, 49, 57, 50, 48, 50, 49, 50, 50, 50, 51, 50, 52, 50, 53, 50, 54, 50, 55, 50, 56, 50, 57, 51, 48, 51, 49, 51, 50, 51, 51, 51, 52, 51, 53, 51, 54, 51, 55, 51, 56, 51, 57, 52, 48, 52, 49, 52, 50, 52, 51, 52, 52, 52, 53, 52, 54, 52, 55, 52, 56, 52, 57, 53, 48, 53, 49, 53, 50, 53, 51, 53, 52, 53, 53, 53, 54, 53, 55, 53, 56, 53, 57, 54, 48, 54, 49, 54, 50, 54, 51, 54, 52, 54, 53, 54, 54, 54, 55, 54, 56, 54, 57, 55, 48, 55, 49, 55, 50, 55, 51, 55, 52, 55, 53, 55, 54, 55, 55, 55, 56, 55, 57, 56, 48, 56, 49, 56, 50, 56, 51, 56, 52, 56, 53, 56, 54, 56, 55, 56, 56, 56, 57, 57, 48, 57, 49, 57, 50, 57, 51, 57, 52, 57, 53, 57, 54, 57, 55, 57, 56, 57, 57]) t16).bind fun t155 => (ixS 5 (V.weak t0) t147).bind fun t156 => (stT (tyI .u8) 5 h t156 t153).bind fun h_1 => (ixS 5 (V.weak t0) t150).bind fun t157 => (stT (tyI .u8) 5 h_1 t157 t155).bind fun h_2 => k h_2
noncomputable def f87_r24 (t4 : V) (k : V → Rv) : Rv :=
 (bin .sub t4 (V.int .i64 2)).bind fun t159 => k t159
noncomputable def f87_r14 (t12 : V) (k : V → Rv) : Rv :=
 (bin .rem t12 (V.int .u32 10000)).bind fun t101 => k t101
noncomputable def f87_r15 (t12 : V) (k : V → Rv) : Rv :=
 (bin .quo t12 (V.int .u32 10000)).bind fun t103 => k t103
noncomputable def f87_r16 (t13 : V) (k : V → V → Rv) : Rv :=
 (bin .quo t13 (V.int .u32 100)).bind fun t105 => (bin .mul t105 (V.int .u32 2)).bind fun t106 => (bin .rem t13 (V.int .u32 100)).bind fun t108 => (bin .mul t108 (V.int .u32 2)).bind fun t109 => k t106 t109
noncomputable def f87_r17 (t0 t4 t15 : V) (h : List V) (k : List V → Rv) : Rv :=
 (bin .sub t4 (V.int .i64 1)).bind fun t112 => (bin .sub t4 (V.int .i64 2)).bind fun t115 => (bin .add t15 (V.int .u32 1)).bind fun t117 => (ixT (V.str [48, 48, 48, 49, 48, 50, 48, 51, 48, 52, 48, 53, 48, 54, 48, 55, 48, 56, 48, 57, 49, 48, 49, 49, 49, 50, 49, 51, 49, 52, 49, 53, 49, 54, 49, 55, 49, 56, 49, 57, 50, 48, 50, 49, 50, 50, 50, 51, 50, 52, 50, 53, 50, 54, 50, 55, 50, 56, 50, 57, 51, 48, 51, 49, 51, 50, 51, 51, 51, 52, 51, 53, 51, 54, 51, 55, 51, 56, 51, 57, 52, 48, 52, 49, 52, 50, 52, 51, 52, 52, 52, 53, 52, 54, 52, 55, 52, 56, 52, 57, 53, 48, 53, 49, 53, 50, 53, 51, 53, 52, 53, 53, 53, 54, 53, 55, 53, 56, 53, 57, 54, 48, 54, 49, 54, 50, 54, 51, 54, 52, 54, 53, 54, 54, 54, 55, 54, 56, 54, 57, 55, 48, 55, 49, 55, 50, 55, 51, 55, 52, 55, 53, 55, 54, 55, 55, 55, 56, 55, 57, 56, 48, 56, 49, 56, 50, 56, 51, 56, 52, 56, 53, 56, 54, 56, 55, 56, 56, 56, 57, 57, 48, 57, 49, 57, 50, 57, 51, 57, 52, 57, 53, 57, 54, 57, 55, 57, 56, 57, 57]) t117).bind fun t118 => (ixT (V.str [48, 48, 48, 49, 48, 50, 48, 51, 48, 52, 48, 53, 48, 54, 48, 55, 48, 56, 48, 57, 49, 48, 49, 49, 49, 50, 49, 51, 49, 52, 49, 53, 49, 54, 49, 55, 49, 56, 49, 57, 50, 48, 50, 49, 50, 50, 50, 51, 50, 52, 50, 53, 50, 54, 50, 55, 50, 56, 50, 57, 51, 48, 51, 49, 51, 50, 51, 51, 51, 52, 51, 53, 51, 54, 51, 55, 51, 56, 51, 57, 52, 48, 52, 49, 52, 50, 52, 51, 52, 52, 52, 53, 52, 54, 52, 55, 52, 56, 52, 57, 53, 48, 53, 49, 53, 50, 53, 51, 53, 52, 53, 53, 53, 54, 53, 55, 53, 56, 53, 57, 54, 48, 54, 49, 54, 50, 54, 51, 54, 52, 54, 53, 54, 54, 54, 55, 54, 56, 54, 57, 55, 48, 55, 49, 55, 50, 55, 51, 55, 52, 55, 53, 55, 54, 55, 55, 55, 56, 55, 57, 56, 48, 56, 49, 56, 50, 56, 51, 56, 52, 56, 53, 56, 54, 56, 55, 56, 56, 56, 57, 57, 48, 57, 49, 57, 50, 57, 51, 57, 52, 57, 53, 57, 54, 57, 55, 57, 56, 57, 57]) t15).bind fun t120 => (ixS 5 (V.weak t0) t112).bind fun t121 => (stT (tyI .u8) 5 h t121 t118).bind fun h_1 => (ixS 5 (V.weak t0) t115).bind fun t122 => (stT (tyI .u8) 5 h_1 t122 t120).bind fun h_2 => k h_2
noncomputable def f87_r18 (t0 t4 t14 : V) (h : List V) (k : List V → Rv) : Rv :=
 (bin .sub t4 (V.int .i64 3)).bind fun t125 => (bin .sub t4 (V.int .i64 4)).bind fun t128 => (bin .add t14 (V.int .u32 1)).bind fun t130 => (ixT (V.str [48, 48, 48, 49, 48, 50, 48, 51, 48, 52, 48, 53, 48, 54, 48, 55, 48, 56, 48, 57, 49, 48, 49, 49, 49, 50, 49, 51, 49, 52, 49, 53, 49, 54, 49, 55, 49, 56, 49, 57, 50, 48, 50, 49, 50, 50, 50, 51, 50, 52, 50, 53, 50, 54, 50, 55, 50, 56, 50, 57, 51, 48, 51, 49, 51, 50, 51, 51, 51, 52, 51, 53, 51, 54, 51, 55, 51, 56, 51, 57, 52, 48, 52, 49, 52, 50, 52, 51, 52, 52, 52, 53, 52, 54, 52, 55, 52, 56, 52, 57, 53, 48, 53, 49, 53, 50, 53, 51, 53, 52, 53, 53, 53, 54, 53, 55, 53, 56, 53, 57, 54, 48, 54, 49, 54, 50, 54, 51, 54, 52, 54, 53, 54, 54, 54, 55, 54, 56, 54, 57, 55, 48, 55, 49, 55, 50, 55, 51, 55, 52, 55, 53, 55, 54, 55, 55, 55, 56, 55, 57, 56, 48, 56, 49, 56, 50, 56, 51, 56, 52, 56, 53, 56, 54, 56, 55, 56, 56, 56, 57, 57, 48, 57, 49, 57, 50, 57, 51, 57, 52, 57, 53, 57, 54, 57, 55, 57, 56, 57, 57]) t130).bind fun t131 => (ixT (V.str [48, 48, 48, 49, 48, 50, 48, 51, 48, 52, 48, 53, 48, 54, 48, 55, 48, 56, 48, 57, 49, 48, 49, 49, 49, 50, 49, 51, 49, 52, 49, 53, 49, 54, 49, 55, 49, 56, 49, 57, 50, 48, 50, 49, 50, 50, 50, 51, 50, 52, 50, 53, 50, 54, 50, 55, 50, 56, 50, 57, 51, 48, 51, 49, 51, 50, 51, 51, 51, 52, 51, 53, 51, 54, 51, 55, 51, 56, 51, 57, 52, 48, 52, 49, 52, 50, 52, 51, 52, 52, 52, 53, 52, 54, 52, 55, 52, 56, 52, 57, 53, 48, 53, 49, 53, 50, 53, 51, 53, 52, 53, 53, 53, 54, 53, 55, 53, 56, 53, 57, 54, 48, 54, 49, 54, 50, 54, 51, 54, 52, 54, 53, 54, 54, 54, 55, 54, 56, 54, 57, 55, 48, 55, 49, 55, 50, 55, 51, 55, 52, 55, 53, 55, 54, 55, 55, 55, 56, 55, 57, 56, 48, 56, 49, 56, 50, 56, 51, 56, 52, 56, 53, 56, 54, 56, 55, 56, 56, 56, 57, 57, 48, 57, 49, 57, 50, 57, 51, 57, 52, 57, 53, 57, 54, 57, 55, 57, 56, 57, 57]) t14).bind fun t133 => (ixS 5 (V.weak t0) t125).bind fun t134 => (stT (tyI .u8) 5 h t134 t131).bind fun h_1 => (ixS 5 (V.weak t0) t128).bind fun t135 => (stT (tyI .u8) 5 h_1 t135 t133).bind fun h_2 => k h_2
noncomputable def f87_r19 (t4 : V) (k : V → Rv) : Rv :=
 (bin .sub t4 (V.int .i64 4)).bind fun t137 => k t137
theorem f87_l0_eq (t0 t1 t4 : V) (n : Nat) (h : List V) : f87_l0 t0 t1 t4 n h =
 f87_r1 t4 fun t20_2 =>
  V.ite t20_2
  (f87_r2 t1 fun t5_3 =>
  f87_r3 t1 fun t1_4 =>
  f87_r4 t5_3 fun t6_5 t7_6 =>
  f87_r5 t7_6 fun t8_7 t9_8 =>
  f87_r6 t6_5 fun t10_9 t11_10 =>
  f87_r7 t0 t4 t9_8 h fun h_11 =>
  f87_r8 t0 t4 t8_7 h_11 fun h_12 =>
  f87_r9 t0 t4 t11_10 h_12 fun h_13 =>
  f87_r10 t0 t4 t10_9 h_13 fun h_14 =>
  f87_r11 t4 fun t4_15 =>
  f87_l0 t0 t1_4 t4_15 n h_14)
  (f87_r12 t1 fun t12_16 =>
  f87_r13 t4 fun t99_17 =>
  jn (fun t4_18 t12_19 h_20 => f87_r20 t4_18 fun t139_21 =>
  jn (fun t4_22 t12_23 h_24 => f87_r25 t4_22 fun t161_25 =>
  V.ite t161_25
  (f87_r26 t0 t12_23 h_24 fun h_26 =>
  if (List.all [] V.okE) = true then finT n h_26 (V.tup []) else none)
  (if (List.all [] V.okE) = true then finT n h_24 (V.tup []) else none))
  (fun (j1 : V → V → List V → Rv) => V.ite t139_21
  (f87_r21 t12_19 fun t16_27 =>
  f87_r22 t12_19 fun t12_28 =>
  f87_r23 t0 t4_18 t16_27 h_20 fun h_29 =>
  f87_r24 t4_18 fun t4_30 =>
  j1 t4_30 t12_28 h_29)
  (j1 t4_18 t12_19 h_20)))
  (fun (j0 : V → V → List V → Rv) => V.ite t99_17
  (f87_r14 t12_16 fun t13_31 =>
  f87_r15 t12_16 fun t12_32 =>
  f87_r16 t13_31 fun t14_33 t15_34 =>
  f87_r17 t0 t4 t15_34 h fun h_35 =>
  f87_r18 t0 t4 t14_33 h_35 fun h_36 =>
  f87_r19 t4 fun t4_37 =>
  j0 t4_37 t12_32 h_36)
  (j0 t4 t12_16 h))) :=
 l_eq (y_seq <| y_seq <| y_reg (fun K u20 => K ⟨[(0, t0), (1, t1), (4, t4), (20, u20)], h⟩) (funext fun t20_2 => seqK_n <| y_cond (by kernel_rfl) (y_exit <| seqK_x <| loopK_x <| blockK_h <| seqK_n <| y_seq <| y_reg (fun K u12 => K ⟨[(0, t0), (4, t4), (12, u12)], h⟩) (funext fun t12_16 => seqK_n <| y_seq <| y_seq <| y_reg (fun K u99 => K ⟨[(0, t0), (4, t4), (12, t12_16), (99, u99)], h⟩) (funext fun t99_17 => seqK_n <| y_jn (fun K t4_18 t12_19 h_20 => K ⟨[(0, t0), (4, t4_18), (12, t12_19)], h_20⟩) (funext fun t4_18 => funext fun t12_19 => funext fun h_20 => seqK_n <| y_seq <| y_seq <| y_reg (fun K u139 => K ⟨[(0, t0), (4, t4_18), (12, t12_19), (139, u139)], h_20⟩) (funext fun t139_21 => seqK_n <| y_jn (fun K t4_22 t12_23 h_24 => K ⟨[(0, t0), (4, t4_22), (12, t12_23)], h_24⟩) (funext fun t4_22 => funext fun t12_23 => funext fun h_24 => by kernel_rfl) (y_cond (y_seq <| y_reg (fun K u16 => K ⟨[(0, t0), (4, t4_18), (12, t12_19), (16, u16)], h_20⟩) (funext fun t16_27 => seqK_n <| y_seq <| y_reg (fun K u12 => K ⟨[(0, t0), (4, t4_18), (12, u12), (16, t16_27)], h_20⟩) (funext fun t12_28 => seqK_n <| y_seq <| y_reg (fun K h' => K ⟨[(0, t0), (4, t4_18), (12, t12_28)], h'⟩) (funext fun h_29 => seqK_n <| y_reg (fun K u4 => K ⟨[(0, t0), (4, u4), (12, t12_28)], h_29⟩) (funext fun t4_30 => rfl))))) (y_skip <| y_nf)))) (y_cond (y_seq <| y_reg (fun K u13 => K ⟨[(0, t0), (4, t4), (12, t12_16), (13, u13)], h⟩) (funext fun t13_31 => seqK_n <| y_seq <| y_reg (fun K u12 => K ⟨[(0, t0), (4, t4), (12, u12), (13, t13_31)], h⟩) (funext fun t12_32 => seqK_n <| y_seq <| y_reg (fun K u14 u15 => K ⟨[(0, t0), (4, t4), (12, t12_32), (14, u14), (15, u15)], h⟩) (funext fun t14_33 => funext fun t15_34 => seqK_n <| y_seq <| y_reg (fun K h' => K ⟨[(0, t0), (4, t4), (12, t12_32), (14, t14_33)], h'⟩) (funext fun h_35 => seqK_n <| y_seq <| y_reg (fun K h' => K ⟨[(0, t0), (4, t4), (12, t12_32)], h'⟩) (funext fun h_36 => seqK_n <| y_reg (fun K u4 => K ⟨[(0, t0), (4, u4), (12, t12_32)], h_36⟩) (funext fun t4_37 => rfl))))))) (y_skip <| y_nf)))))))
theorem f87_eq (t0 t1 : V) (h : List V) : Cl 87 [t0, t1] h =
 f87_r0 t0 fun t4_1 =>
  f87_l0 t0 t1 t4_1 (List.length h) h :=
 f_eq (by kernel_rfl)
noncomputable def f97_r0 (k : Rv) : Rv :=
 k
noncomputable def f97_r1 (t0 t1 t2 t4 : V) (h : List V) (k : V → List V → Rv) : Rv :=
 (indexA P 22 (V.weak t0) t2).bind fun t15 => (ldP h 45 t15).bind fun t16 => (indexA P 22 (V.weak t0) t1).bind fun t19 => (ldP h 45 t19).bind fun t20 => callV P ann W t4 [t16, t20] h fun t21 h_1 => if V.noOwn t21 = true then (bin .lss t21 (V.int .i64 0)).bind fun t22 => k t22 h_1 else none
noncomputable def f97_r2 (t3 : V) (h : List V) (k : List V → Rv) : Rv :=
 (notNil t3).bind fun t24 => (ldP h 3 t24).bind fun t25 => (bin .add t25 (V.int .i64 1)).bind fun t26 => (notNil t3).bind fun t27 => (sto P h 3 t27 t26).bind fun h_1 => k h_1
noncomputable def f97_r3 (t1 t2 : V) (k : V → V → Rv) : Rv :=
 k t2 t1
noncomputable def f97_r4 (t1 t2 : V) (k : V → V → Rv) : Rv :=
 k t1 t2
theorem f97_eq (t0 t1 t2 t3 t4 : V) (h : List V) : Cl 97 [t0, t1, t2, t3, t4] h =
 f97_r0 (f97_r1 t0 t1 t2 t4 h fun t22_1 h_2 =>
  V.ite t22_1
  (f97_r2 t3 h_2 fun h_3 =>
  f97_r3 t1 t2 fun t10_4 t11_5 =>
  if (List.all [t11_5, t10_4] V.okE) = true then finT (List.length h) h_3 (V.tup [t10_4, t11_5]) else none)
  (f97_r4 t1 t2 fun t10_6 t11_7 =>
  if (List.all [t11_7, t10_6] V.okE) = true then finT (List.length h) h_2 (V.tup [t10_6, t11_7]) else none)) :=
 f_eq (by kernel_rfl)
end Go.Proofs.YtaghnpjlhmgioaaDoor
end
