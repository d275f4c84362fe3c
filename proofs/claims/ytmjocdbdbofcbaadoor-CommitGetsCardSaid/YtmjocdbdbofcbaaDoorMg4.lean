/-
  Part of the proof of a statement about the given program: an abstract machine over its code, the simulation, its functions' equations, what they compute.
-/
import Derived.Test.YtmjocdbdbofcbaaDoorMg3
section
set_option maxRecDepth 100000
set_option linter.unusedVariables false
namespace Go.Proofs.YtmjocdbdbofcbaaDoor
open Go AM
/-- modillion/modillionlaw12.CommitGets -/
theorem f9_eq (t0 : V) : Cl 9 [t0] [] =
 jn (fun t15_1 =>
 V.ite t15_1
  ((Cl 22 (reifyL [] []) []).bind fun r_2 => finT 0 [] r_2.1)
  ((Cl 26 (reifyL [] [t0]) []).bind fun r_3 => (extS r_3.1 0).bind fun t20_4 => (ext r_3.1 1).bind fun t21_5 => (stT (tyG 40) 41 [(V.agg 40 [(V.int .i64 0), (V.int .i64 0), (V.agg 32 (List.replicate 32 (V.int .u8 0))), (V.lst 33 .nil [])])] (V.ref 0 [] 41) t20_4).bind fun h_6 => (Cl 29 (reifyL h_6 [t0]) []).bind fun r_7 => (extS r_7.1 0).bind fun t25_8 => (ext r_7.1 1).bind fun t26_9 => (stT (tyG 40) 41 (h_6 ++ [(V.agg 40 [(V.int .i64 0), (V.int .i64 0), (V.agg 32 (List.replicate 32 (V.int .u8 0))), (V.lst 33 .nil [])])]) (V.ref (List.length h_6) [] 41) t25_8).bind fun h_10 => jn (fun t35_11 =>
 V.ite t35_11
  (finT 0 h_10 (V.bool false))
  ((bin .neq t21_5 (V.int .i64 0)).bind fun t37_12 => V.ite t37_12
  (finT 0 h_10 (V.bool true))
  ((ldS h_10 41 (V.ref 0 [] 41)).bind fun t39_13 => (Cl 23 (reifyL h_10 [t39_13]) []).bind fun r_14 => (ext r_14.1 0).bind fun t41_15 => (ext r_14.1 1).bind fun t42_16 => jn (fun t2_17 =>
 finT 0 h_10 t2_17) (fun (k_18 : V → Rv) => (bin .eql t41_15 t0).bind fun t45_19 => V.ite t45_19 ((bin .eql t42_16 (V.int .i64 0)).bind fun t48_20 => k_18 t48_20) (k_18 (V.bool false)))))) (fun (k_21 : V → Rv) => (ldS h_10 41 (V.ref 0 [] 41)).bind fun t27_22 => (ldS h_10 41 (V.ref (List.length h_6) [] 41)).bind fun t28_23 => (Cl 28 (reifyL h_10 [t27_22, t28_23]) []).bind fun r_24 => (un .not r_24.1).bind fun t30_25 => V.ite t30_25 (k_21 (V.bool true)) ((bin .neq t21_5 t26_9).bind fun t34_26 => k_21 t34_26)))) (fun (k_27 : V → Rv) => (Cl 22 (reifyL [] []) []).bind fun r_28 => (un .not r_28.1).bind fun t10_29 => V.ite t10_29 (k_27 (V.bool true)) ((lnS t0).bind fun t13_30 => (bin .gtr t13_30 (V.int .i64 3000)).bind fun t14_31 => k_27 t14_31)) :=
 f_eq (by kernel_rfl)
/-- modillion/batch.Root -/
theorem f19_eq (t0 : V) : Cl 19 [t0] [] =
 (Cl 33 (reifyL [(V.agg 32 (List.replicate 32 (V.int .u8 0)))] [t0]) []).bind fun r_1 => (Cl 48 (reifyL [(V.agg 32 (List.replicate 32 (V.int .u8 0)))] [r_1.1]) []).bind fun r_2 => (stT (tyG 32) 33 [(V.agg 32 (List.replicate 32 (V.int .u8 0)))] (V.ref 0 [] 33) r_2.1).bind fun h_3 => (ldP h_3 33 (V.ref 0 [] 33)).bind fun c_4 => finT 0 h_3 c_4 :=
 f_eq (by kernel_rfl)
/-- modillion/modillionlaw12.awake -/
theorem f22_eq : Cl 22 [] [] =
 (bsL 23 true (ck [(tyL 38) (V.lst 38 .nil [])] [(V.weak (V.lst 38 .nil []))])).bind fun t8_1 => (Cl 30 (reifyL [] [(V.int .i64 1), (V.int .i64 2), (V.lst 119 .nil []), t8_1]) []).bind fun r_2 => (extS r_2.1 0).bind fun t10_3 => (ext r_2.1 1).bind fun t11_4 => (stT (tyG 40) 41 [(V.agg 40 [(V.int .i64 0), (V.int .i64 0), (V.agg 32 (List.replicate 32 (V.int .u8 0))), (V.lst 33 .nil [])])] (V.ref 0 [] 41) t10_3).bind fun h_5 => (ldS h_5 41 (V.ref 0 [] 41)).bind fun t13_6 => (Cl 23 (reifyL h_5 [t13_6]) []).bind fun r_7 => (ext r_7.1 0).bind fun t15_8 => (ext r_7.1 1).bind fun t16_9 => (Cl 26 (reifyL h_5 [t15_8]) []).bind fun r_10 => (extS r_10.1 0).bind fun t20_11 => (ext r_10.1 1).bind fun t21_12 => (stT (tyG 40) 41 (h_5 ++ [(V.agg 40 [(V.int .i64 0), (V.int .i64 0), (V.agg 32 (List.replicate 32 (V.int .u8 0))), (V.lst 33 .nil [])])]) (V.ref (List.length h_5) [] 41) t20_11).bind fun h_13 => jn (fun t0_14 =>
 finT 0 h_13 t0_14) (fun (k_15 : V → Rv) => (bin .eql t11_4 (V.int .i64 0)).bind fun t23_16 => V.ite t23_16 ((bin .eql t16_9 (V.int .i64 0)).bind fun t26_17 => V.ite t26_17 ((lnS t15_8).bind fun t30_18 => (bin .eql t30_18 (V.int .i64 68)).bind fun t31_19 => V.ite t31_19 ((slT t15_8 none (some (V.int .i64 3))).bind fun t35_20 => (bin .eql t35_20 (V.str [67, 1, 2])).bind fun t36_21 => V.ite t36_21 ((bin .eql t21_12 (V.int .i64 0)).bind fun t40_22 => V.ite t40_22 ((ldS h_13 41 (V.ref 0 [] 41)).bind fun t43_23 => (ldS h_13 41 (V.ref (List.length h_5) [] 41)).bind fun t44_24 => (Cl 28 (reifyL h_13 [t43_23, t44_24]) []).bind fun r_25 => V.ite r_25.1 ((ldS h_13 41 (V.ref 0 [] 41)).bind fun t48_26 => (bsL 23 true (ck [(tyL 38) (V.lst 38 .nil [])] [(V.weak (V.lst 38 .nil []))])).bind fun t49_27 => (Cl 31 (reifyL h_13 [t48_26, (V.lst 119 .nil []), t49_27]) []).bind fun r_28 => V.ite r_28.1 ((ldS h_13 41 (V.ref 0 [] 41)).bind fun t53_29 => (Cl 31 (reifyL h_13 [t53_29, (V.lst 119 .nil []), (V.lst 23 .nil [])]) []).bind fun r_30 => (un .not r_30.1).bind fun t55_31 => k_15 t55_31) (k_15 (V.bool false))) (k_15 (V.bool false))) (k_15 (V.bool false))) (k_15 (V.bool false))) (k_15 (V.bool false))) (k_15 (V.bool false))) (k_15 (V.bool false))) :=
 f_eq (by kernel_rfl)
/-- modillion/commit.Put -/
noncomputable def f23_l0 (t4 t34 t35 t36 : V) (h : List V) : Rv := lp W 23 0 (cd 23 4863) (bk 0 (sk 23 0 1023 (lv 23 0))) ⟨[(4, t4), (34, t34), (35, t35), (36, t36)], h⟩
theorem f23_l0_eq (t4 t34 t35 t36 : V) (h : List V) : f23_l0 t4 t34 t35 t36 h =
 (bin .lss t36 t35).bind fun t37_25 => V.ite t37_25
  ((ixS 33 t34 t36).bind fun t38_26 => (ldP h 33 t38_26).bind fun t39_27 => (stT (tyG 32) 33 (h ++ [(V.agg 32 (List.replicate 32 (V.int .u8 0)))]) (V.ref (List.length h) [] 33) t39_27).bind fun h_28 => (ldP h_28 33 (V.ref (List.length h) [] 33)).bind fun t41_29 => (Cl 52 (normL [t4, t41_29]) h_28).bind fun r_30 => (bin .add t36 (V.int .i64 1)).bind fun t43_31 => if underL (List.length h) [t4, t34, t35, t43_31] = true then f23_l0 t4 t34 t35 t43_31 (List.take (List.length h) r_30.2) else none)
  ((Cl 47 (normL [t4]) h).bind fun r_32 => if (List.all [(V.int .i64 0), r_32.1] V.okE) = true then finT 0 r_32.2 (V.tup [r_32.1, (V.int .i64 0)]) else none) :=
 l_eq (by kernel_rfl)
theorem f23_eq (t0 : V) : Cl 23 [t0] [] =
 if ((tyG 40) (V.weak t0) && V.under 0 (V.weak t0)) = true then (ldS [(V.weak t0)] 41 (V.ref 0 [] 41)).bind fun t7_1 => (Cl 51 (reifyL [(V.weak t0)] [t7_1]) []).bind fun r_2 => (un .not r_2.1).bind fun t9_3 => V.ite t9_3
  (if (List.all [(V.int .i64 120), (V.str [])] V.okE) = true then finT 0 [(V.weak t0)] (V.tup [(V.str []), (V.int .i64 120)]) else none)
  ((Cl 44 (normL []) [(V.weak t0)]).bind fun r_4 => (Cl 45 (normL [r_4.1, (V.int .u64 67)]) r_4.2).bind fun r_5 => (fA 41 3 0 (V.ref 0 [] 41)).bind fun t14_6 => (ldP r_5.2 3 t14_6).bind fun t15_7 => (cvI .u64 t15_7).bind fun t16_8 => (Cl 45 (normL [r_4.1, t16_8]) r_5.2).bind fun r_9 => (fA 41 3 1 (V.ref 0 [] 41)).bind fun t19_10 => (ldP r_9.2 3 t19_10).bind fun t20_11 => (cvI .u64 t20_11).bind fun t21_12 => (Cl 45 (normL [r_4.1, t21_12]) r_9.2).bind fun r_13 => (fA 41 33 2 (V.ref 0 [] 41)).bind fun t24_14 => (ldP r_13.2 33 t24_14).bind fun t25_15 => (Cl 52 (normL [r_4.1, t25_15]) r_13.2).bind fun r_16 => (fA 41 39 3 (V.ref 0 [] 41)).bind fun t28_17 => (ldS r_16.2 39 t28_17).bind fun t29_18 => (lnL t29_18).bind fun t30_19 => (cvI .u64 t30_19).bind fun t31_20 => (Cl 45 (normL [r_4.1, t31_20]) r_16.2).bind fun r_21 => (fA 41 39 3 (V.ref 0 [] 41)).bind fun t33_22 => (ldS r_21.2 39 t33_22).bind fun t34_23 => (lnL t34_23).bind fun t35_24 => f23_l0 r_4.1 t34_23 t35_24 (V.int .i64 0) r_21.2) else none :=
 f_eq (by kernel_rfl)
/-- modillion/commit.Get -/
noncomputable def f26_l0 (t2 t4 t10 t58 t59 : V) (h : List V) : Rv := lp W 26 0 (cd 26 2431) (bk 0 (sk 26 0 511 (lv 26 0))) ⟨[(2, t2), (4, t4), (10, t10), (58, t58), (59, t59)], h⟩
theorem f26_l0_eq (t2 t4 t10 t58 t59 : V) (h : List V) : f26_l0 t2 t4 t10 t58 t59 h =
 (bin .lss t59 t58).bind fun t60_26 => V.ite t60_26
  ((fA 41 39 3 t10).bind fun t61_27 => if sameB t10 t61_27 = true then (ldTake h 39 t61_27).bind fun r_28 => callH P ann W (some t10) (V.clo 53 []) [t4] r_28.2 fun t64_29 h_30 => (bsL 33 false (ck [(tyG 32) t64_29] [t64_29])).bind fun t65_31 => (apL 33 (tyG 32) false h_30 r_28.1 t65_31).bind fun t66_32 => (fA 41 39 3 t10).bind fun t67_33 => (stT (tyL 33) 39 h_30 t67_33 t66_32).bind fun h_34 => (bin .add t59 (V.int .u64 1)).bind fun t68_35 => f26_l0 t2 t4 t10 t58 t68_35 h_34 else none)
  ((Cl 39 (normL [t4]) h).bind fun r_36 => (bin .neq r_36.1 (V.int .i64 0)).bind fun t72_37 => V.ite t72_37
  (((ck [] [(V.int .i64 0), (V.int .i64 0), (V.agg 32 (List.replicate 32 (V.int .u8 0))), (V.lst 33 .nil [])]).map (.agg 40)).bind fun t73_38 => (stT (tyG 40) 41 r_36.2 t2 t73_38).bind fun h_39 => (ldS h_39 41 t2).bind fun c_40 => if (List.all [r_36.1, c_40] V.okE) = true then finT 0 h_39 (V.tup [c_40, r_36.1]) else none)
  ((ldS r_36.2 41 t10).bind fun t75_41 => (stT (tyG 40) 41 r_36.2 t2 t75_41).bind fun h_42 => (ldS h_42 41 t2).bind fun c_43 => if (List.all [(V.int .i64 0), c_43] V.okE) = true then finT 0 h_42 (V.tup [c_43, (V.int .i64 0)]) else none)) :=
 l_eq (by kernel_rfl)
theorem f26_eq (t0 : V) : Cl 26 [t0] [] =
 jn (fun t18_1 =>
 V.ite t18_1
  (((ck [] [(V.int .i64 0), (V.int .i64 0), (V.agg 32 (List.replicate 32 (V.int .u8 0))), (V.lst 33 .nil [])]).map (.agg 40)).bind fun t19_2 => (stT (tyG 40) 41 [(V.agg 40 [(V.int .i64 0), (V.int .i64 0), (V.agg 32 (List.replicate 32 (V.int .u8 0))), (V.lst 33 .nil [])])] (V.ref 0 [] 41) t19_2).bind fun h_3 => (ldS h_3 41 (V.ref 0 [] 41)).bind fun c_4 => if (List.all [(V.int .i64 120), c_4] V.okE) = true then finT 0 h_3 (V.tup [c_4, (V.int .i64 120)]) else none)
  ((slT t0 (some (V.int .i64 1)) none).bind fun t21_5 => (Cl 34 (normL [t21_5]) [(V.agg 40 [(V.int .i64 0), (V.int .i64 0), (V.agg 32 (List.replicate 32 (V.int .u8 0))), (V.lst 33 .nil [])])]).bind fun r_6 => (Cl 35 (normL [r_6.1]) r_6.2).bind fun r_7 => (Cl 35 (normL [r_6.1]) r_7.2).bind fun r_8 => (Cl 53 (normL [r_6.1]) r_8.2).bind fun r_9 => (Cl 35 (normL [r_6.1]) r_9.2).bind fun r_10 => (stT (tyG 32) 33 (r_10.2 ++ [(V.agg 32 (List.replicate 32 (V.int .u8 0)))]) (V.ref (List.length r_10.2) [] 33) r_9.1).bind fun h_11 => (Cl 36 (normL [r_6.1]) h_11).bind fun r_12 => (bin .neq r_12.1 (V.int .i64 0)).bind fun t34_13 => V.ite t34_13
  (((ck [] [(V.int .i64 0), (V.int .i64 0), (V.agg 32 (List.replicate 32 (V.int .u8 0))), (V.lst 33 .nil [])]).map (.agg 40)).bind fun t35_14 => (stT (tyG 40) 41 r_12.2 (V.ref 0 [] 41) t35_14).bind fun h_15 => (ldS h_15 41 (V.ref 0 [] 41)).bind fun c_16 => if (List.all [r_12.1, c_16] V.okE) = true then finT 0 h_15 (V.tup [c_16, r_12.1]) else none)
  (jn (fun t50_17 =>
 V.ite t50_17
  (((ck [] [(V.int .i64 0), (V.int .i64 0), (V.agg 32 (List.replicate 32 (V.int .u8 0))), (V.lst 33 .nil [])]).map (.agg 40)).bind fun t51_18 => (stT (tyG 40) 41 r_12.2 (V.ref 0 [] 41) t51_18).bind fun h_19 => (ldS h_19 41 (V.ref 0 [] 41)).bind fun c_20 => if (List.all [(V.int .i64 120), c_20] V.okE) = true then finT 0 h_19 (V.tup [c_20, (V.int .i64 120)]) else none)
  ((cvI .i64 r_7.1).bind fun t53_21 => (cvI .i64 r_8.1).bind fun t55_22 => (ldP r_12.2 33 (V.ref (List.length r_10.2) [] 33)).bind fun t56_23 => ((ck [(tyI .i64) t53_21, (tyI .i64) t55_22, (tyG 32) t56_23] [t53_21, t55_22, t56_23, (V.lst 33 .nil [])]).map (.agg 40)).bind fun t57_24 => (stT (tyG 40) 41 (r_12.2 ++ [(V.agg 40 [(V.int .i64 0), (V.int .i64 0), (V.agg 32 (List.replicate 32 (V.int .u8 0))), (V.lst 33 .nil [])])]) (V.ref (List.length r_12.2) [] 41) t57_24).bind fun h_25 => f26_l0 (V.ref 0 [] 41) r_6.1 (V.ref (List.length r_12.2) [] 41) r_10.1 (V.int .u64 0) h_25)) (fun (k_44 : V → Rv) => (bin .geq r_7.1 (V.int .u64 64)).bind fun t38_45 => V.ite t38_45 (k_44 (V.bool true)) ((bin .geq r_8.1 (V.int .u64 64)).bind fun t41_46 => V.ite t41_46 (k_44 (V.bool true)) ((bin .lss r_10.1 (V.int .u64 1)).bind fun t45_47 => V.ite t45_47 (k_44 (V.bool true)) ((bin .gtr r_10.1 (V.int .u64 64)).bind fun t49_48 => k_44 t49_48))))))) (fun (k_49 : V → Rv) => (bin .eql t0 (V.str [])).bind fun t13_50 => V.ite t13_50 (k_49 (V.bool true)) ((ixT t0 (V.int .i64 0)).bind fun t16_51 => (bin .neq t16_51 (V.int .u8 67)).bind fun t17_52 => k_49 t17_52)) :=
 f_eq (by kernel_rfl)
/-- modillion/modillionref12.Same -/
noncomputable def f28_l0 (t2 t3 t5 : V) (h : List V) : Rv := lp W 28 0 (cd 28 75) (bk 0 (sk 28 0 15 (lv 28 0))) ⟨[(2, t2), (3, t3), (5, t5)], h⟩
theorem f28_l0_eq (t2 t3 t5 : V) (h : List V) : f28_l0 t2 t3 t5 h =
 (fA 41 39 3 t2).bind fun t35_2 => (ldS h 39 t35_2).bind fun t36_3 => (lnL t36_3).bind fun t37_4 => (bin .lss t5 t37_4).bind fun t38_5 => V.ite t38_5
  ((fA 41 39 3 t2).bind fun t41_6 => (ldS h 39 t41_6).bind fun t42_7 => (ixS 33 t42_7 t5).bind fun t44_8 => (ldP h 33 t44_8).bind fun t45_9 => (fA 41 39 3 t3).bind fun t46_10 => (ldS h 39 t46_10).bind fun t47_11 => (ixS 33 t47_11 t5).bind fun t49_12 => (ldP h 33 t49_12).bind fun t50_13 => (eqT (tyG 32) .neq t45_9 t50_13).bind fun t51_14 => V.ite t51_14
  (finT 0 h (V.bool false))
  ((bin .add t5 (V.int .i64 1)).bind fun t40_15 => f28_l0 t2 t3 t40_15 h))
  (finT 0 h (V.bool true)) :=
 l_eq (by kernel_rfl)
theorem f28_eq (t0 t1 : V) : Cl 28 [t0, t1] [] =
 if ((tyG 40) (V.weak t0) && V.under 0 (V.weak t0)) = true then if ((tyG 40) (V.weak t1) && V.under 1 (V.weak t1)) = true then jn (fun t33_1 =>
 V.ite t33_1
  (finT 0 [(V.weak t0), (V.weak t1)] (V.bool false))
  (f28_l0 (V.ref 0 [] 41) (V.ref 1 [] 41) (V.int .i64 0) [(V.weak t0), (V.weak t1)])) (fun (k_16 : V → Rv) => (fA 41 3 0 (V.ref 0 [] 41)).bind fun t6_17 => (ldP [(V.weak t0), (V.weak t1)] 3 t6_17).bind fun t7_18 => (fA 41 3 0 (V.ref 1 [] 41)).bind fun t8_19 => (ldP [(V.weak t0), (V.weak t1)] 3 t8_19).bind fun t9_20 => (bin .neq t7_18 t9_20).bind fun t10_21 => V.ite t10_21 (k_16 (V.bool true)) ((fA 41 3 1 (V.ref 0 [] 41)).bind fun t12_22 => (ldP [(V.weak t0), (V.weak t1)] 3 t12_22).bind fun t13_23 => (fA 41 3 1 (V.ref 1 [] 41)).bind fun t14_24 => (ldP [(V.weak t0), (V.weak t1)] 3 t14_24).bind fun t15_25 => (bin .neq t13_23 t15_25).bind fun t16_26 => V.ite t16_26 (k_16 (V.bool true)) ((fA 41 33 2 (V.ref 0 [] 41)).bind fun t19_27 => (ldP [(V.weak t0), (V.weak t1)] 33 t19_27).bind fun t20_28 => (fA 41 33 2 (V.ref 1 [] 41)).bind fun t21_29 => (ldP [(V.weak t0), (V.weak t1)] 33 t21_29).bind fun t22_30 => (eqT (tyG 32) .neq t20_28 t22_30).bind fun t23_31 => V.ite t23_31 (k_16 (V.bool true)) ((fA 41 39 3 (V.ref 0 [] 41)).bind fun t26_32 => (ldS [(V.weak t0), (V.weak t1)] 39 t26_32).bind fun t27_33 => (lnL t27_33).bind fun t28_34 => (fA 41 39 3 (V.ref 1 [] 41)).bind fun t29_35 => (ldS [(V.weak t0), (V.weak t1)] 39 t29_35).bind fun t30_36 => (lnL t30_36).bind fun t31_37 => (bin .neq t28_34 t31_37).bind fun t32_38 => k_16 t32_38)))) else none else none :=
 f_eq (by kernel_rfl)
/-- modillion/modillionref12.Get -/
noncomputable def f29_l0 (t0 t2 t4 t5 t6 : V) (h : List V) : Rv := lp W 29 0 (cd 29 607) (bk 0 (sk 29 0 127 (lv 29 0))) ⟨[(0, t0), (2, t2), (4, t4), (5, t5), (6, t6)], h⟩
noncomputable def f29_l2 (t0 t2 t5 t10 t11 : V) (h : List V) : Rv := lp W 29 2 (cd 29 4863) (bk 2 (sk 29 0 1023 (lv 29 0))) ⟨[(0, t0), (2, t2), (5, t5), (10, t10), (11, t11)], h⟩
theorem f29_l2_eq (t0 t2 t5 t10 t11 : V) (h : List V) : f29_l2 t0 t2 t5 t10 t11 h =
 (ixS 68 (V.weak t5) (V.int .i64 3)).bind fun t98_43 => (fA 68 61 2 t98_43).bind fun t99_44 => (ldP h 61 t99_44).bind fun t100_45 => (bin .lss t11 t100_45).bind fun t101_46 => V.ite t101_46
  (((ck [(tyI .i64) (V.int .i64 3)] [(V.int .i64 3), (V.int .i64 0), (V.int .u64 0), (V.int .i64 0), (V.str []), (V.agg 32 (List.replicate 32 (V.int .u8 0)))]).map (.agg 67)).bind fun t106_47 => (Cl 40 (reifyL h [t0, t106_47]) []).bind fun r_48 => (ext r_48.1 0).bind fun t108_49 => (ext r_48.1 1).bind fun t109_50 => (ext r_48.1 2).bind fun t110_51 => (stT (tyG 67) 68 (h ++ [(V.agg 67 [(V.int .i64 0), (V.int .i64 0), (V.int .u64 0), (V.int .i64 0), (V.str []), (V.agg 32 (List.replicate 32 (V.int .u8 0)))])]) (V.ref (List.length h) [] 68) t108_49).bind fun h_52 => (bin .neq t110_51 (V.int .i64 0)).bind fun t112_53 => V.ite t112_53
  (((ck [] [(V.int .i64 0), (V.int .i64 0), (V.agg 32 (List.replicate 32 (V.int .u8 0))), (V.lst 33 .nil [])]).map (.agg 40)).bind fun t113_54 => (stT (tyG 40) 41 h_52 t2 t113_54).bind fun h_55 => (ldS h_55 41 t2).bind fun c_56 => if (List.all [t110_51, c_56] V.okE) = true then finT 0 h_55 (V.tup [c_56, t110_51]) else none)
  (if (diffB t10 (V.ref (List.length h) [] 68) && true) = true then (fA 41 39 3 t10).bind fun t115_57 => if sameB t10 t115_57 = true then (ldTake h_52 39 t115_57).bind fun r_58 => (fA 68 33 5 (V.ref (List.length h) [] 68)).bind fun t117_59 => if sameB (V.ref (List.length h) [] 68) t117_59 = true then (ldP r_58.2 33 t117_59).bind fun t118_60 => (bsL 33 false (ck [(tyG 32) t118_60] [t118_60])).bind fun t119_61 => (apL 33 (tyG 32) false r_58.2 r_58.1 t119_61).bind fun t120_62 => (slT t0 (some t109_50) none).bind fun t123_63 => (fA 41 39 3 t10).bind fun t124_64 => (stT (tyL 33) 39 r_58.2 t124_64 t120_62).bind fun h_65 => (bin .add t11 (V.int .u64 1)).bind fun t103_66 => if underL (List.length h) [t123_63, t2, t5, t10, t103_66] = true then f29_l2 t123_63 t2 t5 t10 t103_66 (List.take (List.length h) h_65) else none else none else none else none))
  ((bin .neq t0 (V.str [])).bind fun t126_67 => V.ite t126_67
  (((ck [] [(V.int .i64 0), (V.int .i64 0), (V.agg 32 (List.replicate 32 (V.int .u8 0))), (V.lst 33 .nil [])]).map (.agg 40)).bind fun t127_68 => (stT (tyG 40) 41 h t2 t127_68).bind fun h_69 => (ldS h_69 41 t2).bind fun c_70 => if (List.all [(V.int .i64 22), c_70] V.okE) = true then finT 0 h_69 (V.tup [c_70, (V.int .i64 22)]) else none)
  ((ldS h 41 t10).bind fun t128_71 => (stT (tyG 40) 41 h t2 t128_71).bind fun h_72 => (ldS h_72 41 t2).bind fun c_73 => if (List.all [(V.int .i64 0), c_73] V.okE) = true then finT 0 h_72 (V.tup [c_73, (V.int .i64 0)]) else none)) :=
 l_eq (by kernel_rfl)
theorem f29_l0_eq (t0 t2 t4 t5 t6 : V) (h : List V) : f29_l0 t0 t2 t4 t5 t6 h =
 (bin .lss t6 (V.int .i64 4)).bind fun t29_8 => V.ite t29_8
  ((ixS 3 (V.weak t4) t6).bind fun t36_9 => (ldP h 3 t36_9).bind fun t37_10 => ((ck [(tyI .i64) t37_10] [t37_10, (V.int .i64 0), (V.int .u64 0), (V.int .i64 0), (V.str []), (V.agg 32 (List.replicate 32 (V.int .u8 0)))]).map (.agg 67)).bind fun t38_11 => (Cl 40 (reifyL h [t0, t38_11]) []).bind fun r_12 => (ext r_12.1 0).bind fun t40_13 => (ext r_12.1 1).bind fun t41_14 => (ext r_12.1 2).bind fun t42_15 => (stT (tyG 67) 68 (h ++ [(V.agg 67 [(V.int .i64 0), (V.int .i64 0), (V.int .u64 0), (V.int .i64 0), (V.str []), (V.agg 32 (List.replicate 32 (V.int .u8 0)))])]) (V.ref (List.length h) [] 68) t40_13).bind fun h_16 => (bin .neq t42_15 (V.int .i64 0)).bind fun t44_17 => V.ite t44_17
  (((ck [] [(V.int .i64 0), (V.int .i64 0), (V.agg 32 (List.replicate 32 (V.int .u8 0))), (V.lst 33 .nil [])]).map (.agg 40)).bind fun t45_18 => (stT (tyG 40) 41 h_16 t2 t45_18).bind fun h_19 => (ldS h_19 41 t2).bind fun c_20 => if (List.all [t42_15, c_20] V.okE) = true then finT 0 h_19 (V.tup [c_20, t42_15]) else none)
  ((ldP h_16 68 (V.ref (List.length h) [] 68)).bind fun t48_21 => (bsL 68 false (ck [(tyG 67) t48_21] [t48_21])).bind fun t49_22 => (apL 68 (tyG 67) false h_16 t5 t49_22).bind fun t50_23 => (slT t0 (some t41_14) none).bind fun t53_24 => (bin .add t6 (V.int .i64 1)).bind fun t31_25 => if underL (List.length h) [t53_24, t2, t4, t50_23, t31_25] = true then f29_l0 t53_24 t2 t4 t50_23 t31_25 (List.take (List.length h) h_16) else none))
  (jn (fun t79_26 =>
 V.ite t79_26
  (((ck [] [(V.int .i64 0), (V.int .i64 0), (V.agg 32 (List.replicate 32 (V.int .u8 0))), (V.lst 33 .nil [])]).map (.agg 40)).bind fun t80_27 => (stT (tyG 40) 41 h t2 t80_27).bind fun h_28 => (ldS h_28 41 t2).bind fun c_29 => if (List.all [(V.int .i64 120), c_29] V.okE) = true then finT 0 h_28 (V.tup [c_29, (V.int .i64 120)]) else none)
  ((ixS 68 (V.weak t5) (V.int .i64 0)).bind fun t82_30 => (fA 68 61 2 t82_30).bind fun t83_31 => (ldP h 61 t83_31).bind fun t84_32 => (cvI .i64 t84_32).bind fun t85_33 => (ixS 68 (V.weak t5) (V.int .i64 1)).bind fun t87_34 => (fA 68 61 2 t87_34).bind fun t88_35 => (ldP h 61 t88_35).bind fun t89_36 => (cvI .i64 t89_36).bind fun t90_37 => (ixS 68 (V.weak t5) (V.int .i64 2)).bind fun t92_38 => (fA 68 33 5 t92_38).bind fun t93_39 => (ldP h 33 t93_39).bind fun t94_40 => ((ck [(tyI .i64) t85_33, (tyI .i64) t90_37, (tyG 32) t94_40] [t85_33, t90_37, t94_40, (V.lst 33 .nil [])]).map (.agg 40)).bind fun t95_41 => (stT (tyG 40) 41 (h ++ [(V.agg 40 [(V.int .i64 0), (V.int .i64 0), (V.agg 32 (List.replicate 32 (V.int .u8 0))), (V.lst 33 .nil [])])]) (V.ref (List.length h) [] 41) t95_41).bind fun h_42 => f29_l2 t0 t2 t5 (V.ref (List.length h) [] 41) (V.int .u64 0) h_42)) (fun (k_74 : V → Rv) => (ixS 68 (V.weak t5) (V.int .i64 0)).bind fun t55_75 => (fA 68 61 2 t55_75).bind fun t56_76 => (ldP h 61 t56_76).bind fun t57_77 => (bin .gtr t57_77 (V.int .u64 63)).bind fun t58_78 => V.ite t58_78 (k_74 (V.bool true)) ((ixS 68 (V.weak t5) (V.int .i64 1)).bind fun t61_79 => (fA 68 61 2 t61_79).bind fun t62_80 => (ldP h 61 t62_80).bind fun t63_81 => (bin .gtr t63_81 (V.int .u64 63)).bind fun t64_82 => V.ite t64_82 (k_74 (V.bool true)) ((ixS 68 (V.weak t5) (V.int .i64 3)).bind fun t68_83 => (fA 68 61 2 t68_83).bind fun t69_84 => (ldP h 61 t69_84).bind fun t70_85 => (bin .lss t70_85 (V.int .u64 1)).bind fun t71_86 => V.ite t71_86 (k_74 (V.bool true)) ((ixS 68 (V.weak t5) (V.int .i64 3)).bind fun t75_87 => (fA 68 61 2 t75_87).bind fun t76_88 => (ldP h 61 t76_88).bind fun t77_89 => (bin .gtr t77_89 (V.int .u64 64)).bind fun t78_90 => k_74 t78_90))))) :=
 l_eq (by kernel_rfl)
theorem f29_eq (t0 : V) : Cl 29 [t0] [] =
 jn (fun t22_1 =>
 V.ite t22_1
  (((ck [] [(V.int .i64 0), (V.int .i64 0), (V.agg 32 (List.replicate 32 (V.int .u8 0))), (V.lst 33 .nil [])]).map (.agg 40)).bind fun t23_2 => (stT (tyG 40) 41 [(V.agg 40 [(V.int .i64 0), (V.int .i64 0), (V.agg 32 (List.replicate 32 (V.int .u8 0))), (V.lst 33 .nil [])])] (V.ref 0 [] 41) t23_2).bind fun h_3 => (ldS h_3 41 (V.ref 0 [] 41)).bind fun c_4 => if (List.all [(V.int .i64 120), c_4] V.okE) = true then finT 0 h_3 (V.tup [c_4, (V.int .i64 120)]) else none)
  ((slT t0 (some (V.int .i64 1)) none).bind fun t25_5 => (bsL 3 false (ck [(tyI .i64) (V.int .i64 0), (tyI .i64) (V.int .i64 0), (tyI .i64) (V.int .i64 3), (tyI .i64) (V.int .i64 0)] [(V.int .i64 0), (V.int .i64 0), (V.int .i64 3), (V.int .i64 0)])).bind fun t26_6 => (bsL 68 false (ck [] [])).bind fun t27_7 => f29_l0 t25_5 (V.ref 0 [] 41) t26_6 t27_7 (V.int .i64 0) [(V.agg 40 [(V.int .i64 0), (V.int .i64 0), (V.agg 32 (List.replicate 32 (V.int .u8 0))), (V.lst 33 .nil [])])])) (fun (k_91 : V → Rv) => (lnS t0).bind fun t16_92 => (bin .eql t16_92 (V.int .i64 0)).bind fun t17_93 => V.ite t17_93 (k_91 (V.bool true)) ((ixT t0 (V.int .i64 0)).bind fun t20_94 => (bin .neq t20_94 (V.int .u8 67)).bind fun t21_95 => k_91 t21_95)) :=
 f_eq (by kernel_rfl)
/-- modillion/commit.Make -/
noncomputable def f30_l0 (t8 t10 t18 t19 t20 : V) (h : List V) : Rv := lp W 30 0 (cd 30 75) (bk 0 (sk 30 0 15 (lv 30 0))) ⟨[(8, t8), (10, t10), (18, t18), (19, t19), (20, t20)], h⟩
theorem f30_l0_eq (t8 t10 t18 t19 t20 : V) (h : List V) : f30_l0 t8 t10 t18 t19 t20 h =
 (bin .lss t20 t19).bind fun t21_5 => V.ite t21_5
  ((ixS 23 t18 t20).bind fun t22_6 => (ldS h 23 t22_6).bind fun t23_7 => (fA 41 39 3 t10).bind fun t24_8 => if sameB t10 t24_8 = true then (ldTake h 39 t24_8).bind fun r_9 => callH P ann W (some t10) (V.clo 19 []) [t23_7] r_9.2 fun t27_10 h_11 => (bsL 33 false (ck [(tyG 32) t27_10] [t27_10])).bind fun t28_12 => (apL 33 (tyG 32) false h_11 r_9.1 t28_12).bind fun t29_13 => (fA 41 39 3 t10).bind fun t30_14 => (stT (tyL 33) 39 h_11 t30_14 t29_13).bind fun h_15 => (bin .add t20 (V.int .i64 1)).bind fun t31_16 => f30_l0 t8 t10 t18 t19 t31_16 h_15 else none)
  ((ldS h 41 t10).bind fun t32_17 => (Cl 51 (reifyL h [t32_17]) []).bind fun r_18 => (un .not r_18.1).bind fun t34_19 => V.ite t34_19
  (((ck [] [(V.int .i64 0), (V.int .i64 0), (V.agg 32 (List.replicate 32 (V.int .u8 0))), (V.lst 33 .nil [])]).map (.agg 40)).bind fun t35_20 => (stT (tyG 40) 41 h t8 t35_20).bind fun h_21 => (ldS h_21 41 t8).bind fun c_22 => if (List.all [(V.int .i64 120), c_22] V.okE) = true then finT 0 h_21 (V.tup [c_22, (V.int .i64 120)]) else none)
  ((ldS h 41 t10).bind fun t36_23 => (stT (tyG 40) 41 h t8 t36_23).bind fun h_24 => (ldS h_24 41 t8).bind fun c_25 => if (List.all [(V.int .i64 0), c_25] V.okE) = true then finT 0 h_24 (V.tup [c_25, (V.int .i64 0)]) else none)) :=
 l_eq (by kernel_rfl)
theorem f30_eq (t0 t1 t2 t3 : V) : Cl 30 [t0, t1, t2, t3] [] =
 (Cl 55 (reifyL [(V.agg 40 [(V.int .i64 0), (V.int .i64 0), (V.agg 32 (List.replicate 32 (V.int .u8 0))), (V.lst 33 .nil [])])] [t2]) []).bind fun r_1 => ((ck [(tyI .i64) t0, (tyI .i64) t1, (tyG 32) r_1.1] [t0, t1, r_1.1, (V.lst 33 .nil [])]).map (.agg 40)).bind fun t17_2 => (stT (tyG 40) 41 [(V.agg 40 [(V.int .i64 0), (V.int .i64 0), (V.agg 32 (List.replicate 32 (V.int .u8 0))), (V.lst 33 .nil [])]), (V.agg 40 [(V.int .i64 0), (V.int .i64 0), (V.agg 32 (List.replicate 32 (V.int .u8 0))), (V.lst 33 .nil [])])] (V.ref 1 [] 41) t17_2).bind fun h_3 => (lnL t3).bind fun t19_4 => f30_l0 (V.ref 0 [] 41) (V.ref 1 [] 41) t3 t19_4 (V.int .i64 0) h_3 :=
 f_eq (by kernel_rfl)
/-- modillion/commit.Keeps -/
noncomputable def f31_l0 (t3 t22 t23 t24 : V) (h : List V) : Rv := lp W 31 0 (cd 31 75) (bk 0 (sk 31 0 15 (lv 31 0))) ⟨[(3, t3), (22, t22), (23, t23), (24, t24)], h⟩
theorem f31_l0_eq (t3 t22 t23 t24 : V) (h : List V) : f31_l0 t3 t22 t23 t24 h =
 (bin .lss t24 t23).bind fun t25_3 => V.ite t25_3
  ((ixS 23 t22 t24).bind fun t27_4 => (ldS h 23 t27_4).bind fun t28_5 => (fA 41 39 3 t3).bind fun t29_6 => (ldS h 39 t29_6).bind fun t30_7 => (ixS 33 t30_7 t24).bind fun t32_8 => (ldP h 33 t32_8).bind fun t33_9 => (Cl 19 (reifyL h [t28_5]) []).bind fun r_10 => (eqT (tyG 32) .neq t33_9 r_10.1).bind fun t36_11 => V.ite t36_11
  (finT 0 h (V.bool false))
  ((bin .add t24 (V.int .i64 1)).bind fun t37_12 => f31_l0 t3 t22 t23 t37_12 h))
  (finT 0 h (V.bool true)) :=
 l_eq (by kernel_rfl)
theorem f31_eq (t0 t1 t2 : V) : Cl 31 [t0, t1, t2] [] =
 if ((tyG 40) (V.weak t0) && V.under 0 (V.weak t0)) = true then jn (fun t21_1 =>
 V.ite t21_1
  (finT 0 [(V.weak t0)] (V.bool false))
  ((lnL t2).bind fun t23_2 => f31_l0 (V.ref 0 [] 41) t2 t23_2 (V.int .i64 0) [(V.weak t0)])) (fun (k_13 : V → Rv) => (fA 41 33 2 (V.ref 0 [] 41)).bind fun t9_14 => (ldP [(V.weak t0)] 33 t9_14).bind fun t10_15 => (Cl 55 (reifyL [(V.weak t0)] [t1]) []).bind fun r_16 => (eqT (tyG 32) .neq t10_15 r_16.1).bind fun t13_17 => V.ite t13_17 (k_13 (V.bool true)) ((fA 41 39 3 (V.ref 0 [] 41)).bind fun t15_18 => (ldS [(V.weak t0)] 39 t15_18).bind fun t16_19 => (lnL t16_19).bind fun t17_20 => (lnL (V.weak t2)).bind fun t19_21 => (bin .neq t17_20 t19_21).bind fun t20_22 => k_13 t20_22)) else none :=
 f_eq (by kernel_rfl)
/-- modillion/batch.Rows -/
noncomputable def f33_r0 (k : Rv) : Rv :=
 k
noncomputable def f33_r1 (k : V → Rv) : Rv :=
 k (V.weak (V.lst 9 .nil []))
noncomputable def f33_r2 (t0 : V) (h : List V) (k : V → V → V → Rv) : Rv :=
 (Cl 50 (reifyL h [t0]) []).bind fun r => (lenV P 23 r.1).bind fun t8 => k r.1 t8 (V.int .i64 0)
noncomputable def f33_l0 (t3 t7 t8 t9 : V) (h : List V) : Rv := lp W 33 0 (cd 33 75) (bk 0 (sk 33 0 15 (lv 33 0))) ⟨[(3, t3), (7, t7), (8, t8), (9, t9)], h⟩
noncomputable def f33_r3 (t8 t9 : V) (k : V → Rv) : Rv :=
 (bin .lss t9 t8).bind fun t10 => k t10
noncomputable def f33_r4 (t7 t9 : V) (h : List V) (k : V → List V → Rv) : Rv :=
 (indexA P 23 t7 t9).bind fun t11 => (ldP h 38 t11).bind fun t12 => (sto P (h ++ [zero P 38]) 38 (V.ref (List.length h) [] 38) t12).bind fun h_1 => k (V.ref (List.length h) [] 38) h_1
noncomputable def f33_r5 (t3 t5 : V) (h : List V) (k : V → Rv) : Rv :=
 (ldP h 38 t5).bind fun t14 => (Cl 58 (reifyL h [t14]) []).bind fun r => (bldS P 57 1 [(0, r.1)]).bind fun t16 => (appd P 57 h t3 t16).bind fun t17 => k t17
noncomputable def f33_r6 (t9 : V) (k : V → Rv) : Rv :=
 (bin .add t9 (V.int .i64 1)).bind fun t18 => k t18
noncomputable def f33_r7 (t3 : V) (k : V → Rv) : Rv :=
 k t3
theorem f33_l0_eq (t3 t7 t8 t9 : V) (h : List V) : f33_l0 t3 t7 t8 t9 h =
 f33_r3 t8 t9 fun t10_5 =>
  V.ite t10_5
  (f33_r4 t7 t9 h fun t5_6 h_7 =>
  f33_r5 t3 t5_6 h_7 fun t3_8 =>
  f33_r6 t9 fun t9_9 =>
  if underL (List.length h) [t3_8, t7, t8, t9_9] = true then f33_l0 t3_8 t7 t8 t9_9 (List.take (List.length h) h_7) else none)
  (f33_r7 t3 fun t2_10 =>
  finT 0 h t2_10) :=
 l_eq (by kernel_rfl)
theorem f33_eq (t0 : V) : Cl 33 [t0] [] =
 f33_r0 (f33_r1 fun t3_1 =>
  f33_r2 t0 [] fun t7_2 t8_3 t9_4 =>
  f33_l0 t3_1 t7_2 t8_3 t9_4 []) :=
 f_eq (by kernel_rfl)
/-- modillion/wire.NewIn -/
noncomputable def f34_r0 (k : Rv) : Rv :=
 k
noncomputable def f34_r1 (t0 : V) (h : List V) (k : V → List V → Rv) : Rv :=
 (bld P 88 [(0, t0)]).bind fun t4 => if (tyOk P 88 t4 && V.under (List.length h) t4) = true then k (V.ref (List.length h) [] 88) (h ++ [t4]) else none
theorem f34_eq (t0 : V) (h : List V) : Cl 34 [t0] h =
 f34_r0 (f34_r1 t0 h fun t2_1 h_2 =>
  finK h_2 t2_1) :=
 f_eq (by kernel_rfl)
/-- (*modillion/wire.In).Num -/
noncomputable def f35_r0 (k : Rv) : Rv :=
 k
noncomputable def f35_r1 (h : List V) (k : V → List V → Rv) : Rv :=
 (sto P (h ++ [zero P 61]) 61 (V.ref (List.length h) [] 61) (V.int .u64 0)).bind fun h_1 => k (V.ref (List.length h) [] 61) h_1
noncomputable def f35_r2 (t0 t3 : V) (h : List V) (k : List V → Rv) : Rv :=
 (if (List.all [t3] V.capOk) = true then some (V.clo 60 [t3]) else none).bind fun t5 => (Cl 59 (normL [t0, t5]) h).bind fun r => k r.2
noncomputable def f35_r3 (t3 : V) (h : List V) (k : V → Rv) : Rv :=
 (ldP h 61 t3).bind fun t7 => k t7
theorem f35_eq (t0 : V) (h : List V) : Cl 35 [t0] h =
 f35_r0 (f35_r1 h fun t3_1 h_2 =>
  f35_r2 t0 t3_1 h_2 fun h_3 =>
  f35_r3 t3_1 h_3 fun t2_4 =>
  finT (List.length h) h_3 t2_4) :=
 f_eq (by kernel_rfl)
/-- (*modillion/wire.In).Err -/
noncomputable def f36_r0 (k : Rv) : Rv :=
 k
noncomputable def f36_r1 (t0 : V) (h : List V) (k : V → Rv) : Rv :=
 (notNil t0).bind fun t4 => (fieldA P 88 1 t4).bind fun t5 => (ldP h 24 t5).bind fun t6 => k t6
theorem f36_eq (t0 : V) (h : List V) : Cl 36 [t0] h =
 f36_r0 (f36_r1 t0 h fun t2_1 =>
  finT (List.length h) h t2_1) :=
 f_eq (by kernel_rfl)
/-- (*modillion/wire.In).End -/
noncomputable def f39_r0 (k : Rv) : Rv :=
 k
noncomputable def f39_r1 (t0 : V) (h : List V) (k : V → Rv) : Rv :=
 (notNil t0).bind fun t4 => (fieldA P 88 1 t4).bind fun t5 => (ldP h 24 t5).bind fun t6 => (bin .eql t6 (V.int .i64 0)).bind fun t7 => V.ite t7 ((notNil t0).bind fun t10 => (fieldA P 88 0 t10).bind fun t11 => (ldP h 9 t11).bind fun t12 => (bin .neq t12 (V.str [])).bind fun t13 => k t13) (k (V.bool false))
noncomputable def f39_r2 (k : V → Rv) : Rv :=
 k (V.int .i64 22)
noncomputable def f39_r3 (t0 : V) (h : List V) (k : V → Rv) : Rv :=
 (notNil t0).bind fun t16 => (fieldA P 88 1 t16).bind fun t17 => (ldP h 24 t17).bind fun t18 => k t18
theorem f39_eq (t0 : V) (h : List V) : Cl 39 [t0] h =
 f39_r0 (f39_r1 t0 h fun t14_1 =>
  V.ite t14_1
  (f39_r2 fun t2_2 =>
  finT (List.length h) h t2_2)
  (f39_r3 t0 h fun t2_3 =>
  finT (List.length h) h t2_3)) :=
 f_eq (by kernel_rfl)
/-- modillion/modillionref02.Get -/
noncomputable def f40_l0 (t0 t4 t7 t8 : V) (h : List V) : Rv := lp W 40 0 (cd 40 1205) (bk 0 (sk 40 0 245 (sk 40 0 7 (lv 40 0)))) ⟨[(0, t0), (4, t4), (7, t7), (8, t8)], h⟩
theorem f40_l0_eq (t0 t4 t7 t8 : V) (h : List V) : f40_l0 t0 t4 t7 t8 h =
 (bin .lss t8 (V.int .i64 32)).bind fun t21_11 => V.ite t21_11
  ((ixT t0 t8).bind fun t27_12 => (ixA 33 32 32 5 t7 t8).bind fun t28_13 => (stT (tyI .u8) 5 h t28_13 t27_12).bind fun h_14 => (bin .add t8 (V.int .i64 1)).bind fun t23_15 => f40_l0 t0 t4 t7 t23_15 h_14)
  ((ldP h 33 t7).bind fun t29_16 => ((ck [(tyI .i64) (V.int .i64 3), (tyG 32) t29_16] [(V.int .i64 3), (V.int .i64 0), (V.int .u64 0), (V.int .i64 0), (V.str []), t29_16]).map (.agg 67)).bind fun t30_17 => (stT (tyG 67) 68 h t4 t30_17).bind fun h_18 => (ldP h_18 68 t4).bind fun c_19 => if (List.all [(V.int .i64 0), (V.int .i64 32), c_19] V.okE) = true then finT 0 h_18 (V.tup [c_19, (V.int .i64 32), (V.int .i64 0)]) else none) :=
 l_eq (by kernel_rfl)
theorem f40_eq (t0 t1 : V) : Cl 40 [t0, t1] [] =
 if ((tyG 67) t1 && V.under 0 t1) = true then (fA 68 3 0 (V.ref 0 [] 68)).bind fun t12_1 => (ldP [t1, (V.agg 67 [(V.int .i64 0), (V.int .i64 0), (V.int .u64 0), (V.int .i64 0), (V.str []), (V.agg 32 (List.replicate 32 (V.int .u8 0)))])] 3 t12_1).bind fun t13_2 => (bin .eql t13_2 (V.int .i64 3)).bind fun t14_3 => V.ite t14_3
  ((lnS t0).bind fun t16_4 => (bin .lss t16_4 (V.int .i64 32)).bind fun t17_5 => V.ite t17_5
  (((ck [] [(V.int .i64 0), (V.int .i64 0), (V.int .u64 0), (V.int .i64 0), (V.str []), (V.agg 32 (List.replicate 32 (V.int .u8 0)))]).map (.agg 67)).bind fun t18_6 => (stT (tyG 67) 68 [t1, (V.agg 67 [(V.int .i64 0), (V.int .i64 0), (V.int .u64 0), (V.int .i64 0), (V.str []), (V.agg 32 (List.replicate 32 (V.int .u8 0)))])] (V.ref 1 [] 68) t18_6).bind fun h_7 => (ldP h_7 68 (V.ref 1 [] 68)).bind fun c_8 => if (List.all [(V.int .i64 20), (V.int .i64 0), c_8] V.okE) = true then finT 0 h_7 (V.tup [c_8, (V.int .i64 0), (V.int .i64 20)]) else none)
  (((ck [] (List.replicate 32 (V.int .u8 0))).map (.agg 32)).bind fun t19_9 => (stT (tyG 32) 33 [t1, (V.agg 67 [(V.int .i64 0), (V.int .i64 0), (V.int .u64 0), (V.int .i64 0), (V.str []), (V.agg 32 (List.replicate 32 (V.int .u8 0)))]), (V.agg 32 (List.replicate 32 (V.int .u8 0)))] (V.ref 2 [] 33) t19_9).bind fun h_10 => f40_l0 t0 (V.ref 1 [] 68) (V.ref 2 [] 33) (V.int .i64 0) h_10))
  ((Cl 65 (reifyL [t1, (V.agg 67 [(V.int .i64 0), (V.int .i64 0), (V.int .u64 0), (V.int .i64 0), (V.str []), (V.agg 32 (List.replicate 32 (V.int .u8 0)))])] [t0]) []).bind fun r_20 => (ext r_20.1 0).bind fun t34_21 => (ext r_20.1 1).bind fun t35_22 => (ext r_20.1 2).bind fun t36_23 => (bin .neq t36_23 (V.int .i64 0)).bind fun t38_24 => V.ite t38_24
  (((ck [] [(V.int .i64 0), (V.int .i64 0), (V.int .u64 0), (V.int .i64 0), (V.str []), (V.agg 32 (List.replicate 32 (V.int .u8 0)))]).map (.agg 67)).bind fun t39_25 => (stT (tyG 67) 68 [t1, (V.agg 67 [(V.int .i64 0), (V.int .i64 0), (V.int .u64 0), (V.int .i64 0), (V.str []), (V.agg 32 (List.replicate 32 (V.int .u8 0)))])] (V.ref 1 [] 68) t39_25).bind fun h_26 => (ldP h_26 68 (V.ref 1 [] 68)).bind fun c_27 => if (List.all [t36_23, (V.int .i64 0), c_27] V.okE) = true then finT 0 h_26 (V.tup [c_27, (V.int .i64 0), t36_23]) else none)
  ((fA 68 3 0 (V.ref 0 [] 68)).bind fun t41_28 => (ldP [t1, (V.agg 67 [(V.int .i64 0), (V.int .i64 0), (V.int .u64 0), (V.int .i64 0), (V.str []), (V.agg 32 (List.replicate 32 (V.int .u8 0)))])] 3 t41_28).bind fun t42_29 => (bin .eql t42_29 (V.int .i64 0)).bind fun t44_30 => V.ite t44_30
  (((ck [(tyI .u64) t34_21] [(V.int .i64 0), (V.int .i64 0), t34_21, (V.int .i64 0), (V.str []), (V.agg 32 (List.replicate 32 (V.int .u8 0)))]).map (.agg 67)).bind fun t46_31 => (stT (tyG 67) 68 [t1, (V.agg 67 [(V.int .i64 0), (V.int .i64 0), (V.int .u64 0), (V.int .i64 0), (V.str []), (V.agg 32 (List.replicate 32 (V.int .u8 0)))])] (V.ref 1 [] 68) t46_31).bind fun h_32 => (ldP h_32 68 (V.ref 1 [] 68)).bind fun c_33 => if (List.all [(V.int .i64 0), t35_22, c_33] V.okE) = true then finT 0 h_32 (V.tup [c_33, t35_22, (V.int .i64 0)]) else none)
  ((bin .eql t42_29 (V.int .i64 1)).bind fun t49_34 => V.ite t49_34
  ((bin .rem t34_21 (V.int .u64 2)).bind fun t51_35 => (bin .eql t51_35 (V.int .u64 0)).bind fun t52_36 => V.ite t52_36
  ((bin .quo t34_21 (V.int .u64 2)).bind fun t54_37 => (cvI .i64 t54_37).bind fun t55_38 => ((ck [(tyI .i64) (V.int .i64 1), (tyI .i64) t55_38] [(V.int .i64 1), (V.int .i64 0), (V.int .u64 0), t55_38, (V.str []), (V.agg 32 (List.replicate 32 (V.int .u8 0)))]).map (.agg 67)).bind fun t56_39 => (stT (tyG 67) 68 [t1, (V.agg 67 [(V.int .i64 0), (V.int .i64 0), (V.int .u64 0), (V.int .i64 0), (V.str []), (V.agg 32 (List.replicate 32 (V.int .u8 0)))])] (V.ref 1 [] 68) t56_39).bind fun h_40 => (ldP h_40 68 (V.ref 1 [] 68)).bind fun c_41 => if (List.all [(V.int .i64 0), t35_22, c_41] V.okE) = true then finT 0 h_40 (V.tup [c_41, t35_22, (V.int .i64 0)]) else none)
  ((bin .quo t34_21 (V.int .u64 2)).bind fun t59_42 => (cvI .i64 t59_42).bind fun t60_43 => (bin .sub (V.int .i64 (-1)) t60_43).bind fun t61_44 => ((ck [(tyI .i64) (V.int .i64 1), (tyI .i64) t61_44] [(V.int .i64 1), (V.int .i64 0), (V.int .u64 0), t61_44, (V.str []), (V.agg 32 (List.replicate 32 (V.int .u8 0)))]).map (.agg 67)).bind fun t62_45 => (stT (tyG 67) 68 [t1, (V.agg 67 [(V.int .i64 0), (V.int .i64 0), (V.int .u64 0), (V.int .i64 0), (V.str []), (V.agg 32 (List.replicate 32 (V.int .u8 0)))])] (V.ref 1 [] 68) t62_45).bind fun h_46 => (ldP h_46 68 (V.ref 1 [] 68)).bind fun c_47 => if (List.all [(V.int .i64 0), t35_22, c_47] V.okE) = true then finT 0 h_46 (V.tup [c_47, t35_22, (V.int .i64 0)]) else none))
  (jn (fun t73_48 =>
 V.ite t73_48
  (((ck [] [(V.int .i64 0), (V.int .i64 0), (V.int .u64 0), (V.int .i64 0), (V.str []), (V.agg 32 (List.replicate 32 (V.int .u8 0)))]).map (.agg 67)).bind fun t74_49 => (stT (tyG 67) 68 [t1, (V.agg 67 [(V.int .i64 0), (V.int .i64 0), (V.int .u64 0), (V.int .i64 0), (V.str []), (V.agg 32 (List.replicate 32 (V.int .u8 0)))])] (V.ref 1 [] 68) t74_49).bind fun h_50 => (ldP h_50 68 (V.ref 1 [] 68)).bind fun c_51 => if (List.all [(V.int .i64 22), (V.int .i64 0), c_51] V.okE) = true then finT 0 h_50 (V.tup [c_51, (V.int .i64 0), (V.int .i64 22)]) else none)
  ((lnS t0).bind fun t77_52 => (bin .sub t77_52 t35_22).bind fun t79_53 => (cvI .u64 t79_53).bind fun t80_54 => (bin .gtr t34_21 t80_54).bind fun t81_55 => V.ite t81_55
  (((ck [] [(V.int .i64 0), (V.int .i64 0), (V.int .u64 0), (V.int .i64 0), (V.str []), (V.agg 32 (List.replicate 32 (V.int .u8 0)))]).map (.agg 67)).bind fun t82_56 => (stT (tyG 67) 68 [t1, (V.agg 67 [(V.int .i64 0), (V.int .i64 0), (V.int .u64 0), (V.int .i64 0), (V.str []), (V.agg 32 (List.replicate 32 (V.int .u8 0)))])] (V.ref 1 [] 68) t82_56).bind fun h_57 => (ldP h_57 68 (V.ref 1 [] 68)).bind fun c_58 => if (List.all [(V.int .i64 20), (V.int .i64 0), c_58] V.okE) = true then finT 0 h_57 (V.tup [c_58, (V.int .i64 0), (V.int .i64 20)]) else none)
  ((cvI .i64 t34_21).bind fun t87_59 => (bin .add t35_22 t87_59).bind fun t88_60 => (slT t0 (some t35_22) (some t88_60)).bind fun t89_61 => ((ck [(tyI .i64) (V.int .i64 2), tyS t89_61] [(V.int .i64 2), (V.int .i64 0), (V.int .u64 0), (V.int .i64 0), t89_61, (V.agg 32 (List.replicate 32 (V.int .u8 0)))]).map (.agg 67)).bind fun t90_62 => (cvI .i64 t34_21).bind fun t93_63 => (bin .add t35_22 t93_63).bind fun t94_64 => (stT (tyG 67) 68 [t1, (V.agg 67 [(V.int .i64 0), (V.int .i64 0), (V.int .u64 0), (V.int .i64 0), (V.str []), (V.agg 32 (List.replicate 32 (V.int .u8 0)))])] (V.ref 1 [] 68) t90_62).bind fun h_65 => (ldP h_65 68 (V.ref 1 [] 68)).bind fun c_66 => if (List.all [(V.int .i64 0), t94_64, c_66] V.okE) = true then finT 0 h_65 (V.tup [c_66, t94_64, (V.int .i64 0)]) else none))) (fun (k_67 : V → Rv) => (fA 68 3 1 (V.ref 0 [] 68)).bind fun t64_68 => (ldP [t1, (V.agg 67 [(V.int .i64 0), (V.int .i64 0), (V.int .u64 0), (V.int .i64 0), (V.str []), (V.agg 32 (List.replicate 32 (V.int .u8 0)))])] 3 t64_68).bind fun t65_69 => (bin .lss t65_69 (V.int .i64 0)).bind fun t66_70 => V.ite t66_70 (k_67 (V.bool true)) ((fA 68 3 1 (V.ref 0 [] 68)).bind fun t69_71 => (ldP [t1, (V.agg 67 [(V.int .i64 0), (V.int .i64 0), (V.int .u64 0), (V.int .i64 0), (V.str []), (V.agg 32 (List.replicate 32 (V.int .u8 0)))])] 3 t69_71).bind fun t70_72 => (cvI .u64 t70_72).bind fun t71_73 => (bin .gtr t34_21 t71_73).bind fun t72_74 => k_67 t72_74)))))) else none :=
 f_eq (by kernel_rfl)
/-- modillion/wire.NewOut -/
noncomputable def f44_r0 (k : Rv) : Rv :=
 k
noncomputable def f44_r1 (h : List V) (k : V → List V → Rv) : Rv :=
 (bld P 97 []).bind fun t1 => if (tyOk P 97 (V.weak t1) && V.under (List.length h) (V.weak t1)) = true then k (V.ref (List.length h) [] 97) (h ++ [(V.weak t1)]) else none
theorem f44_eq (h : List V) : Cl 44 [] h =
 f44_r0 (f44_r1 h fun t0_1 h_2 =>
  finK h_2 t0_1) :=
 f_eq (by kernel_rfl)
/-- (*modillion/wire.Out).Num -/
noncomputable def f45_l0 (t0 t1 : V) (n : Nat) (h : List V) : Rv := lp W 45 0 (cd 45 8) (bk 0 (sk 45 0 3 (lv 45 n))) ⟨[(0, t0), (1, t1)], h⟩
noncomputable def f45_r0 (t1 : V) (k : V → Rv) : Rv :=
 (bin .geq t1 (V.int .u64 128)).bind fun t5 => k t5
noncomputable def f45_r2 (t0 t1 : V) (h : List V) (k : List V → Rv) : Rv :=
 (notNil t0).bind fun t10 => (fieldA P 97 0 t10).bind fun t11 => (ldTake h 55 t11).bind fun r => (conv P r.2 61 5 t1).bind fun t14 => (bin .or t14 (V.int .u8 128)).bind fun t15 => (bldS P 55 1 [(0, t15)]).bind fun t16 => (appd P 55 r.2 r.1 t16).bind fun t17 => (notNil t0).bind fun t18 => (fieldA P 97 0 t18).bind fun t19 => (sto P r.2 55 t19 t17).bind fun h_1 => k h_1
noncomputable def f45_r1 (t1 : V) (k : V → Rv) : Rv :=
 (bin .shr t1 (V.int .u64 7)).bind fun t7 => k t7
noncomputable def f45_r3 (t0 t1 : V) (h : List V) (k : List V → Rv) : Rv :=
 (notNil t0).bind fun t22 => (fieldA P 97 0 t22).bind fun t23 => (ldTake h 55 t23).bind fun r => (conv P r.2 61 5 t1).bind fun t26 => (bldS P 55 1 [(0, t26)]).bind fun t27 => (appd P 55 r.2 r.1 t27).bind fun t28 => (notNil t0).bind fun t29 => (fieldA P 97 0 t29).bind fun t30 => (sto P r.2 55 t30 t28).bind fun h_1 => k h_1
theorem f45_l0_eq (t0 t1 : V) (n : Nat) (h : List V) : f45_l0 t0 t1 n h =
 f45_r0 t1 fun t5_1 =>
  V.ite t5_1
  (f45_r2 t0 t1 h fun h_2 =>
  f45_r1 t1 fun t1_3 =>
  f45_l0 t0 t1_3 n h_2)
  (f45_r3 t0 t1 h fun h_4 =>
  if (List.all [] V.okE) = true then finT n h_4 (V.tup []) else none) :=
 l_eq (by kernel_rfl)
theorem f45_eq (t0 t1 : V) (h : List V) : Cl 45 [t0, t1] h =
 f45_l0 t0 t1 (List.length h) h :=
 f_eq (by kernel_rfl)
/-- (*modillion/wire.Out).Done -/
noncomputable def f47_r0 (k : Rv) : Rv :=
 k
noncomputable def f47_r1 (t0 : V) (h : List V) (k : V → Rv) : Rv :=
 (notNil t0).bind fun t4 => (fieldA P 97 0 t4).bind fun t5 => (ldS h 55 t5).bind fun t6 => (conv P h 55 9 t6).bind fun t7 => k t7
theorem f47_eq (t0 : V) (h : List V) : Cl 47 [t0] h =
 f47_r0 (f47_r1 t0 h fun t2_1 =>
  finT (List.length h) h t2_1) :=
 f_eq (by kernel_rfl)
/-- modillion/tree.Root -/
theorem f48_eq (t0 : V) : Cl 48 [t0] [] =
 (lnL (V.weak t0)).bind fun t4_1 => (Cl 68 (reifyL [(V.agg 32 (List.replicate 32 (V.int .u8 0)))] [t0]) []).bind fun r_2 => (Cl 67 (reifyL [(V.agg 32 (List.replicate 32 (V.int .u8 0)))] [t4_1, r_2.1]) []).bind fun r_3 => (stT (tyG 32) 33 [(V.agg 32 (List.replicate 32 (V.int .u8 0)))] (V.ref 0 [] 33) r_3.1).bind fun h_4 => (ldP h_4 33 (V.ref 0 [] 33)).bind fun c_5 => finT 0 h_4 c_5 :=
 f_eq (by kernel_rfl)
/-- modillion/fold.Sort -/
noncomputable def f50_r0 (k : Rv) : Rv :=
 k
noncomputable def f50_r1 (t0 : V) (h : List V) (k : V → List V → Rv) : Rv :=
 (appd P 23 h (V.lst 38 .nil []) t0).bind fun v => (toBox h v).bind fun r => k r.1 r.2
noncomputable def f50_r2 (t3 : V) (h : List V) (k : List V → Rv) : Rv :=
 (Cl 69 (normL [(V.weak t3), (V.clo 70 [])]) h).bind fun r => k r.2
noncomputable def f50_r3 (t3 : V) (k : V → Rv) : Rv :=
 k t3
theorem f50_eq (t0 : V) : Cl 50 [t0] [] =
 f50_r0 (f50_r1 t0 [] fun t3_1 h_2 =>
  f50_r2 t3_1 h_2 fun h_3 =>
  f50_r3 t3_1 fun t2_4 =>
  finT 0 h_3 t2_4) :=
 f_eq (by kernel_rfl)
/-- modillion/commit.right -/
theorem f51_eq (t0 : V) : Cl 51 [t0] [] =
 if ((tyG 40) (V.weak t0) && V.under 0 (V.weak t0)) = true then jn (fun t2_1 h_2 =>
 finT 0 h_2 t2_1) (fun (k_3 : V → List V → Rv) => (fA 41 3 0 (V.ref 0 [] 41)).bind fun t5_4 => (ldP [(V.weak t0)] 3 t5_4).bind fun t6_5 => callV P ann W (V.clo 71 []) [t6_5, (V.int .i64 0), (V.int .i64 63)] [(V.weak t0)] fun t7_6 h_7 => if V.noOwn t7_6 = true then V.ite t7_6 ((fA 41 3 1 (V.ref 0 [] 41)).bind fun t10_8 => (ldP h_7 3 t10_8).bind fun t11_9 => callV P ann W (V.clo 71 []) [t11_9, (V.int .i64 0), (V.int .i64 63)] h_7 fun t12_10 h_11 => if V.noOwn t12_10 = true then V.ite t12_10 ((fA 41 39 3 (V.ref 0 [] 41)).bind fun t16_12 => (ldS h_11 39 t16_12).bind fun t17_13 => (lnL t17_13).bind fun t18_14 => callV P ann W (V.clo 71 []) [t18_14, (V.int .i64 1), (V.int .i64 64)] h_11 fun t19_15 h_16 => if V.noOwn t19_15 = true then k_3 t19_15 h_16 else none) (k_3 (V.bool false) h_11) else none) (k_3 (V.bool false) h_7) else none) else none :=
 f_eq (by kernel_rfl)
/-- (*modillion/wire.Out).Hash -/
theorem f52_eq (t0 t1 : V) (h : List V) : Cl 52 [t0, t1] h =
 if ((tyG 32) t1 && V.under (List.length h) t1) = true then (notNil t0).bind fun t6_1 => (fA 97 55 0 t6_1).bind fun t7_2 => (ldTake (h ++ [t1]) 55 t7_2).bind fun r_3 => (slA 33 32 32 5 (V.ref (List.length h) [] 33) none none none).bind fun t9_4 => (apL 5 (tyI .u8) false r_3.2 r_3.1 t9_4).bind fun t10_5 => (notNil t0).bind fun t11_6 => (fA 97 55 0 t11_6).bind fun t12_7 => (stT (tyL 5) 55 r_3.2 t12_7 t10_5).bind fun h_8 => if (List.all [] V.okE) = true then finT (List.length h) h_8 (V.tup []) else none else none :=
 f_eq (by kernel_rfl)
/-- (*modillion/wire.In).Hash -/
theorem f53_eq (t0 : V) (h : List V) : Cl 53 [t0] h =
 (if (List.all [(V.ref (List.length (h ++ [(V.agg 32 (List.replicate 32 (V.int .u8 0)))])) [] 33)] V.capOk) = true then some (V.clo 72 [(V.ref (List.length (h ++ [(V.agg 32 (List.replicate 32 (V.int .u8 0)))])) [] 33)]) else none).bind fun t5_1 => (Cl 59 (normL [t0, t5_1]) ((h ++ [(V.agg 32 (List.replicate 32 (V.int .u8 0)))]) ++ [(V.agg 32 (List.replicate 32 (V.int .u8 0)))])).bind fun r_2 => (ldP r_2.2 33 (V.ref (List.length (h ++ [(V.agg 32 (List.replicate 32 (V.int .u8 0)))])) [] 33)).bind fun t7_3 => (stT (tyG 32) 33 r_2.2 (V.ref (List.length h) [] 33) t7_3).bind fun h_4 => (ldP h_4 33 (V.ref (List.length h) [] 33)).bind fun c_5 => finT (List.length h) h_4 c_5 :=
 f_eq (by kernel_rfl)
/-- modillion/state.Root -/
theorem f55_eq (t0 : V) : Cl 55 [t0] [] =
 (Cl 73 (reifyL [(V.agg 32 (List.replicate 32 (V.int .u8 0)))] [t0]) []).bind fun r_1 => (Cl 48 (reifyL [(V.agg 32 (List.replicate 32 (V.int .u8 0)))] [r_1.1]) []).bind fun r_2 => (stT (tyG 32) 33 [(V.agg 32 (List.replicate 32 (V.int .u8 0)))] (V.ref 0 [] 33) r_2.1).bind fun h_3 => (ldP h_3 33 (V.ref 0 [] 33)).bind fun c_4 => finT 0 h_3 c_4 :=
 f_eq (by kernel_rfl)
/-- modillion/batch.row -/
noncomputable def f58_r0 (t0 : V) (h : List V) (k : V → List V → Rv) : Rv :=
 if (tyOk P 38 t0 && V.under (List.length h) t0) = true then k (V.ref (List.length h) [] 38) (h ++ [t0]) else none
noncomputable def f58_r1 (t1 : V) (h : List V) (k : V → Rv) : Rv :=
 (fieldA P 38 0 t1).bind fun t4 => (ldP h 3 t4).bind fun t5 => (bin .lss t5 (V.int .i64 0)).bind fun t6 => V.ite t6 (k (V.bool true)) ((fieldA P 38 1 t1).bind fun t8 => (ldP h 3 t8).bind fun t9 => (bin .lss t9 (V.int .i64 0)).bind fun t10 => k t10)
noncomputable def f58_r2 (k : V → Rv) : Rv :=
 k (V.str [])
noncomputable def f58_r3 (h : List V) (k : V → List V → Rv) : Rv :=
 (Cl 44 (normL []) h).bind fun r => k r.1 r.2
noncomputable def f58_r4 (t1 t3 : V) (h : List V) (k : List V → Rv) : Rv :=
 (fieldA P 38 0 t1).bind fun t14 => (ldP h 3 t14).bind fun t15 => (conv P h 3 61 t15).bind fun t16 => (Cl 45 (normL [t3, t16]) h).bind fun r => k r.2
noncomputable def f58_r5 (t1 t3 : V) (h : List V) (k : List V → Rv) : Rv :=
 (fieldA P 38 1 t1).bind fun t19 => (ldP h 3 t19).bind fun t20 => (conv P h 3 61 t20).bind fun t21 => (Cl 45 (normL [t3, t21]) h).bind fun r => k r.2
noncomputable def f58_r6 (t1 t3 : V) (h : List V) (k : List V → Rv) : Rv :=
 (fieldA P 38 2 t1).bind fun t24 => (ldP h 2 t24).bind fun t25 => (Cl 77 (normL [t3, t25]) h).bind fun r => k r.2
noncomputable def f58_r7 (t3 : V) (h : List V) (k : V → List V → Rv) : Rv :=
 (Cl 47 (normL [t3]) h).bind fun r => k r.1 r.2
theorem f58_eq (t0 : V) : Cl 58 [t0] [] =
 f58_r0 t0 [] fun t1_1 h_2 =>
  f58_r1 t1_1 h_2 fun t11_3 =>
  V.ite t11_3
  (f58_r2 fun t2_4 =>
  finT 0 h_2 t2_4)
  (f58_r3 h_2 fun t3_5 h_6 =>
  f58_r4 t1_1 t3_5 h_6 fun h_7 =>
  f58_r5 t1_1 t3_5 h_7 fun h_8 =>
  f58_r6 t1_1 t3_5 h_8 fun h_9 =>
  f58_r7 t3_5 h_9 fun t2_10 h_11 =>
  finT 0 h_11 t2_10) :=
 f_eq (by kernel_rfl)
/-- (*modillion/wire.In).read -/
noncomputable def f59_r0 (k : Rv) : Rv :=
 k
noncomputable def f59_r1 (t0 : V) (h : List V) (k : V → Rv) : Rv :=
 (notNil t0).bind fun t8 => (fieldA P 88 1 t8).bind fun t9 => (ldP h 24 t9).bind fun t10 => (bin .neq t10 (V.int .i64 0)).bind fun t11 => k t11
noncomputable def f59_r2 (k : V → Rv) : Rv :=
 k (V.bool false)
noncomputable def f59_r3 (t0 t1 : V) (h : List V) (k : V → V → List V → Rv) : Rv :=
 (notNil t0).bind fun t15 => (fieldA P 88 0 t15).bind fun t16 => (ldP h 9 t16).bind fun t17 => callV P ann W t1 [t17] h fun t18 h_1 => if V.noOwn t18 = true then (ext t18 0).bind fun t19 => (ext t18 1).bind fun t20 => k t19 t20 h_1 else none
noncomputable def f59_r4 (t0 t6 : V) (h : List V) (k : List V → Rv) : Rv :=
 (notNil t0).bind fun t23 => (fieldA P 88 1 t23).bind fun t24 => (sto P h 24 t24 t6).bind fun h_1 => k h_1
noncomputable def f59_r5 (t6 : V) (k : V → Rv) : Rv :=
 (bin .neq t6 (V.int .i64 0)).bind fun t26 => k t26
noncomputable def f59_r6 (k : V → Rv) : Rv :=
 k (V.bool false)
noncomputable def f59_r7 (t0 t5 : V) (h : List V) (k : List V → Rv) : Rv :=
 (notNil t0).bind fun t29 => (fieldA P 88 0 t29).bind fun t30 => (ldP h 9 t30).bind fun t31 => (sli P 9 t31 (some t5) none none).bind fun t33 => (notNil t0).bind fun t34 => (fieldA P 88 0 t34).bind fun t35 => (sto P h 9 t35 t33).bind fun h_1 => k h_1
noncomputable def f59_r8 (k : V → Rv) : Rv :=
 k (V.bool true)
theorem f59_eq (t0 t1 : V) (h : List V) : Cl 59 [t0, t1] h =
 f59_r0 (f59_r1 t0 h fun t11_1 =>
  V.ite t11_1
  (f59_r2 fun t4_2 =>
  finT (List.length h) h t4_2)
  (f59_r3 t0 t1 h fun t5_3 t6_4 h_5 =>
  f59_r4 t0 t6_4 h_5 fun h_6 =>
  f59_r5 t6_4 fun t26_7 =>
  V.ite t26_7
  (f59_r6 fun t4_8 =>
  finT (List.length h) h_6 t4_8)
  (f59_r7 t0 t5_3 h_6 fun h_9 =>
  f59_r8 fun t4_10 =>
  finT (List.length h) h_9 t4_10))) :=
 f_eq (by kernel_rfl)
/-- (*modillion/wire.In).Num$1 -/
noncomputable def f60_r0 (k : Rv) : Rv :=
 k
noncomputable def f60_r1 (t0 : V) (h : List V) (k : V → V → V → Rv) : Rv :=
 (Cl 61 (reifyL h [t0]) []).bind fun r => (ext r.1 0).bind fun t11 => (ext r.1 1).bind fun t12 => (ext r.1 2).bind fun t13 => k t11 t12 t13
noncomputable def f60_r2 (t1 t5 : V) (h : List V) (k : List V → Rv) : Rv :=
 (sto P h 61 t1 t5).bind fun h_1 => k h_1
noncomputable def f60_r3 (t6 t7 : V) (k : V → V → Rv) : Rv :=
 k t6 t7
theorem f60_eq (t0 t1 : V) (h : List V) : Cl 60 [t0, t1] h =
 f60_r0 (f60_r1 t0 h fun t5_1 t6_2 t7_3 =>
  f60_r2 t1 t5_1 h fun h_4 =>
  f60_r3 t6_2 t7_3 fun t3_5 t4_6 =>
  if (List.all [t4_6, t3_5] V.okE) = true then finT (List.length h) h_4 (V.tup [t3_5, t4_6]) else none) :=
 f_eq (by kernel_rfl)
/-- modillion/wire.number -/
noncomputable def f61_r0 (k : Rv) : Rv :=
 k
noncomputable def f61_r1 (k : V → Rv) : Rv :=
 k (V.int .u64 0)
noncomputable def f61_r2 (t0 : V) (k : V → V → Rv) : Rv :=
 (lenV P 9 t0).bind fun t9 => k t9 (V.int .i64 0)
noncomputable def f61_l0 (t0 t5 t9 t10 : V) : Rv := lp W 61 0 (cd 61 75) (bk 0 (sk 61 0 15 (lv 61 0))) ⟨[(0, t0), (5, t5), (9, t9), (10, t10)], []⟩
noncomputable def f61_r3 (t9 t10 : V) (k : V → Rv) : Rv :=
 (bin .lss t10 t9).bind fun t11 => k t11
noncomputable def f61_r4 (t10 : V) (k : V → Rv) : Rv :=
 k t10
noncomputable def f61_r5 (t0 t6 : V) (k : V → Rv) : Rv :=
 (indexV P 9 t0 t6).bind fun t15 => k t15
noncomputable def f61_r6 (t6 t7 : V) (k : V → Rv) : Rv :=
 (bin .eql t6 (V.int .i64 9)).bind fun t17 => V.ite t17 ((bin .gtr t7 (V.int .u8 1)).bind fun t20 => V.ite t20 (k (V.bool true)) ((bin .gtr t6 (V.int .i64 0)).bind fun t24 => V.ite t24 ((bin .eql t7 (V.int .u8 0)).bind fun t27 => k t27) (k (V.bool false)))) ((bin .gtr t6 (V.int .i64 0)).bind fun t24_1 => V.ite t24_1 ((bin .eql t7 (V.int .u8 0)).bind fun t27_1 => k t27_1) (k (V.bool false)))
noncomputable def f61_r7 (k : V → V → V → Rv) : Rv :=
 k (V.int .u64 0) (V.int .i64 0) (V.int .i64 21)
noncomputable def f61_r8 (t5 t6 t7 : V) (k : V → Rv) : Rv :=
 (bin .and t7 (V.int .u8 127)).bind fun t32 => (conv P [] 5 61 t32).bind fun t33 => (bin .mul (V.int .i64 7) t6).bind fun t35 => (conv P [] 3 98 t35).bind fun t36 => (bin .shl t33 t36).bind fun t37 => (bin .or t5 t37).bind fun t38 => k t38
noncomputable def f61_r9 (t7 : V) (k : V → Rv) : Rv :=
 (bin .lss t7 (V.int .u8 128)).bind fun t40 => k t40
noncomputable def f61_r10 (t5 t6 : V) (k : V → V → V → Rv) : Rv :=
 (bin .add t6 (V.int .i64 1)).bind fun t43 => k t5 t43 (V.int .i64 0)
noncomputable def f61_r11 (t10 : V) (k : V → Rv) : Rv :=
 (bin .add t10 (V.int .i64 1)).bind fun t44 => k t44
noncomputable def f61_r12 (k : V → V → V → Rv) : Rv :=
 k (V.int .u64 0) (V.int .i64 0) (V.int .i64 20)
theorem f61_l0_eq (t0 t5 t9 t10 : V) : f61_l0 t0 t5 t9 t10 =
 f61_r3 t9 t10 fun t11_4 =>
  V.ite t11_4
  (f61_r4 t10 fun t6_5 =>
  f61_r5 t0 t6_5 fun t7_6 =>
  f61_r6 t6_5 t7_6 fun t29_7 =>
  V.ite t29_7
  (f61_r7 fun t2_8 t3_9 t4_10 =>
  if (List.all [t4_10, t3_9, t2_8] V.okE) = true then finT 0 [] (V.tup [t2_8, t3_9, t4_10]) else none)
  (f61_r8 t5 t6_5 t7_6 fun t5_11 =>
  f61_r9 t7_6 fun t40_12 =>
  V.ite t40_12
  (f61_r10 t5_11 t6_5 fun t2_13 t3_14 t4_15 =>
  if (List.all [t4_15, t3_14, t2_13] V.okE) = true then finT 0 [] (V.tup [t2_13, t3_14, t4_15]) else none)
  (f61_r11 t10 fun t10_16 =>
  f61_l0 t0 t5_11 t9 t10_16)))
  (f61_r12 fun t2_17 t3_18 t4_19 =>
  if (List.all [t4_19, t3_18, t2_17] V.okE) = true then finT 0 [] (V.tup [t2_17, t3_18, t4_19]) else none) :=
 l_eq (by kernel_rfl)
theorem f61_eq (t0 : V) : Cl 61 [t0] [] =
 f61_r0 (f61_r1 fun t5_1 =>
  f61_r2 t0 fun t9_2 t10_3 =>
  f61_l0 t0 t5_1 t9_2 t10_3) :=
 f_eq (by kernel_rfl)
/-- modillion/modillionref02.number -/
noncomputable def f65_l0 (t0 t5 t6 t7 : V) : Rv := lp W 65 0 (cd 65 75) (bk 0 (sk 65 0 15 (lv 65 0))) ⟨[(0, t0), (5, t5), (6, t6), (7, t7)], []⟩
theorem f65_l0_eq (t0 t5 t6 t7 : V) : f65_l0 t0 t5 t6 t7 =
 (lnS t0).bind fun t11_1 => (bin .lss t7 t11_1).bind fun t12_2 => V.ite t12_2
  ((ixT t0 t7).bind fun t17_3 => (cvI .u64 t17_3).bind fun t18_4 => jn (fun t32_5 =>
 V.ite t32_5
  (if (List.all [(V.int .i64 21), (V.int .i64 0), (V.int .u64 0)] V.okE) = true then finT 0 [] (V.tup [(V.int .u64 0), (V.int .i64 0), (V.int .i64 21)]) else none)
  ((bin .rem t18_4 (V.int .u64 128)).bind fun t35_6 => (bin .mul t35_6 t6).bind fun t37_7 => (bin .add t5 t37_7).bind fun t38_8 => (bin .mul t6 (V.int .u64 128)).bind fun t40_9 => (bin .lss t18_4 (V.int .u64 128)).bind fun t42_10 => V.ite t42_10
  ((bin .add t7 (V.int .i64 1)).bind fun t45_11 => if (List.all [(V.int .i64 0), t45_11, t38_8] V.okE) = true then finT 0 [] (V.tup [t38_8, t45_11, (V.int .i64 0)]) else none)
  ((bin .add t7 (V.int .i64 1)).bind fun t14_12 => f65_l0 t0 t38_8 t40_9 t14_12))) (fun (k_13 : V → Rv) => (bin .gtr t7 (V.int .i64 0)).bind fun t20_14 => V.ite t20_14 ((bin .eql t18_4 (V.int .u64 0)).bind fun t23_15 => V.ite t23_15 (k_13 (V.bool true)) ((bin .eql t7 (V.int .i64 9)).bind fun t27_16 => V.ite t27_16 ((bin .gtr t18_4 (V.int .u64 1)).bind fun t30_17 => k_13 t30_17) (k_13 (V.bool false)))) ((bin .eql t7 (V.int .i64 9)).bind fun t27_18 => V.ite t27_18 ((bin .gtr t18_4 (V.int .u64 1)).bind fun t30_19 => k_13 t30_19) (k_13 (V.bool false)))))
  (if (List.all [(V.int .i64 20), (V.int .i64 0), (V.int .u64 0)] V.okE) = true then finT 0 [] (V.tup [(V.int .u64 0), (V.int .i64 0), (V.int .i64 20)]) else none) :=
 l_eq (by kernel_rfl)
theorem f65_eq (t0 : V) : Cl 65 [t0] [] =
 f65_l0 t0 (V.int .u64 0) (V.int .u64 1) (V.int .i64 0) :=
 f_eq (by kernel_rfl)
/-- modillion/tree.root -/
noncomputable def f67_r0 (t1 : V) (h : List V) (k : V → V → List V → Rv) : Rv :=
 if (tyOk P 33 t1 && V.under (List.length h) t1) = true then k (V.ref (List.length h) [] 33) (V.ref (List.length (h ++ [t1])) [] 33) ((h ++ [t1]) ++ [zero P 33]) else none
noncomputable def f67_r1 (h : List V) (k : V → List V → Rv) : Rv :=
 (Cl 44 (normL []) h).bind fun r => k r.1 r.2
noncomputable def f67_r2 (t0 t5 : V) (h : List V) (k : List V → Rv) : Rv :=
 (conv P h 3 61 t0).bind fun t9 => (Cl 45 (normL [t5, t9]) h).bind fun r => k r.2
noncomputable def f67_r3 (t3 t4 t5 : V) (h : List V) (k : List V → Rv) : Rv :=
 (bldS P 55 1 [(0, (V.int .u8 3))]).bind fun t11 => (Cl 47 (normL [t5]) h).bind fun r => (conv P r.2 9 55 r.1).bind fun t14 => (sli P 33 t3 none none none).bind fun t15 => (bldS P 123 3 [(0, t11), (1, t14), (2, t15)]).bind fun t16 => (Cl 78 (reifyL r.2 [t16]) []).bind fun r_1 => (sto P r.2 33 t4 r_1.1).bind fun h_1 => k h_1
theorem f67_eq (t0 t1 : V) : Cl 67 [t0, t1] [] =
 f67_r0 t1 [] fun t3_1 t4_2 h_3 =>
  f67_r1 h_3 fun t5_4 h_5 =>
  f67_r2 t0 t5_4 h_5 fun h_6 =>
  f67_r3 t3_1 t4_2 t5_4 h_6 fun h_7 =>
  (ldP h_7 33 t4_2).bind fun c_8 => finT 0 h_7 c_8 :=
 f_eq (by kernel_rfl)
/-- modillion/tree.Top -/
theorem f68_eq (t0 : V) : Cl 68 [t0] [] =
 (lnL (V.weak t0)).bind fun t5_1 => (bin .eql t5_1 (V.int .i64 0)).bind fun t7_2 => V.ite t7_2
  ((bsL 5 false (ck [(tyI .u8) (V.int .u8 2)] [(V.int .u8 2)])).bind fun t8_3 => (bsL 55 true (ck [(tyL 5) t8_3] [(V.weak t8_3)])).bind fun t9_4 => (Cl 78 (reifyL [(V.agg 32 (List.replicate 32 (V.int .u8 0)))] [t9_4]) []).bind fun r_5 => (stT (tyG 32) 33 [(V.agg 32 (List.replicate 32 (V.int .u8 0)))] (V.ref 0 [] 33) r_5.1).bind fun h_6 => (ldP h_6 33 (V.ref 0 [] 33)).bind fun c_7 => finT 0 h_6 c_7)
  ((bin .eql t5_1 (V.int .i64 1)).bind fun t12_8 => V.ite t12_8
  ((ixS 9 t0 (V.int .i64 0)).bind fun t14_9 => (ldP [(V.agg 32 (List.replicate 32 (V.int .u8 0)))] 9 t14_9).bind fun t15_10 => (Cl 79 (reifyL [(V.agg 32 (List.replicate 32 (V.int .u8 0)))] [t15_10]) []).bind fun r_11 => (stT (tyG 32) 33 [(V.agg 32 (List.replicate 32 (V.int .u8 0)))] (V.ref 0 [] 33) r_11.1).bind fun h_12 => (ldP h_12 33 (V.ref 0 [] 33)).bind fun c_13 => finT 0 h_12 c_13)
  ((lnL (V.weak t0)).bind fun t18_14 => (Cl 80 (reifyL [(V.agg 32 (List.replicate 32 (V.int .u8 0)))] [t18_14]) []).bind fun r_15 => (slL 9 (V.weak t0) none (some r_15.1) (some r_15.1)).bind fun t23_16 => (Cl 68 (reifyL [(V.agg 32 (List.replicate 32 (V.int .u8 0)))] [t23_16]) []).bind fun r_17 => (slL 9 (V.weak t0) (some r_15.1) none none).bind fun t27_18 => (Cl 68 (reifyL [(V.agg 32 (List.replicate 32 (V.int .u8 0)))] [t27_18]) []).bind fun r_19 => (Cl 81 (reifyL [(V.agg 32 (List.replicate 32 (V.int .u8 0)))] [r_17.1, r_19.1]) []).bind fun r_20 => (stT (tyG 32) 33 [(V.agg 32 (List.replicate 32 (V.int .u8 0)))] (V.ref 0 [] 33) r_20.1).bind fun h_21 => (ldP h_21 33 (V.ref 0 [] 33)).bind fun c_22 => finT 0 h_21 c_22)) :=
 f_eq (by kernel_rfl)
/-- slices.SortFunc[[]modillion/api.Msg,modillion/api.Msg] -/
noncomputable def f69_r0 (t0 : V) (k : V → Rv) : Rv :=
 (lenV P 23 (V.weak t0)).bind fun t6 => k t6
noncomputable def f69_r1 (t0 t1 t4 : V) (h : List V) (k : List V → Rv) : Rv :=
 (conv P h 3 98 t4).bind fun t10 => (Cl 83 (reifyL h [t10]) []).bind fun r => (Cl 82 (normL [t0, (V.int .i64 0), t4, r.1, t1]) h).bind fun r_1 => k r_1.2
theorem f69_eq (t0 t1 : V) (h : List V) : Cl 69 [t0, t1] h =
 f69_r0 t0 fun t4_1 =>
  f69_r1 t0 t1 t4_1 h fun h_2 =>
  if (List.all [] V.okE) = true then finT (List.length h) h_2 (V.tup []) else none :=
 f_eq (by kernel_rfl)
/-- modillion/fold.compare -/
noncomputable def f70_r0 (t0 t1 : V) (h : List V) (k : V → V → List V → Rv) : Rv :=
 if (tyOk P 38 t0 && V.under (List.length h) t0) = true then if (tyOk P 38 t1 && V.under (List.length (h ++ [t0])) t1) = true then k (V.ref (List.length h) [] 38) (V.ref (List.length (h ++ [t0])) [] 38) ((h ++ [t0]) ++ [t1]) else none else none
noncomputable def f70_r1 (t2 t3 : V) (h : List V) (k : V → Rv) : Rv :=
 (fieldA P 38 1 t2).bind fun t5 => (ldP h 3 t5).bind fun t6 => (fieldA P 38 1 t3).bind fun t7 => (ldP h 3 t7).bind fun t8 => (Cl 85 (reifyL h [t6, t8]) []).bind fun r => (fieldA P 38 0 t2).bind fun t10 => (ldP h 3 t10).bind fun t11 => (fieldA P 38 0 t3).bind fun t12 => (ldP h 3 t12).bind fun t13 => (Cl 85 (reifyL h [t11, t13]) []).bind fun r_1 => (fieldA P 38 2 t2).bind fun t15 => (ldP h 2 t15).bind fun t16 => (fieldA P 38 2 t3).bind fun t17 => (ldP h 2 t17).bind fun t18 => (Cl 86 (reifyL h [t16, t18]) []).bind fun r_2 => (bldS P 83 3 [(0, r.1), (1, r_1.1), (2, r_2.1)]).bind fun t20 => (Cl 84 (reifyL h [t20]) []).bind fun r_3 => k r_3.1
theorem f70_eq (t0 t1 : V) : Cl 70 [t0, t1] [] =
 f70_r0 t0 t1 [] fun t2_1 t3_2 h_3 =>
  f70_r1 t2_1 t3_2 h_3 fun t4_4 =>
  finT 0 h_3 t4_4 :=
 f_eq (by kernel_rfl)
/-- modillion/commit.right$1 -/
theorem f71_eq (t0 t1 t2 : V) : Cl 71 [t0, t1, t2] [] =
 jn (fun t6_1 =>
 finT 0 [] t6_1) (fun (k_2 : V → Rv) => (bin .geq t0 t1).bind fun t9_3 => V.ite t9_3 ((bin .leq t0 t2).bind fun t13_4 => k_2 t13_4) (k_2 (V.bool false))) :=
 f_eq (by kernel_rfl)
/-- (*modillion/wire.In).Hash$1 -/
theorem f72_eq (t0 t1 : V) (h : List V) : Cl 72 [t0, t1] h =
 (lnS t0).bind fun t6_1 => (bin .lss t6_1 (V.int .i64 32)).bind fun t7_2 => V.ite t7_2
  (if (List.all [(V.int .i64 20), (V.int .i64 0)] V.okE) = true then finT (List.length h) h (V.tup [(V.int .i64 0), (V.int .i64 20)]) else none)
  ((slA 33 32 32 5 t1 none none none).bind fun t8_3 => (cpy P 55 h t8_3 t0).bind fun r_4 => if (List.all [(V.int .i64 0), r_4.1] V.okE) = true then finT (List.length h) r_4.2 (V.tup [r_4.1, (V.int .i64 0)]) else none) :=
 f_eq (by kernel_rfl)
/-- modillion/state.Rows -/
noncomputable def f73_l0 (t3 t9 t10 t11 : V) (h : List V) : Rv := lp W 73 0 (cd 73 75) (bk 0 (sk 73 0 15 (lv 73 0))) ⟨[(3, t3), (9, t9), (10, t10), (11, t11)], h⟩
theorem f73_l0_eq (t3 t9 t10 t11 : V) (h : List V) : f73_l0 t3 t9 t10 t11 h =
 (bin .lss t11 t10).bind fun t12_5 => V.ite t12_5
  ((ixS 119 t9 t11).bind fun t14_6 => (ldP h 119 t14_6).bind fun t15_7 => (stT (tyG 118) 119 (h ++ [(V.agg 118 [(V.int .i64 0), (V.int .i64 0), (V.bool false), (V.bool false), (V.int .i64 0)])]) (V.ref (List.length h) [] 119) t15_7).bind fun h_8 => (ldP h_8 119 (V.ref (List.length h) [] 119)).bind fun t18_9 => (Cl 87 (reifyL h_8 [t18_9]) []).bind fun r_10 => (ixS 9 (V.weak t3) t11).bind fun t20_11 => (stT tyS 9 h_8 t20_11 r_10.1).bind fun h_12 => (bin .add t11 (V.int .i64 1)).bind fun t21_13 => if underL (List.length h) [t3, t9, t10, t21_13] = true then f73_l0 t3 t9 t10 t21_13 (List.take (List.length h) h_12) else none)
  (finT 0 h t3) :=
 l_eq (by kernel_rfl)
theorem f73_eq (t0 : V) : Cl 73 [t0] [] =
 (lnL (V.weak t0)).bind fun t7_1 => (mkL 9 (V.str []) t7_1 t7_1).bind fun v_2 => (toBox [] v_2).bind fun r_3 => (lnL t0).bind fun t10_4 => f73_l0 r_3.1 t0 t10_4 (V.int .i64 0) r_3.2 :=
 f_eq (by kernel_rfl)
/-- (*modillion/wire.Out).Int -/
noncomputable def f77_r0 (t0 t1 : V) (h : List V) (k : List V → Rv) : Rv :=
 (conv P h 2 61 t1).bind fun t6 => (bin .shl t6 (V.int .u64 1)).bind fun t7 => (bin .shr t1 (V.int .u64 63)).bind fun t9 => (conv P h 2 61 t9).bind fun t10 => (bin .xor t7 t10).bind fun t11 => (Cl 45 (normL [t0, t11]) h).bind fun r => k r.2
theorem f77_eq (t0 t1 : V) (h : List V) : Cl 77 [t0, t1] h =
 f77_r0 t0 t1 h fun h_1 =>
  if (List.all [] V.okE) = true then finT (List.length h) h_1 (V.tup []) else none :=
 f_eq (by kernel_rfl)
/-- modillion/hash.Of -/
noncomputable def f78_r0 (h : List V) (k : V → List V → Rv) : Rv :=
 k (V.ref (List.length h) [] 33) (h ++ [zero P 33])
noncomputable def f78_r1 (t0 : V) (h : List V) (k : V → Rv) : Rv :=
 (Cl 93 (reifyL h [t0, (V.lst 5 .nil [])]) []).bind fun r => k r.1
noncomputable def f78_r2 (t3 : V) (h : List V) (k : V → Rv) : Rv :=
 (lenV P 55 (V.weak t3)).bind fun t12 => (conv P h 3 61 t12).bind fun t13 => (bin .mul t13 (V.int .u64 8)).bind fun t14 => k t14
noncomputable def f78_r3 (t3 : V) (h : List V) (k : V → Rv) : Rv :=
 (bldS P 55 1 [(0, (V.int .u8 128))]).bind fun t16 => (appd P 55 h t3 t16).bind fun t17 => k t17
noncomputable def f78_l0 (t2 t3 t4 : V) (h : List V) : Rv := lp W 78 0 (cd 78 143) (bk 0 (sk 78 0 63 (lv 78 0))) ⟨[(2, t2), (3, t3), (4, t4)], h⟩
noncomputable def f78_r4 (t3 : V) (k : V → Rv) : Rv :=
 (lenV P 55 (V.weak t3)).bind fun t19 => (bin .rem t19 (V.int .i64 64)).bind fun t20 => (bin .neq t20 (V.int .i64 56)).bind fun t21 => k t21
noncomputable def f78_r5 (t3 : V) (h : List V) (k : V → Rv) : Rv :=
 (bldS P 55 1 [(0, (V.int .u8 0))]).bind fun t23 => (appd P 55 h t3 t23).bind fun t24 => k t24
noncomputable def f78_r6 (k : V → Rv) : Rv :=
 k (V.int .i64 0)
noncomputable def f78_l2 (t2 t3 t4 t25 : V) (h : List V) : Rv := lp W 78 2 (cd 78 607) (bk 2 (sk 78 0 127 (lv 78 0))) ⟨[(2, t2), (3, t3), (4, t4), (25, t25)], h⟩
noncomputable def f78_r7 (t25 : V) (k : V → Rv) : Rv :=
 (bin .lss t25 (V.int .i64 8)).bind fun t26 => k t26
noncomputable def f78_r8 (t25 : V) (k : V → Rv) : Rv :=
 k t25
noncomputable def f78_r9 (t3 t4 t5 : V) (h : List V) (k : V → Rv) : Rv :=
 (bin .mul (V.int .i64 8) t5).bind fun t31 => (bin .sub (V.int .i64 56) t31).bind fun t32 => (conv P h 3 98 t32).bind fun t33 => (bin .shr t4 t33).bind fun t34 => (conv P h 61 5 t34).bind fun t35 => (bldS P 55 1 [(0, t35)]).bind fun t36 => (appd P 55 h t3 t36).bind fun t37 => k t37
noncomputable def f78_r10 (t25 : V) (k : V → Rv) : Rv :=
 (bin .add t25 (V.int .i64 1)).bind fun t38 => k t38
noncomputable def f78_r11 (h : List V) (k : V → List V → Rv) : Rv :=
 (ldP h 126 (V.rop 126 glob0)).bind fun t39 => (sto P (h ++ [zero P 126]) 126 (V.ref (List.length h) [] 126) t39).bind fun h_1 => k (V.ref (List.length h) [] 126) h_1
noncomputable def f78_l4 (t2 t3 t6 : V) (h : List V) : Rv := lp W 78 4 (cd 78 1151) (bk 4 (sk 78 0 511 (lv 78 0))) ⟨[(2, t2), (3, t3), (6, t6)], h⟩
noncomputable def f78_r12 (t3 : V) (k : V → Rv) : Rv :=
 (lenV P 55 (V.weak t3)).bind fun t41 => (bin .gtr t41 (V.int .i64 0)).bind fun t42 => k t42
noncomputable def f78_r14 (t3 t6 : V) (h : List V) (k : List V → Rv) : Rv :=
 (ldP h 126 t6).bind fun t45 => (sli P 55 (V.weak t3) none (some (V.int .i64 64)) none).bind fun t47 => (Cl 94 (reifyL h [t45, t47]) []).bind fun r => (sto P h 126 t6 r.1).bind fun h_1 => k h_1
noncomputable def f78_r13 (t3 : V) (k : V → Rv) : Rv :=
 (sli P 55 t3 (some (V.int .i64 64)) none none).bind fun t44 => k t44
noncomputable def f78_r15 (h : List V) (k : V → List V → Rv) : Rv :=
 k (V.ref (List.length h) [] 33) (h ++ [zero P 33])
noncomputable def f78_r16 (k : V → Rv) : Rv :=
 k (V.int .i64 0)
noncomputable def f78_l6 (t2 t6 t7 t49 : V) (h : List V) : Rv := lp W 78 6 (cd 78 9727) (bk 6 (sk 78 0 2047 (lv 78 0))) ⟨[(2, t2), (6, t6), (7, t7), (49, t49)], h⟩
noncomputable def f78_r17 (t49 : V) (k : V → Rv) : Rv :=
 (bin .lss t49 (V.int .i64 32)).bind fun t50 => k t50
noncomputable def f78_r18 (t49 : V) (k : V → Rv) : Rv :=
 k t49
noncomputable def f78_r19 (t6 t7 t8 : V) (h : List V) (k : List V → Rv) : Rv :=
 (bin .quo t8 (V.int .i64 4)).bind fun t54 => (indexA P 126 t6 t54).bind fun t55 => (ldP h 125 t55).bind fun t56 => (bin .rem t8 (V.int .i64 4)).bind fun t58 => (bin .mul (V.int .i64 8) t58).bind fun t59 => (bin .sub (V.int .i64 24) t59).bind fun t60 => (conv P h 3 98 t60).bind fun t61 => (bin .shr t56 t61).bind fun t62 => (conv P h 125 5 t62).bind fun t63 => (indexA P 33 t7 t8).bind fun t64 => (sto P h 5 t64 t63).bind fun h_1 => k h_1
noncomputable def f78_r20 (t49 : V) (k : V → Rv) : Rv :=
 (bin .add t49 (V.int .i64 1)).bind fun t65 => k t65
noncomputable def f78_r21 (t2 t7 : V) (h : List V) (k : List V → Rv) : Rv :=
 (ldP h 33 t7).bind fun t66 => (sto P h 33 t2 t66).bind fun h_1 => k h_1
theorem f78_l6_eq (t2 t6 t7 t49 : V) (h : List V) : f78_l6 t2 t6 t7 t49 h =
 f78_r17 t49 fun t50_21 =>
  V.ite t50_21
  (f78_r18 t49 fun t8_22 =>
  f78_r19 t6 t7 t8_22 h fun h_23 =>
  f78_r20 t49 fun t49_24 =>
  f78_l6 t2 t6 t7 t49_24 h_23)
  (f78_r21 t2 t7 h fun h_25 =>
  (ldP h_25 33 t2).bind fun c_26 => finT 0 h_25 c_26) :=
 l_eq (by kernel_rfl)
theorem f78_l4_eq (t2 t3 t6 : V) (h : List V) : f78_l4 t2 t3 t6 h =
 f78_r12 t3 fun t42_15 =>
  V.ite t42_15
  (f78_r14 t3 t6 h fun h_16 =>
  f78_r13 t3 fun t3_17 =>
  f78_l4 t2 t3_17 t6 h_16)
  (f78_r15 h fun t7_18 h_19 =>
  f78_r16 fun t49_20 =>
  f78_l6 t2 t6 t7_18 t49_20 h_19) :=
 l_eq (by kernel_rfl)
theorem f78_l2_eq (t2 t3 t4 t25 : V) (h : List V) : f78_l2 t2 t3 t4 t25 h =
 f78_r7 t25 fun t26_9 =>
  V.ite t26_9
  (f78_r8 t25 fun t5_10 =>
  f78_r9 t3 t4 t5_10 h fun t3_11 =>
  f78_r10 t25 fun t25_12 =>
  f78_l2 t2 t3_11 t4 t25_12 h)
  (f78_r11 h fun t6_13 h_14 =>
  f78_l4 t2 t3 t6_13 h_14) :=
 l_eq (by kernel_rfl)
theorem f78_l0_eq (t2 t3 t4 : V) (h : List V) : f78_l0 t2 t3 t4 h =
 f78_r4 t3 fun t21_6 =>
  V.ite t21_6
  (f78_r5 t3 h fun t3_7 =>
  f78_l0 t2 t3_7 t4 h)
  (f78_r6 fun t25_8 =>
  f78_l2 t2 t3 t4 t25_8 h) :=
 l_eq (by kernel_rfl)
theorem f78_eq (t0 : V) : Cl 78 [t0] [] =
 f78_r0 [] fun t2_1 h_2 =>
  f78_r1 t0 h_2 fun t3_3 =>
  f78_r2 t3_3 h_2 fun t4_4 =>
  f78_r3 t3_3 h_2 fun t3_5 =>
  f78_l0 t2_1 t3_5 t4_4 h_2 :=
 f_eq (by kernel_rfl)
/-- modillion/tree.Leaf -/
noncomputable def f79_r0 (h : List V) (k : V → List V → Rv) : Rv :=
 k (V.ref (List.length h) [] 33) (h ++ [zero P 33])
noncomputable def f79_r1 (t0 t2 : V) (h : List V) (k : List V → Rv) : Rv :=
 (bldS P 55 1 [(0, (V.int .u8 0))]).bind fun t3 => (conv P h 9 55 t0).bind fun t5 => (bldS P 123 2 [(0, t3), (1, t5)]).bind fun t6 => (Cl 78 (reifyL h [t6]) []).bind fun r => (sto P h 33 t2 r.1).bind fun h_1 => k h_1
theorem f79_eq (t0 : V) : Cl 79 [t0] [] =
 f79_r0 [] fun t2_1 h_2 =>
  f79_r1 t0 t2_1 h_2 fun h_3 =>
  (ldP h_3 33 t2_1).bind fun c_4 => finT 0 h_3 c_4 :=
 f_eq (by kernel_rfl)
/-- modillion/tree.Half -/
noncomputable def f80_l0 (t0 t3 : V) : Rv := lp W 80 0 (cd 80 71) (bk 0 (sk 80 0 31 (lv 80 0))) ⟨[(0, t0), (3, t3)], []⟩
theorem f80_l0_eq (t0 t3 : V) : f80_l0 t0 t3 =
 (bin .sub t0 t3).bind fun t9_2 => (bin .lss t3 t9_2).bind fun t10_3 => V.ite t10_3
  ((bin .mul t3 (V.int .i64 2)).bind fun t12_4 => f80_l0 t0 t12_4)
  (finT 0 [] t3) :=
 l_eq (by kernel_rfl)
theorem f80_eq (t0 : V) : Cl 80 [t0] [] =
 (bin .lss t0 (V.int .i64 2)).bind fun t5_1 => V.ite t5_1
  (finT 0 [] (V.int .i64 0))
  (f80_l0 t0 (V.int .i64 1)) :=
 f_eq (by kernel_rfl)
/-- modillion/tree.Node -/
theorem f81_eq (t0 t1 : V) : Cl 81 [t0, t1] [] =
 if ((tyG 32) t0 && V.under 0 t0) = true then if ((tyG 32) t1 && V.under 1 t1) = true then (bsL 5 false (ck [(tyI .u8) (V.int .u8 1)] [(V.int .u8 1)])).bind fun t5_1 => (slA 33 32 32 5 (V.ref 0 [] 33) none none none).bind fun t6_2 => (slA 33 32 32 5 (V.ref 1 [] 33) none none none).bind fun t7_3 => (bsL 55 true (ck [(tyL 5) t5_1, (tyL 5) t6_2, (tyL 5) t7_3] [(V.weak t5_1), (V.weak t6_2), (V.weak t7_3)])).bind fun t8_4 => (Cl 78 (reifyL [t0, t1, (V.agg 32 (List.replicate 32 (V.int .u8 0)))] [t8_4]) []).bind fun r_5 => (stT (tyG 32) 33 [t0, t1, (V.agg 32 (List.replicate 32 (V.int .u8 0)))] (V.ref 2 [] 33) r_5.1).bind fun h_6 => (ldP h_6 33 (V.ref 2 [] 33)).bind fun c_7 => finT 0 h_6 c_7 else none else none :=
 f_eq (by kernel_rfl)
/-- slices.pdqsortCmpFunc[modillion/api.Msg] -/
noncomputable def f82_r0 (k : V → Rv) : Rv :=
 k (V.bool true)
noncomputable def f82_r1 (k : V → Rv) : Rv :=
 k (V.bool true)
noncomputable def f82_l0 (t0 t1 t2 t3 t4 t10 t11 : V) (n : Nat) (h : List V) : Rv := lp W 82 0 (cd 82 19) (bk 0 (lv 82 n)) ⟨[(0, t0), (1, t1), (2, t2), (3, t3), (4, t4), (10, t10), (11, t11)], h⟩
noncomputable def f82_r2 (t1 t2 : V) (k : V → Rv) : Rv :=
 (bin .sub t2 t1).bind fun t23 => k t23
noncomputable def f82_r3 (t12 : V) (k : V → Rv) : Rv :=
 (bin .leq t12 (V.int .i64 12)).bind fun t25 => k t25
noncomputable def f82_r4 (t0 t1 t2 t4 : V) (h : List V) (k : List V → Rv) : Rv :=
 (Cl 95 (normL [t0, t1, t2, t4]) h).bind fun r => k r.2
noncomputable def f82_r5 (t3 : V) (k : V → Rv) : Rv :=
 (bin .eql t3 (V.int .i64 0)).bind fun t32 => k t32
noncomputable def f82_r6 (t0 t1 t2 t4 : V) (h : List V) (k : List V → Rv) : Rv :=
 (Cl 96 (normL [t0, t1, t2, t4]) h).bind fun r => k r.2
noncomputable def f82_r7 (t10 : V) (k : V → Rv) : Rv :=
 (un .not t10).bind fun t39 => k t39
noncomputable def f82_r10 (t0 t1 t2 t4 : V) (h : List V) (k : V → V → List V → Rv) : Rv :=
 (Cl 98 (normL [(V.weak t0), t1, t2, t4]) h).bind fun r => (ext r.1 0).bind fun t53 => (ext r.1 1).bind fun t54 => k t53 t54 r.2
noncomputable def f82_r11 (t14 : V) (k : V → Rv) : Rv :=
 (bin .eql t14 (V.int .i64 2)).bind fun t56 => k t56
noncomputable def f82_r15 (t10 t11 t14 : V) (k : V → Rv) : Rv :=
 V.ite t10 (V.ite t11 ((bin .eql t14 (V.int .i64 1)).bind fun t74 => k t74) (k (V.bool false))) (k (V.bool false))
noncomputable def f82_r17 (t0 t1 t4 t13 : V) (h : List V) (k : V → List V → Rv) : Rv :=
 (bin .gtr t1 (V.int .i64 0)).bind fun t82 => V.ite t82 ((bin .sub t1 (V.int .i64 1)).bind fun t87 => (indexA P 23 (V.weak t0) t87).bind fun t88 => (ldP h 38 t88).bind fun t89 => (indexA P 23 (V.weak t0) t13).bind fun t92 => (ldP h 38 t92).bind fun t93 => callV P ann W t4 [t89, t93] h fun t94 h_1 => if V.noOwn t94 = true then (bin .lss t94 (V.int .i64 0)).bind fun t95 => (un .not t95).bind fun t96 => k t96 h_1 else none) (k (V.bool false) h)
noncomputable def f82_r18 (t0 t1 t2 t4 t13 : V) (h : List V) (k : V → List V → Rv) : Rv :=
 (Cl 101 (normL [(V.weak t0), t1, t2, t13, t4]) h).bind fun r => k r.1 r.2
noncomputable def f82_r19 (t15 : V) (k : V → Rv) : Rv :=
 k t15
noncomputable def f82_r20 (t0 t1 t2 t4 t13 : V) (h : List V) (k : V → V → List V → Rv) : Rv :=
 (Cl 102 (normL [(V.weak t0), t1, t2, t13, t4]) h).bind fun r => (ext r.1 0).bind fun t112 => (ext r.1 1).bind fun t113 => k t112 t113 r.2
noncomputable def f82_r21 (t17 : V) (k : V → Rv) : Rv :=
 k t17
noncomputable def f82_r22 (t1 t2 t16 : V) (k : V → V → Rv) : Rv :=
 (bin .sub t16 t1).bind fun t117 => (bin .sub t2 t16).bind fun t120 => k t117 t120
noncomputable def f82_r23 (t12 : V) (k : V → Rv) : Rv :=
 (bin .quo t12 (V.int .i64 8)).bind fun t122 => k t122
noncomputable def f82_r24 (t18 t19 : V) (k : V → Rv) : Rv :=
 (bin .lss t18 t19).bind fun t125 => k t125
noncomputable def f82_r25 (t18 t20 : V) (k : V → Rv) : Rv :=
 (bin .geq t18 t20).bind fun t128 => k t128
noncomputable def f82_r26 (t0 t1 t3 t4 t16 : V) (h : List V) (k : List V → Rv) : Rv :=
 (Cl 82 (normL [(V.weak t0), t1, t16, t3, t4]) h).bind fun r => k r.2
noncomputable def f82_r27 (t16 : V) (k : V → Rv) : Rv :=
 (bin .add t16 (V.int .i64 1)).bind fun t136 => k t136
noncomputable def f82_r28 (t19 t20 : V) (k : V → Rv) : Rv :=
 (bin .geq t19 t20).bind fun t139 => k t139
noncomputable def f82_r29 (t0 t2 t3 t4 t16 : V) (h : List V) (k : List V → Rv) : Rv :=
 (bin .add t16 (V.int .i64 1)).bind fun t142 => (Cl 82 (normL [(V.weak t0), t142, t2, t3, t4]) h).bind fun r => k r.2
noncomputable def f82_r30 (t16 : V) (k : V → Rv) : Rv :=
 k t16
noncomputable def f82_r16 (t0 t1 t2 t4 : V) (h : List V) (k : V → List V → Rv) : Rv :=
 (Cl 100 (normL [(V.weak t0), t1, t2, t4]) h).bind fun r => k r.1 r.2
noncomputable def f82_r12 (t0 t1 t2 t4 : V) (h : List V) (k : List V → Rv) : Rv :=
 (Cl 99 (normL [(V.weak t0), t1, t2, t4]) h).bind fun r => k r.2
noncomputable def f82_r13 (t1 t2 t13 : V) (k : V → Rv) : Rv :=
 (bin .sub t2 (V.int .i64 1)).bind fun t63 => (bin .sub t13 t1).bind fun t66 => (bin .sub t63 t66).bind fun t67 => k t67
noncomputable def f82_r14 (k : V → Rv) : Rv :=
 k (V.int .i64 1)
noncomputable def f82_r8 (t0 t1 t2 t4 : V) (h : List V) (k : List V → Rv) : Rv :=
 (Cl 97 (normL [(V.weak t0), t1, t2, t4]) h).bind fun r => k r.2
noncomputable def f82_r9 (t3 : V) (k : V → Rv) : Rv :=
 (bin .sub t3 (V.int .i64 1)).bind fun t46 => k t46
theorem f82_l0_eq (t0 t1 t2 t3 t4 t10 t11 : V) (n : Nat) (h : List V) : f82_l0 t0 t1 t2 t3 t4 t10 t11 n h =
 f82_r2 t1 t2 fun t12_3 =>
  f82_r3 t12_3 fun t25_4 =>
  V.ite t25_4
  (f82_r4 t0 t1 t2 t4 h fun h_5 =>
  if (List.all [] V.okE) = true then finT n h_5 (V.tup []) else none)
  (f82_r5 t3 fun t32_6 =>
  V.ite t32_6
  (f82_r6 t0 t1 t2 t4 h fun h_7 =>
  if (List.all [] V.okE) = true then finT n h_7 (V.tup []) else none)
  (f82_r7 t10 fun t39_8 =>
  jn (fun t3_9 h_10 => f82_r10 t0 t1 t2 t4 h_10 fun t13_11 t14_12 h_13 =>
  f82_r11 t14_12 fun t56_14 =>
  jn (fun t13_15 t14_16 h_17 => f82_r15 t10 t11 t14_16 fun t75_18 =>
  jn (fun h_19 => f82_r17 t0 t1 t4 t13_15 h_19 fun t97_20 h_21 =>
  V.ite t97_20
  (f82_r18 t0 t1 t2 t4 t13_15 h_21 fun t15_22 h_23 =>
  f82_r19 t15_22 fun t1_24 =>
  f82_l0 t0 t1_24 t2 t3_9 t4 t10 t11 n h_23)
  (f82_r20 t0 t1 t2 t4 t13_15 h_21 fun t16_25 t17_26 h_27 =>
  f82_r21 t17_26 fun t11_28 =>
  f82_r22 t1 t2 t16_25 fun t18_29 t19_30 =>
  f82_r23 t12_3 fun t20_31 =>
  f82_r24 t18_29 t19_30 fun t125_32 =>
  V.ite t125_32
  (f82_r25 t18_29 t20_31 fun t10_33 =>
  f82_r26 t0 t1 t3_9 t4 t16_25 h_27 fun h_34 =>
  f82_r27 t16_25 fun t1_35 =>
  f82_l0 t0 t1_35 t2 t3_9 t4 t10_33 t11_28 n h_34)
  (f82_r28 t19_30 t20_31 fun t10_36 =>
  f82_r29 t0 t2 t3_9 t4 t16_25 h_27 fun h_37 =>
  f82_r30 t16_25 fun t2_38 =>
  f82_l0 t0 t1 t2_38 t3_9 t4 t10_36 t11_28 n h_37)))
  (fun (j2 : List V → Rv) => V.ite t75_18
  (f82_r16 t0 t1 t2 t4 h_17 fun t80_39 h_40 =>
  V.ite t80_39
  (if (List.all [] V.okE) = true then finT n h_40 (V.tup []) else none)
  (j2 h_40))
  (j2 h_17)))
  (fun (j1 : V → V → List V → Rv) => V.ite t56_14
  (f82_r12 t0 t1 t2 t4 h_13 fun h_41 =>
  f82_r13 t1 t2 t13_11 fun t13_42 =>
  f82_r14 fun t14_43 =>
  j1 t13_42 t14_43 h_41)
  (j1 t13_11 t14_12 h_13)))
  (fun (j0 : V → List V → Rv) => V.ite t39_8
  (f82_r8 t0 t1 t2 t4 h fun h_44 =>
  f82_r9 t3 fun t3_45 =>
  j0 t3_45 h_44)
  (j0 t3 h)))) :=
 l_eq (y_block <| y_seq <| y_reg (fun K u12 => K ⟨[(0, t0), (1, t1), (2, t2), (3, t3), (4, t4), (10, t10), (11, t11), (12, u12)], h⟩) (funext fun t12_3 => seqK_n <| y_seq <| y_seq <| y_reg (fun K u25 => K ⟨[(0, t0), (1, t1), (2, t2), (3, t3), (4, t4), (10, t10), (11, t11), (12, t12_3), (25, u25)], h⟩) (funext fun t25_4 => seqK_n <| y_cond (by kernel_rfl) (y_skip <| seqK_n <| y_seq <| y_seq <| y_reg (fun K u32 => K ⟨[(0, t0), (1, t1), (2, t2), (3, t3), (4, t4), (10, t10), (11, t11), (12, t12_3), (32, u32)], h⟩) (funext fun t32_6 => seqK_n <| y_cond (by kernel_rfl) (y_skip <| seqK_n <| y_seq <| y_seq <| y_reg (fun K u39 => K ⟨[(0, t0), (1, t1), (2, t2), (3, t3), (4, t4), (10, t10), (11, t11), (12, t12_3), (39, u39)], h⟩) (funext fun t39_8 => seqK_n <| y_jn (fun K t3_9 h_10 => K ⟨[(0, t0), (1, t1), (2, t2), (3, t3_9), (4, t4), (10, t10), (11, t11), (12, t12_3)], h_10⟩) (funext fun t3_9 => funext fun h_10 => seqK_n <| y_seq <| y_reg (fun K u13 u14 h' => K ⟨[(0, t0), (1, t1), (2, t2), (3, t3_9), (4, t4), (10, t10), (11, t11), (12, t12_3), (13, u13), (14, u14)], h'⟩) (funext fun t13_11 => funext fun t14_12 => funext fun h_13 => seqK_n <| y_seq <| y_seq <| y_reg (fun K u56 => K ⟨[(0, t0), (1, t1), (2, t2), (3, t3_9), (4, t4), (10, t10), (11, t11), (12, t12_3), (13, t13_11), (14, t14_12), (56, u56)], h_13⟩) (funext fun t56_14 => seqK_n <| y_jn (fun K t13_15 t14_16 h_17 => K ⟨[(0, t0), (1, t1), (2, t2), (3, t3_9), (4, t4), (10, t10), (11, t11), (12, t12_3), (13, t13_15), (14, t14_16)], h_17⟩) (funext fun t13_15 => funext fun t14_16 => funext fun h_17 => seqK_n <| y_seq <| y_seq <| y_reg (fun K u75 => K ⟨[(0, t0), (1, t1), (2, t2), (3, t3_9), (4, t4), (10, t10), (11, t11), (12, t12_3), (13, t13_15), (75, u75)], h_17⟩) (funext fun t75_18 => seqK_n <| y_jn (fun K h_19 => K ⟨[(0, t0), (1, t1), (2, t2), (3, t3_9), (4, t4), (10, t10), (11, t11), (12, t12_3), (13, t13_15)], h_19⟩) (funext fun h_19 => by kernel_rfl) (y_cond (y_seq <| y_reg (fun K u80 h' => K ⟨[(0, t0), (1, t1), (2, t2), (3, t3_9), (4, t4), (10, t10), (11, t11), (12, t12_3), (13, t13_15), (80, u80)], h'⟩) (funext fun t80_39 => funext fun h_40 => seqK_n <| y_cond (by kernel_rfl) (y_skip <| y_nf))) (y_skip <| y_nf)))) (y_cond (y_seq <| y_reg (fun K h' => K ⟨[(0, t0), (1, t1), (2, t2), (3, t3_9), (4, t4), (10, t10), (11, t11), (12, t12_3), (13, t13_11)], h'⟩) (funext fun h_41 => seqK_n <| y_seq <| y_reg (fun K u13 => K ⟨[(0, t0), (1, t1), (2, t2), (3, t3_9), (4, t4), (10, t10), (11, t11), (12, t12_3), (13, u13)], h_41⟩) (funext fun t13_42 => seqK_n <| y_reg (fun K u14 => K ⟨[(0, t0), (1, t1), (2, t2), (3, t3_9), (4, t4), (10, t10), (11, t11), (12, t12_3), (13, t13_42), (14, u14)], h_41⟩) (funext fun t14_43 => rfl)))) (y_skip <| y_nf))))) (y_cond (y_seq <| y_reg (fun K h' => K ⟨[(0, t0), (1, t1), (2, t2), (3, t3), (4, t4), (10, t10), (11, t11), (12, t12_3)], h'⟩) (funext fun h_44 => seqK_n <| y_reg (fun K u3 => K ⟨[(0, t0), (1, t1), (2, t2), (3, u3), (4, t4), (10, t10), (11, t11), (12, t12_3)], h_44⟩) (funext fun t3_45 => rfl))) (y_skip <| y_nf)))))))))
theorem f82_eq (t0 t1 t2 t3 t4 : V) (h : List V) : Cl 82 [t0, t1, t2, t3, t4] h =
 f82_r0 fun t10_1 =>
  f82_r1 fun t11_2 =>
  f82_l0 t0 t1 t2 t3 t4 t10_1 t11_2 (List.length h) h :=
 f_eq (by kernel_rfl)
/-- math/bits.Len -/
noncomputable def f83_r0 (k : Rv) : Rv :=
 k
noncomputable def f83_r1 (t0 : V) (k : V → Rv) : Rv :=
 (conv P [] 98 125 t0).bind fun t4 => (Cl 103 (reifyL [] [t4]) []).bind fun r => k r.1
noncomputable def f83_r2 (t0 : V) (k : V → Rv) : Rv :=
 (Cl 104 (reifyL [] [t0]) []).bind fun r => k r.1
theorem f83_eq (t0 : V) : Cl 83 [t0] [] =
 f83_r0 (V.ite (V.bool false)
  (f83_r1 t0 fun t2_1 =>
  finT 0 [] t2_1)
  (f83_r2 t0 fun t2_2 =>
  finT 0 [] t2_2)) :=
 f_eq (by kernel_rfl)
/-- cmp.Or[int] -/
noncomputable def f84_r0 (k : Rv) : Rv :=
 k
noncomputable def f84_r1 (k : V → Rv) : Rv :=
 k (V.int .i64 0)
noncomputable def f84_r2 (t0 : V) (k : V → V → V → Rv) : Rv :=
 (lenV P 83 t0).bind fun t7 => k t0 t7 (V.int .i64 0)
noncomputable def f84_l0 (t3 t6 t7 t8 : V) : Rv := lp W 84 0 (cd 84 75) (bk 0 (sk 84 0 15 (lv 84 0))) ⟨[(3, t3), (6, t6), (7, t7), (8, t8)], []⟩
noncomputable def f84_r3 (t7 t8 : V) (k : V → Rv) : Rv :=
 (bin .lss t8 t7).bind fun t9 => k t9
noncomputable def f84_r4 (t6 t8 : V) (k : V → Rv) : Rv :=
 (indexA P 83 t6 t8).bind fun t10 => (ldP [] 3 t10).bind fun t11 => k t11
noncomputable def f84_r5 (t3 t5 : V) (k : V → Rv) : Rv :=
 (bin .neq t5 t3).bind fun t14 => k t14
noncomputable def f84_r6 (t5 : V) (k : V → Rv) : Rv :=
 k t5
noncomputable def f84_r7 (t8 : V) (k : V → Rv) : Rv :=
 (bin .add t8 (V.int .i64 1)).bind fun t16 => k t16
noncomputable def f84_r8 (t3 : V) (k : V → Rv) : Rv :=
 k t3
theorem f84_l0_eq (t3 t6 t7 t8 : V) : f84_l0 t3 t6 t7 t8 =
 f84_r3 t7 t8 fun t9_5 =>
  V.ite t9_5
  (f84_r4 t6 t8 fun t5_6 =>
  f84_r5 t3 t5_6 fun t14_7 =>
  V.ite t14_7
  (f84_r6 t5_6 fun t2_8 =>
  finT 0 [] t2_8)
  (f84_r7 t8 fun t8_9 =>
  f84_l0 t3 t6 t7 t8_9))
  (f84_r8 t3 fun t2_10 =>
  finT 0 [] t2_10) :=
 l_eq (by kernel_rfl)
theorem f84_eq (t0 : V) : Cl 84 [t0] [] =
 f84_r0 (f84_r1 fun t3_1 =>
  f84_r2 t0 fun t6_2 t7_3 t8_4 =>
  f84_l0 t3_1 t6_2 t7_3 t8_4) :=
 f_eq (by kernel_rfl)
/-- cmp.Compare[int] -/
noncomputable def f85_r0 (k : Rv) : Rv :=
 k
noncomputable def f85_r1 (t0 : V) (k : V → Rv) : Rv :=
 (Cl 105 (reifyL [] [t0]) []).bind fun r => k r.1
noncomputable def f85_r2 (t1 : V) (k : V → Rv) : Rv :=
 (Cl 105 (reifyL [] [t1]) []).bind fun r => k r.1
noncomputable def f85_r3 (t5 : V) (k : V → Rv) : Rv :=
 k t5
noncomputable def f85_r4 (t6 : V) (k : V → Rv) : Rv :=
 k t6
noncomputable def f85_r5 (k : V → Rv) : Rv :=
 k (V.int .i64 0)
noncomputable def f85_r6 (k : V → Rv) : Rv :=
 k (V.int .i64 (-1))
noncomputable def f85_r7 (t6 : V) (k : V → Rv) : Rv :=
 k t6
noncomputable def f85_r8 (k : V → Rv) : Rv :=
 k (V.int .i64 1)
noncomputable def f85_r9 (t0 t1 : V) (k : V → Rv) : Rv :=
 (bin .lss t0 t1).bind fun t16 => k t16
noncomputable def f85_r10 (k : V → Rv) : Rv :=
 k (V.int .i64 (-1))
noncomputable def f85_r11 (t0 t1 : V) (k : V → Rv) : Rv :=
 (bin .gtr t0 t1).bind fun t19 => k t19
noncomputable def f85_r12 (k : V → Rv) : Rv :=
 k (V.int .i64 1)
noncomputable def f85_r13 (k : V → Rv) : Rv :=
 k (V.int .i64 0)
theorem f85_eq (t0 t1 : V) : Cl 85 [t0, t1] [] =
 f85_r0 (f85_r1 t0 fun t5_1 =>
  f85_r2 t1 fun t6_2 =>
  f85_r3 t5_1 fun t11_3 =>
  V.ite t11_3
  (f85_r4 t6_2 fun t12_4 =>
  V.ite t12_4
  (f85_r5 fun t4_5 =>
  finT 0 [] t4_5)
  (f85_r6 fun t4_6 =>
  finT 0 [] t4_6))
  (f85_r7 t6_2 fun t13_7 =>
  V.ite t13_7
  (f85_r8 fun t4_8 =>
  finT 0 [] t4_8)
  (f85_r9 t0 t1 fun t16_9 =>
  V.ite t16_9
  (f85_r10 fun t4_10 =>
  finT 0 [] t4_10)
  (f85_r11 t0 t1 fun t19_11 =>
  V.ite t19_11
  (f85_r12 fun t4_12 =>
  finT 0 [] t4_12)
  (f85_r13 fun t4_13 =>
  finT 0 [] t4_13))))) :=
 f_eq (by kernel_rfl)
/-- cmp.Compare[int64] -/
noncomputable def f86_r0 (k : Rv) : Rv :=
 k
noncomputable def f86_r1 (t0 : V) (k : V → Rv) : Rv :=
 (Cl 106 (reifyL [] [t0]) []).bind fun r => k r.1
noncomputable def f86_r2 (t1 : V) (k : V → Rv) : Rv :=
 (Cl 106 (reifyL [] [t1]) []).bind fun r => k r.1
noncomputable def f86_r3 (t5 : V) (k : V → Rv) : Rv :=
 k t5
noncomputable def f86_r4 (t6 : V) (k : V → Rv) : Rv :=
 k t6
noncomputable def f86_r5 (k : V → Rv) : Rv :=
 k (V.int .i64 0)
noncomputable def f86_r6 (k : V → Rv) : Rv :=
 k (V.int .i64 (-1))
noncomputable def f86_r7 (t6 : V) (k : V → Rv) : Rv :=
 k t6
noncomputable def f86_r8 (k : V → Rv) : Rv :=
 k (V.int .i64 1)
noncomputable def f86_r9 (t0 t1 : V) (k : V → Rv) : Rv :=
 (bin .lss t0 t1).bind fun t16 => k t16
noncomputable def f86_r10 (k : V → Rv) : Rv :=
 k (V.int .i64 (-1))
noncomputable def f86_r11 (t0 t1 : V) (k : V → Rv) : Rv :=
 (bin .gtr t0 t1).bind fun t19 => k t19
noncomputable def f86_r12 (k : V → Rv) : Rv :=
 k (V.int .i64 1)
noncomputable def f86_r13 (k : V → Rv) : Rv :=
 k (V.int .i64 0)
theorem f86_eq (t0 t1 : V) : Cl 86 [t0, t1] [] =
 f86_r0 (f86_r1 t0 fun t5_1 =>
  f86_r2 t1 fun t6_2 =>
  f86_r3 t5_1 fun t11_3 =>
  V.ite t11_3
  (f86_r4 t6_2 fun t12_4 =>
  V.ite t12_4
  (f86_r5 fun t4_5 =>
  finT 0 [] t4_5)
  (f86_r6 fun t4_6 =>
  finT 0 [] t4_6))
  (f86_r7 t6_2 fun t13_7 =>
  V.ite t13_7
  (f86_r8 fun t4_8 =>
  finT 0 [] t4_8)
  (f86_r9 t0 t1 fun t16_9 =>
  V.ite t16_9
  (f86_r10 fun t4_10 =>
  finT 0 [] t4_10)
  (f86_r11 t0 t1 fun t19_11 =>
  V.ite t19_11
  (f86_r12 fun t4_12 =>
  finT 0 [] t4_12)
  (f86_r13 fun t4_13 =>
  finT 0 [] t4_13))))) :=
 f_eq (by kernel_rfl)
/-- modillion/state.Put -/
theorem f87_eq (t0 : V) : Cl 87 [t0] [] =
 if ((tyG 118) t0 && V.under 0 t0) = true then (ldP [t0] 119 (V.ref 0 [] 119)).bind fun t4_1 => (Cl 107 (reifyL [t0] [t4_1]) []).bind fun r_2 => (bin .neq r_2.1 (V.int .i64 0)).bind fun t6_3 => V.ite t6_3
  (finT 0 [t0] (V.str []))
  ((Cl 44 (normL []) [t0]).bind fun r_4 => (fA 119 3 0 (V.ref 0 [] 119)).bind fun t9_5 => (ldP r_4.2 3 t9_5).bind fun t10_6 => (cvI .u64 t10_6).bind fun t11_7 => (Cl 45 (normL [r_4.1, t11_7]) r_4.2).bind fun r_8 => (fA 119 2 1 (V.ref 0 [] 119)).bind fun t14_9 => (ldP r_8.2 2 t14_9).bind fun t15_10 => (Cl 77 (normL [r_4.1, t15_10]) r_8.2).bind fun r_11 => (fA 119 4 2 (V.ref 0 [] 119)).bind fun t18_12 => (ldP r_11.2 4 t18_12).bind fun t19_13 => (Cl 108 (reifyL r_11.2 [t19_13]) []).bind fun r_14 => (Cl 45 (normL [r_4.1, r_14.1]) r_11.2).bind fun r_15 => (fA 119 4 3 (V.ref 0 [] 119)).bind fun t23_16 => (ldP r_15.2 4 t23_16).bind fun t24_17 => (Cl 108 (reifyL r_15.2 [t24_17]) []).bind fun r_18 => (Cl 45 (normL [r_4.1, r_18.1]) r_15.2).bind fun r_19 => (fA 119 2 4 (V.ref 0 [] 119)).bind fun t28_20 => (ldP r_19.2 2 t28_20).bind fun t29_21 => (Cl 77 (normL [r_4.1, t29_21]) r_19.2).bind fun r_22 => (Cl 47 (normL [r_4.1]) r_22.2).bind fun r_23 => finT 0 r_23.2 r_23.1) else none :=
 f_eq (by kernel_rfl)
/-- bytes.Join -/
noncomputable def f93_r0 (k : Rv) : Rv :=
 k
noncomputable def f93_r1 (t0 : V) (k : V → Rv) : Rv :=
 (lenV P 123 (V.weak t0)).bind fun t13 => (bin .eql t13 (V.int .i64 0)).bind fun t14 => k t14
noncomputable def f93_r2 (h : List V) (k : V → List V → Rv) : Rv :=
 (bldS P 55 0 []).bind fun v => (toBox h v).bind fun r => k r.1 r.2
noncomputable def f93_r3 (t0 : V) (k : V → Rv) : Rv :=
 (lenV P 123 (V.weak t0)).bind fun t17 => (bin .eql t17 (V.int .i64 1)).bind fun t18 => k t18
noncomputable def f93_r4 (t0 : V) (h : List V) (k : V → List V → Rv) : Rv :=
 (indexA P 123 t0 (V.int .i64 0)).bind fun t20 => (ldS h 55 t20).bind fun t21 => (appd P 55 h (V.lst 5 .nil []) t21).bind fun v => (toBox h v).bind fun r => k r.1 r.2
noncomputable def f93_r5 (k : V → Rv) : Rv :=
 k (V.int .i64 0)
noncomputable def f93_r6 (t1 : V) (k : V → Rv) : Rv :=
 (lenV P 55 (V.weak t1)).bind fun t24 => (bin .gtr t24 (V.int .i64 0)).bind fun t25 => k t25
noncomputable def f93_r10 (t0 : V) (k : V → V → V → Rv) : Rv :=
 (lenV P 123 (V.weak t0)).bind fun t43 => k (V.weak t0) t43 (V.int .i64 0)
noncomputable def f93_l0 (t0 t1 t5 t42 t43 t44 : V) (h : List V) : Rv := lp W 93 0 (cd 93 607) (bk 0 (sk 93 0 127 (lv 93 0))) ⟨[(0, t0), (1, t1), (5, t5), (42, t42), (43, t43), (44, t44)], h⟩
noncomputable def f93_r11 (t43 t44 : V) (k : V → Rv) : Rv :=
 (bin .lss t44 t43).bind fun t45 => k t45
noncomputable def f93_r12 (t42 t44 : V) (h : List V) (k : V → Rv) : Rv :=
 (indexA P 123 t42 t44).bind fun t46 => (ldS h 55 t46).bind fun t47 => k t47
noncomputable def f93_r13 (t5 t7 : V) (k : V → Rv) : Rv :=
 (lenV P 55 (V.weak t7)).bind fun t49 => (bin .sub (V.int .i64 9223372036854775807) t5).bind fun t51 => (bin .gtr t49 t51).bind fun t52 => k t52
noncomputable def f93_r15 (t5 t7 : V) (k : V → Rv) : Rv :=
 (lenV P 55 t7).bind fun t56 => (bin .add t5 t56).bind fun t57 => k t57
noncomputable def f93_r16 (t44 : V) (k : V → Rv) : Rv :=
 (bin .add t44 (V.int .i64 1)).bind fun t58 => k t58
noncomputable def f93_r17 (t5 : V) (h : List V) (k : V → List V → Rv) : Rv :=
 mnz P 113 [t5] h fun t60 h_1 => (sli P 55 t60 none (some t5) (some t5)).bind fun t63 => k t63 h_1
noncomputable def f93_r18 (t0 t8 : V) (h : List V) (k : V → List V → Rv) : Rv :=
 (indexA P 123 (V.weak t0) (V.int .i64 0)).bind fun t66 => (ldS h 55 t66).bind fun t67 => (cpy P 55 h (V.weak t8) t67).bind fun r => k r.1 r.2
noncomputable def f93_r19 (t0 : V) (k : V → V → V → Rv) : Rv :=
 (sli P 123 t0 (some (V.int .i64 1)) none none).bind fun t70 => (lenV P 123 t70).bind fun t71 => k t70 t71 (V.int .i64 0)
noncomputable def f93_l2 (t1 t8 t9 t70 t71 t72 : V) (h : List V) : Rv := lp W 93 2 (cd 93 4863) (bk 2 (sk 93 0 1023 (lv 93 0))) ⟨[(1, t1), (8, t8), (9, t9), (70, t70), (71, t71), (72, t72)], h⟩
noncomputable def f93_r20 (t71 t72 : V) (k : V → Rv) : Rv :=
 (bin .lss t72 t71).bind fun t73 => k t73
noncomputable def f93_r21 (t70 t72 : V) (h : List V) (k : V → Rv) : Rv :=
 (indexA P 123 t70 t72).bind fun t74 => (ldS h 55 t74).bind fun t75 => k t75
noncomputable def f93_r22 (t1 t8 t9 : V) (h : List V) (k : V → List V → Rv) : Rv :=
 (sli P 55 (V.weak t8) (some t9) none none).bind fun t79 => (cpy P 55 h t79 (V.weak t1)).bind fun r => (bin .add t9 r.1).bind fun t82 => k t82 r.2
noncomputable def f93_r23 (t8 t9 t11 : V) (h : List V) (k : V → List V → Rv) : Rv :=
 (sli P 55 (V.weak t8) (some t9) none none).bind fun t86 => (cpy P 55 h t86 t11).bind fun r => (bin .add t9 r.1).bind fun t89 => k t89 r.2
noncomputable def f93_r24 (t72 : V) (k : V → Rv) : Rv :=
 (bin .add t72 (V.int .i64 1)).bind fun t90 => k t90
noncomputable def f93_r25 (t8 : V) (k : V → Rv) : Rv :=
 k t8
theorem f93_l2_eq (t1 t8 t9 t70 t71 t72 : V) (h : List V) : f93_l2 t1 t8 t9 t70 t71 t72 h =
 f93_r20 t71 t72 fun t73_25 =>
  V.ite t73_25
  (f93_r21 t70 t72 h fun t11_26 =>
  f93_r22 t1 t8 t9 h fun t9_27 h_28 =>
  f93_r23 t8 t9_27 t11_26 h_28 fun t9_29 h_30 =>
  f93_r24 t72 fun t72_31 =>
  f93_l2 t1 t8 t9_29 t70 t71 t72_31 h_30)
  (f93_r25 t8 fun t4_32 =>
  finO 0 h t4_32) :=
 l_eq (by kernel_rfl)
theorem f93_l0_eq (t0 t1 t5 t42 t43 t44 : V) (h : List V) : f93_l0 t0 t1 t5 t42 t43 t44 h =
 f93_r11 t43 t44 fun t45_13 =>
  V.ite t45_13
  (f93_r12 t42 t44 h fun t7_14 =>
  f93_r13 t5 t7_14 fun t52_15 =>
  V.ite t52_15
  (none)
  (f93_r15 t5 t7_14 fun t5_16 =>
  f93_r16 t44 fun t44_17 =>
  f93_l0 t0 t1 t5_16 t42 t43 t44_17 h))
  (f93_r17 t5 h fun t8_18 h_19 =>
  f93_r18 t0 t8_18 h_19 fun t9_20 h_21 =>
  f93_r19 t0 fun t70_22 t71_23 t72_24 =>
  f93_l2 t1 t8_18 t9_20 t70_22 t71_23 t72_24 h_21) :=
 l_eq (by kernel_rfl)
noncomputable def f93_r7 (t0 t1 : V) (k : V → Rv) : Rv :=
 (lenV P 55 (V.weak t1)).bind fun t27 => (lenV P 123 (V.weak t0)).bind fun t29 => (bin .sub t29 (V.int .i64 1)).bind fun t30 => (bin .quo (V.int .i64 9223372036854775807) t30).bind fun t31 => (bin .geq t27 t31).bind fun t32 => k t32
noncomputable def f93_r9 (t0 t1 t5 : V) (k : V → Rv) : Rv :=
 (lenV P 55 (V.weak t1)).bind fun t36 => (lenV P 123 (V.weak t0)).bind fun t38 => (bin .sub t38 (V.int .i64 1)).bind fun t39 => (bin .mul t36 t39).bind fun t40 => (bin .add t5 t40).bind fun t41 => k t41
theorem f93_eq (t0 t1 : V) : Cl 93 [t0, t1] [] =
 f93_r0 (f93_r1 t0 fun t14_1 =>
  V.ite t14_1
  (f93_r2 [] fun t4_2 h_3 =>
  finO 0 h_3 t4_2)
  (f93_r3 t0 fun t18_4 =>
  V.ite t18_4
  (f93_r4 t0 [] fun t4_5 h_6 =>
  finO 0 h_6 t4_5)
  (f93_r5 fun t5_7 =>
  f93_r6 t1 fun t25_8 =>
  jn (fun t5_9 => f93_r10 t0 fun t42_10 t43_11 t44_12 =>
  f93_l0 t0 t1 t5_9 t42_10 t43_11 t44_12 [])
  (fun (j0 : V → Rv) => V.ite t25_8
  (f93_r7 t0 t1 fun t32_33 =>
  V.ite t32_33
  (none)
  (f93_r9 t0 t1 t5_7 fun t5_34 =>
  j0 t5_34))
  (j0 t5_7))))) :=
 f_eq (y_seq <| y_reg (fun K => K ⟨[(0, t0), (1, t1)], []⟩) (seqK_n <| y_seq <| y_seq <| y_reg (fun K u14 => K ⟨[(0, t0), (1, t1), (14, u14)], []⟩) (funext fun t14_1 => seqK_n <| y_cond (by kernel_rfl) (y_skip <| seqK_n <| y_seq <| y_seq <| y_reg (fun K u18 => K ⟨[(0, t0), (1, t1), (18, u18)], []⟩) (funext fun t18_4 => seqK_n <| y_cond (by kernel_rfl) (y_skip <| seqK_n <| y_seq <| y_reg (fun K u5 => K ⟨[(0, t0), (1, t1), (5, u5)], []⟩) (funext fun t5_7 => seqK_n <| y_seq <| y_seq <| y_reg (fun K u25 => K ⟨[(0, t0), (1, t1), (5, t5_7), (25, u25)], []⟩) (funext fun t25_8 => seqK_n <| y_jn (fun K t5_9 => K ⟨[(0, t0), (1, t1), (5, t5_9)], []⟩) (funext fun t5_9 => by kernel_rfl) (y_cond (by kernel_rfl) (by kernel_rfl))))))))))
/-- modillion/hash.step -/
noncomputable def f94_r0 (t0 : V) (h : List V) (k : V → V → List V → Rv) : Rv :=
 if (tyOk P 126 t0 && V.under (List.length h) t0) = true then k (V.ref (List.length h) [] 126) (V.ref (List.length (h ++ [t0])) [] 126) ((h ++ [t0]) ++ [zero P 126]) else none
noncomputable def f94_r1 (h : List V) (k : V → List V → Rv) : Rv :=
 k (V.ref (List.length h) [] 145) (h ++ [zero P 145])
noncomputable def f94_r2 (k : V → Rv) : Rv :=
 k (V.int .i64 0)
noncomputable def f94_l0 (t1 t2 t4 t5 t23 : V) (h : List V) : Rv := lp W 94 0 (cd 94 75) (bk 0 (sk 94 0 15 (lv 94 0))) ⟨[(1, t1), (2, t2), (4, t4), (5, t5), (23, t23)], h⟩
noncomputable def f94_r3 (t23 : V) (k : V → Rv) : Rv :=
 (bin .lss t23 (V.int .i64 16)).bind fun t24 => k t24
noncomputable def f94_r4 (t23 : V) (k : V → Rv) : Rv :=
 k t23
noncomputable def f94_r5 (t1 t6 : V) (k : V → Rv) : Rv :=
 (bin .mul (V.int .i64 4) t6).bind fun t28 => (bin .mul (V.int .i64 4) t6).bind fun t30 => (bin .add t30 (V.int .i64 4)).bind fun t31 => (sli P 55 (V.weak t1) (some t28) (some t31) none).bind fun t32 => k t32
noncomputable def f94_r6 (t5 t6 t7 : V) (h : List V) (k : List V → Rv) : Rv :=
 (indexA P 55 (V.weak t7) (V.int .i64 0)).bind fun t35 => (ldP h 5 t35).bind fun t36 => (conv P h 5 125 t36).bind fun t37 => (bin .shl t37 (V.int .u64 24)).bind fun t38 => (indexA P 55 (V.weak t7) (V.int .i64 1)).bind fun t40 => (ldP h 5 t40).bind fun t41 => (conv P h 5 125 t41).bind fun t42 => (bin .shl t42 (V.int .u64 16)).bind fun t43 => (bin .or t38 t43).bind fun t44 => (indexA P 55 (V.weak t7) (V.int .i64 2)).bind fun t46 => (ldP h 5 t46).bind fun t47 => (conv P h 5 125 t47).bind fun t48 => (bin .shl t48 (V.int .u64 8)).bind fun t49 => (bin .or t44 t49).bind fun t50 => (indexA P 55 (V.weak t7) (V.int .i64 3)).bind fun t52 => (ldP h 5 t52).bind fun t53 => (conv P h 5 125 t53).bind fun t54 => (bin .or t50 t54).bind fun t55 => (indexA P 145 t5 t6).bind fun t56 => (sto P h 125 t56 t55).bind fun h_1 => k h_1
noncomputable def f94_r7 (t23 : V) (k : V → Rv) : Rv :=
 (bin .add t23 (V.int .i64 1)).bind fun t57 => k t57
noncomputable def f94_r8 (k : V → Rv) : Rv :=
 k (V.int .i64 16)
noncomputable def f94_l2 (t2 t4 t5 t8 : V) (h : List V) : Rv := lp W 94 2 (cd 94 151) (bk 2 (sk 94 0 31 (lv 94 0))) ⟨[(2, t2), (4, t4), (5, t5), (8, t8)], h⟩
noncomputable def f94_r9 (t8 : V) (k : V → Rv) : Rv :=
 (bin .lss t8 (V.int .i64 64)).bind fun t59 => k t59
noncomputable def f94_r11 (t5 t8 : V) (h : List V) (k : V → Rv) : Rv :=
 (bin .sub t8 (V.int .i64 15)).bind fun t63 => (indexA P 145 t5 t63).bind fun t64 => (ldP h 125 t64).bind fun t65 => (Cl 114 (reifyL h [t65, (V.int .i64 7)]) []).bind fun r => (bin .sub t8 (V.int .i64 15)).bind fun t68 => (indexA P 145 t5 t68).bind fun t69 => (ldP h 125 t69).bind fun t70 => (Cl 114 (reifyL h [t70, (V.int .i64 18)]) []).bind fun r_1 => (bin .xor r.1 r_1.1).bind fun t72 => (bin .sub t8 (V.int .i64 15)).bind fun t74 => (indexA P 145 t5 t74).bind fun t75 => (ldP h 125 t75).bind fun t76 => (bin .shr t76 (V.int .u64 3)).bind fun t77 => (bin .xor t72 t77).bind fun t78 => k t78
noncomputable def f94_r12 (t5 t8 : V) (h : List V) (k : V → Rv) : Rv :=
 (bin .sub t8 (V.int .i64 2)).bind fun t80 => (indexA P 145 t5 t80).bind fun t81 => (ldP h 125 t81).bind fun t82 => (Cl 114 (reifyL h [t82, (V.int .i64 17)]) []).bind fun r => (bin .sub t8 (V.int .i64 2)).bind fun t85 => (indexA P 145 t5 t85).bind fun t86 => (ldP h 125 t86).bind fun t87 => (Cl 114 (reifyL h [t87, (V.int .i64 19)]) []).bind fun r_1 => (bin .xor r.1 r_1.1).bind fun t89 => (bin .sub t8 (V.int .i64 2)).bind fun t91 => (indexA P 145 t5 t91).bind fun t92 => (ldP h 125 t92).bind fun t93 => (bin .shr t93 (V.int .u64 10)).bind fun t94 => (bin .xor t89 t94).bind fun t95 => k t95
noncomputable def f94_r13 (t5 t8 t9 t10 : V) (h : List V) (k : List V → Rv) : Rv :=
 (bin .sub t8 (V.int .i64 16)).bind fun t98 => (indexA P 145 t5 t98).bind fun t99 => (ldP h 125 t99).bind fun t100 => (bin .sub t8 (V.int .i64 7)).bind fun t102 => (indexA P 145 t5 t102).bind fun t103 => (ldP h 125 t103).bind fun t104 => (bin .add t100 t104).bind fun t105 => (bin .add t105 t9).bind fun t107 => (bin .add t107 t10).bind fun t109 => (indexA P 145 t5 t8).bind fun t110 => (sto P h 125 t110 t109).bind fun h_1 => k h_1
noncomputable def f94_r10 (t8 : V) (k : V → Rv) : Rv :=
 (bin .add t8 (V.int .i64 1)).bind fun t61 => k t61
noncomputable def f94_r14 (t2 : V) (h : List V) (k : V → List V → Rv) : Rv :=
 (ldP h 126 t2).bind fun t111 => (sto P (h ++ [zero P 126]) 126 (V.ref (List.length h) [] 126) t111).bind fun h_1 => k (V.ref (List.length h) [] 126) h_1
noncomputable def f94_r15 (k : V → Rv) : Rv :=
 k (V.int .i64 0)
noncomputable def f94_l4 (t2 t4 t5 t11 t112 : V) (h : List V) : Rv := lp W 94 4 (cd 94 607) (bk 4 (sk 94 0 127 (lv 94 0))) ⟨[(2, t2), (4, t4), (5, t5), (11, t11), (112, t112)], h⟩
noncomputable def f94_r16 (t112 : V) (k : V → Rv) : Rv :=
 (bin .lss t112 (V.int .i64 64)).bind fun t113 => k t113
noncomputable def f94_r17 (t112 : V) (k : V → Rv) : Rv :=
 k t112
noncomputable def f94_r18 (t11 : V) (h : List V) (k : V → V → V → V → V → V → Rv) : Rv :=
 (indexA P 126 t11 (V.int .i64 0)).bind fun t115 => (ldP h 125 t115).bind fun t116 => (indexA P 126 t11 (V.int .i64 1)).bind fun t117 => (ldP h 125 t117).bind fun t118 => (indexA P 126 t11 (V.int .i64 2)).bind fun t119 => (ldP h 125 t119).bind fun t120 => (indexA P 126 t11 (V.int .i64 4)).bind fun t121 => (ldP h 125 t121).bind fun t122 => (indexA P 126 t11 (V.int .i64 5)).bind fun t123 => (ldP h 125 t123).bind fun t124 => (indexA P 126 t11 (V.int .i64 6)).bind fun t125 => (ldP h 125 t125).bind fun t126 => k t116 t118 t120 t122 t124 t126
noncomputable def f94_r19 (t5 t11 t12 t16 t17 t18 : V) (h : List V) (k : V → Rv) : Rv :=
 (indexA P 126 t11 (V.int .i64 7)).bind fun t127 => (ldP h 125 t127).bind fun t128 => (Cl 114 (reifyL h [t16, (V.int .i64 6)]) []).bind fun r => (Cl 114 (reifyL h [t16, (V.int .i64 11)]) []).bind fun r_1 => (bin .xor r.1 r_1.1).bind fun t133 => (Cl 114 (reifyL h [t16, (V.int .i64 25)]) []).bind fun r_2 => (bin .xor t133 r_2.1).bind fun t136 => (bin .add t128 t136).bind fun t137 => (bin .xor t17 t18).bind fun t142 => (bin .and t16 t142).bind fun t143 => (bin .xor t18 t143).bind fun t144 => (bin .add t137 t144).bind fun t145 => (indexA P 145 (V.rop 145 glob1) t12).bind fun t147 => (ldP h 125 t147).bind fun t148 => (bin .add t145 t148).bind fun t149 => (indexA P 145 t5 t12).bind fun t151 => (ldP h 125 t151).bind fun t152 => (bin .add t149 t152).bind fun t153 => k t153
noncomputable def f94_r20 (t13 t14 t15 : V) (h : List V) (k : V → Rv) : Rv :=
 (Cl 114 (reifyL h [t13, (V.int .i64 2)]) []).bind fun r => (Cl 114 (reifyL h [t13, (V.int .i64 13)]) []).bind fun r_1 => (bin .xor r.1 r_1.1).bind fun t158 => (Cl 114 (reifyL h [t13, (V.int .i64 22)]) []).bind fun r_2 => (bin .xor t158 r_2.1).bind fun t161 => (bin .and t13 t14).bind fun t164 => (bin .or t13 t14).bind fun t168 => (bin .and t15 t168).bind fun t169 => (bin .or t164 t169).bind fun t170 => (bin .add t161 t170).bind fun t171 => k t171
noncomputable def f94_r21 (t11 t13 t14 t15 t16 t17 t18 t19 t20 : V) (h : List V) (k : List V → Rv) : Rv :=
 (bin .add t19 t20).bind fun t174 => (indexA P 126 t11 (V.int .i64 3)).bind fun t178 => (ldP h 125 t178).bind fun t179 => (bin .add t179 t19).bind fun t181 => (bld P 126 [(0, t174), (1, t13), (2, t14), (3, t15), (4, t181), (5, t16), (6, t17), (7, t18)]).bind fun t185 => (sto P h 126 t11 t185).bind fun h_1 => k h_1
noncomputable def f94_r22 (t112 : V) (k : V → Rv) : Rv :=
 (bin .add t112 (V.int .i64 1)).bind fun t186 => k t186
noncomputable def f94_r23 (t11 : V) (h : List V) (k : V → V → Rv) : Rv :=
 (ldP h 126 t11).bind fun t187 => k t187 (V.int .i64 0)
noncomputable def f94_l6 (t2 t4 t187 t188 : V) (h : List V) : Rv := lp W 94 6 (cd 94 1215) (bk 6 (sk 94 0 255 (lv 94 0))) ⟨[(2, t2), (4, t4), (187, t187), (188, t188)], h⟩
noncomputable def f94_r24 (t188 : V) (k : V → Rv) : Rv :=
 (bin .lss t188 (V.int .i64 8)).bind fun t189 => k t189
noncomputable def f94_r25 (t187 t188 : V) (k : V → V → Rv) : Rv :=
 (indexV P 126 t187 t188).bind fun t191 => k t188 t191
noncomputable def f94_r26 (t2 t21 t22 : V) (h : List V) (k : List V → Rv) : Rv :=
 (indexA P 126 t2 t21).bind fun t193 => (ldP h 125 t193).bind fun t194 => (bin .add t194 t22).bind fun t196 => (indexA P 126 t2 t21).bind fun t197 => (sto P h 125 t197 t196).bind fun h_1 => k h_1
noncomputable def f94_r27 (t188 : V) (k : V → Rv) : Rv :=
 (bin .add t188 (V.int .i64 1)).bind fun t198 => k t198
noncomputable def f94_r28 (t2 t4 : V) (h : List V) (k : List V → Rv) : Rv :=
 (ldP h 126 t2).bind fun t199 => (sto P h 126 t4 t199).bind fun h_1 => k h_1
theorem f94_l6_eq (t2 t4 t187 t188 : V) (h : List V) : f94_l6 t2 t4 t187 t188 h =
 f94_r24 t188 fun t189_35 =>
  V.ite t189_35
  (f94_r25 t187 t188 fun t21_36 t22_37 =>
  f94_r26 t2 t21_36 t22_37 h fun h_38 =>
  f94_r27 t188 fun t188_39 =>
  f94_l6 t2 t4 t187 t188_39 h_38)
  (f94_r28 t2 t4 h fun h_40 =>
  (ldP h_40 126 t4).bind fun c_41 => finT 0 h_40 c_41) :=
 l_eq (by kernel_rfl)
theorem f94_l4_eq (t2 t4 t5 t11 t112 : V) (h : List V) : f94_l4 t2 t4 t5 t11 t112 h =
 f94_r16 t112 fun t113_21 =>
  V.ite t113_21
  (f94_r17 t112 fun t12_22 =>
  f94_r18 t11 h fun t13_23 t14_24 t15_25 t16_26 t17_27 t18_28 =>
  f94_r19 t5 t11 t12_22 t16_26 t17_27 t18_28 h fun t19_29 =>
  f94_r20 t13_23 t14_24 t15_25 h fun t20_30 =>
  f94_r21 t11 t13_23 t14_24 t15_25 t16_26 t17_27 t18_28 t19_29 t20_30 h fun h_31 =>
  f94_r22 t112 fun t112_32 =>
  f94_l4 t2 t4 t5 t11 t112_32 h_31)
  (f94_r23 t11 h fun t187_33 t188_34 =>
  f94_l6 t2 t4 t187_33 t188_34 h) :=
 l_eq (by kernel_rfl)
theorem f94_l2_eq (t2 t4 t5 t8 : V) (h : List V) : f94_l2 t2 t4 t5 t8 h =
 f94_r9 t8 fun t59_13 =>
  V.ite t59_13
  (f94_r11 t5 t8 h fun t9_14 =>
  f94_r12 t5 t8 h fun t10_15 =>
  f94_r13 t5 t8 t9_14 t10_15 h fun h_16 =>
  f94_r10 t8 fun t8_17 =>
  f94_l2 t2 t4 t5 t8_17 h_16)
  (f94_r14 t2 h fun t11_18 h_19 =>
  f94_r15 fun t112_20 =>
  f94_l4 t2 t4 t5 t11_18 t112_20 h_19) :=
 l_eq (by kernel_rfl)
theorem f94_l0_eq (t1 t2 t4 t5 t23 : V) (h : List V) : f94_l0 t1 t2 t4 t5 t23 h =
 f94_r3 t23 fun t24_7 =>
  V.ite t24_7
  (f94_r4 t23 fun t6_8 =>
  f94_r5 t1 t6_8 fun t7_9 =>
  f94_r6 t5 t6_8 t7_9 h fun h_10 =>
  f94_r7 t23 fun t23_11 =>
  f94_l0 t1 t2 t4 t5 t23_11 h_10)
  (f94_r8 fun t8_12 =>
  f94_l2 t2 t4 t5 t8_12 h) :=
 l_eq (by kernel_rfl)
theorem f94_eq (t0 t1 : V) : Cl 94 [t0, t1] [] =
 f94_r0 t0 [] fun t2_1 t4_2 h_3 =>
  f94_r1 h_3 fun t5_4 h_5 =>
  f94_r2 fun t23_6 =>
  f94_l0 t1 t2_1 t4_2 t5_4 t23_6 h_5 :=
 f_eq (by kernel_rfl)
/-- slices.insertionSortCmpFunc[modillion/api.Msg] -/
noncomputable def f95_r0 (t1 : V) (k : V → Rv) : Rv :=
 (bin .add t1 (V.int .i64 1)).bind fun t11 => k t11
noncomputable def f95_l0 (t0 t1 t2 t3 t8 : V) (n : Nat) (h : List V) : Rv := lp W 95 0 (cd 95 9) (bk 0 (lv 95 n)) ⟨[(0, t0), (1, t1), (2, t2), (3, t3), (8, t8)], h⟩
noncomputable def f95_r1 (t2 t8 : V) (k : V → Rv) : Rv :=
 (bin .lss t8 t2).bind fun t14 => k t14
noncomputable def f95_r3 (t8 : V) (k : V → Rv) : Rv :=
 k t8
noncomputable def f95_l2 (t0 t1 t2 t3 t8 t9 : V) (n : Nat) (m0 : Nat) (h : List V) : Rv := lp W 95 2 (cd 95 585) (bk 2 (bk 1 (sk 95 0 57 (lk 95 0 m0 9 (bk 0 (lv 95 n)))))) ⟨[(0, t0), (1, t1), (2, t2), (3, t3), (8, t8), (9, t9)], h⟩
noncomputable def f95_r4 (t0 t1 t3 t9 : V) (h : List V) (k : V → List V → Rv) : Rv :=
 (bin .gtr t9 t1).bind fun t20 => V.ite t20 ((indexA P 23 (V.weak t0) t9).bind fun t25 => (ldP h 38 t25).bind fun t26 => (bin .sub t9 (V.int .i64 1)).bind fun t29 => (indexA P 23 (V.weak t0) t29).bind fun t30 => (ldP h 38 t30).bind fun t31 => callV P ann W t3 [t26, t31] h fun t32 h_1 => if V.noOwn t32 = true then (bin .lss t32 (V.int .i64 0)).bind fun t33 => k t33 h_1 else none) (k (V.bool false) h)
noncomputable def f95_r6 (t0 t9 : V) (h : List V) (k : List V → Rv) : Rv :=
 (bin .sub t9 (V.int .i64 1)).bind fun t41 => (bin .sub t9 (V.int .i64 1)).bind fun t44 => (indexA P 23 (V.weak t0) t44).bind fun t45 => (ldP h 38 t45).bind fun t46 => (indexA P 23 (V.weak t0) t9).bind fun t49 => (ldP h 38 t49).bind fun t50 => (indexA P 23 (V.weak t0) t9).bind fun t51 => (sto P h 38 t51 t46).bind fun h_1 => (indexA P 23 (V.weak t0) t41).bind fun t52 => (sto P h_1 38 t52 t50).bind fun h_2 => k h_2
noncomputable def f95_r5 (t9 : V) (k : V → Rv) : Rv :=
 (bin .sub t9 (V.int .i64 1)).bind fun t36 => k t36
noncomputable def f95_r2 (t8 : V) (k : V → Rv) : Rv :=
 (bin .add t8 (V.int .i64 1)).bind fun t16 => k t16
theorem f95_l2_eq (t0 t1 t2 t3 t8 t9 : V) (n : Nat) (m0 : Nat) (h : List V) : f95_l2 t0 t1 t2 t3 t8 t9 n m0 h =
 f95_r4 t0 t1 t3 t9 h fun t34_4 h_5 =>
  V.ite t34_4
  (f95_r6 t0 t9 h_5 fun h_6 =>
  f95_r5 t9 fun t9_7 =>
  f95_l2 t0 t1 t2 t3 t8 t9_7 n m0 h_6)
  (f95_r2 t8 fun t8_8 =>
  f95_l0 t0 t1 t2 t3 t8_8 n h_5) :=
 l_eq (by kernel_rfl)
theorem f95_l0_eq (t0 t1 t2 t3 t8 : V) (n : Nat) (h : List V) : f95_l0 t0 t1 t2 t3 t8 n h =
 f95_r1 t2 t8 fun t14_2 =>
  V.ite t14_2
  (f95_r3 t8 fun t9_3 =>
  f95_l2 t0 t1 t2 t3 t8 t9_3 n (List.length h) h)
  (if (List.all [] V.okE) = true then finT n h (V.tup []) else none) :=
 l_eq (by kernel_rfl)
theorem f95_eq (t0 t1 t2 t3 : V) (h : List V) : Cl 95 [t0, t1, t2, t3] h =
 f95_r0 t1 fun t8_1 =>
  f95_l0 t0 t1 t2 t3 t8_1 (List.length h) h :=
 f_eq (by kernel_rfl)
/-- slices.heapSortCmpFunc[modillion/api.Msg] -/
noncomputable def f96_r0 (t1 : V) (k : V → Rv) : Rv :=
 k t1
noncomputable def f96_r1 (k : V → Rv) : Rv :=
 k (V.int .i64 0)
noncomputable def f96_r2 (t1 t2 : V) (k : V → Rv) : Rv :=
 (bin .sub t2 t1).bind fun t16 => k t16
noncomputable def f96_r3 (t10 : V) (k : V → Rv) : Rv :=
 (bin .sub t10 (V.int .i64 1)).bind fun t18 => (bin .quo t18 (V.int .i64 2)).bind fun t19 => k t19
noncomputable def f96_l0 (t0 t3 t8 t9 t10 t11 : V) (n : Nat) (h : List V) : Rv := lp W 96 0 (cd 96 151) (bk 0 (sk 96 0 31 (lv 96 n))) ⟨[(0, t0), (3, t3), (8, t8), (9, t9), (10, t10), (11, t11)], h⟩
noncomputable def f96_r4 (t11 : V) (k : V → Rv) : Rv :=
 (bin .geq t11 (V.int .i64 0)).bind fun t21 => k t21
noncomputable def f96_r6 (t0 t3 t8 t10 t11 : V) (h : List V) (k : List V → Rv) : Rv :=
 (Cl 115 (normL [(V.weak t0), t11, t10, t8, t3]) h).bind fun r => k r.2
noncomputable def f96_r5 (t11 : V) (k : V → Rv) : Rv :=
 (bin .sub t11 (V.int .i64 1)).bind fun t23 => k t23
noncomputable def f96_r7 (t10 : V) (k : V → Rv) : Rv :=
 (bin .sub t10 (V.int .i64 1)).bind fun t31 => k t31
noncomputable def f96_l2 (t0 t3 t8 t9 t12 : V) (n : Nat) (h : List V) : Rv := lp W 96 2 (cd 96 159) (bk 2 (lv 96 n)) ⟨[(0, t0), (3, t3), (8, t8), (9, t9), (12, t12)], h⟩
noncomputable def f96_r8 (t12 : V) (k : V → Rv) : Rv :=
 (bin .geq t12 (V.int .i64 0)).bind fun t33 => k t33
noncomputable def f96_r10 (t0 t8 t12 : V) (h : List V) (k : List V → Rv) : Rv :=
 (bin .add t8 t12).bind fun t41 => (bin .add t8 t12).bind fun t45 => (indexA P 23 (V.weak t0) t45).bind fun t46 => (ldP h 38 t46).bind fun t47 => (indexA P 23 (V.weak t0) t8).bind fun t50 => (ldP h 38 t50).bind fun t51 => (indexA P 23 (V.weak t0) t8).bind fun t52 => (sto P h 38 t52 t47).bind fun h_1 => (indexA P 23 (V.weak t0) t41).bind fun t53 => (sto P h_1 38 t53 t51).bind fun h_2 => k h_2
noncomputable def f96_r11 (t0 t3 t8 t9 t12 : V) (h : List V) (k : List V → Rv) : Rv :=
 (Cl 115 (normL [(V.weak t0), t9, t12, t8, t3]) h).bind fun r => k r.2
noncomputable def f96_r9 (t12 : V) (k : V → Rv) : Rv :=
 (bin .sub t12 (V.int .i64 1)).bind fun t35 => k t35
theorem f96_l2_eq (t0 t3 t8 t9 t12 : V) (n : Nat) (h : List V) : f96_l2 t0 t3 t8 t9 t12 n h =
 f96_r8 t12 fun t33_9 =>
  V.ite t33_9
  (f96_r10 t0 t8 t12 h fun h_10 =>
  f96_r11 t0 t3 t8 t9 t12 h_10 fun h_11 =>
  f96_r9 t12 fun t12_12 =>
  f96_l2 t0 t3 t8 t9 t12_12 n h_11)
  (if (List.all [] V.okE) = true then finT n h (V.tup []) else none) :=
 l_eq (by kernel_rfl)
theorem f96_l0_eq (t0 t3 t8 t9 t10 t11 : V) (n : Nat) (h : List V) : f96_l0 t0 t3 t8 t9 t10 t11 n h =
 f96_r4 t11 fun t21_5 =>
  V.ite t21_5
  (f96_r6 t0 t3 t8 t10 t11 h fun h_6 =>
  f96_r5 t11 fun t11_7 =>
  f96_l0 t0 t3 t8 t9 t10 t11_7 n h_6)
  (f96_r7 t10 fun t12_8 =>
  f96_l2 t0 t3 t8 t9 t12_8 n h) :=
 l_eq (by kernel_rfl)
theorem f96_eq (t0 t1 t2 t3 : V) (h : List V) : Cl 96 [t0, t1, t2, t3] h =
 f96_r0 t1 fun t8_1 =>
  f96_r1 fun t9_2 =>
  f96_r2 t1 t2 fun t10_3 =>
  f96_r3 t10_3 fun t11_4 =>
  f96_l0 t0 t3 t8_1 t9_2 t10_3 t11_4 (List.length h) h :=
 f_eq (by kernel_rfl)
/-- slices.breakPatternsCmpFunc[modillion/api.Msg] -/
noncomputable def f97_r0 (t1 t2 : V) (k : V → Rv) : Rv :=
 (bin .sub t2 t1).bind fun t15 => k t15
noncomputable def f97_r1 (t8 : V) (k : V → Rv) : Rv :=
 (bin .geq t8 (V.int .i64 8)).bind fun t17 => k t17
noncomputable def f97_r2 (t8 : V) (h : List V) (k : V → List V → Rv) : Rv :=
 (conv P h 3 147 t8).bind fun t19 => (sto P (h ++ [zero P 147]) 147 (V.ref (List.length h) [] 147) t19).bind fun h_1 => k (V.ref (List.length h) [] 147) h_1
noncomputable def f97_r3 (t8 : V) (h : List V) (k : V → Rv) : Rv :=
 (Cl 116 (reifyL h [t8]) []).bind fun r => k r.1
noncomputable def f97_r4 (t1 t8 : V) (k : V → Rv) : Rv :=
 (bin .quo t8 (V.int .i64 4)).bind fun t24 => (bin .mul t24 (V.int .i64 2)).bind fun t25 => (bin .add t1 t25).bind fun t26 => (bin .sub t26 (V.int .i64 1)).bind fun t27 => k t27
noncomputable def f97_l0 (t0 t1 t8 t9 t10 t11 : V) (n : Nat) (h : List V) : Rv := lp W 97 0 (cd 97 315) (bk 0 (lv 97 n)) ⟨[(0, t0), (1, t1), (8, t8), (9, t9), (10, t10), (11, t11)], h⟩
noncomputable def f97_r5 (t1 t8 t11 : V) (k : V → Rv) : Rv :=
 (bin .quo t8 (V.int .i64 4)).bind fun t31 => (bin .mul t31 (V.int .i64 2)).bind fun t32 => (bin .add t1 t32).bind fun t33 => (bin .add t33 (V.int .i64 1)).bind fun t34 => (bin .leq t11 t34).bind fun t35 => k t35
noncomputable def f97_r7 (t9 t10 : V) (h : List V) (k : V → List V → Rv) : Rv :=
 (Cl 117 (normL [t9]) h).bind fun r => (bin .sub t10 (V.int .u64 1)).bind fun t40 => (bin .and r.1 t40).bind fun t41 => (conv P r.2 98 3 t41).bind fun t42 => k t42 r.2
noncomputable def f97_r8 (t8 t12 : V) (k : V → Rv) : Rv :=
 (bin .geq t12 t8).bind fun t45 => k t45
noncomputable def f97_r10 (t0 t1 t11 t12 : V) (h : List V) (k : List V → Rv) : Rv :=
 (bin .add t1 t12).bind fun t54 => (bin .add t1 t12).bind fun t58 => (indexA P 23 (V.weak t0) t58).bind fun t59 => (ldP h 38 t59).bind fun t60 => (indexA P 23 (V.weak t0) t11).bind fun t63 => (ldP h 38 t63).bind fun t64 => (indexA P 23 (V.weak t0) t11).bind fun t65 => (sto P h 38 t65 t60).bind fun h_1 => (indexA P 23 (V.weak t0) t54).bind fun t66 => (sto P h_1 38 t66 t64).bind fun h_2 => k h_2
noncomputable def f97_r6 (t11 : V) (k : V → Rv) : Rv :=
 (bin .add t11 (V.int .i64 1)).bind fun t37 => k t37
noncomputable def f97_r9 (t8 t12 : V) (k : V → Rv) : Rv :=
 (bin .sub t12 t8).bind fun t48 => k t48
theorem f97_l0_eq (t0 t1 t8 t9 t10 t11 : V) (n : Nat) (h : List V) : f97_l0 t0 t1 t8 t9 t10 t11 n h =
 f97_r5 t1 t8 t11 fun t35_7 =>
  V.ite t35_7
  (f97_r7 t9 t10 h fun t12_8 h_9 =>
  f97_r8 t8 t12_8 fun t45_10 =>
  jn (fun t12_11 => f97_r10 t0 t1 t11 t12_11 h_9 fun h_12 =>
  f97_r6 t11 fun t11_13 =>
  f97_l0 t0 t1 t8 t9 t10 t11_13 n h_12)
  (fun (j0 : V → Rv) => V.ite t45_10
  (f97_r9 t8 t12_8 fun t12_14 =>
  j0 t12_14)
  (j0 t12_8)))
  (if (List.all [] V.okE) = true then finT n h (V.tup []) else none) :=
 l_eq (y_seq <| y_seq <| y_reg (fun K u35 => K ⟨[(0, t0), (1, t1), (8, t8), (9, t9), (10, t10), (11, t11), (35, u35)], h⟩) (funext fun t35_7 => seqK_n <| y_cond (y_skip <| seqK_n <| y_seq <| y_block <| y_seq <| y_reg (fun K u12 h' => K ⟨[(0, t0), (1, t1), (8, t8), (9, t9), (10, t10), (11, t11), (12, u12)], h'⟩) (funext fun t12_8 => funext fun h_9 => seqK_n <| y_seq <| y_seq <| y_reg (fun K u45 => K ⟨[(0, t0), (1, t1), (8, t8), (9, t9), (10, t10), (11, t11), (12, t12_8), (45, u45)], h_9⟩) (funext fun t45_10 => seqK_n <| y_jn (fun K t12_11 => K ⟨[(0, t0), (1, t1), (8, t8), (9, t9), (10, t10), (11, t11), (12, t12_11)], h_9⟩) (funext fun t12_11 => by kernel_rfl) (y_cond (by kernel_rfl) (by kernel_rfl))))) (by kernel_rfl)))
theorem f97_eq (t0 t1 t2 t3 : V) (h : List V) : Cl 97 [t0, t1, t2, t3] h =
 f97_r0 t1 t2 fun t8_1 =>
  f97_r1 t8_1 fun t17_2 =>
  V.ite t17_2
  (f97_r2 t8_1 h fun t9_3 h_4 =>
  f97_r3 t8_1 h_4 fun t10_5 =>
  f97_r4 t1 t8_1 fun t11_6 =>
  f97_l0 t0 t1 t8_1 t9_3 t10_5 t11_6 (List.length h) h_4)
  (if (List.all [] V.okE) = true then finT (List.length h) h (V.tup []) else none) :=
 f_eq (by kernel_rfl)
/-- slices.choosePivotCmpFunc[modillion/api.Msg] -/
noncomputable def f98_r0 (k : Rv) : Rv :=
 k
noncomputable def f98_r1 (t1 t2 : V) (k : V → Rv) : Rv :=
 (bin .sub t2 t1).bind fun t17 => k t17
noncomputable def f98_r2 (h : List V) (k : V → List V → Rv) : Rv :=
 k (V.ref (List.length h) [] 3) (h ++ [zero P 3])
noncomputable def f98_r3 (t1 t10 : V) (k : V → Rv) : Rv :=
 (bin .quo t10 (V.int .i64 4)).bind fun t20 => (bin .mul t20 (V.int .i64 1)).bind fun t21 => (bin .add t1 t21).bind fun t22 => k t22
noncomputable def f98_r4 (t1 t10 : V) (k : V → Rv) : Rv :=
 (bin .quo t10 (V.int .i64 4)).bind fun t25 => (bin .mul t25 (V.int .i64 2)).bind fun t26 => (bin .add t1 t26).bind fun t27 => k t27
noncomputable def f98_r5 (t1 t10 : V) (k : V → Rv) : Rv :=
 (bin .quo t10 (V.int .i64 4)).bind fun t30 => (bin .mul t30 (V.int .i64 3)).bind fun t31 => (bin .add t1 t31).bind fun t32 => k t32
noncomputable def f98_r6 (t10 : V) (k : V → Rv) : Rv :=
 (bin .geq t10 (V.int .i64 8)).bind fun t34 => k t34
noncomputable def f98_r12 (t11 : V) (h : List V) (k : V → Rv) : Rv :=
 (ldP h 3 t11).bind fun t55 => k t55
noncomputable def f98_r14 (t55 : V) (k : V → Rv) : Rv :=
 (bin .eql t55 (V.int .i64 0)).bind fun t58 => k t58
noncomputable def f98_r15 (t13 : V) (k : V → V → Rv) : Rv :=
 k t13 (V.int .i64 1)
noncomputable def f98_r16 (t55 : V) (k : V → Rv) : Rv :=
 (bin .eql t55 (V.int .i64 12)).bind fun t61 => k t61
noncomputable def f98_r17 (t13 : V) (k : V → V → Rv) : Rv :=
 k t13 (V.int .i64 2)
noncomputable def f98_r13 (t13 : V) (k : V → V → Rv) : Rv :=
 k t13 (V.int .i64 0)
noncomputable def f98_r7 (t10 : V) (k : V → Rv) : Rv :=
 (bin .geq t10 (V.int .i64 50)).bind fun t36 => k t36
noncomputable def f98_r11 (t0 t3 t11 t12 t13 t14 : V) (h : List V) (k : V → List V → Rv) : Rv :=
 (Cl 119 (normL [t0, t12, t13, t14, t11, t3]) h).bind fun r => k r.1 r.2
noncomputable def f98_r8 (t0 t3 t11 t12 : V) (h : List V) (k : V → List V → Rv) : Rv :=
 (Cl 118 (normL [(V.weak t0), t12, t11, t3]) h).bind fun r => k r.1 r.2
noncomputable def f98_r9 (t0 t3 t11 t13 : V) (h : List V) (k : V → List V → Rv) : Rv :=
 (Cl 118 (normL [(V.weak t0), t13, t11, t3]) h).bind fun r => k r.1 r.2
noncomputable def f98_r10 (t0 t3 t11 t14 : V) (h : List V) (k : V → List V → Rv) : Rv :=
 (Cl 118 (normL [(V.weak t0), t14, t11, t3]) h).bind fun r => k r.1 r.2
theorem f98_eq (t0 t1 t2 t3 : V) (h : List V) : Cl 98 [t0, t1, t2, t3] h =
 f98_r0 (f98_r1 t1 t2 fun t10_1 =>
  f98_r2 h fun t11_2 h_3 =>
  f98_r3 t1 t10_1 fun t12_4 =>
  f98_r4 t1 t10_1 fun t13_5 =>
  f98_r5 t1 t10_1 fun t14_6 =>
  f98_r6 t10_1 fun t34_7 =>
  jn (fun t13_8 h_9 => f98_r12 t11_2 h_9 fun t55_10 =>
  f98_r14 t55_10 fun t57_11 =>
  V.ite t57_11
  (f98_r15 t13_8 fun t8_12 t9_13 =>
  if (List.all [t9_13, t8_12] V.okE) = true then finT (List.length h) h_9 (V.tup [t8_12, t9_13]) else none)
  (f98_r16 t55_10 fun t60_14 =>
  V.ite t60_14
  (f98_r17 t13_8 fun t8_15 t9_16 =>
  if (List.all [t9_16, t8_15] V.okE) = true then finT (List.length h) h_9 (V.tup [t8_15, t9_16]) else none)
  (f98_r13 t13_8 fun t8_17 t9_18 =>
  if (List.all [t9_18, t8_17] V.okE) = true then finT (List.length h) h_9 (V.tup [t8_17, t9_18]) else none)))
  (fun (j0 : V → List V → Rv) => V.ite t34_7
  (f98_r7 t10_1 fun t36_19 =>
  jn (fun t12_20 t13_21 t14_22 h_23 => f98_r11 t0 t3 t11_2 t12_20 t13_21 t14_22 h_23 fun t13_24 h_25 =>
  j0 t13_24 h_25)
  (fun (j1 : V → V → V → List V → Rv) => V.ite t36_19
  (f98_r8 t0 t3 t11_2 t12_4 h_3 fun t12_26 h_27 =>
  f98_r9 t0 t3 t11_2 t13_5 h_27 fun t13_28 h_29 =>
  f98_r10 t0 t3 t11_2 t14_6 h_29 fun t14_30 h_31 =>
  j1 t12_26 t13_28 t14_30 h_31)
  (j1 t12_4 t13_5 t14_6 h_3)))
  (j0 t13_5 h_3))) :=
 f_eq (y_seq <| y_reg (fun K => K ⟨[(0, t0), (1, t1), (2, t2), (3, t3)], h⟩) (seqK_n <| y_seq <| y_reg (fun K u10 => K ⟨[(0, t0), (1, t1), (3, t3), (10, u10)], h⟩) (funext fun t10_1 => seqK_n <| y_seq <| y_reg (fun K u11 h' => K ⟨[(0, t0), (1, t1), (3, t3), (10, t10_1), (11, u11)], h'⟩) (funext fun t11_2 => funext fun h_3 => seqK_n <| y_seq <| y_reg (fun K u12 => K ⟨[(0, t0), (1, t1), (3, t3), (10, t10_1), (11, t11_2), (12, u12)], h_3⟩) (funext fun t12_4 => seqK_n <| y_seq <| y_reg (fun K u13 => K ⟨[(0, t0), (1, t1), (3, t3), (10, t10_1), (11, t11_2), (12, t12_4), (13, u13)], h_3⟩) (funext fun t13_5 => seqK_n <| y_seq <| y_reg (fun K u14 => K ⟨[(0, t0), (3, t3), (10, t10_1), (11, t11_2), (12, t12_4), (13, t13_5), (14, u14)], h_3⟩) (funext fun t14_6 => seqK_n <| y_seq <| y_seq <| y_reg (fun K u34 => K ⟨[(0, t0), (3, t3), (10, t10_1), (11, t11_2), (12, t12_4), (13, t13_5), (14, t14_6), (34, u34)], h_3⟩) (funext fun t34_7 => seqK_n <| y_jn (fun K t13_8 h_9 => K ⟨[(11, t11_2), (13, t13_8)], h_9⟩) (funext fun t13_8 => funext fun h_9 => by kernel_rfl) (y_cond (y_seq <| y_seq <| y_reg (fun K u36 => K ⟨[(0, t0), (3, t3), (11, t11_2), (12, t12_4), (13, t13_5), (14, t14_6), (36, u36)], h_3⟩) (funext fun t36_19 => seqK_n <| y_jn (fun K t12_20 t13_21 t14_22 h_23 => K ⟨[(0, t0), (3, t3), (11, t11_2), (12, t12_20), (13, t13_21), (14, t14_22)], h_23⟩) (funext fun t12_20 => funext fun t13_21 => funext fun t14_22 => funext fun h_23 => seqK_n <| y_reg (fun K u13 h' => K ⟨[(11, t11_2), (13, u13)], h'⟩) (funext fun t13_24 => funext fun h_25 => rfl)) (y_cond (y_seq <| y_reg (fun K u12 h' => K ⟨[(0, t0), (3, t3), (11, t11_2), (12, u12), (13, t13_5), (14, t14_6)], h'⟩) (funext fun t12_26 => funext fun h_27 => seqK_n <| y_seq <| y_reg (fun K u13 h' => K ⟨[(0, t0), (3, t3), (11, t11_2), (12, t12_26), (13, u13), (14, t14_6)], h'⟩) (funext fun t13_28 => funext fun h_29 => seqK_n <| y_reg (fun K u14 h' => K ⟨[(0, t0), (3, t3), (11, t11_2), (12, t12_26), (13, t13_28), (14, u14)], h'⟩) (funext fun t14_30 => funext fun h_31 => rfl)))) (y_skip <| y_nf)))) (y_skip <| y_nf))))))))))
/-- slices.reverseRangeCmpFunc[modillion/api.Msg] -/
noncomputable def f99_r0 (t1 : V) (k : V → Rv) : Rv :=
 k t1
noncomputable def f99_r1 (t2 : V) (k : V → Rv) : Rv :=
 (bin .sub t2 (V.int .i64 1)).bind fun t12 => k t12
noncomputable def f99_l0 (t0 t8 t9 : V) (n : Nat) (h : List V) : Rv := lp W 99 0 (cd 99 19) (bk 0 (lv 99 n)) ⟨[(0, t0), (8, t8), (9, t9)], h⟩
noncomputable def f99_r2 (t8 t9 : V) (k : V → Rv) : Rv :=
 (bin .lss t8 t9).bind fun t15 => k t15
noncomputable def f99_r3 (t0 t8 t9 : V) (h : List V) (k : List V → Rv) : Rv :=
 (indexA P 23 (V.weak t0) t9).bind fun t22 => (ldP h 38 t22).bind fun t23 => (indexA P 23 (V.weak t0) t8).bind fun t26 => (ldP h 38 t26).bind fun t27 => (indexA P 23 (V.weak t0) t8).bind fun t28 => (sto P h 38 t28 t23).bind fun h_1 => (indexA P 23 (V.weak t0) t9).bind fun t29 => (sto P h_1 38 t29 t27).bind fun h_2 => k h_2
noncomputable def f99_r4 (t8 : V) (k : V → Rv) : Rv :=
 (bin .add t8 (V.int .i64 1)).bind fun t31 => k t31
noncomputable def f99_r5 (t9 : V) (k : V → Rv) : Rv :=
 (bin .sub t9 (V.int .i64 1)).bind fun t33 => k t33
theorem f99_l0_eq (t0 t8 t9 : V) (n : Nat) (h : List V) : f99_l0 t0 t8 t9 n h =
 f99_r2 t8 t9 fun t15_3 =>
  V.ite t15_3
  (f99_r3 t0 t8 t9 h fun h_4 =>
  f99_r4 t8 fun t8_5 =>
  f99_r5 t9 fun t9_6 =>
  f99_l0 t0 t8_5 t9_6 n h_4)
  (if (List.all [] V.okE) = true then finT n h (V.tup []) else none) :=
 l_eq (by kernel_rfl)
theorem f99_eq (t0 t1 t2 t3 : V) (h : List V) : Cl 99 [t0, t1, t2, t3] h =
 f99_r0 t1 fun t8_1 =>
  f99_r1 t2 fun t9_2 =>
  f99_l0 t0 t8_1 t9_2 (List.length h) h :=
 f_eq (by kernel_rfl)
/-- slices.partialInsertionSortCmpFunc[modillion/api.Msg] -/
noncomputable def f100_r0 (k : Rv) : Rv :=
 k
noncomputable def f100_r1 (t1 : V) (k : V → Rv) : Rv :=
 (bin .add t1 (V.int .i64 1)).bind fun t14 => k t14
noncomputable def f100_r2 (k : V → Rv) : Rv :=
 k (V.int .i64 0)
noncomputable def f100_l0 (t0 t1 t2 t3 t9 t10 : V) (n : Nat) (h : List V) : Rv := lp W 100 0 (cd 100 75) (bk 0 (sk 100 0 15 (lv 100 n))) ⟨[(0, t0), (1, t1), (2, t2), (3, t3), (9, t9), (10, t10)], h⟩
noncomputable def f100_r3 (t10 : V) (k : V → Rv) : Rv :=
 (bin .lss t10 (V.int .i64 5)).bind fun t16 => k t16
noncomputable def f100_l2 (t0 t1 t2 t3 t9 t10 : V) (n : Nat) (m0 : Nat) (h : List V) : Rv := lp W 100 2 (cd 100 4171) (bk 2 (sk 100 1 1611 (bk 1 (sk 100 0 459 (lk 100 0 m0 75 (bk 0 (sk 100 0 15 (lv 100 n)))))))) ⟨[(0, t0), (1, t1), (2, t2), (3, t3), (9, t9), (10, t10)], h⟩
noncomputable def f100_r5 (t0 t2 t3 t9 : V) (h : List V) (k : V → List V → Rv) : Rv :=
 (bin .lss t9 t2).bind fun t21 => V.ite t21 ((indexA P 23 (V.weak t0) t9).bind fun t26 => (ldP h 38 t26).bind fun t27 => (bin .sub t9 (V.int .i64 1)).bind fun t30 => (indexA P 23 (V.weak t0) t30).bind fun t31 => (ldP h 38 t31).bind fun t32 => callV P ann W t3 [t27, t32] h fun t33 h_1 => if V.noOwn t33 = true then (bin .lss t33 (V.int .i64 0)).bind fun t34 => (un .not t34).bind fun t35 => k t35 h_1 else none) (k (V.bool false) h)
noncomputable def f100_r6 (t9 : V) (k : V → Rv) : Rv :=
 (bin .add t9 (V.int .i64 1)).bind fun t38 => k t38
noncomputable def f100_r7 (t2 t9 : V) (k : V → Rv) : Rv :=
 (bin .eql t9 t2).bind fun t41 => k t41
noncomputable def f100_r8 (k : V → Rv) : Rv :=
 k (V.bool true)
noncomputable def f100_r9 (t1 t2 : V) (k : V → Rv) : Rv :=
 (bin .sub t2 t1).bind fun t44 => (bin .lss t44 (V.int .i64 50)).bind fun t45 => k t45
noncomputable def f100_r10 (k : V → Rv) : Rv :=
 k (V.bool false)
noncomputable def f100_r11 (t0 t9 : V) (h : List V) (k : List V → Rv) : Rv :=
 (bin .sub t9 (V.int .i64 1)).bind fun t50 => (bin .sub t9 (V.int .i64 1)).bind fun t53 => (indexA P 23 (V.weak t0) t53).bind fun t54 => (ldP h 38 t54).bind fun t55 => (indexA P 23 (V.weak t0) t9).bind fun t58 => (ldP h 38 t58).bind fun t59 => (indexA P 23 (V.weak t0) t9).bind fun t60 => (sto P h 38 t60 t55).bind fun h_1 => (indexA P 23 (V.weak t0) t50).bind fun t61 => (sto P h_1 38 t61 t59).bind fun h_2 => k h_2
noncomputable def f100_r12 (t1 t9 : V) (k : V → Rv) : Rv :=
 (bin .sub t9 t1).bind fun t64 => (bin .geq t64 (V.int .i64 2)).bind fun t65 => k t65
noncomputable def f100_r18 (t2 t9 : V) (k : V → Rv) : Rv :=
 (bin .sub t2 t9).bind fun t103 => (bin .geq t103 (V.int .i64 2)).bind fun t104 => k t104
noncomputable def f100_r19 (t9 : V) (k : V → Rv) : Rv :=
 (bin .add t9 (V.int .i64 1)).bind fun t106 => k t106
noncomputable def f100_l6 (t0 t1 t2 t3 t9 t10 t12 : V) (n : Nat) (m0 : Nat) (h : List V) : Rv := lp W 100 6 (cd 100 622155) (bk 6 (bk 1 (sk 100 0 459 (lk 100 0 m0 75 (bk 0 (sk 100 0 15 (lv 100 n))))))) ⟨[(0, t0), (1, t1), (2, t2), (3, t3), (9, t9), (10, t10), (12, t12)], h⟩
noncomputable def f100_r20 (t2 t12 : V) (k : V → Rv) : Rv :=
 (bin .lss t12 t2).bind fun t109 => k t109
noncomputable def f100_r22 (t0 t3 t12 : V) (h : List V) (k : V → List V → Rv) : Rv :=
 (indexA P 23 (V.weak t0) t12).bind fun t115 => (ldP h 38 t115).bind fun t116 => (bin .sub t12 (V.int .i64 1)).bind fun t119 => (indexA P 23 (V.weak t0) t119).bind fun t120 => (ldP h 38 t120).bind fun t121 => callV P ann W t3 [t116, t121] h fun t122 h_1 => if V.noOwn t122 = true then (bin .lss t122 (V.int .i64 0)).bind fun t123 => (un .not t123).bind fun t124 => k t124 h_1 else none
noncomputable def f100_r4 (t10 : V) (k : V → Rv) : Rv :=
 (bin .add t10 (V.int .i64 1)).bind fun t18 => k t18
noncomputable def f100_r23 (t0 t12 : V) (h : List V) (k : List V → Rv) : Rv :=
 (bin .sub t12 (V.int .i64 1)).bind fun t129 => (bin .sub t12 (V.int .i64 1)).bind fun t132 => (indexA P 23 (V.weak t0) t132).bind fun t133 => (ldP h 38 t133).bind fun t134 => (indexA P 23 (V.weak t0) t12).bind fun t137 => (ldP h 38 t137).bind fun t138 => (indexA P 23 (V.weak t0) t12).bind fun t139 => (sto P h 38 t139 t134).bind fun h_1 => (indexA P 23 (V.weak t0) t129).bind fun t140 => (sto P h_1 38 t140 t138).bind fun h_2 => k h_2
noncomputable def f100_r21 (t12 : V) (k : V → Rv) : Rv :=
 (bin .add t12 (V.int .i64 1)).bind fun t111 => k t111
theorem f100_l6_eq (t0 t1 t2 t3 t9 t10 t12 : V) (n : Nat) (m0 : Nat) (h : List V) : f100_l6 t0 t1 t2 t3 t9 t10 t12 n m0 h =
 f100_r20 t2 t12 fun t109_16 =>
  V.ite t109_16
  (f100_r22 t0 t3 t12 h fun t124_17 h_18 =>
  V.ite t124_17
  (f100_r4 t10 fun t10_19 =>
  f100_l0 t0 t1 t2 t3 t9 t10_19 n h_18)
  (f100_r23 t0 t12 h_18 fun h_20 =>
  f100_r21 t12 fun t12_21 =>
  f100_l6 t0 t1 t2 t3 t9 t10 t12_21 n m0 h_20))
  (f100_r4 t10 fun t10_22 =>
  f100_l0 t0 t1 t2 t3 t9 t10_22 n h) :=
 l_eq (by kernel_rfl)
noncomputable def f100_r13 (t9 : V) (k : V → Rv) : Rv :=
 (bin .sub t9 (V.int .i64 1)).bind fun t67 => k t67
noncomputable def f100_l4 (t0 t1 t2 t3 t9 t10 t11 : V) (n : Nat) (m0 : Nat) (h : List V) : Rv := lp W 100 4 (cd 100 613963) (bk 4 (sk 100 1 32331 (bk 1 (sk 100 0 459 (lk 100 0 m0 75 (bk 0 (sk 100 0 15 (lv 100 n)))))))) ⟨[(0, t0), (1, t1), (2, t2), (3, t3), (9, t9), (10, t10), (11, t11)], h⟩
noncomputable def f100_r14 (t11 : V) (k : V → Rv) : Rv :=
 (bin .geq t11 (V.int .i64 1)).bind fun t69 => k t69
noncomputable def f100_r16 (t0 t3 t11 : V) (h : List V) (k : V → List V → Rv) : Rv :=
 (indexA P 23 (V.weak t0) t11).bind fun t75 => (ldP h 38 t75).bind fun t76 => (bin .sub t11 (V.int .i64 1)).bind fun t79 => (indexA P 23 (V.weak t0) t79).bind fun t80 => (ldP h 38 t80).bind fun t81 => callV P ann W t3 [t76, t81] h fun t82 h_1 => if V.noOwn t82 = true then (bin .lss t82 (V.int .i64 0)).bind fun t83 => (un .not t83).bind fun t84 => k t84 h_1 else none
noncomputable def f100_r17 (t0 t11 : V) (h : List V) (k : List V → Rv) : Rv :=
 (bin .sub t11 (V.int .i64 1)).bind fun t89 => (bin .sub t11 (V.int .i64 1)).bind fun t92 => (indexA P 23 (V.weak t0) t92).bind fun t93 => (ldP h 38 t93).bind fun t94 => (indexA P 23 (V.weak t0) t11).bind fun t97 => (ldP h 38 t97).bind fun t98 => (indexA P 23 (V.weak t0) t11).bind fun t99 => (sto P h 38 t99 t94).bind fun h_1 => (indexA P 23 (V.weak t0) t89).bind fun t100 => (sto P h_1 38 t100 t98).bind fun h_2 => k h_2
noncomputable def f100_r15 (t11 : V) (k : V → Rv) : Rv :=
 (bin .sub t11 (V.int .i64 1)).bind fun t71 => k t71
theorem f100_l4_eq (t0 t1 t2 t3 t9 t10 t11 : V) (n : Nat) (m0 : Nat) (h : List V) : f100_l4 t0 t1 t2 t3 t9 t10 t11 n m0 h =
 f100_r14 t11 fun t69_25 =>
  V.ite t69_25
  (f100_r16 t0 t3 t11 h fun t84_26 h_27 =>
  V.ite t84_26
  (f100_r18 t2 t9 fun t104_28 =>
  V.ite t104_28
  (f100_r19 t9 fun t12_29 =>
  f100_l6 t0 t1 t2 t3 t9 t10 t12_29 n m0 h_27)
  (f100_r4 t10 fun t10_30 =>
  f100_l0 t0 t1 t2 t3 t9 t10_30 n h_27))
  (f100_r17 t0 t11 h_27 fun h_31 =>
  f100_r15 t11 fun t11_32 =>
  f100_l4 t0 t1 t2 t3 t9 t10 t11_32 n m0 h_31))
  (f100_r18 t2 t9 fun t104_33 =>
  V.ite t104_33
  (f100_r19 t9 fun t12_34 =>
  f100_l6 t0 t1 t2 t3 t9 t10 t12_34 n m0 h)
  (f100_r4 t10 fun t10_35 =>
  f100_l0 t0 t1 t2 t3 t9 t10_35 n h)) :=
 l_eq (by kernel_rfl)
theorem f100_l2_eq (t0 t1 t2 t3 t9 t10 : V) (n : Nat) (m0 : Nat) (h : List V) : f100_l2 t0 t1 t2 t3 t9 t10 n m0 h =
 f100_r5 t0 t2 t3 t9 h fun t36_4 h_5 =>
  V.ite t36_4
  (f100_r6 t9 fun t9_6 =>
  f100_l2 t0 t1 t2 t3 t9_6 t10 n m0 h_5)
  (f100_r7 t2 t9 fun t41_7 =>
  V.ite t41_7
  (f100_r8 fun t8_8 =>
  finT n h_5 t8_8)
  (f100_r9 t1 t2 fun t45_9 =>
  V.ite t45_9
  (f100_r10 fun t8_10 =>
  finT n h_5 t8_10)
  (f100_r11 t0 t9 h_5 fun h_11 =>
  f100_r12 t1 t9 fun t65_12 =>
  jn (fun h_13 => f100_r18 t2 t9 fun t104_14 =>
  V.ite t104_14
  (f100_r19 t9 fun t12_15 =>
  f100_l6 t0 t1 t2 t3 t9 t10 t12_15 n m0 h_13)
  (f100_r4 t10 fun t10_23 =>
  f100_l0 t0 t1 t2 t3 t9 t10_23 n h_13))
  (fun (j0 : List V → Rv) => V.ite t65_12
  (f100_r13 t9 fun t11_24 =>
  f100_l4 t0 t1 t2 t3 t9 t10 t11_24 n m0 h_11)
  (j0 h_11))))) :=
 l_eq (y_seq <| y_seq <| y_reg (fun K u36 h' => K ⟨[(0, t0), (1, t1), (2, t2), (3, t3), (9, t9), (10, t10), (36, u36)], h'⟩) (funext fun t36_4 => funext fun h_5 => seqK_n <| y_cond (by kernel_rfl) (y_exit <| seqK_x <| loopK_x <| blockK_h <| seqK_n <| y_seq <| y_seq <| y_reg (fun K u41 => K ⟨[(0, t0), (1, t1), (2, t2), (3, t3), (9, t9), (10, t10), (41, u41)], h_5⟩) (funext fun t41_7 => seqK_n <| y_cond (by kernel_rfl) (y_skip <| seqK_n <| y_seq <| y_seq <| y_reg (fun K u45 => K ⟨[(0, t0), (1, t1), (2, t2), (3, t3), (9, t9), (10, t10), (45, u45)], h_5⟩) (funext fun t45_9 => seqK_n <| y_cond (by kernel_rfl) (y_skip <| seqK_n <| y_seq <| y_reg (fun K h' => K ⟨[(0, t0), (1, t1), (2, t2), (3, t3), (9, t9), (10, t10)], h'⟩) (funext fun h_11 => seqK_n <| y_seq <| y_seq <| y_reg (fun K u65 => K ⟨[(0, t0), (1, t1), (2, t2), (3, t3), (9, t9), (10, t10), (65, u65)], h_11⟩) (funext fun t65_12 => seqK_n <| y_jn (fun K h_13 => K ⟨[(0, t0), (1, t1), (2, t2), (3, t3), (9, t9), (10, t10)], h_13⟩) (funext fun h_13 => by kernel_rfl) (y_cond (by kernel_rfl) (by kernel_rfl)))))))))))
noncomputable def f100_r24 (k : V → Rv) : Rv :=
 k (V.bool false)
theorem f100_l0_eq (t0 t1 t2 t3 t9 t10 : V) (n : Nat) (h : List V) : f100_l0 t0 t1 t2 t3 t9 t10 n h =
 f100_r3 t10 fun t16_3 =>
  V.ite t16_3
  (f100_l2 t0 t1 t2 t3 t9 t10 n (List.length h) h)
  (f100_r24 fun t8_36 =>
  finT n h t8_36) :=
 l_eq (by kernel_rfl)
theorem f100_eq (t0 t1 t2 t3 : V) (h : List V) : Cl 100 [t0, t1, t2, t3] h =
 f100_r0 (f100_r1 t1 fun t9_1 =>
  f100_r2 fun t10_2 =>
  f100_l0 t0 t1 t2 t3 t9_1 t10_2 (List.length h) h) :=
 f_eq (by kernel_rfl)
/-- slices.partitionEqualCmpFunc[modillion/api.Msg] -/
noncomputable def f101_r0 (k : Rv) : Rv :=
 k
noncomputable def f101_r1 (t0 t1 t3 : V) (h : List V) (k : List V → Rv) : Rv :=
 (indexA P 23 (V.weak t0) t3).bind fun t19 => (ldP h 38 t19).bind fun t20 => (indexA P 23 (V.weak t0) t1).bind fun t23 => (ldP h 38 t23).bind fun t24 => (indexA P 23 (V.weak t0) t1).bind fun t25 => (sto P h 38 t25 t20).bind fun h_1 => (indexA P 23 (V.weak t0) t3).bind fun t26 => (sto P h_1 38 t26 t24).bind fun h_2 => k h_2
noncomputable def f101_r2 (t1 t2 : V) (k : V → V → Rv) : Rv :=
 (bin .add t1 (V.int .i64 1)).bind fun t28 => (bin .sub t2 (V.int .i64 1)).bind fun t30 => k t28 t30
noncomputable def f101_l0 (t0 t1 t4 t11 t12 : V) (n : Nat) (h : List V) : Rv := lp W 101 0 (cd 101 71) (bk 0 (sk 101 0 31 (lv 101 n))) ⟨[(0, t0), (1, t1), (4, t4), (11, t11), (12, t12)], h⟩
noncomputable def f101_l2 (t0 t1 t4 t11 t12 : V) (n : Nat) (m0 : Nat) (h : List V) : Rv := lp W 101 2 (cd 101 1031) (bk 2 (sk 101 1 391 (bk 1 (lk 101 0 m0 71 (bk 0 (sk 101 0 31 (lv 101 n))))))) ⟨[(0, t0), (1, t1), (4, t4), (11, t11), (12, t12)], h⟩
noncomputable def f101_r3 (t0 t1 t4 t11 t12 : V) (h : List V) (k : V → List V → Rv) : Rv :=
 (bin .leq t11 t12).bind fun t33 => V.ite t33 ((indexA P 23 (V.weak t0) t1).bind fun t38 => (ldP h 38 t38).bind fun t39 => (indexA P 23 (V.weak t0) t11).bind fun t42 => (ldP h 38 t42).bind fun t43 => callV P ann W t4 [t39, t43] h fun t44 h_1 => if V.noOwn t44 = true then (bin .lss t44 (V.int .i64 0)).bind fun t45 => (un .not t45).bind fun t46 => k t46 h_1 else none) (k (V.bool false) h)
noncomputable def f101_r4 (t11 : V) (k : V → Rv) : Rv :=
 (bin .add t11 (V.int .i64 1)).bind fun t49 => k t49
noncomputable def f101_l4 (t0 t1 t4 t11 t12 : V) (n : Nat) (m0 : Nat) (h : List V) : Rv := lp W 101 4 (cd 101 2183) (bk 4 (sk 101 1 903 (bk 1 (lk 101 0 m0 71 (bk 0 (sk 101 0 31 (lv 101 n))))))) ⟨[(0, t0), (1, t1), (4, t4), (11, t11), (12, t12)], h⟩
noncomputable def f101_r5 (t0 t1 t4 t11 t12 : V) (h : List V) (k : V → List V → Rv) : Rv :=
 (bin .leq t11 t12).bind fun t52 => V.ite t52 ((indexA P 23 (V.weak t0) t1).bind fun t57 => (ldP h 38 t57).bind fun t58 => (indexA P 23 (V.weak t0) t12).bind fun t61 => (ldP h 38 t61).bind fun t62 => callV P ann W t4 [t58, t62] h fun t63 h_1 => if V.noOwn t63 = true then (bin .lss t63 (V.int .i64 0)).bind fun t64 => k t64 h_1 else none) (k (V.bool false) h)
noncomputable def f101_r6 (t12 : V) (k : V → Rv) : Rv :=
 (bin .sub t12 (V.int .i64 1)).bind fun t67 => k t67
noncomputable def f101_r7 (t11 t12 : V) (k : V → Rv) : Rv :=
 (bin .gtr t11 t12).bind fun t70 => k t70
noncomputable def f101_r11 (t11 : V) (k : V → Rv) : Rv :=
 k t11
noncomputable def f101_r8 (t0 t11 t12 : V) (h : List V) (k : List V → Rv) : Rv :=
 (indexA P 23 (V.weak t0) t12).bind fun t77 => (ldP h 38 t77).bind fun t78 => (indexA P 23 (V.weak t0) t11).bind fun t81 => (ldP h 38 t81).bind fun t82 => (indexA P 23 (V.weak t0) t11).bind fun t83 => (sto P h 38 t83 t78).bind fun h_1 => (indexA P 23 (V.weak t0) t12).bind fun t84 => (sto P h_1 38 t84 t82).bind fun h_2 => k h_2
noncomputable def f101_r9 (t11 : V) (k : V → Rv) : Rv :=
 (bin .add t11 (V.int .i64 1)).bind fun t86 => k t86
noncomputable def f101_r10 (t12 : V) (k : V → Rv) : Rv :=
 (bin .sub t12 (V.int .i64 1)).bind fun t88 => k t88
theorem f101_l4_eq (t0 t1 t4 t11 t12 : V) (n : Nat) (m0 : Nat) (h : List V) : f101_l4 t0 t1 t4 t11 t12 n m0 h =
 f101_r5 t0 t1 t4 t11 t12 h fun t65_7 h_8 =>
  V.ite t65_7
  (f101_r6 t12 fun t12_9 =>
  f101_l4 t0 t1 t4 t11 t12_9 n m0 h_8)
  (f101_r7 t11 t12 fun t70_10 =>
  V.ite t70_10
  (f101_r11 t11 fun t10_11 =>
  finT n h_8 t10_11)
  (f101_r8 t0 t11 t12 h_8 fun h_12 =>
  f101_r9 t11 fun t11_13 =>
  f101_r10 t12 fun t12_14 =>
  f101_l0 t0 t1 t4 t11_13 t12_14 n h_12)) :=
 l_eq (by kernel_rfl)
theorem f101_l2_eq (t0 t1 t4 t11 t12 : V) (n : Nat) (m0 : Nat) (h : List V) : f101_l2 t0 t1 t4 t11 t12 n m0 h =
 f101_r3 t0 t1 t4 t11 t12 h fun t47_4 h_5 =>
  V.ite t47_4
  (f101_r4 t11 fun t11_6 =>
  f101_l2 t0 t1 t4 t11_6 t12 n m0 h_5)
  (f101_l4 t0 t1 t4 t11 t12 n m0 h_5) :=
 l_eq (by kernel_rfl)
theorem f101_l0_eq (t0 t1 t4 t11 t12 : V) (n : Nat) (h : List V) : f101_l0 t0 t1 t4 t11 t12 n h =
 f101_l2 t0 t1 t4 t11 t12 n (List.length h) h :=
 l_eq (by kernel_rfl)
theorem f101_eq (t0 t1 t2 t3 t4 : V) (h : List V) : Cl 101 [t0, t1, t2, t3, t4] h =
 f101_r0 (f101_r1 t0 t1 t3 h fun h_1 =>
  f101_r2 t1 t2 fun t11_2 t12_3 =>
  f101_l0 t0 t1 t4 t11_2 t12_3 (List.length h) h_1) :=
 f_eq (by kernel_rfl)
/-- slices.partitionCmpFunc[modillion/api.Msg] -/
noncomputable def f102_r0 (k : Rv) : Rv :=
 k
noncomputable def f102_r1 (t0 t1 t3 : V) (h : List V) (k : List V → Rv) : Rv :=
 (indexA P 23 (V.weak t0) t3).bind fun t20 => (ldP h 38 t20).bind fun t21 => (indexA P 23 (V.weak t0) t1).bind fun t24 => (ldP h 38 t24).bind fun t25 => (indexA P 23 (V.weak t0) t1).bind fun t26 => (sto P h 38 t26 t21).bind fun h_1 => (indexA P 23 (V.weak t0) t3).bind fun t27 => (sto P h_1 38 t27 t25).bind fun h_2 => k h_2
noncomputable def f102_r2 (t1 t2 : V) (k : V → V → Rv) : Rv :=
 (bin .add t1 (V.int .i64 1)).bind fun t29 => (bin .sub t2 (V.int .i64 1)).bind fun t31 => k t29 t31
noncomputable def f102_l0 (t0 t1 t4 t12 t13 : V) (n : Nat) (h : List V) : Rv := lp W 102 0 (cd 102 71) (bk 0 (sk 102 0 31 (lv 102 n))) ⟨[(0, t0), (1, t1), (4, t4), (12, t12), (13, t13)], h⟩
noncomputable def f102_r3 (t0 t1 t4 t12 t13 : V) (h : List V) (k : V → List V → Rv) : Rv :=
 (bin .leq t12 t13).bind fun t34 => V.ite t34 ((indexA P 23 (V.weak t0) t12).bind fun t39 => (ldP h 38 t39).bind fun t40 => (indexA P 23 (V.weak t0) t1).bind fun t43 => (ldP h 38 t43).bind fun t44 => callV P ann W t4 [t40, t44] h fun t45 h_1 => if V.noOwn t45 = true then (bin .lss t45 (V.int .i64 0)).bind fun t46 => k t46 h_1 else none) (k (V.bool false) h)
noncomputable def f102_r4 (t12 : V) (k : V → Rv) : Rv :=
 (bin .add t12 (V.int .i64 1)).bind fun t49 => k t49
noncomputable def f102_l2 (t0 t1 t4 t12 t13 : V) (n : Nat) (h : List V) : Rv := lp W 102 2 (cd 102 143) (bk 2 (sk 102 0 63 (lv 102 n))) ⟨[(0, t0), (1, t1), (4, t4), (12, t12), (13, t13)], h⟩
noncomputable def f102_r5 (t0 t1 t4 t12 t13 : V) (h : List V) (k : V → List V → Rv) : Rv :=
 (bin .leq t12 t13).bind fun t52 => V.ite t52 ((indexA P 23 (V.weak t0) t13).bind fun t57 => (ldP h 38 t57).bind fun t58 => (indexA P 23 (V.weak t0) t1).bind fun t61 => (ldP h 38 t61).bind fun t62 => callV P ann W t4 [t58, t62] h fun t63 h_1 => if V.noOwn t63 = true then (bin .lss t63 (V.int .i64 0)).bind fun t64 => (un .not t64).bind fun t65 => k t65 h_1 else none) (k (V.bool false) h)
noncomputable def f102_r6 (t13 : V) (k : V → Rv) : Rv :=
 (bin .sub t13 (V.int .i64 1)).bind fun t68 => k t68
noncomputable def f102_r7 (t12 t13 : V) (k : V → Rv) : Rv :=
 (bin .gtr t12 t13).bind fun t71 => k t71
noncomputable def f102_r8 (t0 t1 t13 : V) (h : List V) (k : List V → Rv) : Rv :=
 (indexA P 23 (V.weak t0) t1).bind fun t78 => (ldP h 38 t78).bind fun t79 => (indexA P 23 (V.weak t0) t13).bind fun t82 => (ldP h 38 t82).bind fun t83 => (indexA P 23 (V.weak t0) t13).bind fun t84 => (sto P h 38 t84 t79).bind fun h_1 => (indexA P 23 (V.weak t0) t1).bind fun t85 => (sto P h_1 38 t85 t83).bind fun h_2 => k h_2
noncomputable def f102_r9 (t13 : V) (k : V → V → Rv) : Rv :=
 k t13 (V.bool true)
noncomputable def f102_r10 (t0 t12 t13 : V) (h : List V) (k : List V → Rv) : Rv :=
 (indexA P 23 (V.weak t0) t13).bind fun t93 => (ldP h 38 t93).bind fun t94 => (indexA P 23 (V.weak t0) t12).bind fun t97 => (ldP h 38 t97).bind fun t98 => (indexA P 23 (V.weak t0) t12).bind fun t99 => (sto P h 38 t99 t94).bind fun h_1 => (indexA P 23 (V.weak t0) t13).bind fun t100 => (sto P h_1 38 t100 t98).bind fun h_2 => k h_2
noncomputable def f102_r11 (t12 : V) (k : V → Rv) : Rv :=
 (bin .add t12 (V.int .i64 1)).bind fun t102 => k t102
noncomputable def f102_r12 (t13 : V) (k : V → Rv) : Rv :=
 (bin .sub t13 (V.int .i64 1)).bind fun t104 => k t104
noncomputable def f102_l4 (t0 t1 t4 t12 t13 : V) (n : Nat) (h : List V) : Rv := lp W 102 4 (cd 102 4607) (bk 4 (sk 102 0 2047 (lv 102 n))) ⟨[(0, t0), (1, t1), (4, t4), (12, t12), (13, t13)], h⟩
noncomputable def f102_l6 (t0 t1 t4 t12 t13 : V) (n : Nat) (m4 : Nat) (h : List V) : Rv := lp W 102 6 (cd 102 66047) (bk 6 (sk 102 5 25087 (bk 5 (lk 102 4 m4 4607 (bk 4 (sk 102 0 2047 (lv 102 n))))))) ⟨[(0, t0), (1, t1), (4, t4), (12, t12), (13, t13)], h⟩
noncomputable def f102_r13 (t0 t1 t4 t12 t13 : V) (h : List V) (k : V → List V → Rv) : Rv :=
 (bin .leq t12 t13).bind fun t107 => V.ite t107 ((indexA P 23 (V.weak t0) t12).bind fun t112 => (ldP h 38 t112).bind fun t113 => (indexA P 23 (V.weak t0) t1).bind fun t116 => (ldP h 38 t116).bind fun t117 => callV P ann W t4 [t113, t117] h fun t118 h_1 => if V.noOwn t118 = true then (bin .lss t118 (V.int .i64 0)).bind fun t119 => k t119 h_1 else none) (k (V.bool false) h)
noncomputable def f102_r14 (t12 : V) (k : V → Rv) : Rv :=
 (bin .add t12 (V.int .i64 1)).bind fun t122 => k t122
noncomputable def f102_l8 (t0 t1 t4 t12 t13 : V) (n : Nat) (m4 : Nat) (h : List V) : Rv := lp W 102 8 (cd 102 139775) (bk 8 (sk 102 5 57855 (bk 5 (lk 102 4 m4 4607 (bk 4 (sk 102 0 2047 (lv 102 n))))))) ⟨[(0, t0), (1, t1), (4, t4), (12, t12), (13, t13)], h⟩
noncomputable def f102_r15 (t0 t1 t4 t12 t13 : V) (h : List V) (k : V → List V → Rv) : Rv :=
 (bin .leq t12 t13).bind fun t125 => V.ite t125 ((indexA P 23 (V.weak t0) t13).bind fun t130 => (ldP h 38 t130).bind fun t131 => (indexA P 23 (V.weak t0) t1).bind fun t134 => (ldP h 38 t134).bind fun t135 => callV P ann W t4 [t131, t135] h fun t136 h_1 => if V.noOwn t136 = true then (bin .lss t136 (V.int .i64 0)).bind fun t137 => (un .not t137).bind fun t138 => k t138 h_1 else none) (k (V.bool false) h)
noncomputable def f102_r16 (t13 : V) (k : V → Rv) : Rv :=
 (bin .sub t13 (V.int .i64 1)).bind fun t141 => k t141
noncomputable def f102_r17 (t12 t13 : V) (k : V → Rv) : Rv :=
 (bin .gtr t12 t13).bind fun t144 => k t144
noncomputable def f102_r21 (t0 t1 t13 : V) (h : List V) (k : List V → Rv) : Rv :=
 (indexA P 23 (V.weak t0) t1).bind fun t169 => (ldP h 38 t169).bind fun t170 => (indexA P 23 (V.weak t0) t13).bind fun t173 => (ldP h 38 t173).bind fun t174 => (indexA P 23 (V.weak t0) t13).bind fun t175 => (sto P h 38 t175 t170).bind fun h_1 => (indexA P 23 (V.weak t0) t1).bind fun t176 => (sto P h_1 38 t176 t174).bind fun h_2 => k h_2
noncomputable def f102_r22 (t13 : V) (k : V → V → Rv) : Rv :=
 k t13 (V.bool false)
noncomputable def f102_r18 (t0 t12 t13 : V) (h : List V) (k : List V → Rv) : Rv :=
 (indexA P 23 (V.weak t0) t13).bind fun t151 => (ldP h 38 t151).bind fun t152 => (indexA P 23 (V.weak t0) t12).bind fun t155 => (ldP h 38 t155).bind fun t156 => (indexA P 23 (V.weak t0) t12).bind fun t157 => (sto P h 38 t157 t152).bind fun h_1 => (indexA P 23 (V.weak t0) t13).bind fun t158 => (sto P h_1 38 t158 t156).bind fun h_2 => k h_2
noncomputable def f102_r19 (t12 : V) (k : V → Rv) : Rv :=
 (bin .add t12 (V.int .i64 1)).bind fun t160 => k t160
noncomputable def f102_r20 (t13 : V) (k : V → Rv) : Rv :=
 (bin .sub t13 (V.int .i64 1)).bind fun t162 => k t162
theorem f102_l8_eq (t0 t1 t4 t12 t13 : V) (n : Nat) (m4 : Nat) (h : List V) : f102_l8 t0 t1 t4 t12 t13 n m4 h =
 f102_r15 t0 t1 t4 t12 t13 h fun t139_20 h_21 =>
  V.ite t139_20
  (f102_r16 t13 fun t13_22 =>
  f102_l8 t0 t1 t4 t12 t13_22 n m4 h_21)
  (f102_r17 t12 t13 fun t144_23 =>
  V.ite t144_23
  (f102_r21 t0 t1 t13 h_21 fun h_24 =>
  f102_r22 t13 fun t10_25 t11_26 =>
  if (List.all [t11_26, t10_25] V.okE) = true then finT n h_24 (V.tup [t10_25, t11_26]) else none)
  (f102_r18 t0 t12 t13 h_21 fun h_27 =>
  f102_r19 t12 fun t12_28 =>
  f102_r20 t13 fun t13_29 =>
  f102_l4 t0 t1 t4 t12_28 t13_29 n h_27)) :=
 l_eq (by kernel_rfl)
theorem f102_l6_eq (t0 t1 t4 t12 t13 : V) (n : Nat) (m4 : Nat) (h : List V) : f102_l6 t0 t1 t4 t12 t13 n m4 h =
 f102_r13 t0 t1 t4 t12 t13 h fun t120_17 h_18 =>
  V.ite t120_17
  (f102_r14 t12 fun t12_19 =>
  f102_l6 t0 t1 t4 t12_19 t13 n m4 h_18)
  (f102_l8 t0 t1 t4 t12 t13 n m4 h_18) :=
 l_eq (by kernel_rfl)
theorem f102_l4_eq (t0 t1 t4 t12 t13 : V) (n : Nat) (h : List V) : f102_l4 t0 t1 t4 t12 t13 n h =
 f102_l6 t0 t1 t4 t12 t13 n (List.length h) h :=
 l_eq (by kernel_rfl)
theorem f102_l2_eq (t0 t1 t4 t12 t13 : V) (n : Nat) (h : List V) : f102_l2 t0 t1 t4 t12 t13 n h =
 f102_r5 t0 t1 t4 t12 t13 h fun t66_7 h_8 =>
  V.ite t66_7
  (f102_r6 t13 fun t13_9 =>
  f102_l2 t0 t1 t4 t12 t13_9 n h_8)
  (f102_r7 t12 t13 fun t71_10 =>
  V.ite t71_10
  (f102_r8 t0 t1 t13 h_8 fun h_11 =>
  f102_r9 t13 fun t10_12 t11_13 =>
  if (List.all [t11_13, t10_12] V.okE) = true then finT n h_11 (V.tup [t10_12, t11_13]) else none)
  (f102_r10 t0 t12 t13 h_8 fun h_14 =>
  f102_r11 t12 fun t12_15 =>
  f102_r12 t13 fun t13_16 =>
  f102_l4 t0 t1 t4 t12_15 t13_16 n h_14)) :=
 l_eq (by kernel_rfl)
theorem f102_l0_eq (t0 t1 t4 t12 t13 : V) (n : Nat) (h : List V) : f102_l0 t0 t1 t4 t12 t13 n h =
 f102_r3 t0 t1 t4 t12 t13 h fun t47_4 h_5 =>
  V.ite t47_4
  (f102_r4 t12 fun t12_6 =>
  f102_l0 t0 t1 t4 t12_6 t13 n h_5)
  (f102_l2 t0 t1 t4 t12 t13 n h_5) :=
 l_eq (by kernel_rfl)
theorem f102_eq (t0 t1 t2 t3 t4 : V) (h : List V) : Cl 102 [t0, t1, t2, t3, t4] h =
 f102_r0 (f102_r1 t0 t1 t3 h fun h_1 =>
  f102_r2 t1 t2 fun t12_2 t13_3 =>
  f102_l0 t0 t1 t4 t12_2 t13_3 (List.length h) h_1) :=
 f_eq (by kernel_rfl)
/-- math/bits.Len64 -/
noncomputable def f104_r0 (k : V → Rv) : Rv :=
 k (V.int .i64 0)
noncomputable def f104_r1 (t0 : V) (k : V → Rv) : Rv :=
 (bin .geq t0 (V.int .u64 4294967296)).bind fun t4 => k t4
noncomputable def f104_r4 (t0 : V) (k : V → Rv) : Rv :=
 (bin .geq t0 (V.int .u64 65536)).bind fun t8 => k t8
noncomputable def f104_r7 (t0 : V) (k : V → Rv) : Rv :=
 (bin .geq t0 (V.int .u64 256)).bind fun t14 => k t14
noncomputable def f104_r10 (t0 t2 : V) (k : V → Rv) : Rv :=
 (conv P [] 61 5 t0).bind fun t21 => (indexV P 9 (V.str [0, 1, 2, 2, 3, 3, 3, 3, 4, 4, 4, 4, 4, 4, 4, 4, 5, 5, 5, 5, 5, 5, 5, 5, 5, 5, 5, 5, 5, 5, 5, 5, 6, 6, 6, 6, 6, 6, 6, 6, 6, 6, 6, 6, 6, 6, 6, 6, 6, 6, 6, 6, 6, 6, 6, 6, 6, 6, 6, 6, 6, 6, 6, 6, 7, 7, 7, 7, 7, 7, 7, 7, 7, 7, 7, 7, 7, 7, 7, 7, 7, 7, 7, 7, 7, 7, 7, 7, 7, 7, 7, 7, 7, 7, 7, 7, 7, 7, 7, 7, 7, 7, 7, 7, 7, 7, 7, 7, 7, 7, 7, 7, 7, 7, 7, 7, 7, 7, 7, 7, 7, 7, 7, 7, 7, 7, 7, 7, 8, 8, 8, 8, 8, 8, 8, 8, 8, 8, 8, 8, 8, 8, 8, 8, 8, 8, 8, 8, 8, 8, 8, 8, 8, 8, 8, 8, 8, 8, 8, 8, 8, 8, 8, 8, 8, 8, 8, 8, 8, 8, 8, 8, 8, 8, 8, 8, 8, 8, 8, 8, 8, 8, 8, 8, 8, 8, 8, 8, 8, 8, 8, 8, 8, 8, 8, 8, 8, 8, 8, 8, 8, 8, 8, 8, 8, 8, 8, 8, 8, 8, 8, 8, 8, 8, 8, 8, 8, 8, 8, 8, 8, 8, 8, 8, 8, 8, 8, 8, 8, 8, 8, 8, 8, 8, 8, 8, 8, 8, 8, 8, 8, 8, 8, 8, 8, 8, 8, 8, 8, 8, 8, 8, 8, 8, 8, 8]) t21).bind fun t22 => (conv P [] 5 3 t22).bind fun t23 => (bin .add t2 t23).bind fun t24 => k t24
noncomputable def f104_r8 (t0 : V) (k : V → Rv) : Rv :=
 (bin .shr t0 (V.int .u64 8)).bind fun t16 => k t16
noncomputable def f104_r9 (t2 : V) (k : V → Rv) : Rv :=
 (bin .add t2 (V.int .i64 8)).bind fun t18 => k t18
noncomputable def f104_r5 (t0 : V) (k : V → Rv) : Rv :=
 (bin .shr t0 (V.int .u64 16)).bind fun t10 => k t10
noncomputable def f104_r6 (t2 : V) (k : V → Rv) : Rv :=
 (bin .add t2 (V.int .i64 16)).bind fun t12 => k t12
noncomputable def f104_r2 (t0 : V) (k : V → Rv) : Rv :=
 (bin .shr t0 (V.int .u64 32)).bind fun t6 => k t6
noncomputable def f104_r3 (k : V → Rv) : Rv :=
 k (V.int .i64 32)
theorem f104_eq (t0 : V) : Cl 104 [t0] [] =
 f104_r0 fun t2_1 =>
  f104_r1 t0 fun t4_2 =>
  jn (fun t0_3 t2_4 => f104_r4 t0_3 fun t8_5 =>
  jn (fun t0_6 t2_7 => f104_r7 t0_6 fun t14_8 =>
  jn (fun t0_9 t2_10 => f104_r10 t0_9 t2_10 fun t2_11 =>
  finT 0 [] t2_11)
  (fun (j2 : V → V → Rv) => V.ite t14_8
  (f104_r8 t0_6 fun t0_12 =>
  f104_r9 t2_7 fun t2_13 =>
  j2 t0_12 t2_13)
  (j2 t0_6 t2_7)))
  (fun (j1 : V → V → Rv) => V.ite t8_5
  (f104_r5 t0_3 fun t0_14 =>
  f104_r6 t2_4 fun t2_15 =>
  j1 t0_14 t2_15)
  (j1 t0_3 t2_4)))
  (fun (j0 : V → V → Rv) => V.ite t4_2
  (f104_r2 t0 fun t0_16 =>
  f104_r3 fun t2_17 =>
  j0 t0_16 t2_17)
  (j0 t0 t2_1)) :=
 f_eq (y_seq <| y_reg (fun K u2 => K ⟨[(0, t0), (2, u2)], []⟩) (funext fun t2_1 => seqK_n <| y_seq <| y_seq <| y_reg (fun K u4 => K ⟨[(0, t0), (2, t2_1), (4, u4)], []⟩) (funext fun t4_2 => seqK_n <| y_jn (fun K t0_3 t2_4 => K ⟨[(0, t0_3), (2, t2_4)], []⟩) (funext fun t0_3 => funext fun t2_4 => seqK_n <| y_seq <| y_seq <| y_reg (fun K u8 => K ⟨[(0, t0_3), (2, t2_4), (8, u8)], []⟩) (funext fun t8_5 => seqK_n <| y_jn (fun K t0_6 t2_7 => K ⟨[(0, t0_6), (2, t2_7)], []⟩) (funext fun t0_6 => funext fun t2_7 => seqK_n <| y_seq <| y_seq <| y_reg (fun K u14 => K ⟨[(0, t0_6), (2, t2_7), (14, u14)], []⟩) (funext fun t14_8 => seqK_n <| y_jn (fun K t0_9 t2_10 => K ⟨[(0, t0_9), (2, t2_10)], []⟩) (funext fun t0_9 => funext fun t2_10 => by kernel_rfl) (y_cond (y_seq <| y_reg (fun K u0 => K ⟨[(0, u0), (2, t2_7)], []⟩) (funext fun t0_12 => seqK_n <| y_reg (fun K u2 => K ⟨[(0, t0_12), (2, u2)], []⟩) (funext fun t2_13 => rfl))) (y_skip <| y_nf)))) (y_cond (y_seq <| y_reg (fun K u0 => K ⟨[(0, u0), (2, t2_4)], []⟩) (funext fun t0_14 => seqK_n <| y_reg (fun K u2 => K ⟨[(0, t0_14), (2, u2)], []⟩) (funext fun t2_15 => rfl))) (y_skip <| y_nf)))) (y_cond (y_seq <| y_reg (fun K u0 => K ⟨[(0, u0)], []⟩) (funext fun t0_16 => seqK_n <| y_reg (fun K u2 => K ⟨[(0, t0_16), (2, u2)], []⟩) (funext fun t2_17 => rfl))) (y_skip <| y_nf)))))
/-- cmp.isNaN[int] -/
noncomputable def f105_r0 (k : Rv) : Rv :=
 k
noncomputable def f105_r1 (t0 : V) (k : V → Rv) : Rv :=
 (bin .neq t0 t0).bind fun t5 => k t5
theorem f105_eq (t0 : V) : Cl 105 [t0] [] =
 f105_r0 (f105_r1 t0 fun t2_1 =>
  finT 0 [] t2_1) :=
 f_eq (by kernel_rfl)
/-- cmp.isNaN[int64] -/
noncomputable def f106_r0 (k : Rv) : Rv :=
 k
noncomputable def f106_r1 (t0 : V) (k : V → Rv) : Rv :=
 (bin .neq t0 t0).bind fun t5 => k t5
theorem f106_eq (t0 : V) : Cl 106 [t0] [] =
 f106_r0 (f106_r1 t0 fun t2_1 =>
  finT 0 [] t2_1) :=
 f_eq (by kernel_rfl)
/-- modillion/state.Check -/
theorem f107_eq (t0 : V) : Cl 107 [t0] [] =
 if ((tyG 118) t0 && V.under 0 t0) = true then jn (fun t30_1 =>
 V.ite t30_1
  (finT 0 [t0] (V.int .i64 100))
  (finT 0 [t0] (V.int .i64 0))) (fun (k_2 : V → Rv) => (fA 119 3 0 (V.ref 0 [] 119)).bind fun t3_3 => (ldP [t0] 3 t3_3).bind fun t4_4 => (bin .lss t4_4 (V.int .i64 0)).bind fun t5_5 => V.ite t5_5 (k_2 (V.bool true)) ((fA 119 3 0 (V.ref 0 [] 119)).bind fun t7_6 => (ldP [t0] 3 t7_6).bind fun t8_7 => (bin .geq t8_7 (V.int .i64 64)).bind fun t9_8 => V.ite t9_8 (k_2 (V.bool true)) ((fA 119 2 1 (V.ref 0 [] 119)).bind fun t12_9 => (ldP [t0] 2 t12_9).bind fun t13_10 => (Cl 120 (reifyL [t0] [t13_10]) []).bind fun r_11 => V.ite r_11.1 (k_2 (V.bool true)) ((fA 119 2 4 (V.ref 0 [] 119)).bind fun t17_12 => (ldP [t0] 2 t17_12).bind fun t18_13 => (Cl 120 (reifyL [t0] [t18_13]) []).bind fun r_14 => V.ite r_14.1 (k_2 (V.bool true)) ((fA 119 4 3 (V.ref 0 [] 119)).bind fun t22_15 => (ldP [t0] 4 t22_15).bind fun t23_16 => (un .not t23_16).bind fun t24_17 => V.ite t24_17 ((fA 119 2 4 (V.ref 0 [] 119)).bind fun t26_18 => (ldP [t0] 2 t26_18).bind fun t27_19 => (bin .neq t27_19 (V.int .i64 0)).bind fun t28_20 => k_2 t28_20) (k_2 (V.bool false))))))) else none :=
 f_eq (by kernel_rfl)
/-- modillion/state.bit -/
theorem f108_eq (t0 : V) : Cl 108 [t0] [] =
 V.ite t0
  (finT 0 [] (V.int .u64 1))
  (finT 0 [] (V.int .u64 0)) :=
 f_eq (by kernel_rfl)
/-- modillion/hash.turn -/
noncomputable def f114_r0 (k : Rv) : Rv :=
 k
noncomputable def f114_r1 (t0 t1 : V) (k : V → Rv) : Rv :=
 (un .neg t1).bind fun t7 => (Cl 121 (reifyL [] [t0, t7]) []).bind fun r => k r.1
theorem f114_eq (t0 t1 : V) : Cl 114 [t0, t1] [] =
 f114_r0 (f114_r1 t0 t1 fun t4_1 =>
  finT 0 [] t4_1) :=
 f_eq (by kernel_rfl)
/-- slices.siftDownCmpFunc[modillion/api.Msg] -/
noncomputable def f115_r0 (t1 : V) (k : V → Rv) : Rv :=
 k t1
noncomputable def f115_l0 (t0 t2 t3 t4 t10 : V) (n : Nat) (h : List V) : Rv := lp W 115 0 (cd 115 9) (bk 0 (lv 115 n)) ⟨[(0, t0), (2, t2), (3, t3), (4, t4), (10, t10)], h⟩
noncomputable def f115_r1 (t10 : V) (k : V → Rv) : Rv :=
 (bin .mul (V.int .i64 2) t10).bind fun t14 => (bin .add t14 (V.int .i64 1)).bind fun t15 => k t15
noncomputable def f115_r2 (t2 t11 : V) (k : V → Rv) : Rv :=
 (bin .geq t11 t2).bind fun t18 => k t18
noncomputable def f115_r3 (t0 t2 t3 t4 t11 : V) (h : List V) (k : V → List V → Rv) : Rv :=
 (bin .add t11 (V.int .i64 1)).bind fun t20 => (bin .lss t20 t2).bind fun t22 => V.ite t22 ((bin .add t3 t11).bind fun t28 => (indexA P 23 (V.weak t0) t28).bind fun t29 => (ldP h 38 t29).bind fun t30 => (bin .add t3 t11).bind fun t34 => (bin .add t34 (V.int .i64 1)).bind fun t35 => (indexA P 23 (V.weak t0) t35).bind fun t36 => (ldP h 38 t36).bind fun t37 => callV P ann W t4 [t30, t37] h fun t38 h_1 => if V.noOwn t38 = true then (bin .lss t38 (V.int .i64 0)).bind fun t39 => k t39 h_1 else none) (k (V.bool false) h)
noncomputable def f115_r5 (t0 t3 t4 t10 t11 : V) (h : List V) (k : V → List V → Rv) : Rv :=
 (bin .add t3 t10).bind fun t47 => (indexA P 23 (V.weak t0) t47).bind fun t48 => (ldP h 38 t48).bind fun t49 => (bin .add t3 t11).bind fun t53 => (indexA P 23 (V.weak t0) t53).bind fun t54 => (ldP h 38 t54).bind fun t55 => callV P ann W t4 [t49, t55] h fun t56 h_1 => if V.noOwn t56 = true then (bin .lss t56 (V.int .i64 0)).bind fun t57 => (un .not t57).bind fun t58 => k t58 h_1 else none
noncomputable def f115_r6 (t0 t3 t10 t11 : V) (h : List V) (k : List V → Rv) : Rv :=
 (bin .add t3 t10).bind fun t62 => (bin .add t3 t11).bind fun t66 => (bin .add t3 t11).bind fun t70 => (indexA P 23 (V.weak t0) t70).bind fun t71 => (ldP h 38 t71).bind fun t72 => (bin .add t3 t10).bind fun t76 => (indexA P 23 (V.weak t0) t76).bind fun t77 => (ldP h 38 t77).bind fun t78 => (indexA P 23 (V.weak t0) t62).bind fun t79 => (sto P h 38 t79 t72).bind fun h_1 => (indexA P 23 (V.weak t0) t66).bind fun t80 => (sto P h_1 38 t80 t78).bind fun h_2 => k h_2
noncomputable def f115_r7 (t11 : V) (k : V → Rv) : Rv :=
 k t11
noncomputable def f115_r4 (t11 : V) (k : V → Rv) : Rv :=
 (bin .add t11 (V.int .i64 1)).bind fun t42 => k t42
theorem f115_l0_eq (t0 t2 t3 t4 t10 : V) (n : Nat) (h : List V) : f115_l0 t0 t2 t3 t4 t10 n h =
 f115_r1 t10 fun t11_2 =>
  f115_r2 t2 t11_2 fun t18_3 =>
  V.ite t18_3
  (if (List.all [] V.okE) = true then finT n h (V.tup []) else none)
  (f115_r3 t0 t2 t3 t4 t11_2 h fun t40_4 h_5 =>
  jn (fun t11_6 => f115_r5 t0 t3 t4 t10 t11_6 h_5 fun t58_7 h_8 =>
  V.ite t58_7
  (if (List.all [] V.okE) = true then finT n h_8 (V.tup []) else none)
  (f115_r6 t0 t3 t10 t11_6 h_8 fun h_9 =>
  f115_r7 t11_6 fun t10_10 =>
  f115_l0 t0 t2 t3 t4 t10_10 n h_9))
  (fun (j0 : V → Rv) => V.ite t40_4
  (f115_r4 t11_2 fun t11_11 =>
  j0 t11_11)
  (j0 t11_2))) :=
 l_eq (y_block <| y_seq <| y_reg (fun K u11 => K ⟨[(0, t0), (2, t2), (3, t3), (4, t4), (10, t10), (11, u11)], h⟩) (funext fun t11_2 => seqK_n <| y_seq <| y_seq <| y_reg (fun K u18 => K ⟨[(0, t0), (2, t2), (3, t3), (4, t4), (10, t10), (11, t11_2), (18, u18)], h⟩) (funext fun t18_3 => seqK_n <| y_cond (by kernel_rfl) (y_skip <| seqK_n <| y_seq <| y_seq <| y_reg (fun K u40 h' => K ⟨[(0, t0), (2, t2), (3, t3), (4, t4), (10, t10), (11, t11_2), (40, u40)], h'⟩) (funext fun t40_4 => funext fun h_5 => seqK_n <| y_jn (fun K t11_6 => K ⟨[(0, t0), (2, t2), (3, t3), (4, t4), (10, t10), (11, t11_6)], h_5⟩) (funext fun t11_6 => by kernel_rfl) (y_cond (by kernel_rfl) (by kernel_rfl)))))))
theorem f115_eq (t0 t1 t2 t3 t4 : V) (h : List V) : Cl 115 [t0, t1, t2, t3, t4] h =
 f115_r0 t1 fun t10_1 =>
  f115_l0 t0 t2 t3 t4 t10_1 (List.length h) h :=
 f_eq (by kernel_rfl)
/-- slices.nextPowerOfTwo -/
noncomputable def f116_r0 (k : Rv) : Rv :=
 k
noncomputable def f116_r1 (t0 : V) (k : V → Rv) : Rv :=
 (conv P [] 3 98 t0).bind fun t4 => (Cl 83 (reifyL [] [t4]) []).bind fun r => (bin .shl (V.int .u64 1) r.1).bind fun t6 => k t6
theorem f116_eq (t0 : V) : Cl 116 [t0] [] =
 f116_r0 (f116_r1 t0 fun t2_1 =>
  finT 0 [] t2_1) :=
 f_eq (by kernel_rfl)
/-- (*slices.xorshift).Next -/
noncomputable def f117_r0 (k : Rv) : Rv :=
 k
noncomputable def f117_r1 (t0 : V) (h : List V) (k : List V → Rv) : Rv :=
 (notNil t0).bind fun t4 => (ldP h 147 t4).bind fun t5 => (notNil t0).bind fun t7 => (ldP h 147 t7).bind fun t8 => (bin .shl t8 (V.int .u64 13)).bind fun t9 => (bin .xor t5 t9).bind fun t10 => (notNil t0).bind fun t11 => (sto P h 147 t11 t10).bind fun h_1 => k h_1
noncomputable def f117_r2 (t0 : V) (h : List V) (k : List V → Rv) : Rv :=
 (notNil t0).bind fun t13 => (ldP h 147 t13).bind fun t14 => (notNil t0).bind fun t16 => (ldP h 147 t16).bind fun t17 => (bin .shr t17 (V.int .u64 7)).bind fun t18 => (bin .xor t14 t18).bind fun t19 => (notNil t0).bind fun t20 => (sto P h 147 t20 t19).bind fun h_1 => k h_1
noncomputable def f117_r3 (t0 : V) (h : List V) (k : List V → Rv) : Rv :=
 (notNil t0).bind fun t22 => (ldP h 147 t22).bind fun t23 => (notNil t0).bind fun t25 => (ldP h 147 t25).bind fun t26 => (bin .shl t26 (V.int .u64 17)).bind fun t27 => (bin .xor t23 t27).bind fun t28 => (notNil t0).bind fun t29 => (sto P h 147 t29 t28).bind fun h_1 => k h_1
noncomputable def f117_r4 (t0 : V) (h : List V) (k : V → Rv) : Rv :=
 (notNil t0).bind fun t31 => (ldP h 147 t31).bind fun t32 => k t32
theorem f117_eq (t0 : V) (h : List V) : Cl 117 [t0] h =
 f117_r0 (f117_r1 t0 h fun h_1 =>
  f117_r2 t0 h_1 fun h_2 =>
  f117_r3 t0 h_2 fun h_3 =>
  f117_r4 t0 h_3 fun t2_4 =>
  finT (List.length h) h_3 t2_4) :=
 f_eq (by kernel_rfl)
/-- slices.medianAdjacentCmpFunc[modillion/api.Msg] -/
noncomputable def f118_r0 (k : Rv) : Rv :=
 k
noncomputable def f118_r1 (t0 t1 t2 t3 : V) (h : List V) (k : V → List V → Rv) : Rv :=
 (bin .sub t1 (V.int .i64 1)).bind fun t11 => (bin .add t1 (V.int .i64 1)).bind fun t14 => (Cl 119 (normL [t0, t11, t1, t14, t2, t3]) h).bind fun r => k r.1 r.2
theorem f118_eq (t0 t1 t2 t3 : V) (h : List V) : Cl 118 [t0, t1, t2, t3] h =
 f118_r0 (f118_r1 t0 t1 t2 t3 h fun t8_1 h_2 =>
  finT (List.length h) h_2 t8_1) :=
 f_eq (by kernel_rfl)
/-- slices.medianCmpFunc[modillion/api.Msg] -/
noncomputable def f119_r0 (k : Rv) : Rv :=
 k
noncomputable def f119_r1 (t0 t1 t2 t4 t5 : V) (h : List V) (k : V → V → List V → Rv) : Rv :=
 (Cl 122 (normL [(V.weak t0), t1, t2, t4, t5]) h).bind fun r => (ext r.1 0).bind fun t20 => (ext r.1 1).bind fun t21 => k t20 t21 r.2
noncomputable def f119_r2 (t0 t2 t3 t4 t5 : V) (h : List V) (k : V → List V → Rv) : Rv :=
 (Cl 122 (normL [(V.weak t0), t2, t3, t4, t5]) h).bind fun r => (ext r.1 0).bind fun t29 => (ext r.1 1).bind fun t30 => k t29 r.2
noncomputable def f119_r3 (t0 t1 t2 t4 t5 : V) (h : List V) (k : V → List V → Rv) : Rv :=
 (Cl 122 (normL [t0, t1, t2, t4, t5]) h).bind fun r => (ext r.1 0).bind fun t38 => (ext r.1 1).bind fun t39 => k t39 r.2
noncomputable def f119_r4 (t2 : V) (k : V → Rv) : Rv :=
 k t2
theorem f119_eq (t0 t1 t2 t3 t4 t5 : V) (h : List V) : Cl 119 [t0, t1, t2, t3, t4, t5] h =
 f119_r0 (f119_r1 t0 t1 t2 t4 t5 h fun t1_1 t2_2 h_3 =>
  f119_r2 t0 t2_2 t3 t4 t5 h_3 fun t2_4 h_5 =>
  f119_r3 t0 t1_1 t2_4 t4 t5 h_5 fun t2_6 h_7 =>
  f119_r4 t2_6 fun t12_8 =>
  finT (List.length h) h_7 t12_8) :=
 f_eq (by kernel_rfl)
/-- modillion/state.great -/
theorem f120_eq (t0 : V) : Cl 120 [t0] [] =
 jn (fun t2_1 =>
 finT 0 [] t2_1) (fun (k_2 : V → Rv) => (bin .gtr t0 (V.int .i64 1125899906842624)).bind fun t4_3 => V.ite t4_3 (k_2 (V.bool true)) ((bin .lss t0 (V.int .i64 (-1125899906842624))).bind fun t7_4 => k_2 t7_4)) :=
 f_eq (by kernel_rfl)
/-- math/bits.RotateLeft32 -/
noncomputable def f121_r0 (k : Rv) : Rv :=
 k
noncomputable def f121_r1 (t1 : V) (k : V → Rv) : Rv :=
 (conv P [] 3 98 t1).bind fun t7 => (bin .and t7 (V.int .u64 31)).bind fun t8 => k t8
noncomputable def f121_r2 (t0 t5 : V) (k : V → Rv) : Rv :=
 (bin .shl t0 t5).bind fun t11 => (bin .sub (V.int .u64 32) t5).bind fun t14 => (bin .shr t0 t14).bind fun t15 => (bin .or t11 t15).bind fun t16 => k t16
theorem f121_eq (t0 t1 : V) : Cl 121 [t0, t1] [] =
 f121_r0 (f121_r1 t1 fun t5_1 =>
  f121_r2 t0 t5_1 fun t4_2 =>
  finT 0 [] t4_2) :=
 f_eq (by kernel_rfl)
/-- slices.order2CmpFunc[modillion/api.Msg] -/
noncomputable def f122_r0 (k : Rv) : Rv :=
 k
noncomputable def f122_r1 (t0 t1 t2 t4 : V) (h : List V) (k : V → List V → Rv) : Rv :=
 (indexA P 23 (V.weak t0) t2).bind fun t15 => (ldP h 38 t15).bind fun t16 => (indexA P 23 (V.weak t0) t1).bind fun t19 => (ldP h 38 t19).bind fun t20 => callV P ann W t4 [t16, t20] h fun t21 h_1 => if V.noOwn t21 = true then (bin .lss t21 (V.int .i64 0)).bind fun t22 => k t22 h_1 else none
noncomputable def f122_r2 (t3 : V) (h : List V) (k : List V → Rv) : Rv :=
 (notNil t3).bind fun t24 => (ldP h 3 t24).bind fun t25 => (bin .add t25 (V.int .i64 1)).bind fun t26 => (notNil t3).bind fun t27 => (sto P h 3 t27 t26).bind fun h_1 => k h_1
noncomputable def f122_r3 (t1 t2 : V) (k : V → V → Rv) : Rv :=
 k t2 t1
noncomputable def f122_r4 (t1 t2 : V) (k : V → V → Rv) : Rv :=
 k t1 t2
theorem f122_eq (t0 t1 t2 t3 t4 : V) (h : List V) : Cl 122 [t0, t1, t2, t3, t4] h =
 f122_r0 (f122_r1 t0 t1 t2 t4 h fun t22_1 h_2 =>
  V.ite t22_1
  (f122_r2 t3 h_2 fun h_3 =>
  f122_r3 t1 t2 fun t10_4 t11_5 =>
  if (List.all [t11_5, t10_4] V.okE) = true then finT (List.length h) h_3 (V.tup [t10_4, t11_5]) else none)
  (f122_r4 t1 t2 fun t10_6 t11_7 =>
  if (List.all [t11_7, t10_6] V.okE) = true then finT (List.length h) h_2 (V.tup [t10_6, t11_7]) else none)) :=
 f_eq (by kernel_rfl)
end Go.Proofs.YtmjocdbdbofcbaaDoor
end
