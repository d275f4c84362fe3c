/-
  Part of the proof of a statement about the given program: an abstract machine over its code, the simulation, its functions' equations, what they compute.
-/
import Derived.Test.YtiegkempfolgcaaGreatDoorMg3
section
set_option maxRecDepth 100000
set_option linter.unusedVariables false
namespace Go.Proofs.YtiegkempfolgcaaGreatDoor
open Go AM
noncomputable def f7_l0 (t2 t3 t4 t5 t9 t11 : V) (h : List V) : Rv := lp W 7 0 (cd 7 303) (bk 0 (sk 7 0 63 (lv 7 0))) ⟨[(2, t2), (3, t3), (4, t4), (5, t5), (9, t9), (11, t11)], h⟩
theorem f7_l0_eq (t2 t3 t4 t5 t9 t11 : V) (h : List V) : f7_l0 t2 t3 t4 t5 t9 t11 h =
 (lnL (V.weak t3)).bind fun t62_11 => (bin .lss t11 t62_11).bind fun t63_12 => V.ite t63_12
  ((ixS 5 (V.weak t3) t11).bind fun t68_13 => (ldP h 5 t68_13).bind fun t69_14 => (cvI .i64 t69_14).bind fun t70_15 => (bin .rem t70_15 t2).bind fun t72_16 => (fA 33 28 1 t9).bind fun t73_17 => (ldS h 28 t73_17).bind fun t74_18 => (ixS 4 t74_18 t72_16).bind fun t76_19 => (ldP h 4 t76_19).bind fun t77_20 => (ldS h 33 t9).bind fun t79_21 => (Cl 18 (reifyL h [t79_21]) []).bind fun r_22 => (Cl 20 (reifyL h [r_22.1, t72_16]) []).bind fun r_23 => (ext r_23.1 0).bind fun t83_24 => (ext r_23.1 1).bind fun t84_25 => V.ite t77_20
  (jn (fun t91_26 =>
 V.ite t91_26
  (finT 0 h (V.bool false))
  ((ldS h 24 t4).bind fun t93_27 => if lowB true [t93_27] = true then (Cl 11 (reifyL h [t93_27]) []).bind fun r_28 => (ldP h 26 t5).bind fun t95_29 => (ldS h 33 t9).bind fun t96_30 => if lowB true [t96_30] = true then (Cl 18 (reifyL h [t96_30]) []).bind fun r_31 => (cvI .u8 t72_16).bind fun t99_32 => (bsL 5 false (ck [(tyI .u8) t99_32] [t99_32])).bind fun t100_33 => if lowB true [t100_33] = true then (cvT h t100_33).bind fun t101_34 => (bin .add (V.str [69]) t101_34).bind fun t102_35 => if lowB true [r_28.1, t95_29, r_31.1, t102_35] = true then (Cl 23 (reifyL h [r_28.1, t95_29, r_31.1, t102_35]) []).bind fun r_36 => (extS r_36.1 0).bind fun t104_37 => (ext r_36.1 1).bind fun t105_38 => (stT (tyG 32) 33 (h ++ [(V.agg 32 [(V.int .i64 0), (V.lst 4 .nil []), (V.lst 55 .nil []), (V.lst 58 .nil []), (V.lst 108 .nil [])])]) (V.ref (List.length h) [] 33) t104_37).bind fun h_39 => (bin .neq t105_38 (V.int .i64 171)).bind fun t107_40 => V.ite t107_40
  (finT 0 h_39 (V.bool false))
  ((bin .add t11 (V.int .i64 1)).bind fun t65_41 => if underL (List.length h) [t2, t3, t4, t5, t9, t65_41] = true then f7_l0 t2 t3 t4 t5 t9 t65_41 (List.take (List.length h) h_39) else none) else none else none else none else none)) (fun (k_42 : V → Rv) => (bin .neq t83_24 (V.str [])).bind fun t87_43 => V.ite t87_43 (k_42 (V.bool true)) ((bin .neq t84_25 (V.int .i64 170)).bind fun t90_44 => k_42 t90_44)))
  ((ldS h 24 t4).bind fun t109_45 => if lowB true [t109_45] = true then (Cl 11 (reifyL h [t109_45]) []).bind fun r_46 => (ldP h 26 t5).bind fun t111_47 => (ldS h 33 t9).bind fun t112_48 => if lowB true [t112_48] = true then (Cl 18 (reifyL h [t112_48]) []).bind fun r_49 => if lowB true [r_46.1, t111_47, r_49.1, t83_24] = true then (Cl 23 (reifyL h [r_46.1, t111_47, r_49.1, t83_24]) []).bind fun r_50 => (extS r_50.1 0).bind fun t116_51 => (ext r_50.1 1).bind fun t117_52 => (stT (tyG 32) 33 (h ++ [(V.agg 32 [(V.int .i64 0), (V.lst 4 .nil []), (V.lst 55 .nil []), (V.lst 58 .nil []), (V.lst 108 .nil [])])]) (V.ref (List.length h) [] 33) t116_51).bind fun h_53 => jn (fun t136_54 =>
 V.ite t136_54
  (finT 0 h_53 (V.bool false))
  ((ldS h_53 33 (V.ref (List.length h) [] 33)).bind fun t137_55 => (stT (tyG 32) 33 h_53 t9 t137_55).bind fun h_56 => (bin .add t11 (V.int .i64 1)).bind fun t65_57 => if underL (List.length h) [t2, t3, t4, t5, t9, t65_57] = true then f7_l0 t2 t3 t4 t5 t9 t65_57 (List.take (List.length h) h_56) else none)) (fun (k_58 : V → Rv) => (bin .neq t84_25 (V.int .i64 0)).bind fun t119_59 => V.ite t119_59 (k_58 (V.bool true)) ((bin .neq t117_52 (V.int .i64 0)).bind fun t122_60 => V.ite t122_60 (k_58 (V.bool true)) ((fA 33 28 1 (V.ref (List.length h) [] 33)).bind fun t125_61 => (ldS h_53 28 t125_61).bind fun t126_62 => (ixS 4 t126_62 t72_16).bind fun t128_63 => (ldP h_53 4 t128_63).bind fun t129_64 => (un .not t129_64).bind fun t130_65 => V.ite t130_65 (k_58 (V.bool true)) ((fA 33 3 0 (V.ref (List.length h) [] 33)).bind fun t133_66 => (ldP h_53 3 t133_66).bind fun t134_67 => (bin .neq t134_67 (V.int .i64 0)).bind fun t135_68 => k_58 t135_68)))) else none else none else none))
  (finT 0 h (V.bool true)) :=
 l_eq (by kernel_rfl)
theorem f7_eq (t0 t1 t2 t3 : V) : Cl 7 [t0, t1, t2, t3] [] =
 if ((tyG 23) (V.weak t0) && V.under 0 (V.weak t0)) = true then if ((tyG 25) t1 && V.under 1 t1) = true then jn (fun t48_1 =>
 V.ite t48_1
  ((Cl 9 (reifyL [(V.weak t0), t1] []) []).bind fun r_2 => finT 0 [(V.weak t0), t1] r_2.1)
  ((ldS [(V.weak t0), t1] 24 (V.ref 0 [] 24)).bind fun t51_3 => if lowB true [t51_3] = true then (Cl 11 (reifyL [(V.weak t0), t1] [t51_3]) []).bind fun r_4 => (ldP [(V.weak t0), t1] 26 (V.ref 1 [] 26)).bind fun t53_5 => if lowB true [r_4.1, t53_5, t2] = true then (Cl 10 (reifyL [(V.weak t0), t1] [r_4.1, t53_5, t2]) []).bind fun r_6 => (extS r_6.1 0).bind fun t56_7 => (ext r_6.1 1).bind fun t57_8 => (stT (tyG 32) 33 [(V.weak t0), t1, (V.agg 32 [(V.int .i64 0), (V.lst 4 .nil []), (V.lst 55 .nil []), (V.lst 58 .nil []), (V.lst 108 .nil [])])] (V.ref 2 [] 33) t56_7).bind fun h_9 => (bin .neq t57_8 (V.int .i64 0)).bind fun t59_10 => V.ite t59_10
  (finT 0 h_9 (V.bool false))
  (f7_l0 t2 t3 (V.ref 0 [] 24) (V.ref 1 [] 26) (V.ref 2 [] 33) (V.int .i64 0) h_9) else none else none)) (fun (k_69 : V → Rv) => (Cl 9 (reifyL [(V.weak t0), t1] []) []).bind fun r_70 => (un .not r_70.1).bind fun t21_71 => V.ite t21_71 (k_69 (V.bool true)) ((fA 24 22 1 (V.ref 0 [] 24)).bind fun t23_72 => (ldS [(V.weak t0), t1] 22 t23_72).bind fun t24_73 => (lnL t24_73).bind fun t25_74 => (bin .gtr t25_74 (V.int .i64 40)).bind fun t26_75 => V.ite t26_75 (k_69 (V.bool true)) ((fA 24 3 0 (V.ref 0 [] 24)).bind fun t29_76 => (ldP [(V.weak t0), t1] 3 t29_76).bind fun t30_77 => (bin .gtr t30_77 (V.int .i64 12)).bind fun t31_78 => V.ite t31_78 (k_69 (V.bool true)) ((bin .gtr t2 (V.int .i64 8)).bind fun t35_79 => V.ite t35_79 (k_69 (V.bool true)) ((lnL (V.weak t3)).bind fun t39_80 => (bin .gtr t39_80 (V.int .i64 12)).bind fun t40_81 => V.ite t40_81 (k_69 (V.bool true)) ((ldS [(V.weak t0), t1] 24 (V.ref 0 [] 24)).bind fun t43_82 => (ldP [(V.weak t0), t1] 26 (V.ref 1 [] 26)).bind fun t44_83 => (Cl 12 (reifyL [(V.weak t0), t1] [t43_82, t44_83, t2]) []).bind fun r_84 => (un .not r_84.1).bind fun t47_85 => k_69 t47_85)))))) else none else none :=
 f_eq (by kernel_rfl)
theorem f9_eq : Cl 9 [] [] =
 ((ck [(tyI .i64) (V.int .i64 2)] [(V.int .i64 2), (V.lst 112 .nil [])]).map (.agg 23)).bind fun t16_1 => ((ck [tyS (V.str [109, 97, 120]), (tyI .i64) (V.int .i64 2)] [(V.str [109, 97, 120]), (V.int .i64 0), (V.int .i64 2)]).map (.agg 25)).bind fun t17_2 => (stT (tyG 23) 24 [(V.agg 23 [(V.int .i64 0), (V.lst 112 .nil [])]), (V.agg 25 [(V.str []), (V.int .i64 0), (V.int .i64 0)])] (V.ref 0 [] 24) t16_1).bind fun h_3 => (stT (tyG 25) 26 h_3 (V.ref 1 [] 26) t17_2).bind fun h_4 => (ldS h_4 24 (V.ref 0 [] 24)).bind fun t19_5 => (ldP h_4 26 (V.ref 1 [] 26)).bind fun t20_6 => (Cl 10 (reifyL h_4 [t19_5, t20_6, (V.int .i64 2)]) []).bind fun r_7 => (extS r_7.1 0).bind fun t22_8 => (ext r_7.1 1).bind fun t23_9 => (stT (tyG 32) 33 (h_4 ++ [(V.agg 32 [(V.int .i64 0), (V.lst 4 .nil []), (V.lst 55 .nil []), (V.lst 58 .nil []), (V.lst 108 .nil [])])]) (V.ref (List.length h_4) [] 33) t22_8).bind fun h_10 => (ldS h_10 33 (V.ref (List.length h_4) [] 33)).bind fun t25_11 => (Cl 20 (reifyL h_10 [t25_11, (V.int .i64 1)]) []).bind fun r_12 => (ext r_12.1 0).bind fun t27_13 => (ext r_12.1 1).bind fun t28_14 => (ldS h_10 24 (V.ref 0 [] 24)).bind fun t30_15 => (ldP h_10 26 (V.ref 1 [] 26)).bind fun t31_16 => (ldS h_10 33 (V.ref (List.length h_4) [] 33)).bind fun t32_17 => (Cl 23 (reifyL h_10 [t30_15, t31_16, t32_17, t27_13]) []).bind fun r_18 => (extS r_18.1 0).bind fun t35_19 => (ext r_18.1 1).bind fun t36_20 => (stT (tyG 32) 33 (h_10 ++ [(V.agg 32 [(V.int .i64 0), (V.lst 4 .nil []), (V.lst 55 .nil []), (V.lst 58 .nil []), (V.lst 108 .nil [])])]) (V.ref (List.length h_10) [] 33) t35_19).bind fun h_21 => (ldS h_21 33 (V.ref (List.length h_4) [] 33)).bind fun t38_22 => (mkL 60 (V.agg 59 [(V.int .i64 0), (V.int .i64 0), (V.agg 56 [(V.int .i64 0), (V.int .i64 0), (V.agg 54 (List.replicate 32 (V.int .u8 0))), (V.lst 55 .nil [])]), (V.lst 108 .nil []), (V.lst 9 .nil [])]) (V.int .i64 2) (V.int .i64 2)).bind fun t39_23 => (Cl 17 (reifyL h_21 [t38_22, t39_23]) []).bind fun r_24 => (ext r_24.1 0).bind fun t41_25 => (ext r_24.1 1).bind fun t42_26 => (ldS h_21 24 (V.ref 0 [] 24)).bind fun t44_27 => (ldP h_21 26 (V.ref 1 [] 26)).bind fun t45_28 => (ldS h_21 33 (V.ref (List.length h_4) [] 33)).bind fun t46_29 => (Cl 23 (reifyL h_21 [t44_27, t45_28, t46_29, t41_25]) []).bind fun r_30 => (extS r_30.1 0).bind fun t49_31 => (ext r_30.1 1).bind fun t50_32 => (stT (tyG 32) 33 (h_21 ++ [(V.agg 32 [(V.int .i64 0), (V.lst 4 .nil []), (V.lst 55 .nil []), (V.lst 58 .nil []), (V.lst 108 .nil [])])]) (V.ref (List.length h_21) [] 33) t49_31).bind fun h_33 => (ldS h_33 24 (V.ref 0 [] 24)).bind fun t52_34 => (ldP h_33 26 (V.ref 1 [] 26)).bind fun t53_35 => (bsL 9 false (ck [tyS t27_13, tyS t41_25, tyS (V.str [120])] [t27_13, t41_25, (V.str [120])])).bind fun t56_36 => (Cl 28 (reifyL h_33 [t52_34, t53_35, (V.int .i64 2), t56_36]) []).bind fun r_37 => (extS r_37.1 0).bind fun t58_38 => (ext r_37.1 1).bind fun t59_39 => (ext r_37.1 2).bind fun t60_40 => (stT (tyG 32) 33 (h_33 ++ [(V.agg 32 [(V.int .i64 0), (V.lst 4 .nil []), (V.lst 55 .nil []), (V.lst 58 .nil []), (V.lst 108 .nil [])])]) (V.ref (List.length h_33) [] 33) t58_38).bind fun h_41 => jn (fun t0_42 =>
 finT 0 h_41 t0_42) (fun (k_43 : V → Rv) => (bin .eql t23_9 (V.int .i64 0)).bind fun t62_44 => V.ite t62_44 ((fA 33 28 1 (V.ref (List.length h_4) [] 33)).bind fun t64_45 => (ldS h_41 28 t64_45).bind fun t65_46 => (lnL t65_46).bind fun t66_47 => (bin .eql t66_47 (V.int .i64 2)).bind fun t67_48 => V.ite t67_48 ((bin .eql t27_13 (V.str [69, 1])).bind fun t71_49 => V.ite t71_49 ((bin .eql t28_14 (V.int .i64 0)).bind fun t75_50 => V.ite t75_50 ((bin .eql t36_20 (V.int .i64 0)).bind fun t79_51 => V.ite t79_51 ((fA 33 28 1 (V.ref (List.length h_10) [] 33)).bind fun t82_52 => (ldS h_41 28 t82_52).bind fun t83_53 => (ixS 4 t83_53 (V.int .i64 1)).bind fun t84_54 => (ldP h_41 4 t84_54).bind fun t85_55 => V.ite t85_55 ((fA 33 28 1 (V.ref (List.length h_10) [] 33)).bind fun t88_56 => (ldS h_41 28 t88_56).bind fun t89_57 => (ixS 4 t89_57 (V.int .i64 0)).bind fun t90_58 => (ldP h_41 4 t90_58).bind fun t91_59 => (un .not t91_59).bind fun t92_60 => V.ite t92_60 ((fA 33 3 0 (V.ref (List.length h_10) [] 33)).bind fun t95_61 => (ldP h_41 3 t95_61).bind fun t96_62 => (bin .eql t96_62 (V.int .i64 0)).bind fun t97_63 => V.ite t97_63 ((bin .eql t42_26 (V.int .i64 0)).bind fun t101_64 => V.ite t101_64 ((bin .eql t50_32 (V.int .i64 0)).bind fun t105_65 => V.ite t105_65 ((fA 33 3 0 (V.ref (List.length h_21) [] 33)).bind fun t108_66 => (ldP h_41 3 t108_66).bind fun t109_67 => (bin .eql t109_67 (V.int .i64 1)).bind fun t110_68 => V.ite t110_68 ((bin .eql t59_39 (V.int .i64 2)).bind fun t114_69 => V.ite t114_69 ((bin .eql t60_40 (V.int .i64 0)).bind fun t118_70 => V.ite t118_70 ((fA 33 3 0 (V.ref (List.length h_33) [] 33)).bind fun t121_71 => (ldP h_41 3 t121_71).bind fun t122_72 => (bin .eql t122_72 (V.int .i64 1)).bind fun t123_73 => V.ite t123_73 ((fA 33 28 1 (V.ref (List.length h_33) [] 33)).bind fun t126_74 => (ldS h_41 28 t126_74).bind fun t127_75 => (ixS 4 t127_75 (V.int .i64 1)).bind fun t128_76 => (ldP h_41 4 t128_76).bind fun t129_77 => k_43 t129_77) (k_43 (V.bool false))) (k_43 (V.bool false))) (k_43 (V.bool false))) (k_43 (V.bool false))) (k_43 (V.bool false))) (k_43 (V.bool false))) (k_43 (V.bool false))) (k_43 (V.bool false))) (k_43 (V.bool false))) (k_43 (V.bool false))) (k_43 (V.bool false))) (k_43 (V.bool false))) (k_43 (V.bool false))) (k_43 (V.bool false))) :=
 f_eq (by kernel_rfl)
noncomputable def f10_l0 (t2 t3 t4 t6 t8 t31 t32 : V) (h : List V) : Rv := lp W 10 0 (cd 10 151) (bk 0 (sk 10 0 31 (lv 10 0))) ⟨[(2, t2), (3, t3), (4, t4), (6, t6), (8, t8), (31, t31), (32, t32)], h⟩
noncomputable def f10_l2 (t2 t3 t4 t6 t8 t12 t31 t32 t43 t44 t45 : V) (m0 : Nat) (h : List V) : Rv := lp W 10 2 (cd 10 309655) (bk 2 (sk 10 1 63895 (bk 1 (sk 10 0 1943 (lk 10 0 m0 151 (bk 0 (sk 10 0 31 (lv 10 0)))))))) ⟨[(2, t2), (3, t3), (4, t4), (6, t6), (8, t8), (12, t12), (31, t31), (32, t32), (43, t43), (44, t44), (45, t45)], h⟩
theorem f10_l2_eq (t2 t3 t4 t6 t8 t12 t31 t32 t43 t44 t45 : V) (m0 : Nat) (h : List V) : f10_l2 t2 t3 t4 t6 t8 t12 t31 t32 t43 t44 t45 m0 h =
 (bin .lss t45 t44).bind fun t46_15 => V.ite t46_15
  ((ixS 3 t43 t45).bind fun t47_16 => (ldP h 3 t47_16).bind fun t48_17 => (ldP h 26 t4).bind fun t50_18 => (Cl 34 (reifyL h [t50_18, t48_17]) []).bind fun r_19 => (bsL 81 false (ck [(tyG 80) r_19.1] [r_19.1])).bind fun t53_20 => (apL 81 (tyG 80) false h t12 t53_20).bind fun t54_21 => (bin .add t45 (V.int .i64 1)).bind fun t55_22 => f10_l2 t2 t3 t4 t6 t8 t54_21 t31 t32 t43 t44 t55_22 m0 h)
  ((fA 33 29 2 t8).bind fun t56_23 => if (fldV t8 2 t56_23 && sameB t8 t56_23) = true then (ldTake h 29 t56_23).bind fun r_24 => callH P ann W (some t8) (V.clo 35 []) [(V.weak t12)] r_24.2 fun t59_25 h_26 => (bsL 55 false (ck [(tyG 54) t59_25] [t59_25])).bind fun t60_27 => if lowB true [r_24.1, t60_27] = true then (apL 55 (tyG 54) false h_26 r_24.1 t60_27).bind fun t61_28 => (fA 33 30 3 t8).bind fun t62_29 => if (fldV t8 3 t62_29 && sameB t8 t62_29) = true then (ldTake h_26 30 t62_29).bind fun r_30 => callH P ann W (some t8) (V.clo 36 []) [(V.weak t12)] r_30.2 fun t65_31 h_32 => (bsL 58 true (ck [(tyL 9) t65_31] [(V.weak t65_31)])).bind fun t66_33 => (apL 58 (tyL 9) true h_32 r_30.1 t66_33).bind fun t67_34 => (fA 33 29 2 t8).bind fun t68_35 => (stT (tyL 55) 29 h_32 t68_35 t61_28).bind fun h_36 => (fA 33 30 3 t8).bind fun t69_37 => (stT (tyL 58) 30 h_36 t69_37 t67_34).bind fun h_38 => (bin .add t32 (V.int .i64 1)).bind fun t70_39 => f10_l0 t2 t3 t4 t6 t8 t31 t70_39 h_38 else none else none else none) :=
 l_eq (by kernel_rfl)
theorem f10_l0_eq (t2 t3 t4 t6 t8 t31 t32 : V) (h : List V) : f10_l0 t2 t3 t4 t6 t8 t31 t32 h =
 (bin .lss t32 t31).bind fun t33_8 => V.ite t33_8
  ((fA 24 3 0 t3).bind fun t36_9 => (ldP h 3 t36_9).bind fun t37_10 => (Cl 33 (reifyL h [t37_10, t2, t32]) []).bind fun r_11 => (extS r_11.1 0).bind fun t41_12 => (ext r_11.1 1).bind fun t42_13 => (lnL t41_12).bind fun t44_14 => f10_l2 t2 t3 t4 t6 t8 (V.weak (V.lst 81 .nil [])) t31 t32 t41_12 t44_14 (V.int .i64 0) (List.length h) h)
  ((ldS h 33 t8).bind fun t71_40 => (stT (tyG 32) 33 h t6 t71_40).bind fun h_41 => (ldS h_41 33 t6).bind fun c_42 => if (List.all [(V.int .i64 0), c_42] V.okE) = true then finT 0 h_41 (V.tup [c_42, (V.int .i64 0)]) else none) :=
 l_eq (by kernel_rfl)
theorem f10_eq (t0 t1 t2 : V) : Cl 10 [t0, t1, t2] [] =
 if ((tyG 23) (V.weak t0) && V.under 0 (V.weak t0)) = true then if ((tyG 25) t1 && V.under 1 t1) = true then jn (fun t26_1 =>
 V.ite t26_1
  (((ck [] [(V.int .i64 0), (V.lst 4 .nil []), (V.lst 55 .nil []), (V.lst 58 .nil []), (V.lst 108 .nil [])]).map (.agg 32)).bind fun t27_2 => (stT (tyG 32) 33 [(V.weak t0), t1, (V.agg 32 [(V.int .i64 0), (V.lst 4 .nil []), (V.lst 55 .nil []), (V.lst 58 .nil []), (V.lst 108 .nil [])])] (V.ref 2 [] 33) t27_2).bind fun h_3 => (ldS h_3 33 (V.ref 2 [] 33)).bind fun c_4 => if (List.all [(V.int .i64 170), c_4] V.okE) = true then finT 0 h_3 (V.tup [c_4, (V.int .i64 170)]) else none)
  ((mkL 4 (V.bool false) t2 t2).bind fun t29_5 => ((ck [(tyL 4) t29_5] [(V.int .i64 0), (V.weak t29_5), (V.lst 55 .nil []), (V.lst 58 .nil []), (V.lst 108 .nil [])]).map (.agg 32)).bind fun t30_6 => (stT (tyG 32) 33 [(V.weak t0), t1, (V.agg 32 [(V.int .i64 0), (V.lst 4 .nil []), (V.lst 55 .nil []), (V.lst 58 .nil []), (V.lst 108 .nil [])]), (V.agg 32 [(V.int .i64 0), (V.lst 4 .nil []), (V.lst 55 .nil []), (V.lst 58 .nil []), (V.lst 108 .nil [])])] (V.ref 3 [] 33) t30_6).bind fun h_7 => f10_l0 t2 (V.ref 0 [] 24) (V.ref 1 [] 26) (V.ref 2 [] 33) (V.ref 3 [] 33) t2 (V.int .i64 0) h_7)) (fun (k_43 : V → Rv) => (ldS [(V.weak t0), t1, (V.agg 32 [(V.int .i64 0), (V.lst 4 .nil []), (V.lst 55 .nil []), (V.lst 58 .nil []), (V.lst 108 .nil [])])] 24 (V.ref 0 [] 24)).bind fun t15_44 => (ldP [(V.weak t0), t1, (V.agg 32 [(V.int .i64 0), (V.lst 4 .nil []), (V.lst 55 .nil []), (V.lst 58 .nil []), (V.lst 108 .nil [])])] 26 (V.ref 1 [] 26)).bind fun t16_45 => (Cl 32 (reifyL [(V.weak t0), t1, (V.agg 32 [(V.int .i64 0), (V.lst 4 .nil []), (V.lst 55 .nil []), (V.lst 58 .nil []), (V.lst 108 .nil [])])] [t15_44, t16_45]) []).bind fun r_46 => (bin .neq r_46.1 (V.int .i64 0)).bind fun t18_47 => V.ite t18_47 (k_43 (V.bool true)) ((bin .lss t2 (V.int .i64 1)).bind fun t21_48 => V.ite t21_48 (k_43 (V.bool true)) ((bin .gtr t2 (V.int .i64 64)).bind fun t25_49 => k_43 t25_49))) else none else none :=
 f_eq (by kernel_rfl)
theorem f11_eq (t0 : V) : Cl 11 [t0] [] =
 if ((tyG 23) (V.weak t0) && V.under 0 (V.weak t0)) = true then (fA 24 3 0 (V.ref 0 [] 24)).bind fun t3_1 => (ldP [(V.weak t0), (V.agg 23 [(V.int .i64 0), (V.lst 112 .nil [])])] 3 t3_1).bind fun t4_2 => (bsL 112 false (ck [] [])).bind fun t5_3 => (fA 24 22 1 (V.ref 0 [] 24)).bind fun t6_4 => (ldS [(V.weak t0), (V.agg 23 [(V.int .i64 0), (V.lst 112 .nil [])])] 22 t6_4).bind fun t7_5 => (apL 112 (tyG 111) false [(V.weak t0), (V.agg 23 [(V.int .i64 0), (V.lst 112 .nil [])])] t5_3 t7_5).bind fun t8_6 => ((ck [(tyI .i64) t4_2, (tyL 112) t8_6] [t4_2, (V.weak t8_6)]).map (.agg 23)).bind fun t9_7 => (stT (tyG 23) 24 [(V.weak t0), (V.agg 23 [(V.int .i64 0), (V.lst 112 .nil [])])] (V.ref 1 [] 24) t9_7).bind fun h_8 => (ldS h_8 24 (V.ref 1 [] 24)).bind fun c_9 => finT 0 h_8 c_9 else none :=
 f_eq (by kernel_rfl)
theorem f12_eq (t0 t1 t2 : V) : Cl 12 [t0, t1, t2] [] =
 if ((tyG 23) (V.weak t0) && V.under 0 (V.weak t0)) = true then if ((tyG 25) t1 && V.under 1 t1) = true then jn (fun t6_1 =>
 finT 0 [(V.weak t0), t1] t6_1) (fun (k_2 : V → Rv) => (ldS [(V.weak t0), t1] 24 (V.ref 0 [] 24)).bind fun t7_3 => (ldP [(V.weak t0), t1] 26 (V.ref 1 [] 26)).bind fun t8_4 => (Cl 37 (reifyL [(V.weak t0), t1] [t7_3, t8_4]) []).bind fun r_5 => V.ite r_5.1 ((bin .geq t2 (V.int .i64 1)).bind fun t12_6 => V.ite t12_6 ((bin .leq t2 (V.int .i64 64)).bind fun t16_7 => k_2 t16_7) (k_2 (V.bool false))) (k_2 (V.bool false))) else none else none :=
 f_eq (by kernel_rfl)
noncomputable def f18_l0 (t1 t2 t3 t4 : V) (h : List V) : Rv := lp W 18 0 (cd 18 75) (bk 0 (sk 18 0 15 (lv 18 0))) ⟨[(1, t1), (2, t2), (3, t3), (4, t4)], h⟩
theorem f18_l0_eq (t1 t2 t3 t4 : V) (h : List V) : f18_l0 t1 t2 t3 t4 h =
 (fA 33 30 3 t1).bind fun t21_17 => (ldS h 30 t21_17).bind fun t22_18 => (lnL t22_18).bind fun t23_19 => (bin .lss t4 t23_19).bind fun t24_20 => V.ite t24_20
  (if (diffB t3 t1 && true) = true then (fA 33 30 3 t3).bind fun t27_21 => if sameB t3 t27_21 = true then (ldTake h 30 t27_21).bind fun r_22 => (bsL 9 false (ck [] [])).bind fun t29_23 => (fA 33 30 3 t1).bind fun t30_24 => if sameB t1 t30_24 = true then (ldS r_22.2 30 t30_24).bind fun t31_25 => (ixS 58 t31_25 t4).bind fun t33_26 => if lowB true [t33_26] = true then (ldS r_22.2 58 t33_26).bind fun t34_27 => if lowB true [t29_23, t34_27] = true then (apL 9 tyS false r_22.2 t29_23 t34_27).bind fun t35_28 => (bsL 58 true (ck [(tyL 9) t35_28] [(V.weak t35_28)])).bind fun t36_29 => (apL 58 (tyL 9) true r_22.2 r_22.1 t36_29).bind fun t37_30 => (fA 33 30 3 t3).bind fun t38_31 => (stT (tyL 58) 30 r_22.2 t38_31 t37_30).bind fun h_32 => (bin .add t4 (V.int .i64 1)).bind fun t26_33 => f18_l0 t1 t2 t3 t26_33 h_32 else none else none else none else none else none)
  ((ldS h 33 t3).bind fun t39_34 => (stT (tyG 32) 33 h t2 t39_34).bind fun h_35 => (ldS h_35 33 t2).bind fun c_36 => finT 0 h_35 c_36) :=
 l_eq (by kernel_rfl)
theorem f18_eq (t0 : V) : Cl 18 [t0] [] =
 if ((tyG 32) (V.weak t0) && V.under 0 (V.weak t0)) = true then (fA 33 3 0 (V.ref 0 [] 33)).bind fun t5_1 => (ldP [(V.weak t0), (V.agg 32 [(V.int .i64 0), (V.lst 4 .nil []), (V.lst 55 .nil []), (V.lst 58 .nil []), (V.lst 108 .nil [])])] 3 t5_1).bind fun t6_2 => (bsL 4 false (ck [] [])).bind fun t7_3 => (fA 33 28 1 (V.ref 0 [] 33)).bind fun t8_4 => (ldS [(V.weak t0), (V.agg 32 [(V.int .i64 0), (V.lst 4 .nil []), (V.lst 55 .nil []), (V.lst 58 .nil []), (V.lst 108 .nil [])])] 28 t8_4).bind fun t9_5 => if lowB true [t7_3, t9_5] = true then (apL 4 tyB false [(V.weak t0), (V.agg 32 [(V.int .i64 0), (V.lst 4 .nil []), (V.lst 55 .nil []), (V.lst 58 .nil []), (V.lst 108 .nil [])])] t7_3 t9_5).bind fun t10_6 => (bsL 55 false (ck [] [])).bind fun t11_7 => (fA 33 29 2 (V.ref 0 [] 33)).bind fun t12_8 => (ldS [(V.weak t0), (V.agg 32 [(V.int .i64 0), (V.lst 4 .nil []), (V.lst 55 .nil []), (V.lst 58 .nil []), (V.lst 108 .nil [])])] 29 t12_8).bind fun t13_9 => if lowB true [t11_7, t13_9] = true then (apL 55 (tyG 54) false [(V.weak t0), (V.agg 32 [(V.int .i64 0), (V.lst 4 .nil []), (V.lst 55 .nil []), (V.lst 58 .nil []), (V.lst 108 .nil [])])] t11_7 t13_9).bind fun t14_10 => (bsL 108 false (ck [] [])).bind fun t15_11 => (fA 33 31 4 (V.ref 0 [] 33)).bind fun t16_12 => (ldS [(V.weak t0), (V.agg 32 [(V.int .i64 0), (V.lst 4 .nil []), (V.lst 55 .nil []), (V.lst 58 .nil []), (V.lst 108 .nil [])])] 31 t16_12).bind fun t17_13 => if lowB true [t15_11, t17_13] = true then (apL 108 (tyG 107) false [(V.weak t0), (V.agg 32 [(V.int .i64 0), (V.lst 4 .nil []), (V.lst 55 .nil []), (V.lst 58 .nil []), (V.lst 108 .nil [])])] t15_11 t17_13).bind fun t18_14 => ((ck [(tyI .i64) t6_2, (tyL 4) t10_6, (tyL 55) t14_10, (tyL 108) t18_14] [t6_2, (V.weak t10_6), (V.weak t14_10), (V.lst 58 .nil []), (V.weak t18_14)]).map (.agg 32)).bind fun t19_15 => (stT (tyG 32) 33 [(V.weak t0), (V.agg 32 [(V.int .i64 0), (V.lst 4 .nil []), (V.lst 55 .nil []), (V.lst 58 .nil []), (V.lst 108 .nil [])]), (V.agg 32 [(V.int .i64 0), (V.lst 4 .nil []), (V.lst 55 .nil []), (V.lst 58 .nil []), (V.lst 108 .nil [])])] (V.ref 2 [] 33) t19_15).bind fun h_16 => f18_l0 (V.ref 0 [] 33) (V.ref 1 [] 33) (V.ref 2 [] 33) (V.int .i64 0) h_16 else none else none else none else none :=
 f_eq (y_seq <| y_reg1 ⟨[(1, (V.ref 0 [] 33)), (2, (V.ref 1 [] 33))], [(V.weak t0), (V.agg 32 [(V.int .i64 0), (V.lst 4 .nil []), (V.lst 55 .nil []), (V.lst 58 .nil []), (V.lst 108 .nil [])])]⟩ (F := fun r => if ((tyG 32) (V.weak t0) && V.under 0 (V.weak t0)) = true then r else none) (by kernel_rfl))
theorem f20_eq (t0 t1 : V) : Cl 20 [t0, t1] [] =
 if ((tyG 32) (V.weak t0) && V.under 0 (V.weak t0)) = true then jn (fun t22_1 =>
 V.ite t22_1
  (if (List.all [(V.int .i64 170), (V.str [])] V.okE) = true then finT 0 [(V.weak t0)] (V.tup [(V.str []), (V.int .i64 170)]) else none)
  ((Cl 45 (normL []) [(V.weak t0)]).bind fun r_2 => (Cl 46 (normL [r_2.1, (V.int .u64 69)]) r_2.2).bind fun r_3 => (cvI .u64 t1).bind fun t28_4 => (Cl 46 (normL [r_2.1, t28_4]) r_3.2).bind fun r_5 => (Cl 50 (normL [r_2.1]) r_5.2).bind fun r_6 => if (List.all [(V.int .i64 0), r_6.1] V.okE) = true then finT 0 r_6.2 (V.tup [r_6.1, (V.int .i64 0)]) else none)) (fun (k_7 : V → Rv) => (bin .lss t1 (V.int .i64 0)).bind fun t8_8 => V.ite t8_8 (k_7 (V.bool true)) ((fA 33 28 1 (V.ref 0 [] 33)).bind fun t11_9 => (ldS [(V.weak t0)] 28 t11_9).bind fun t12_10 => (lnL t12_10).bind fun t13_11 => (bin .geq t1 t13_11).bind fun t14_12 => V.ite t14_12 (k_7 (V.bool true)) ((fA 33 28 1 (V.ref 0 [] 33)).bind fun t17_13 => (ldS [(V.weak t0)] 28 t17_13).bind fun t18_14 => (ixS 4 t18_14 t1).bind fun t20_15 => (ldP [(V.weak t0)] 4 t20_15).bind fun t21_16 => k_7 t21_16))) else none :=
 f_eq (by kernel_rfl)
theorem f23_eq (t0 t1 t2 t3 : V) : Cl 23 [t0, t1, t2, t3] [] =
 if ((tyG 23) (V.weak t0) && V.under 0 (V.weak t0)) = true then if ((tyG 25) t1 && V.under 1 t1) = true then if ((tyG 32) (V.weak t2) && V.under 2 (V.weak t2)) = true then (ldS [(V.weak t0), t1, (V.weak t2), (V.agg 32 [(V.int .i64 0), (V.lst 4 .nil []), (V.lst 55 .nil []), (V.lst 58 .nil []), (V.lst 108 .nil [])])] 24 (V.ref 0 [] 24)).bind fun t16_1 => (ldP [(V.weak t0), t1, (V.weak t2), (V.agg 32 [(V.int .i64 0), (V.lst 4 .nil []), (V.lst 55 .nil []), (V.lst 58 .nil []), (V.lst 108 .nil [])])] 26 (V.ref 1 [] 26)).bind fun t17_2 => (fA 33 28 1 (V.ref 2 [] 33)).bind fun t18_3 => (ldS [(V.weak t0), t1, (V.weak t2), (V.agg 32 [(V.int .i64 0), (V.lst 4 .nil []), (V.lst 55 .nil []), (V.lst 58 .nil []), (V.lst 108 .nil [])])] 28 t18_3).bind fun t19_4 => (lnL t19_4).bind fun t20_5 => (Cl 10 (reifyL [(V.weak t0), t1, (V.weak t2), (V.agg 32 [(V.int .i64 0), (V.lst 4 .nil []), (V.lst 55 .nil []), (V.lst 58 .nil []), (V.lst 108 .nil [])])] [t16_1, t17_2, t20_5]) []).bind fun r_6 => (extS r_6.1 0).bind fun t22_7 => (ext r_6.1 1).bind fun t23_8 => (stT (tyG 32) 33 [(V.weak t0), t1, (V.weak t2), (V.agg 32 [(V.int .i64 0), (V.lst 4 .nil []), (V.lst 55 .nil []), (V.lst 58 .nil []), (V.lst 108 .nil [])]), (V.agg 32 [(V.int .i64 0), (V.lst 4 .nil []), (V.lst 55 .nil []), (V.lst 58 .nil []), (V.lst 108 .nil [])])] (V.ref 4 [] 33) t22_7).bind fun h_9 => jn (fun t34_10 =>
 V.ite t34_10
  (((ck [] [(V.int .i64 0), (V.lst 4 .nil []), (V.lst 55 .nil []), (V.lst 58 .nil []), (V.lst 108 .nil [])]).map (.agg 32)).bind fun t35_11 => (stT (tyG 32) 33 h_9 (V.ref 3 [] 33) t35_11).bind fun h_12 => (ldS h_12 33 (V.ref 3 [] 33)).bind fun c_13 => if (List.all [(V.int .i64 171), c_13] V.okE) = true then finT 0 h_12 (V.tup [c_13, (V.int .i64 171)]) else none)
  ((Cl 54 (normL [t3]) h_9).bind fun r_14 => ((ck [] [(V.int .i64 0), (V.lst 4 .nil []), (V.lst 55 .nil []), (V.lst 58 .nil []), (V.lst 108 .nil [])]).map (.agg 32)).bind fun t38_15 => (stT (tyG 32) 33 (r_14.2 ++ [(V.agg 32 [(V.int .i64 0), (V.lst 4 .nil []), (V.lst 55 .nil []), (V.lst 58 .nil []), (V.lst 108 .nil [])])]) (V.ref (List.length r_14.2) [] 33) t38_15).bind fun h_16 => (Cl 55 (normL [r_14.1]) h_16).bind fun r_17 => (bin .eql r_17.1 (V.int .u64 65)).bind fun t42_18 => V.ite t42_18
  ((ldP r_17.2 26 (V.ref 1 [] 26)).bind fun t44_19 => (ldS r_17.2 33 (V.ref 2 [] 33)).bind fun t45_20 => (Cl 56 (normL [t44_19, t45_20, r_14.1]) r_17.2).bind fun r_21 => (extS r_21.1 0).bind fun t48_22 => (ext r_21.1 1).bind fun t49_23 => (stT (tyG 32) 33 r_21.2 (V.ref (List.length r_14.2) [] 33) t48_22).bind fun h_24 => (un .not t49_23).bind fun t61_25 => V.ite t61_25
  (((ck [] [(V.int .i64 0), (V.lst 4 .nil []), (V.lst 55 .nil []), (V.lst 58 .nil []), (V.lst 108 .nil [])]).map (.agg 32)).bind fun t62_26 => (stT (tyG 32) 33 h_24 (V.ref 3 [] 33) t62_26).bind fun h_27 => (ldS h_27 33 (V.ref 3 [] 33)).bind fun c_28 => if (List.all [(V.int .i64 171), c_28] V.okE) = true then finT 0 h_27 (V.tup [c_28, (V.int .i64 171)]) else none)
  ((ldS h_24 33 (V.ref (List.length r_14.2) [] 33)).bind fun t63_29 => (stT (tyG 32) 33 h_24 (V.ref 3 [] 33) t63_29).bind fun h_30 => (ldS h_30 33 (V.ref 3 [] 33)).bind fun c_31 => if (List.all [(V.int .i64 0), c_31] V.okE) = true then finT 0 h_30 (V.tup [c_31, (V.int .i64 0)]) else none))
  ((bin .eql r_17.1 (V.int .u64 69)).bind fun t51_32 => V.ite t51_32
  ((ldS r_17.2 24 (V.ref 0 [] 24)).bind fun t53_33 => (ldP r_17.2 26 (V.ref 1 [] 26)).bind fun t54_34 => (ldS r_17.2 33 (V.ref 2 [] 33)).bind fun t55_35 => (Cl 57 (normL [t53_33, t54_34, t55_35, r_14.1]) r_17.2).bind fun r_36 => (extS r_36.1 0).bind fun t58_37 => (ext r_36.1 1).bind fun t59_38 => (stT (tyG 32) 33 r_36.2 (V.ref (List.length r_14.2) [] 33) t58_37).bind fun h_39 => (un .not t59_38).bind fun t61_40 => V.ite t61_40
  (((ck [] [(V.int .i64 0), (V.lst 4 .nil []), (V.lst 55 .nil []), (V.lst 58 .nil []), (V.lst 108 .nil [])]).map (.agg 32)).bind fun t62_41 => (stT (tyG 32) 33 h_39 (V.ref 3 [] 33) t62_41).bind fun h_42 => (ldS h_42 33 (V.ref 3 [] 33)).bind fun c_43 => if (List.all [(V.int .i64 171), c_43] V.okE) = true then finT 0 h_42 (V.tup [c_43, (V.int .i64 171)]) else none)
  ((ldS h_39 33 (V.ref (List.length r_14.2) [] 33)).bind fun t63_44 => (stT (tyG 32) 33 h_39 (V.ref 3 [] 33) t63_44).bind fun h_45 => (ldS h_45 33 (V.ref 3 [] 33)).bind fun c_46 => if (List.all [(V.int .i64 0), c_46] V.okE) = true then finT 0 h_45 (V.tup [c_46, (V.int .i64 0)]) else none))
  ((un .not (V.bool false)).bind fun t61_47 => V.ite t61_47
  (((ck [] [(V.int .i64 0), (V.lst 4 .nil []), (V.lst 55 .nil []), (V.lst 58 .nil []), (V.lst 108 .nil [])]).map (.agg 32)).bind fun t62_48 => (stT (tyG 32) 33 r_17.2 (V.ref 3 [] 33) t62_48).bind fun h_49 => (ldS h_49 33 (V.ref 3 [] 33)).bind fun c_50 => if (List.all [(V.int .i64 171), c_50] V.okE) = true then finT 0 h_49 (V.tup [c_50, (V.int .i64 171)]) else none)
  ((ldS r_17.2 33 (V.ref (List.length r_14.2) [] 33)).bind fun t63_51 => (stT (tyG 32) 33 r_17.2 (V.ref 3 [] 33) t63_51).bind fun h_52 => (ldS h_52 33 (V.ref 3 [] 33)).bind fun c_53 => if (List.all [(V.int .i64 0), c_53] V.okE) = true then finT 0 h_52 (V.tup [c_53, (V.int .i64 0)]) else none))))) (fun (k_54 : V → Rv) => (bin .neq t23_8 (V.int .i64 0)).bind fun t25_55 => V.ite t25_55 (k_54 (V.bool true)) ((fA 33 29 2 (V.ref 2 [] 33)).bind fun t27_56 => (ldS h_9 29 t27_56).bind fun t28_57 => (lnL t28_57).bind fun t29_58 => (fA 33 28 1 (V.ref 2 [] 33)).bind fun t30_59 => (ldS h_9 28 t30_59).bind fun t31_60 => (lnL t31_60).bind fun t32_61 => (bin .neq t29_58 t32_61).bind fun t33_62 => k_54 t33_62)) else none else none else none :=
 f_eq (by kernel_rfl)
noncomputable def f28_l0 (t3 t4 t5 t8 t11 t28 t29 t30 : V) (h : List V) : Rv := lp W 28 0 (cd 28 151) (bk 0 (sk 28 0 31 (lv 28 0))) ⟨[(3, t3), (4, t4), (5, t5), (8, t8), (11, t11), (28, t28), (29, t29), (30, t30)], h⟩
theorem f28_l0_eq (t3 t4 t5 t8 t11 t28 t29 t30 : V) (h : List V) : f28_l0 t3 t4 t5 t8 t11 t28 t29 t30 h =
 (bin .lss t30 t29).bind fun t31_12 => V.ite t31_12
  ((ixS 9 t28 t30).bind fun t33_13 => (ldP h 9 t33_13).bind fun t34_14 => (ldS h 24 t4).bind fun t36_15 => (ldP h 26 t5).bind fun t37_16 => (ldS h 33 t11).bind fun t38_17 => (Cl 23 (reifyL h [t36_15, t37_16, t38_17, t34_14]) []).bind fun r_18 => (extS r_18.1 0).bind fun t41_19 => (ext r_18.1 1).bind fun t42_20 => (stT (tyG 32) 33 (h ++ [(V.agg 32 [(V.int .i64 0), (V.lst 4 .nil []), (V.lst 55 .nil []), (V.lst 58 .nil []), (V.lst 108 .nil [])])]) (V.ref (List.length h) [] 33) t41_19).bind fun h_21 => (bin .neq t42_20 (V.int .i64 0)).bind fun t44_22 => V.ite t44_22
  ((ldS h_21 33 t11).bind fun t45_23 => (stT (tyG 32) 33 h_21 t8 t45_23).bind fun h_24 => (ldS h_24 33 t8).bind fun c_25 => if (List.all [(V.int .i64 0), t30, c_25] V.okE) = true then finT 0 h_24 (V.tup [c_25, t30, (V.int .i64 0)]) else none)
  ((ldS h_21 33 (V.ref (List.length h) [] 33)).bind fun t47_26 => (stT (tyG 32) 33 h_21 t11 t47_26).bind fun h_27 => (bin .add t30 (V.int .i64 1)).bind fun t48_28 => if underL (List.length h) [t3, t4, t5, t8, t11, t28, t29, t48_28] = true then f28_l0 t3 t4 t5 t8 t11 t28 t29 t48_28 (List.take (List.length h) h_27) else none))
  ((ldS h 33 t11).bind fun t49_29 => (lnL t3).bind fun t51_30 => (stT (tyG 32) 33 h t8 t49_29).bind fun h_31 => (ldS h_31 33 t8).bind fun c_32 => if (List.all [(V.int .i64 0), t51_30, c_32] V.okE) = true then finT 0 h_31 (V.tup [c_32, t51_30, (V.int .i64 0)]) else none) :=
 l_eq (by kernel_rfl)
theorem f28_eq (t0 t1 t2 t3 : V) : Cl 28 [t0, t1, t2, t3] [] =
 if ((tyG 23) (V.weak t0) && V.under 0 (V.weak t0)) = true then if ((tyG 25) t1 && V.under 1 t1) = true then (ldS [(V.weak t0), t1, (V.agg 32 [(V.int .i64 0), (V.lst 4 .nil []), (V.lst 55 .nil []), (V.lst 58 .nil []), (V.lst 108 .nil [])])] 24 (V.ref 0 [] 24)).bind fun t18_1 => (ldP [(V.weak t0), t1, (V.agg 32 [(V.int .i64 0), (V.lst 4 .nil []), (V.lst 55 .nil []), (V.lst 58 .nil []), (V.lst 108 .nil [])])] 26 (V.ref 1 [] 26)).bind fun t19_2 => (Cl 10 (reifyL [(V.weak t0), t1, (V.agg 32 [(V.int .i64 0), (V.lst 4 .nil []), (V.lst 55 .nil []), (V.lst 58 .nil []), (V.lst 108 .nil [])])] [t18_1, t19_2, t2]) []).bind fun r_3 => (extS r_3.1 0).bind fun t22_4 => (ext r_3.1 1).bind fun t23_5 => (stT (tyG 32) 33 [(V.weak t0), t1, (V.agg 32 [(V.int .i64 0), (V.lst 4 .nil []), (V.lst 55 .nil []), (V.lst 58 .nil []), (V.lst 108 .nil [])]), (V.agg 32 [(V.int .i64 0), (V.lst 4 .nil []), (V.lst 55 .nil []), (V.lst 58 .nil []), (V.lst 108 .nil [])])] (V.ref 3 [] 33) t22_4).bind fun h_6 => (bin .neq t23_5 (V.int .i64 0)).bind fun t25_7 => V.ite t25_7
  (((ck [] [(V.int .i64 0), (V.lst 4 .nil []), (V.lst 55 .nil []), (V.lst 58 .nil []), (V.lst 108 .nil [])]).map (.agg 32)).bind fun t26_8 => (stT (tyG 32) 33 h_6 (V.ref 2 [] 33) t26_8).bind fun h_9 => (ldS h_9 33 (V.ref 2 [] 33)).bind fun c_10 => if (List.all [t23_5, (V.int .i64 0), c_10] V.okE) = true then finT 0 h_9 (V.tup [c_10, (V.int .i64 0), t23_5]) else none)
  ((lnL (V.weak t3)).bind fun t29_11 => f28_l0 t3 (V.ref 0 [] 24) (V.ref 1 [] 26) (V.ref 2 [] 33) (V.ref 3 [] 33) (V.weak t3) t29_11 (V.int .i64 0) h_6) else none else none :=
 f_eq (by kernel_rfl)
theorem f32_eq (t0 t1 : V) : Cl 32 [t0, t1] [] =
 if ((tyG 23) (V.weak t0) && V.under 0 (V.weak t0)) = true then if ((tyG 25) t1 && V.under 1 t1) = true then jn (fun t35_1 =>
 V.ite t35_1
  (finT 0 [(V.weak t0), t1] (V.int .i64 70))
  (finT 0 [(V.weak t0), t1] (V.int .i64 0))) (fun (k_2 : V → Rv) => (ldS [(V.weak t0), t1] 24 (V.ref 0 [] 24)).bind fun t5_3 => (Cl 61 (reifyL [(V.weak t0), t1] [t5_3]) []).bind fun r_4 => (bin .neq r_4.1 (V.int .i64 0)).bind fun t7_5 => V.ite t7_5 (k_2 (V.bool true)) ((fA 26 9 0 (V.ref 1 [] 26)).bind fun t9_6 => (ldP [(V.weak t0), t1] 9 t9_6).bind fun t10_7 => (Cl 62 (reifyL [(V.weak t0), t1] [t10_7]) []).bind fun r_8 => (un .not r_8.1).bind fun t12_9 => V.ite t12_9 (k_2 (V.bool true)) ((fA 26 3 1 (V.ref 1 [] 26)).bind fun t15_10 => (ldP [(V.weak t0), t1] 3 t15_10).bind fun t16_11 => (bin .lss t16_11 (V.int .i64 0)).bind fun t17_12 => V.ite t17_12 (k_2 (V.bool true)) ((fA 26 3 1 (V.ref 1 [] 26)).bind fun t20_13 => (ldP [(V.weak t0), t1] 3 t20_13).bind fun t21_14 => (fA 24 3 0 (V.ref 0 [] 24)).bind fun t22_15 => (ldP [(V.weak t0), t1] 3 t22_15).bind fun t23_16 => (bin .geq t21_14 t23_16).bind fun t24_17 => V.ite t24_17 (k_2 (V.bool true)) ((fA 26 3 2 (V.ref 1 [] 26)).bind fun t27_18 => (ldP [(V.weak t0), t1] 3 t27_18).bind fun t28_19 => (bin .lss t28_19 (V.int .i64 1)).bind fun t29_20 => V.ite t29_20 (k_2 (V.bool true)) ((fA 26 3 2 (V.ref 1 [] 26)).bind fun t32_21 => (ldP [(V.weak t0), t1] 3 t32_21).bind fun t33_22 => (bin .gtr t33_22 (V.int .i64 64)).bind fun t34_23 => k_2 t34_23)))))) else none else none :=
 f_eq (by kernel_rfl)
noncomputable def f33_l0 (t8 t9 t25 t26 : V) (h : List V) : Rv := lp W 33 0 (cd 33 303) (bk 0 (sk 33 0 63 (lv 33 0))) ⟨[(8, t8), (9, t9), (25, t25), (26, t26)], h⟩
theorem f33_l0_eq (t8 t9 t25 t26 : V) (h : List V) : f33_l0 t8 t9 t25 t26 h =
 (bin .lss t26 t25).bind fun t27_3 => V.ite t27_3
  (callV P ann W t8 [t26] h fun t31_4 h_5 => if V.noOwn t31_4 = true then V.ite t31_4
  ((bsL 3 false (ck [(tyI .i64) t26] [t26])).bind fun t34_6 => (apL 3 (tyI .i64) false h_5 t9 t34_6).bind fun t35_7 => (bin .add t26 (V.int .i64 1)).bind fun t36_8 => f33_l0 t8 t35_7 t25 t36_8 h_5)
  ((bin .add t26 (V.int .i64 1)).bind fun t36_9 => f33_l0 t8 t9 t25 t36_9 h_5) else none)
  (if (List.all [(V.int .i64 0), t9] V.okE) = true then finT 0 h (V.tup [t9, (V.int .i64 0)]) else none) :=
 l_eq (by kernel_rfl)
theorem f33_eq (t0 t1 t2 : V) : Cl 33 [t0, t1, t2] [] =
 if ((tyI .i64) t1 && V.under 0 t1) = true then if ((tyI .i64) t2 && V.under 1 t2) = true then jn (fun t23_1 =>
 V.ite t23_1
  (if (List.all [(V.int .i64 60), (V.weak (V.lst 3 .nil []))] V.okE) = true then finT 0 [t1, t2] (V.tup [(V.weak (V.lst 3 .nil [])), (V.int .i64 60)]) else none)
  ((if (List.all [(V.ref 0 [] 3), (V.ref 1 [] 3)] V.capOk) = true then some (V.clo 64 [(V.ref 0 [] 3), (V.ref 1 [] 3)]) else none).bind fun t24_2 => f33_l0 t24_2 (V.weak (V.lst 3 .nil [])) t0 (V.int .i64 0) [t1, t2])) (fun (k_10 : V → Rv) => (ldP [t1, t2] 3 (V.ref 0 [] 3)).bind fun t12_11 => (Cl 63 (reifyL [t1, t2] [t0, t12_11]) []).bind fun r_12 => (un .not r_12.1).bind fun t14_13 => V.ite t14_13 (k_10 (V.bool true)) ((ldP [t1, t2] 3 (V.ref 1 [] 3)).bind fun t16_14 => (bin .lss t16_14 (V.int .i64 0)).bind fun t17_15 => V.ite t17_15 (k_10 (V.bool true)) ((ldP [t1, t2] 3 (V.ref 1 [] 3)).bind fun t20_16 => (ldP [t1, t2] 3 (V.ref 0 [] 3)).bind fun t21_17 => (bin .geq t20_16 t21_17).bind fun t22_18 => k_10 t22_18))) else none else none :=
 f_eq (by kernel_rfl)
theorem f34_eq (t0 t1 : V) : Cl 34 [t0, t1] [] =
 if ((tyG 25) t0 && V.under 0 t0) = true then (fA 26 9 0 (V.ref 0 [] 26)).bind fun t6_1 => (ldP [t0, (V.agg 80 [(V.int .i64 0), (V.int .i64 0), (V.bool false), (V.bool false), (V.int .i64 0)])] 9 t6_1).bind fun t7_2 => (Cl 62 (reifyL [t0, (V.agg 80 [(V.int .i64 0), (V.int .i64 0), (V.bool false), (V.bool false), (V.int .i64 0)])] [t7_2]) []).bind fun r_3 => (un .not r_3.1).bind fun t9_4 => V.ite t9_4
  (((ck [] [(V.int .i64 0), (V.int .i64 0), (V.bool false), (V.bool false), (V.int .i64 0)]).map (.agg 80)).bind fun t10_5 => (stT (tyG 80) 81 [t0, (V.agg 80 [(V.int .i64 0), (V.int .i64 0), (V.bool false), (V.bool false), (V.int .i64 0)])] (V.ref 1 [] 81) t10_5).bind fun h_6 => (ldP h_6 81 (V.ref 1 [] 81)).bind fun c_7 => finT 0 h_6 c_7)
  (((ck [(tyI .i64) t1, tyB (V.bool true)] [t1, (V.int .i64 0), (V.bool true), (V.bool false), (V.int .i64 0)]).map (.agg 80)).bind fun t12_8 => (stT (tyG 80) 81 [t0, (V.agg 80 [(V.int .i64 0), (V.int .i64 0), (V.bool false), (V.bool false), (V.int .i64 0)]), (V.agg 80 [(V.int .i64 0), (V.int .i64 0), (V.bool false), (V.bool false), (V.int .i64 0)])] (V.ref 2 [] 81) t12_8).bind fun h_9 => (fA 26 9 0 (V.ref 0 [] 26)).bind fun t13_10 => (ldP h_9 9 t13_10).bind fun t14_11 => (bin .eql t14_11 (V.str [109, 97, 120])).bind fun t16_12 => V.ite t16_12
  ((bin .mul (V.int .i64 37) t1).bind fun t28_13 => (bin .add t28_13 (V.int .i64 11)).bind fun t29_14 => (bin .rem t29_14 (V.int .i64 64)).bind fun t30_15 => (fA 81 2 1 (V.ref 2 [] 81)).bind fun t31_16 => (stT (tyI .i64) 2 h_9 t31_16 t30_15).bind fun h_17 => (ldP h_17 81 (V.ref 2 [] 81)).bind fun t41_18 => (stT (tyG 80) 81 h_17 (V.ref 1 [] 81) t41_18).bind fun h_19 => (ldP h_19 81 (V.ref 1 [] 81)).bind fun c_20 => finT 0 h_19 c_20)
  ((bin .eql t14_11 (V.str [108, 97, 98, 101, 108])).bind fun t18_21 => V.ite t18_21
  ((fA 81 2 1 (V.ref 2 [] 81)).bind fun t33_22 => (stT (tyI .i64) 2 h_9 t33_22 t1).bind fun h_23 => (ldP h_23 81 (V.ref 2 [] 81)).bind fun t41_24 => (stT (tyG 80) 81 h_23 (V.ref 1 [] 81) t41_24).bind fun h_25 => (ldP h_25 81 (V.ref 1 [] 81)).bind fun c_26 => finT 0 h_25 c_26)
  ((bin .eql t14_11 (V.str [98, 102, 115])).bind fun t20_27 => V.ite t20_27
  ((fA 26 3 1 (V.ref 0 [] 26)).bind fun t35_28 => (ldP h_9 3 t35_28).bind fun t36_29 => (bin .neq t1 t36_29).bind fun t37_30 => V.ite t37_30
  ((fA 81 2 1 (V.ref 2 [] 81)).bind fun t38_31 => (stT (tyI .i64) 2 h_9 t38_31 (V.int .i64 (-1))).bind fun h_32 => (ldP h_32 81 (V.ref 2 [] 81)).bind fun t41_33 => (stT (tyG 80) 81 h_32 (V.ref 1 [] 81) t41_33).bind fun h_34 => (ldP h_34 81 (V.ref 1 [] 81)).bind fun c_35 => finT 0 h_34 c_35)
  ((ldP h_9 81 (V.ref 2 [] 81)).bind fun t41_36 => (stT (tyG 80) 81 h_9 (V.ref 1 [] 81) t41_36).bind fun h_37 => (ldP h_37 81 (V.ref 1 [] 81)).bind fun c_38 => finT 0 h_37 c_38))
  ((bin .eql t14_11 (V.str [115, 115, 115, 112])).bind fun t22_39 => V.ite t22_39
  ((fA 26 3 1 (V.ref 0 [] 26)).bind fun t35_40 => (ldP h_9 3 t35_40).bind fun t36_41 => (bin .neq t1 t36_41).bind fun t37_42 => V.ite t37_42
  ((fA 81 2 1 (V.ref 2 [] 81)).bind fun t38_43 => (stT (tyI .i64) 2 h_9 t38_43 (V.int .i64 (-1))).bind fun h_44 => (ldP h_44 81 (V.ref 2 [] 81)).bind fun t41_45 => (stT (tyG 80) 81 h_44 (V.ref 1 [] 81) t41_45).bind fun h_46 => (ldP h_46 81 (V.ref 1 [] 81)).bind fun c_47 => finT 0 h_46 c_47)
  ((ldP h_9 81 (V.ref 2 [] 81)).bind fun t41_48 => (stT (tyG 80) 81 h_9 (V.ref 1 [] 81) t41_48).bind fun h_49 => (ldP h_49 81 (V.ref 1 [] 81)).bind fun c_50 => finT 0 h_49 c_50))
  ((bin .eql t14_11 (V.str [114, 97, 110, 107])).bind fun t24_51 => V.ite t24_51
  ((fA 81 2 1 (V.ref 2 [] 81)).bind fun t39_52 => (stT (tyI .i64) 2 h_9 t39_52 (V.int .i64 65536)).bind fun h_53 => (ldP h_53 81 (V.ref 2 [] 81)).bind fun t41_54 => (stT (tyG 80) 81 h_53 (V.ref 1 [] 81) t41_54).bind fun h_55 => (ldP h_55 81 (V.ref 1 [] 81)).bind fun c_56 => finT 0 h_55 c_56)
  ((bin .eql t14_11 (V.str [119, 97, 108, 107, 115])).bind fun t26_57 => V.ite t26_57
  ((fA 81 2 1 (V.ref 2 [] 81)).bind fun t40_58 => (stT (tyI .i64) 2 h_9 t40_58 (V.int .i64 1)).bind fun h_59 => (ldP h_59 81 (V.ref 2 [] 81)).bind fun t41_60 => (stT (tyG 80) 81 h_59 (V.ref 1 [] 81) t41_60).bind fun h_61 => (ldP h_61 81 (V.ref 1 [] 81)).bind fun c_62 => finT 0 h_61 c_62)
  ((ldP h_9 81 (V.ref 2 [] 81)).bind fun t41_63 => (stT (tyG 80) 81 h_9 (V.ref 1 [] 81) t41_63).bind fun h_64 => (ldP h_64 81 (V.ref 1 [] 81)).bind fun c_65 => finT 0 h_64 c_65))))))) else none :=
 f_eq (by kernel_rfl)
theorem f35_eq (t0 : V) : Cl 35 [t0] [] =
 (Cl 36 (reifyL [(V.agg 54 (List.replicate 32 (V.int .u8 0)))] [t0]) []).bind fun r_1 => (Cl 66 (reifyL [(V.agg 54 (List.replicate 32 (V.int .u8 0)))] [r_1.1]) []).bind fun r_2 => (stT (tyG 54) 55 [(V.agg 54 (List.replicate 32 (V.int .u8 0)))] (V.ref 0 [] 55) r_2.1).bind fun h_3 => (ldP h_3 55 (V.ref 0 [] 55)).bind fun c_4 => finT 0 h_3 c_4 :=
 f_eq (by kernel_rfl)
noncomputable def f36_l0 (t3 t9 t10 t11 : V) (h : List V) : Rv := lp W 36 0 (cd 36 75) (bk 0 (sk 36 0 15 (lv 36 0))) ⟨[(3, t3), (9, t9), (10, t10), (11, t11)], h⟩
theorem f36_l0_eq (t3 t9 t10 t11 : V) (h : List V) : f36_l0 t3 t9 t10 t11 h =
 (bin .lss t11 t10).bind fun t12_5 => V.ite t12_5
  ((ixS 81 t9 t11).bind fun t14_6 => (ldP h 81 t14_6).bind fun t15_7 => (stT (tyG 80) 81 (h ++ [(V.agg 80 [(V.int .i64 0), (V.int .i64 0), (V.bool false), (V.bool false), (V.int .i64 0)])]) (V.ref (List.length h) [] 81) t15_7).bind fun h_8 => (ldP h_8 81 (V.ref (List.length h) [] 81)).bind fun t18_9 => (Cl 67 (reifyL h_8 [t18_9]) []).bind fun r_10 => (ixS 9 (V.weak t3) t11).bind fun t20_11 => (stT tyS 9 h_8 t20_11 r_10.1).bind fun h_12 => (bin .add t11 (V.int .i64 1)).bind fun t21_13 => if underL (List.length h) [t3, t9, t10, t21_13] = true then f36_l0 t3 t9 t10 t21_13 (List.take (List.length h) h_12) else none)
  (finT 0 h t3) :=
 l_eq (by kernel_rfl)
theorem f36_eq (t0 : V) : Cl 36 [t0] [] =
 (lnL (V.weak t0)).bind fun t7_1 => (mkL 9 (V.str []) t7_1 t7_1).bind fun v_2 => (toBox [] v_2).bind fun r_3 => (lnL t0).bind fun t10_4 => f36_l0 r_3.1 t0 t10_4 (V.int .i64 0) r_3.2 :=
 f_eq (by kernel_rfl)
theorem f37_eq (t0 t1 : V) : Cl 37 [t0, t1] [] =
 if ((tyG 23) (V.weak t0) && V.under 0 (V.weak t0)) = true then if ((tyG 25) t1 && V.under 1 t1) = true then jn (fun t4_1 =>
 finT 0 [(V.weak t0), t1] t4_1) (fun (k_2 : V → Rv) => (ldS [(V.weak t0), t1] 24 (V.ref 0 [] 24)).bind fun t5_3 => (Cl 68 (reifyL [(V.weak t0), t1] [t5_3]) []).bind fun r_4 => (bin .eql r_4.1 (V.int .i64 0)).bind fun t7_5 => V.ite t7_5 ((fA 26 9 0 (V.ref 1 [] 26)).bind fun t9_6 => (ldP [(V.weak t0), t1] 9 t9_6).bind fun t10_7 => (Cl 69 (reifyL [(V.weak t0), t1] [t10_7]) []).bind fun r_8 => V.ite r_8.1 ((fA 26 3 1 (V.ref 1 [] 26)).bind fun t14_9 => (ldP [(V.weak t0), t1] 3 t14_9).bind fun t15_10 => (bin .geq t15_10 (V.int .i64 0)).bind fun t16_11 => V.ite t16_11 ((fA 26 3 1 (V.ref 1 [] 26)).bind fun t19_12 => (ldP [(V.weak t0), t1] 3 t19_12).bind fun t20_13 => (fA 24 3 0 (V.ref 0 [] 24)).bind fun t21_14 => (ldP [(V.weak t0), t1] 3 t21_14).bind fun t22_15 => (bin .lss t20_13 t22_15).bind fun t23_16 => V.ite t23_16 ((fA 26 3 2 (V.ref 1 [] 26)).bind fun t26_17 => (ldP [(V.weak t0), t1] 3 t26_17).bind fun t27_18 => (bin .geq t27_18 (V.int .i64 1)).bind fun t28_19 => V.ite t28_19 ((fA 26 3 2 (V.ref 1 [] 26)).bind fun t31_20 => (ldP [(V.weak t0), t1] 3 t31_20).bind fun t32_21 => (bin .leq t32_21 (V.int .i64 64)).bind fun t33_22 => k_2 t33_22) (k_2 (V.bool false))) (k_2 (V.bool false))) (k_2 (V.bool false))) (k_2 (V.bool false))) (k_2 (V.bool false))) else none else none :=
 f_eq (by kernel_rfl)
noncomputable def f45_r0 (k : Rv) : Rv :=
 k
noncomputable def f45_r1 (h : List V) (k : V → List V → Rv) : Rv :=
 (bld P 125 []).bind fun t1 => if (tyOk P 125 (V.weak t1) && V.under (List.length h) (V.weak t1)) = true then k (V.ref (List.length h) [] 125) (h ++ [(V.weak t1)]) else none
theorem f45_eq (h : List V) : Cl 45 [] h =
 f45_r0 (f45_r1 h fun t0_1 h_2 =>
  finK h_2 t0_1) :=
 f_eq (by kernel_rfl)
noncomputable def f46_l0 (t0 t1 : V) (n : Nat) (h : List V) : Rv := lp W 46 0 (cd 46 8) (bk 0 (sk 46 0 3 (lv 46 n))) ⟨[(0, t0), (1, t1)], h⟩
noncomputable def f46_r0 (t1 : V) (k : V → Rv) : Rv :=
 (bin .geq t1 (V.int .u64 128)).bind fun t5 => k t5
noncomputable def f46_r2 (t0 t1 : V) (h : List V) (k : List V → Rv) : Rv :=
 (notNil t0).bind fun t10 => (fieldA P 125 0 t10).bind fun t11 => (ldTake h 68 t11).bind fun r => (conv P r.2 93 5 t1).bind fun t14 => (bin .or t14 (V.int .u8 128)).bind fun t15 => (bldS P 68 1 [(0, t15)]).bind fun t16 => (appd P 68 r.2 r.1 t16).bind fun t17 => (notNil t0).bind fun t18 => (fieldA P 125 0 t18).bind fun t19 => (sto P r.2 68 t19 t17).bind fun h_1 => k h_1
noncomputable def f46_r1 (t1 : V) (k : V → Rv) : Rv :=
 (bin .shr t1 (V.int .u64 7)).bind fun t7 => k t7
noncomputable def f46_r3 (t0 t1 : V) (h : List V) (k : List V → Rv) : Rv :=
 (notNil t0).bind fun t22 => (fieldA P 125 0 t22).bind fun t23 => (ldTake h 68 t23).bind fun r => (conv P r.2 93 5 t1).bind fun t26 => (bldS P 68 1 [(0, t26)]).bind fun t27 => (appd P 68 r.2 r.1 t27).bind fun t28 => (notNil t0).bind fun t29 => (fieldA P 125 0 t29).bind fun t30 => (sto P r.2 68 t30 t28).bind fun h_1 => k h_1
theorem f46_l0_eq (t0 t1 : V) (n : Nat) (h : List V) : f46_l0 t0 t1 n h =
 f46_r0 t1 fun t5_1 =>
  V.ite t5_1
  (f46_r2 t0 t1 h fun h_2 =>
  f46_r1 t1 fun t1_3 =>
  f46_l0 t0 t1_3 n h_2)
  (f46_r3 t0 t1 h fun h_4 =>
  if (List.all [] V.okE) = true then finT n h_4 (V.tup []) else none) :=
 l_eq (by kernel_rfl)
theorem f46_eq (t0 t1 : V) (h : List V) : Cl 46 [t0, t1] h =
 f46_l0 t0 t1 (List.length h) h :=
 f_eq (by kernel_rfl)
noncomputable def f50_r0 (k : Rv) : Rv :=
 k
noncomputable def f50_r1 (t0 : V) (h : List V) (k : V → Rv) : Rv :=
 (notNil t0).bind fun t4 => (fieldA P 125 0 t4).bind fun t5 => (ldS h 68 t5).bind fun t6 => (conv P h 68 9 t6).bind fun t7 => k t7
theorem f50_eq (t0 : V) (h : List V) : Cl 50 [t0] h =
 f50_r0 (f50_r1 t0 h fun t2_1 =>
  finT (List.length h) h t2_1) :=
 f_eq (by kernel_rfl)
noncomputable def f54_r0 (k : Rv) : Rv :=
 k
noncomputable def f54_r1 (t0 : V) (h : List V) (k : V → List V → Rv) : Rv :=
 (bld P 130 [(0, t0)]).bind fun t4 => if (tyOk P 130 t4 && V.under (List.length h) t4) = true then k (V.ref (List.length h) [] 130) (h ++ [t4]) else none
theorem f54_eq (t0 : V) (h : List V) : Cl 54 [t0] h =
 f54_r0 (f54_r1 t0 h fun t2_1 h_2 =>
  finK h_2 t2_1) :=
 f_eq (by kernel_rfl)
noncomputable def f55_r0 (k : Rv) : Rv :=
 k
noncomputable def f55_r1 (h : List V) (k : V → List V → Rv) : Rv :=
 (sto P (h ++ [zero P 93]) 93 (V.ref (List.length h) [] 93) (V.int .u64 0)).bind fun h_1 => k (V.ref (List.length h) [] 93) h_1
noncomputable def f55_r2 (t0 t3 : V) (h : List V) (k : List V → Rv) : Rv :=
 (if (List.all [t3] V.capOk) = true then some (V.clo 78 [t3]) else none).bind fun t5 => (Cl 77 (normL [t0, t5]) h).bind fun r => k r.2
noncomputable def f55_r3 (t3 : V) (h : List V) (k : V → Rv) : Rv :=
 (ldP h 93 t3).bind fun t7 => k t7
theorem f55_eq (t0 : V) (h : List V) : Cl 55 [t0] h =
 f55_r0 (f55_r1 h fun t3_1 h_2 =>
  f55_r2 t0 t3_1 h_2 fun h_3 =>
  f55_r3 t3_1 h_3 fun t2_4 =>
  finT (List.length h) h_3 t2_4) :=
 f_eq (by kernel_rfl)
noncomputable def f61_l0 (t4 t5 : V) (h : List V) : Rv := lp W 61 0 (cd 61 303) (bk 0 (sk 61 0 63 (lv 61 0))) ⟨[(4, t4), (5, t5)], h⟩
theorem f61_l0_eq (t4 t5 : V) (h : List V) : f61_l0 t4 t5 h =
 (lnL (V.weak t4)).bind fun t33_8 => (bin .lss t5 t33_8).bind fun t34_9 => V.ite t34_9
  ((bin .sub t5 (V.int .i64 1)).bind fun t39_10 => (ixS 112 (V.weak t4) t39_10).bind fun t40_11 => (ldP h 112 t40_11).bind fun t41_12 => (ixS 112 (V.weak t4) t5).bind fun t44_13 => (ldP h 112 t44_13).bind fun t45_14 => (Cl 91 (reifyL h [t41_12, t45_14]) []).bind fun r_15 => (bin .eql r_15.1 (V.int .i64 0)).bind fun t47_16 => V.ite t47_16
  (finT 0 h (V.int .i64 51))
  ((bin .add t5 (V.int .i64 1)).bind fun t36_17 => f61_l0 t4 t36_17 h))
  (finT 0 h (V.int .i64 0)) :=
 l_eq (by kernel_rfl)
theorem f61_eq (t0 : V) : Cl 61 [t0] [] =
 if ((tyG 23) (V.weak t0) && V.under 0 (V.weak t0)) = true then (if (List.all [(V.ref 0 [] 24)] V.capOk) = true then some (V.clo 87 [(V.ref 0 [] 24)]) else none).bind fun t6_1 => jn (fun t26_2 h_3 =>
 V.ite t26_2
  (finT 0 h_3 (V.int .i64 50))
  ((fA 24 22 1 (V.ref 0 [] 24)).bind fun t27_4 => (ldS h_3 22 t27_4).bind fun t28_5 => (Cl 90 (normL [t28_5]) h_3).bind fun r_6 => (Cl 89 (normL [r_6.1, (V.clo 91 [])]) r_6.2).bind fun r_7 => f61_l0 r_7.1 (V.int .i64 1) r_7.2)) (fun (k_18 : V → List V → Rv) => (fA 24 3 0 (V.ref 0 [] 24)).bind fun t7_19 => (ldP [(V.weak t0)] 3 t7_19).bind fun t8_20 => (bin .lss t8_20 (V.int .i64 1)).bind fun t9_21 => V.ite t9_21 (k_18 (V.bool true) [(V.weak t0)]) ((fA 24 3 0 (V.ref 0 [] 24)).bind fun t11_22 => (ldP [(V.weak t0)] 3 t11_22).bind fun t12_23 => (bin .gtr t12_23 (V.int .i64 64)).bind fun t13_24 => V.ite t13_24 (k_18 (V.bool true) [(V.weak t0)]) ((fA 24 22 1 (V.ref 0 [] 24)).bind fun t16_25 => (ldS [(V.weak t0)] 22 t16_25).bind fun t17_26 => (lnL t17_26).bind fun t18_27 => (bin .gtr t18_27 (V.int .i64 512)).bind fun t19_28 => V.ite t19_28 (k_18 (V.bool true) [(V.weak t0)]) ((fA 24 22 1 (V.ref 0 [] 24)).bind fun t22_29 => (ldS [(V.weak t0)] 22 t22_29).bind fun t23_30 => (Cl 88 (normL [t23_30, t6_1]) [(V.weak t0)]).bind fun r_31 => k_18 r_31.1 r_31.2)))) else none :=
 f_eq (by kernel_rfl)
theorem f62_eq (t0 : V) : Cl 62 [t0] [] =
 (bsL 9 false (ck [tyS (V.str [109, 97, 120]), tyS (V.str [108, 97, 98, 101, 108]), tyS (V.str [115, 115, 115, 112]), tyS (V.str [98, 102, 115]), tyS (V.str [100, 101, 103, 114, 101, 101]), tyS (V.str [114, 97, 110, 107]), tyS (V.str [119, 97, 108, 107, 115])] [(V.str [109, 97, 120]), (V.str [108, 97, 98, 101, 108]), (V.str [115, 115, 115, 112]), (V.str [98, 102, 115]), (V.str [100, 101, 103, 114, 101, 101]), (V.str [114, 97, 110, 107]), (V.str [119, 97, 108, 107, 115])])).bind fun t3_1 => (Cl 92 (reifyL [] [t3_1, t0]) []).bind fun r_2 => finT 0 [] r_2.1 :=
 f_eq (by kernel_rfl)
theorem f63_eq (t0 t1 : V) : Cl 63 [t0, t1] [] =
 jn (fun t4_1 =>
 finT 0 [] t4_1) (fun (k_2 : V → Rv) => (bin .geq t0 (V.int .i64 1)).bind fun t6_3 => V.ite t6_3 ((bin .leq t0 (V.int .i64 64)).bind fun t9_4 => V.ite t9_4 ((bin .geq t1 (V.int .i64 1)).bind fun t13_5 => V.ite t13_5 ((bin .leq t1 (V.int .i64 64)).bind fun t17_6 => k_2 t17_6) (k_2 (V.bool false))) (k_2 (V.bool false))) (k_2 (V.bool false))) :=
 f_eq (by kernel_rfl)
theorem f64_eq (t0 t1 t2 : V) (h : List V) : Cl 64 [t0, t1, t2] h =
 (ldP h 3 t1).bind fun t6_1 => (Cl 65 (reifyL h [t0, t6_1]) []).bind fun r_2 => (ldP h 3 t2).bind fun t8_3 => (bin .eql r_2.1 t8_3).bind fun t9_4 => finT (List.length h) h t9_4 :=
 f_eq (by kernel_rfl)
theorem f65_eq (t0 t1 : V) : Cl 65 [t0, t1] [] =
 jn (fun t14_1 =>
 V.ite t14_1
  (finT 0 [] (V.int .i64 (-1)))
  ((cvI .u32 t0).bind fun t16_2 => (Cl 93 (reifyL [] [t16_2]) []).bind fun r_3 => (cvI .u32 t1).bind fun t19_4 => (bin .rem r_3.1 t19_4).bind fun t20_5 => (cvI .i64 t20_5).bind fun t21_6 => finT 0 [] t21_6)) (fun (k_7 : V → Rv) => (bin .lss t0 (V.int .i64 0)).bind fun t6_8 => V.ite t6_8 (k_7 (V.bool true)) ((bin .lss t1 (V.int .i64 1)).bind fun t9_9 => V.ite t9_9 (k_7 (V.bool true)) ((bin .gtr t1 (V.int .i64 64)).bind fun t13_10 => k_7 t13_10))) :=
 f_eq (by kernel_rfl)
theorem f66_eq (t0 : V) : Cl 66 [t0] [] =
 (lnL (V.weak t0)).bind fun t4_1 => (Cl 95 (reifyL [(V.agg 54 (List.replicate 32 (V.int .u8 0)))] [t0]) []).bind fun r_2 => (Cl 94 (reifyL [(V.agg 54 (List.replicate 32 (V.int .u8 0)))] [t4_1, r_2.1]) []).bind fun r_3 => (stT (tyG 54) 55 [(V.agg 54 (List.replicate 32 (V.int .u8 0)))] (V.ref 0 [] 55) r_3.1).bind fun h_4 => (ldP h_4 55 (V.ref 0 [] 55)).bind fun c_5 => finT 0 h_4 c_5 :=
 f_eq (by kernel_rfl)
theorem f67_eq (t0 : V) : Cl 67 [t0] [] =
 if ((tyG 80) t0 && V.under 0 t0) = true then (ldP [t0] 81 (V.ref 0 [] 81)).bind fun t4_1 => (Cl 96 (reifyL [t0] [t4_1]) []).bind fun r_2 => (bin .neq r_2.1 (V.int .i64 0)).bind fun t6_3 => V.ite t6_3
  (finT 0 [t0] (V.str []))
  ((Cl 45 (normL []) [t0]).bind fun r_4 => (fA 81 3 0 (V.ref 0 [] 81)).bind fun t9_5 => (ldP r_4.2 3 t9_5).bind fun t10_6 => (cvI .u64 t10_6).bind fun t11_7 => (Cl 46 (normL [r_4.1, t11_7]) r_4.2).bind fun r_8 => (fA 81 2 1 (V.ref 0 [] 81)).bind fun t14_9 => (ldP r_8.2 2 t14_9).bind fun t15_10 => (Cl 97 (normL [r_4.1, t15_10]) r_8.2).bind fun r_11 => (fA 81 4 2 (V.ref 0 [] 81)).bind fun t18_12 => (ldP r_11.2 4 t18_12).bind fun t19_13 => (Cl 98 (reifyL r_11.2 [t19_13]) []).bind fun r_14 => (Cl 46 (normL [r_4.1, r_14.1]) r_11.2).bind fun r_15 => (fA 81 4 3 (V.ref 0 [] 81)).bind fun t23_16 => (ldP r_15.2 4 t23_16).bind fun t24_17 => (Cl 98 (reifyL r_15.2 [t24_17]) []).bind fun r_18 => (Cl 46 (normL [r_4.1, r_18.1]) r_15.2).bind fun r_19 => (fA 81 2 4 (V.ref 0 [] 81)).bind fun t28_20 => (ldP r_19.2 2 t28_20).bind fun t29_21 => (Cl 97 (normL [r_4.1, t29_21]) r_19.2).bind fun r_22 => (Cl 50 (normL [r_4.1]) r_22.2).bind fun r_23 => finT 0 r_23.2 r_23.1) else none :=
 f_eq (by kernel_rfl)
noncomputable def f68_l0 (t1 t3 t4 : V) (h : List V) : Rv := lp W 68 0 (cd 68 151) (bk 0 (sk 68 0 31 (lv 68 0))) ⟨[(1, t1), (3, t3), (4, t4)], h⟩
noncomputable def f68_l2 (t1 t3 t4 t5 t6 : V) (m0 : Nat) (h : List V) : Rv := lp W 68 2 (cd 68 40087) (bk 2 (bk 1 (sk 68 0 919 (lk 68 0 m0 151 (bk 0 (sk 68 0 31 (lv 68 0))))))) ⟨[(1, t1), (3, t3), (4, t4), (5, t5), (6, t6)], h⟩
theorem f68_l2_eq (t1 t3 t4 t5 t6 : V) (m0 : Nat) (h : List V) : f68_l2 t1 t3 t4 t5 t6 m0 h =
 (bin .lss t6 t4).bind fun t67_12 => V.ite t67_12
  (jn (fun t3_13 =>
 (bin .add t6 (V.int .i64 1)).bind fun t69_14 => f68_l2 t1 t3_13 t4 t5 t69_14 m0 h) (fun (k_15 : V → Rv) => V.ite t3 (k_15 (V.bool true)) ((fA 24 22 1 t1).bind fun t72_16 => (ldS h 22 t72_16).bind fun t73_17 => (ixS 112 t73_17 t6).bind fun t75_18 => (fA 112 3 0 t75_18).bind fun t76_19 => (ldP h 3 t76_19).bind fun t77_20 => (fA 112 3 0 t5).bind fun t78_21 => (ldP h 3 t78_21).bind fun t79_22 => (bin .eql t77_20 t79_22).bind fun t80_23 => V.ite t80_23 ((fA 24 22 1 t1).bind fun t82_24 => (ldS h 22 t82_24).bind fun t83_25 => (ixS 112 t83_25 t6).bind fun t85_26 => (fA 112 3 1 t85_26).bind fun t86_27 => (ldP h 3 t86_27).bind fun t87_28 => (fA 112 3 1 t5).bind fun t88_29 => (ldP h 3 t88_29).bind fun t89_30 => (bin .eql t87_28 t89_30).bind fun t90_31 => k_15 t90_31) (k_15 (V.bool false)))))
  ((bin .add t4 (V.int .i64 1)).bind fun t27_32 => if underL m0 [t1, t3, t27_32] = true then f68_l0 t1 t3 t27_32 (List.take m0 h) else none) :=
 l_eq (by kernel_rfl)
theorem f68_l0_eq (t1 t3 t4 : V) (h : List V) : f68_l0 t1 t3 t4 h =
 (fA 24 22 1 t1).bind fun t22_2 => (ldS h 22 t22_2).bind fun t23_3 => (lnL t23_3).bind fun t24_4 => (bin .lss t4 t24_4).bind fun t25_5 => V.ite t25_5
  ((fA 24 22 1 t1).bind fun t28_6 => (ldS h 22 t28_6).bind fun t29_7 => (ixS 112 t29_7 t4).bind fun t31_8 => (ldP h 112 t31_8).bind fun t32_9 => (stT (tyG 111) 112 (h ++ [(V.agg 111 [(V.int .i64 0), (V.int .i64 0), (V.int .i64 0)])]) (V.ref (List.length h) [] 112) t32_9).bind fun h_10 => jn (fun t64_11 =>
 V.ite t64_11
  (finT 0 h_10 (V.int .i64 50))
  (f68_l2 t1 t3 t4 (V.ref (List.length h) [] 112) (V.int .i64 0) (List.length h) h_10)) (fun (k_33 : V → Rv) => (fA 112 3 0 (V.ref (List.length h) [] 112)).bind fun t33_34 => (ldP h_10 3 t33_34).bind fun t34_35 => (bin .lss t34_35 (V.int .i64 0)).bind fun t35_36 => V.ite t35_36 (k_33 (V.bool true)) ((fA 112 3 0 (V.ref (List.length h) [] 112)).bind fun t37_37 => (ldP h_10 3 t37_37).bind fun t38_38 => (fA 24 3 0 t1).bind fun t39_39 => (ldP h_10 3 t39_39).bind fun t40_40 => (bin .geq t38_38 t40_40).bind fun t41_41 => V.ite t41_41 (k_33 (V.bool true)) ((fA 112 3 1 (V.ref (List.length h) [] 112)).bind fun t44_42 => (ldP h_10 3 t44_42).bind fun t45_43 => (bin .lss t45_43 (V.int .i64 0)).bind fun t46_44 => V.ite t46_44 (k_33 (V.bool true)) ((fA 112 3 1 (V.ref (List.length h) [] 112)).bind fun t49_45 => (ldP h_10 3 t49_45).bind fun t50_46 => (fA 24 3 0 t1).bind fun t51_47 => (ldP h_10 3 t51_47).bind fun t52_48 => (bin .geq t50_46 t52_48).bind fun t53_49 => V.ite t53_49 (k_33 (V.bool true)) ((fA 112 2 2 (V.ref (List.length h) [] 112)).bind fun t56_50 => (ldP h_10 2 t56_50).bind fun t57_51 => (bin .lss t57_51 (V.int .i64 0)).bind fun t58_52 => V.ite t58_52 (k_33 (V.bool true)) ((fA 112 2 2 (V.ref (List.length h) [] 112)).bind fun t61_53 => (ldP h_10 2 t61_53).bind fun t62_54 => (bin .gtr t62_54 (V.int .i64 1048576)).bind fun t63_55 => k_33 t63_55)))))))
  (V.ite t3
  (finT 0 h (V.int .i64 51))
  (finT 0 h (V.int .i64 0))) :=
 l_eq (by kernel_rfl)
theorem f68_eq (t0 : V) : Cl 68 [t0] [] =
 if ((tyG 23) (V.weak t0) && V.under 0 (V.weak t0)) = true then jn (fun t20_1 =>
 V.ite t20_1
  (finT 0 [(V.weak t0)] (V.int .i64 50))
  (f68_l0 (V.ref 0 [] 24) (V.bool false) (V.int .i64 0) [(V.weak t0)])) (fun (k_56 : V → Rv) => (fA 24 3 0 (V.ref 0 [] 24)).bind fun t7_57 => (ldP [(V.weak t0)] 3 t7_57).bind fun t8_58 => (bin .lss t8_58 (V.int .i64 1)).bind fun t9_59 => V.ite t9_59 (k_56 (V.bool true)) ((fA 24 3 0 (V.ref 0 [] 24)).bind fun t11_60 => (ldP [(V.weak t0)] 3 t11_60).bind fun t12_61 => (bin .gtr t12_61 (V.int .i64 64)).bind fun t13_62 => V.ite t13_62 (k_56 (V.bool true)) ((fA 24 22 1 (V.ref 0 [] 24)).bind fun t16_63 => (ldS [(V.weak t0)] 22 t16_63).bind fun t17_64 => (lnL t17_64).bind fun t18_65 => (bin .gtr t18_65 (V.int .i64 512)).bind fun t19_66 => k_56 t19_66))) else none :=
 f_eq (by kernel_rfl)
theorem f69_eq (t0 : V) : Cl 69 [t0] [] =
 jn (fun t2_1 =>
 finT 0 [] t2_1) (fun (k_2 : V → Rv) => (bin .eql t0 (V.str [109, 97, 120])).bind fun t4_3 => V.ite t4_3 (k_2 (V.bool true)) ((bin .eql t0 (V.str [108, 97, 98, 101, 108])).bind fun t7_4 => V.ite t7_4 (k_2 (V.bool true)) ((bin .eql t0 (V.str [115, 115, 115, 112])).bind fun t11_5 => V.ite t11_5 (k_2 (V.bool true)) ((bin .eql t0 (V.str [98, 102, 115])).bind fun t15_6 => V.ite t15_6 (k_2 (V.bool true)) ((bin .eql t0 (V.str [100, 101, 103, 114, 101, 101])).bind fun t19_7 => V.ite t19_7 (k_2 (V.bool true)) ((bin .eql t0 (V.str [114, 97, 110, 107])).bind fun t23_8 => V.ite t23_8 (k_2 (V.bool true)) ((bin .eql t0 (V.str [119, 97, 108, 107, 115])).bind fun t27_9 => k_2 t27_9))))))) :=
 f_eq (by kernel_rfl)
noncomputable def f77_r0 (k : Rv) : Rv :=
 k
noncomputable def f77_r1 (t0 : V) (h : List V) (k : V → Rv) : Rv :=
 (notNil t0).bind fun t8 => (fieldA P 130 1 t8).bind fun t9 => (ldP h 34 t9).bind fun t10 => (bin .neq t10 (V.int .i64 0)).bind fun t11 => k t11
noncomputable def f77_r2 (k : V → Rv) : Rv :=
 k (V.bool false)
noncomputable def f77_r3 (t0 t1 : V) (h : List V) (k : V → V → List V → Rv) : Rv :=
 (notNil t0).bind fun t15 => (fieldA P 130 0 t15).bind fun t16 => (ldP h 9 t16).bind fun t17 => callV P ann W t1 [t17] h fun t18 h_1 => if V.noOwn t18 = true then (ext t18 0).bind fun t19 => (ext t18 1).bind fun t20 => k t19 t20 h_1 else none
noncomputable def f77_r4 (t0 t6 : V) (h : List V) (k : List V → Rv) : Rv :=
 (notNil t0).bind fun t23 => (fieldA P 130 1 t23).bind fun t24 => (sto P h 34 t24 t6).bind fun h_1 => k h_1
noncomputable def f77_r5 (t6 : V) (k : V → Rv) : Rv :=
 (bin .neq t6 (V.int .i64 0)).bind fun t26 => k t26
noncomputable def f77_r6 (k : V → Rv) : Rv :=
 k (V.bool false)
noncomputable def f77_r7 (t0 t5 : V) (h : List V) (k : List V → Rv) : Rv :=
 (notNil t0).bind fun t29 => (fieldA P 130 0 t29).bind fun t30 => (ldP h 9 t30).bind fun t31 => (sli P 9 t31 (some t5) none none).bind fun t33 => (notNil t0).bind fun t34 => (fieldA P 130 0 t34).bind fun t35 => (sto P h 9 t35 t33).bind fun h_1 => k h_1
noncomputable def f77_r8 (k : V → Rv) : Rv :=
 k (V.bool true)
theorem f77_eq (t0 t1 : V) (h : List V) : Cl 77 [t0, t1] h =
 f77_r0 (f77_r1 t0 h fun t11_1 =>
  V.ite t11_1
  (f77_r2 fun t4_2 =>
  finT (List.length h) h t4_2)
  (f77_r3 t0 t1 h fun t5_3 t6_4 h_5 =>
  f77_r4 t0 t6_4 h_5 fun h_6 =>
  f77_r5 t6_4 fun t26_7 =>
  V.ite t26_7
  (f77_r6 fun t4_8 =>
  finT (List.length h) h_6 t4_8)
  (f77_r7 t0 t5_3 h_6 fun h_9 =>
  f77_r8 fun t4_10 =>
  finT (List.length h) h_9 t4_10))) :=
 f_eq (by kernel_rfl)
noncomputable def f78_r0 (k : Rv) : Rv :=
 k
noncomputable def f78_r1 (t0 : V) (h : List V) (k : V → V → V → Rv) : Rv :=
 (Cl 79 (reifyL h [t0]) []).bind fun r => (ext r.1 0).bind fun t11 => (ext r.1 1).bind fun t12 => (ext r.1 2).bind fun t13 => k t11 t12 t13
noncomputable def f78_r2 (t1 t5 : V) (h : List V) (k : List V → Rv) : Rv :=
 (sto P h 93 t1 t5).bind fun h_1 => k h_1
noncomputable def f78_r3 (t6 t7 : V) (k : V → V → Rv) : Rv :=
 k t6 t7
theorem f78_eq (t0 t1 : V) (h : List V) : Cl 78 [t0, t1] h =
 f78_r0 (f78_r1 t0 h fun t5_1 t6_2 t7_3 =>
  f78_r2 t1 t5_1 h fun h_4 =>
  f78_r3 t6_2 t7_3 fun t3_5 t4_6 =>
  if (List.all [t4_6, t3_5] V.okE) = true then finT (List.length h) h_4 (V.tup [t3_5, t4_6]) else none) :=
 f_eq (by kernel_rfl)
noncomputable def f79_r0 (k : Rv) : Rv :=
 k
noncomputable def f79_r1 (k : V → Rv) : Rv :=
 k (V.int .u64 0)
noncomputable def f79_r2 (t0 : V) (k : V → V → Rv) : Rv :=
 (lenV P 9 t0).bind fun t9 => k t9 (V.int .i64 0)
noncomputable def f79_l0 (t0 t5 t9 t10 : V) : Rv := lp W 79 0 (cd 79 75) (bk 0 (sk 79 0 15 (lv 79 0))) ⟨[(0, t0), (5, t5), (9, t9), (10, t10)], []⟩
noncomputable def f79_r3 (t9 t10 : V) (k : V → Rv) : Rv :=
 (bin .lss t10 t9).bind fun t11 => k t11
noncomputable def f79_r4 (t10 : V) (k : V → Rv) : Rv :=
 k t10
noncomputable def f79_r5 (t0 t6 : V) (k : V → Rv) : Rv :=
 (indexV P 9 t0 t6).bind fun t15 => k t15
noncomputable def f79_r6 (t6 t7 : V) (k : V → Rv) : Rv :=
 (bin .eql t6 (V.int .i64 9)).bind fun t17 => V.ite t17 ((bin .gtr t7 (V.int .u8 1)).bind fun t20 => V.ite t20 (k (V.bool true)) ((bin .gtr t6 (V.int .i64 0)).bind fun t24 => V.ite t24 ((bin .eql t7 (V.int .u8 0)).bind fun t27 => k t27) (k (V.bool false)))) ((bin .gtr t6 (V.int .i64 0)).bind fun t24_1 => V.ite t24_1 ((bin .eql t7 (V.int .u8 0)).bind fun t27_1 => k t27_1) (k (V.bool false)))
noncomputable def f79_r7 (k : V → V → V → Rv) : Rv :=
 k (V.int .u64 0) (V.int .i64 0) (V.int .i64 21)
noncomputable def f79_r8 (t5 t6 t7 : V) (k : V → Rv) : Rv :=
 (bin .and t7 (V.int .u8 127)).bind fun t32 => (conv P [] 5 93 t32).bind fun t33 => (bin .mul (V.int .i64 7) t6).bind fun t35 => (conv P [] 3 126 t35).bind fun t36 => (bin .shl t33 t36).bind fun t37 => (bin .or t5 t37).bind fun t38 => k t38
noncomputable def f79_r9 (t7 : V) (k : V → Rv) : Rv :=
 (bin .lss t7 (V.int .u8 128)).bind fun t40 => k t40
noncomputable def f79_r10 (t5 t6 : V) (k : V → V → V → Rv) : Rv :=
 (bin .add t6 (V.int .i64 1)).bind fun t43 => k t5 t43 (V.int .i64 0)
noncomputable def f79_r11 (t10 : V) (k : V → Rv) : Rv :=
 (bin .add t10 (V.int .i64 1)).bind fun t44 => k t44
noncomputable def f79_r12 (k : V → V → V → Rv) : Rv :=
 k (V.int .u64 0) (V.int .i64 0) (V.int .i64 20)
theorem f79_l0_eq (t0 t5 t9 t10 : V) : f79_l0 t0 t5 t9 t10 =
 f79_r3 t9 t10 fun t11_4 =>
  V.ite t11_4
  (f79_r4 t10 fun t6_5 =>
  f79_r5 t0 t6_5 fun t7_6 =>
  f79_r6 t6_5 t7_6 fun t29_7 =>
  V.ite t29_7
  (f79_r7 fun t2_8 t3_9 t4_10 =>
  if (List.all [t4_10, t3_9, t2_8] V.okE) = true then finT 0 [] (V.tup [t2_8, t3_9, t4_10]) else none)
  (f79_r8 t5 t6_5 t7_6 fun t5_11 =>
  f79_r9 t7_6 fun t40_12 =>
  V.ite t40_12
  (f79_r10 t5_11 t6_5 fun t2_13 t3_14 t4_15 =>
  if (List.all [t4_15, t3_14, t2_13] V.okE) = true then finT 0 [] (V.tup [t2_13, t3_14, t4_15]) else none)
  (f79_r11 t10 fun t10_16 =>
  f79_l0 t0 t5_11 t9 t10_16)))
  (f79_r12 fun t2_17 t3_18 t4_19 =>
  if (List.all [t4_19, t3_18, t2_17] V.okE) = true then finT 0 [] (V.tup [t2_17, t3_18, t4_19]) else none) :=
 l_eq (by kernel_rfl)
theorem f79_eq (t0 : V) : Cl 79 [t0] [] =
 f79_r0 (f79_r1 fun t5_1 =>
  f79_r2 t0 fun t9_2 t10_3 =>
  f79_l0 t0 t5_1 t9_2 t10_3) :=
 f_eq (by kernel_rfl)
theorem f80_eq (t0 : V) : Cl 80 [t0] [] =
 (eqNil .eql (V.weak t0) (V.lst 4 .nil [])).bind fun t4_1 => V.ite t4_1
  (finO 0 [] (V.weak (V.lst 4 .nil [])))
  ((bsL 4 false (ck [] [])).bind fun t5_2 => (apL 4 tyB false [] t5_2 t0).bind fun t7_3 => finO 0 [] t7_3) :=
 f_eq (by kernel_rfl)
noncomputable def f86_r0 (k : Rv) : Rv :=
 k
noncomputable def f86_r1 (t0 : V) (h : List V) (k : V → Rv) : Rv :=
 (notNil t0).bind fun t4 => (fieldA P 130 1 t4).bind fun t5 => (ldP h 34 t5).bind fun t6 => (bin .eql t6 (V.int .i64 0)).bind fun t7 => V.ite t7 ((notNil t0).bind fun t10 => (fieldA P 130 0 t10).bind fun t11 => (ldP h 9 t11).bind fun t12 => (bin .neq t12 (V.str [])).bind fun t13 => k t13) (k (V.bool false))
noncomputable def f86_r2 (k : V → Rv) : Rv :=
 k (V.int .i64 22)
noncomputable def f86_r3 (t0 : V) (h : List V) (k : V → Rv) : Rv :=
 (notNil t0).bind fun t16 => (fieldA P 130 1 t16).bind fun t17 => (ldP h 34 t17).bind fun t18 => k t18
theorem f86_eq (t0 : V) (h : List V) : Cl 86 [t0] h =
 f86_r0 (f86_r1 t0 h fun t14_1 =>
  V.ite t14_1
  (f86_r2 fun t2_2 =>
  finT (List.length h) h t2_2)
  (f86_r3 t0 h fun t2_3 =>
  finT (List.length h) h t2_3)) :=
 f_eq (by kernel_rfl)
theorem f87_eq (t0 t1 : V) (h : List V) : Cl 87 [t0, t1] h =
 if ((tyG 111) t0 && V.under (List.length h) t0) = true then jn (fun t3_1 =>
 finT (List.length h) (h ++ [t0]) t3_1) (fun (k_2 : V → Rv) => (fA 112 3 0 (V.ref (List.length h) [] 112)).bind fun t4_3 => (ldP (h ++ [t0]) 3 t4_3).bind fun t5_4 => (bin .lss t5_4 (V.int .i64 0)).bind fun t6_5 => V.ite t6_5 (k_2 (V.bool true)) ((fA 112 3 0 (V.ref (List.length h) [] 112)).bind fun t8_6 => (ldP (h ++ [t0]) 3 t8_6).bind fun t9_7 => (fA 24 3 0 t1).bind fun t10_8 => (ldP (h ++ [t0]) 3 t10_8).bind fun t11_9 => (bin .geq t9_7 t11_9).bind fun t12_10 => V.ite t12_10 (k_2 (V.bool true)) ((fA 112 3 1 (V.ref (List.length h) [] 112)).bind fun t15_11 => (ldP (h ++ [t0]) 3 t15_11).bind fun t16_12 => (bin .lss t16_12 (V.int .i64 0)).bind fun t17_13 => V.ite t17_13 (k_2 (V.bool true)) ((fA 112 3 1 (V.ref (List.length h) [] 112)).bind fun t20_14 => (ldP (h ++ [t0]) 3 t20_14).bind fun t21_15 => (fA 24 3 0 t1).bind fun t22_16 => (ldP (h ++ [t0]) 3 t22_16).bind fun t23_17 => (bin .geq t21_15 t23_17).bind fun t24_18 => V.ite t24_18 (k_2 (V.bool true)) ((fA 112 2 2 (V.ref (List.length h) [] 112)).bind fun t27_19 => (ldP (h ++ [t0]) 2 t27_19).bind fun t28_20 => (bin .lss t28_20 (V.int .i64 0)).bind fun t29_21 => V.ite t29_21 (k_2 (V.bool true)) ((fA 112 2 2 (V.ref (List.length h) [] 112)).bind fun t32_22 => (ldP (h ++ [t0]) 2 t32_22).bind fun t33_23 => (bin .gtr t33_23 (V.int .i64 1048576)).bind fun t34_24 => k_2 t34_24)))))) else none :=
 f_eq (by kernel_rfl)
theorem f88_eq (t0 t1 : V) (h : List V) : Cl 88 [t0, t1] h =
 (Cl 112 (normL [t0, t1]) h).bind fun r_1 => (bin .geq r_1.1 (V.int .i64 0)).bind fun t8_2 => finT (List.length h) r_1.2 t8_2 :=
 f_eq (by kernel_rfl)
theorem f89_eq (t0 t1 : V) (h : List V) : Cl 89 [t0, t1] h =
 (Cl 113 (normL [t0]) h).bind fun r_1 => (Cl 114 (normL [(V.weak r_1.1), t1]) r_1.2).bind fun r_2 => finT (List.length h) r_2.2 r_1.1 :=
 f_eq (by kernel_rfl)
theorem f90_eq (t0 : V) (h : List V) : Cl 90 [t0] h =
 if ((tyL 112) (V.weak t0) && V.under (List.length h) (V.weak t0)) = true then (if (List.all [(V.ref (List.length h) [] 22)] V.capOk) = true then some (V.clo 115 [(V.ref (List.length h) [] 22)]) else none).bind fun t3_1 => finK (h ++ [(V.weak t0)]) t3_1 else none :=
 f_eq (by kernel_rfl)
theorem f91_eq (t0 t1 : V) : Cl 91 [t0, t1] [] =
 if ((tyG 111) t0 && V.under 0 t0) = true then if ((tyG 111) t1 && V.under 1 t1) = true then (fA 112 3 0 (V.ref 0 [] 112)).bind fun t5_1 => (ldP [t0, t1] 3 t5_1).bind fun t6_2 => (fA 112 3 0 (V.ref 1 [] 112)).bind fun t7_3 => (ldP [t0, t1] 3 t7_3).bind fun t8_4 => (bin .neq t6_2 t8_4).bind fun t9_5 => V.ite t9_5
  ((fA 112 3 0 (V.ref 0 [] 112)).bind fun t10_6 => (ldP [t0, t1] 3 t10_6).bind fun t11_7 => (fA 112 3 0 (V.ref 1 [] 112)).bind fun t12_8 => (ldP [t0, t1] 3 t12_8).bind fun t13_9 => (bin .sub t11_7 t13_9).bind fun t14_10 => finT 0 [t0, t1] t14_10)
  ((fA 112 3 1 (V.ref 0 [] 112)).bind fun t15_11 => (ldP [t0, t1] 3 t15_11).bind fun t16_12 => (fA 112 3 1 (V.ref 1 [] 112)).bind fun t17_13 => (ldP [t0, t1] 3 t17_13).bind fun t18_14 => (bin .sub t16_12 t18_14).bind fun t19_15 => finT 0 [t0, t1] t19_15) else none else none :=
 f_eq (by kernel_rfl)
theorem f92_eq (t0 t1 : V) : Cl 92 [t0, t1] [] =
 (Cl 116 (reifyL [] [t0, t1]) []).bind fun r_1 => (bin .geq r_1.1 (V.int .i64 0)).bind fun t8_2 => finT 0 [] t8_2 :=
 f_eq (by kernel_rfl)
theorem f93_eq (t0 : V) : Cl 93 [t0] [] =
 (bin .mul t0 (V.int .u32 2654435761)).bind fun t4_1 => (bin .shr t4_1 (V.int .u64 15)).bind fun t7_2 => (bin .xor t4_1 t7_2).bind fun t8_3 => (bin .mul t8_3 (V.int .u32 2246822519)).bind fun t10_4 => (bin .shr t10_4 (V.int .u64 13)).bind fun t13_5 => (bin .xor t10_4 t13_5).bind fun t14_6 => finT 0 [] t14_6 :=
 f_eq (by kernel_rfl)
noncomputable def f94_r0 (t1 : V) (h : List V) (k : V → V → List V → Rv) : Rv :=
 if (tyOk P 55 t1 && V.under (List.length h) t1) = true then k (V.ref (List.length h) [] 55) (V.ref (List.length (h ++ [t1])) [] 55) ((h ++ [t1]) ++ [zero P 55]) else none
noncomputable def f94_r1 (h : List V) (k : V → List V → Rv) : Rv :=
 (Cl 45 (normL []) h).bind fun r => k r.1 r.2
noncomputable def f94_r2 (t0 t5 : V) (h : List V) (k : List V → Rv) : Rv :=
 (conv P h 3 93 t0).bind fun t9 => (Cl 46 (normL [t5, t9]) h).bind fun r => k r.2
noncomputable def f94_r3 (t3 t4 t5 : V) (h : List V) (k : List V → Rv) : Rv :=
 (bldS P 68 1 [(0, (V.int .u8 3))]).bind fun t11 => (Cl 50 (normL [t5]) h).bind fun r => (conv P r.2 9 68 r.1).bind fun t14 => (sli P 55 t3 none none none).bind fun t15 => (bldS P 182 3 [(0, t11), (1, t14), (2, t15)]).bind fun t16 => (Cl 117 (reifyL r.2 [t16]) []).bind fun r_1 => (sto P r.2 55 t4 r_1.1).bind fun h_1 => k h_1
theorem f94_eq (t0 t1 : V) : Cl 94 [t0, t1] [] =
 f94_r0 t1 [] fun t3_1 t4_2 h_3 =>
  f94_r1 h_3 fun t5_4 h_5 =>
  f94_r2 t0 t5_4 h_5 fun h_6 =>
  f94_r3 t3_1 t4_2 t5_4 h_6 fun h_7 =>
  (ldP h_7 55 t4_2).bind fun c_8 => finT 0 h_7 c_8 :=
 f_eq (by kernel_rfl)
theorem f95_eq (t0 : V) : Cl 95 [t0] [] =
 (lnL (V.weak t0)).bind fun t5_1 => (bin .eql t5_1 (V.int .i64 0)).bind fun t7_2 => V.ite t7_2
  ((bsL 5 false (ck [(tyI .u8) (V.int .u8 2)] [(V.int .u8 2)])).bind fun t8_3 => (bsL 68 true (ck [(tyL 5) t8_3] [(V.weak t8_3)])).bind fun t9_4 => (Cl 117 (reifyL [(V.agg 54 (List.replicate 32 (V.int .u8 0)))] [t9_4]) []).bind fun r_5 => (stT (tyG 54) 55 [(V.agg 54 (List.replicate 32 (V.int .u8 0)))] (V.ref 0 [] 55) r_5.1).bind fun h_6 => (ldP h_6 55 (V.ref 0 [] 55)).bind fun c_7 => finT 0 h_6 c_7)
  ((bin .eql t5_1 (V.int .i64 1)).bind fun t12_8 => V.ite t12_8
  ((ixS 9 t0 (V.int .i64 0)).bind fun t14_9 => (ldP [(V.agg 54 (List.replicate 32 (V.int .u8 0)))] 9 t14_9).bind fun t15_10 => (Cl 118 (reifyL [(V.agg 54 (List.replicate 32 (V.int .u8 0)))] [t15_10]) []).bind fun r_11 => (stT (tyG 54) 55 [(V.agg 54 (List.replicate 32 (V.int .u8 0)))] (V.ref 0 [] 55) r_11.1).bind fun h_12 => (ldP h_12 55 (V.ref 0 [] 55)).bind fun c_13 => finT 0 h_12 c_13)
  ((lnL (V.weak t0)).bind fun t18_14 => (Cl 119 (reifyL [(V.agg 54 (List.replicate 32 (V.int .u8 0)))] [t18_14]) []).bind fun r_15 => (slL 9 (V.weak t0) none (some r_15.1) (some r_15.1)).bind fun t23_16 => (Cl 95 (reifyL [(V.agg 54 (List.replicate 32 (V.int .u8 0)))] [t23_16]) []).bind fun r_17 => (slL 9 (V.weak t0) (some r_15.1) none none).bind fun t27_18 => (Cl 95 (reifyL [(V.agg 54 (List.replicate 32 (V.int .u8 0)))] [t27_18]) []).bind fun r_19 => (Cl 120 (reifyL [(V.agg 54 (List.replicate 32 (V.int .u8 0)))] [r_17.1, r_19.1]) []).bind fun r_20 => (stT (tyG 54) 55 [(V.agg 54 (List.replicate 32 (V.int .u8 0)))] (V.ref 0 [] 55) r_20.1).bind fun h_21 => (ldP h_21 55 (V.ref 0 [] 55)).bind fun c_22 => finT 0 h_21 c_22)) :=
 f_eq (by kernel_rfl)
theorem f96_eq (t0 : V) : Cl 96 [t0] [] =
 if ((tyG 80) t0 && V.under 0 t0) = true then jn (fun t30_1 =>
 V.ite t30_1
  (finT 0 [t0] (V.int .i64 100))
  (finT 0 [t0] (V.int .i64 0))) (fun (k_2 : V → Rv) => (fA 81 3 0 (V.ref 0 [] 81)).bind fun t3_3 => (ldP [t0] 3 t3_3).bind fun t4_4 => (bin .lss t4_4 (V.int .i64 0)).bind fun t5_5 => V.ite t5_5 (k_2 (V.bool true)) ((fA 81 3 0 (V.ref 0 [] 81)).bind fun t7_6 => (ldP [t0] 3 t7_6).bind fun t8_7 => (bin .geq t8_7 (V.int .i64 64)).bind fun t9_8 => V.ite t9_8 (k_2 (V.bool true)) ((fA 81 2 1 (V.ref 0 [] 81)).bind fun t12_9 => (ldP [t0] 2 t12_9).bind fun t13_10 => (Cl 121 (reifyL [t0] [t13_10]) []).bind fun r_11 => V.ite r_11.1 (k_2 (V.bool true)) ((fA 81 2 4 (V.ref 0 [] 81)).bind fun t17_12 => (ldP [t0] 2 t17_12).bind fun t18_13 => (Cl 121 (reifyL [t0] [t18_13]) []).bind fun r_14 => V.ite r_14.1 (k_2 (V.bool true)) ((fA 81 4 3 (V.ref 0 [] 81)).bind fun t22_15 => (ldP [t0] 4 t22_15).bind fun t23_16 => (un .not t23_16).bind fun t24_17 => V.ite t24_17 ((fA 81 2 4 (V.ref 0 [] 81)).bind fun t26_18 => (ldP [t0] 2 t26_18).bind fun t27_19 => (bin .neq t27_19 (V.int .i64 0)).bind fun t28_20 => k_2 t28_20) (k_2 (V.bool false))))))) else none :=
 f_eq (by kernel_rfl)
noncomputable def f97_r0 (t0 t1 : V) (h : List V) (k : List V → Rv) : Rv :=
 (conv P h 2 93 t1).bind fun t6 => (bin .shl t6 (V.int .u64 1)).bind fun t7 => (bin .shr t1 (V.int .u64 63)).bind fun t9 => (conv P h 2 93 t9).bind fun t10 => (bin .xor t7 t10).bind fun t11 => (Cl 46 (normL [t0, t11]) h).bind fun r => k r.2
theorem f97_eq (t0 t1 : V) (h : List V) : Cl 97 [t0, t1] h =
 f97_r0 t0 t1 h fun h_1 =>
  if (List.all [] V.okE) = true then finT (List.length h) h_1 (V.tup []) else none :=
 f_eq (by kernel_rfl)
theorem f98_eq (t0 : V) : Cl 98 [t0] [] =
 V.ite t0
  (finT 0 [] (V.int .u64 1))
  (finT 0 [] (V.int .u64 0)) :=
 f_eq (by kernel_rfl)
noncomputable def f112_l0 (t0 t1 t7 t8 : V) (n : Nat) (h : List V) : Rv := lp W 112 0 (cd 112 37) (bk 0 (sk 112 0 7 (lv 112 n))) ⟨[(0, t0), (1, t1), (7, t7), (8, t8)], h⟩
theorem f112_l0_eq (t0 t1 t7 t8 : V) (n : Nat) (h : List V) : f112_l0 t0 t1 t7 t8 n h =
 (bin .lss t8 t7).bind fun t9_2 => V.ite t9_2
  ((ixS 112 (V.weak t0) t8).bind fun t14_3 => (ldP h 112 t14_3).bind fun t15_4 => callV P ann W t1 [t15_4] h fun t16_5 h_6 => if V.noOwn t16_5 = true then V.ite t16_5
  (finT n h_6 t8)
  ((bin .add t8 (V.int .i64 1)).bind fun t18_7 => f112_l0 t0 t1 t7 t18_7 n h_6) else none)
  (finT n h (V.int .i64 (-1))) :=
 l_eq (by kernel_rfl)
theorem f112_eq (t0 t1 : V) (h : List V) : Cl 112 [t0, t1] h =
 (lnL (V.weak t0)).bind fun t7_1 => f112_l0 t0 t1 t7_1 (V.int .i64 0) (List.length h) h :=
 f_eq (by kernel_rfl)
theorem f113_eq (t0 : V) (h : List V) : Cl 113 [t0] h =
 (aps 115 112 [(V.lst 112 .nil []), t0] h).bind fun r_1 => finK r_1.2 r_1.1 :=
 f_eq (by kernel_rfl)
noncomputable def f114_r0 (t0 : V) (k : V → Rv) : Rv :=
 (lenV P 22 (V.weak t0)).bind fun t6 => k t6
noncomputable def f114_r1 (t0 t1 t4 : V) (h : List V) (k : List V → Rv) : Rv :=
 (conv P h 3 126 t4).bind fun t10 => (Cl 134 (reifyL h [t10]) []).bind fun r => (Cl 133 (normL [t0, (V.int .i64 0), t4, r.1, t1]) h).bind fun r_1 => k r_1.2
theorem f114_eq (t0 t1 : V) (h : List V) : Cl 114 [t0, t1] h =
 f114_r0 t0 fun t4_1 =>
  f114_r1 t0 t1 t4_1 h fun h_2 =>
  if (List.all [] V.okE) = true then finT (List.length h) h_2 (V.tup []) else none :=
 f_eq (by kernel_rfl)
noncomputable def f116_l0 (t0 t1 t7 t8 : V) : Rv := lp W 116 0 (cd 116 37) (bk 0 (sk 116 0 7 (lv 116 0))) ⟨[(0, t0), (1, t1), (7, t7), (8, t8)], []⟩
theorem f116_l0_eq (t0 t1 t7 t8 : V) : f116_l0 t0 t1 t7 t8 =
 (bin .lss t8 t7).bind fun t9_2 => V.ite t9_2
  ((ixS 9 (V.weak t0) t8).bind fun t14_3 => (ldP [] 9 t14_3).bind fun t15_4 => (bin .eql t1 t15_4).bind fun t16_5 => V.ite t16_5
  (finT 0 [] t8)
  ((bin .add t8 (V.int .i64 1)).bind fun t18_6 => f116_l0 t0 t1 t7 t18_6))
  (finT 0 [] (V.int .i64 (-1))) :=
 l_eq (by kernel_rfl)
theorem f116_eq (t0 t1 : V) : Cl 116 [t0, t1] [] =
 (lnL (V.weak t0)).bind fun t7_1 => f116_l0 t0 t1 t7_1 (V.int .i64 0) :=
 f_eq (by kernel_rfl)
noncomputable def f117_r0 (h : List V) (k : V → List V → Rv) : Rv :=
 k (V.ref (List.length h) [] 55) (h ++ [zero P 55])
noncomputable def f117_r1 (t0 : V) (h : List V) (k : V → Rv) : Rv :=
 (Cl 135 (reifyL h [t0, (V.lst 5 .nil [])]) []).bind fun r => k r.1
noncomputable def f117_r2 (t3 : V) (h : List V) (k : V → Rv) : Rv :=
 (lenV P 68 (V.weak t3)).bind fun t12 => (conv P h 3 93 t12).bind fun t13 => (bin .mul t13 (V.int .u64 8)).bind fun t14 => k t14
noncomputable def f117_r3 (t3 : V) (h : List V) (k : V → Rv) : Rv :=
 (bldS P 68 1 [(0, (V.int .u8 128))]).bind fun t16 => (appd P 68 h t3 t16).bind fun t17 => k t17
noncomputable def f117_l0 (t2 t3 t4 : V) (h : List V) : Rv := lp W 117 0 (cd 117 143) (bk 0 (sk 117 0 63 (lv 117 0))) ⟨[(2, t2), (3, t3), (4, t4)], h⟩
noncomputable def f117_r4 (t3 : V) (k : V → Rv) : Rv :=
 (lenV P 68 (V.weak t3)).bind fun t19 => (bin .rem t19 (V.int .i64 64)).bind fun t20 => (bin .neq t20 (V.int .i64 56)).bind fun t21 => k t21
noncomputable def f117_r5 (t3 : V) (h : List V) (k : V → Rv) : Rv :=
 (bldS P 68 1 [(0, (V.int .u8 0))]).bind fun t23 => (appd P 68 h t3 t23).bind fun t24 => k t24
noncomputable def f117_r6 (k : V → Rv) : Rv :=
 k (V.int .i64 0)
noncomputable def f117_l2 (t2 t3 t4 t25 : V) (h : List V) : Rv := lp W 117 2 (cd 117 607) (bk 2 (sk 117 0 127 (lv 117 0))) ⟨[(2, t2), (3, t3), (4, t4), (25, t25)], h⟩
noncomputable def f117_r7 (t25 : V) (k : V → Rv) : Rv :=
 (bin .lss t25 (V.int .i64 8)).bind fun t26 => k t26
noncomputable def f117_r8 (t25 : V) (k : V → Rv) : Rv :=
 k t25
noncomputable def f117_r9 (t3 t4 t5 : V) (h : List V) (k : V → Rv) : Rv :=
 (bin .mul (V.int .i64 8) t5).bind fun t31 => (bin .sub (V.int .i64 56) t31).bind fun t32 => (conv P h 3 126 t32).bind fun t33 => (bin .shr t4 t33).bind fun t34 => (conv P h 93 5 t34).bind fun t35 => (bldS P 68 1 [(0, t35)]).bind fun t36 => (appd P 68 h t3 t36).bind fun t37 => k t37
noncomputable def f117_r10 (t25 : V) (k : V → Rv) : Rv :=
 (bin .add t25 (V.int .i64 1)).bind fun t38 => k t38
noncomputable def f117_r11 (h : List V) (k : V → List V → Rv) : Rv :=
 (ldP h 184 (V.rop 184 glob0)).bind fun t39 => (sto P (h ++ [zero P 184]) 184 (V.ref (List.length h) [] 184) t39).bind fun h_1 => k (V.ref (List.length h) [] 184) h_1
noncomputable def f117_l4 (t2 t3 t6 : V) (h : List V) : Rv := lp W 117 4 (cd 117 1151) (bk 4 (sk 117 0 511 (lv 117 0))) ⟨[(2, t2), (3, t3), (6, t6)], h⟩
noncomputable def f117_r12 (t3 : V) (k : V → Rv) : Rv :=
 (lenV P 68 (V.weak t3)).bind fun t41 => (bin .gtr t41 (V.int .i64 0)).bind fun t42 => k t42
noncomputable def f117_r14 (t3 t6 : V) (h : List V) (k : List V → Rv) : Rv :=
 (ldP h 184 t6).bind fun t45 => (sli P 68 (V.weak t3) none (some (V.int .i64 64)) none).bind fun t47 => (Cl 136 (reifyL h [t45, t47]) []).bind fun r => (sto P h 184 t6 r.1).bind fun h_1 => k h_1
noncomputable def f117_r13 (t3 : V) (k : V → Rv) : Rv :=
 (sli P 68 t3 (some (V.int .i64 64)) none none).bind fun t44 => k t44
noncomputable def f117_r15 (h : List V) (k : V → List V → Rv) : Rv :=
 k (V.ref (List.length h) [] 55) (h ++ [zero P 55])
noncomputable def f117_r16 (k : V → Rv) : Rv :=
 k (V.int .i64 0)
noncomputable def f117_l6 (t2 t6 t7 t49 : V) (h : List V) : Rv := lp W 117 6 (cd 117 9727) (bk 6 (sk 117 0 2047 (lv 117 0))) ⟨[(2, t2), (6, t6), (7, t7), (49, t49)], h⟩
noncomputable def f117_r17 (t49 : V) (k : V → Rv) : Rv :=
 (bin .lss t49 (V.int .i64 32)).bind fun t50 => k t50
noncomputable def f117_r18 (t49 : V) (k : V → Rv) : Rv :=
 k t49
noncomputable def f117_r19 (t6 t7 t8 : V) (h : List V) (k : List V → Rv) : Rv :=
 (bin .quo t8 (V.int .i64 4)).bind fun t54 => (indexA P 184 t6 t54).bind fun t55 => (ldP h 149 t55).bind fun t56 => (bin .rem t8 (V.int .i64 4)).bind fun t58 => (bin .mul (V.int .i64 8) t58).bind fun t59 => (bin .sub (V.int .i64 24) t59).bind fun t60 => (conv P h 3 126 t60).bind fun t61 => (bin .shr t56 t61).bind fun t62 => (conv P h 149 5 t62).bind fun t63 => (indexA P 55 t7 t8).bind fun t64 => (sto P h 5 t64 t63).bind fun h_1 => k h_1
noncomputable def f117_r20 (t49 : V) (k : V → Rv) : Rv :=
 (bin .add t49 (V.int .i64 1)).bind fun t65 => k t65
noncomputable def f117_r21 (t2 t7 : V) (h : List V) (k : List V → Rv) : Rv :=
 (ldP h 55 t7).bind fun t66 => (sto P h 55 t2 t66).bind fun h_1 => k h_1
theorem f117_l6_eq (t2 t6 t7 t49 : V) (h : List V) : f117_l6 t2 t6 t7 t49 h =
 f117_r17 t49 fun t50_21 =>
  V.ite t50_21
  (f117_r18 t49 fun t8_22 =>
  f117_r19 t6 t7 t8_22 h fun h_23 =>
  f117_r20 t49 fun t49_24 =>
  f117_l6 t2 t6 t7 t49_24 h_23)
  (f117_r21 t2 t7 h fun h_25 =>
  (ldP h_25 55 t2).bind fun c_26 => finT 0 h_25 c_26) :=
 l_eq (by kernel_rfl)
theorem f117_l4_eq (t2 t3 t6 : V) (h : List V) : f117_l4 t2 t3 t6 h =
 f117_r12 t3 fun t42_15 =>
  V.ite t42_15
  (f117_r14 t3 t6 h fun h_16 =>
  f117_r13 t3 fun t3_17 =>
  f117_l4 t2 t3_17 t6 h_16)
  (f117_r15 h fun t7_18 h_19 =>
  f117_r16 fun t49_20 =>
  f117_l6 t2 t6 t7_18 t49_20 h_19) :=
 l_eq (by kernel_rfl)
theorem f117_l2_eq (t2 t3 t4 t25 : V) (h : List V) : f117_l2 t2 t3 t4 t25 h =
 f117_r7 t25 fun t26_9 =>
  V.ite t26_9
  (f117_r8 t25 fun t5_10 =>
  f117_r9 t3 t4 t5_10 h fun t3_11 =>
  f117_r10 t25 fun t25_12 =>
  f117_l2 t2 t3_11 t4 t25_12 h)
  (f117_r11 h fun t6_13 h_14 =>
  f117_l4 t2 t3 t6_13 h_14) :=
 l_eq (by kernel_rfl)
theorem f117_l0_eq (t2 t3 t4 : V) (h : List V) : f117_l0 t2 t3 t4 h =
 f117_r4 t3 fun t21_6 =>
  V.ite t21_6
  (f117_r5 t3 h fun t3_7 =>
  f117_l0 t2 t3_7 t4 h)
  (f117_r6 fun t25_8 =>
  f117_l2 t2 t3 t4 t25_8 h) :=
 l_eq (by kernel_rfl)
theorem f117_eq (t0 : V) : Cl 117 [t0] [] =
 f117_r0 [] fun t2_1 h_2 =>
  f117_r1 t0 h_2 fun t3_3 =>
  f117_r2 t3_3 h_2 fun t4_4 =>
  f117_r3 t3_3 h_2 fun t3_5 =>
  f117_l0 t2_1 t3_5 t4_4 h_2 :=
 f_eq (by kernel_rfl)
noncomputable def f118_r0 (h : List V) (k : V → List V → Rv) : Rv :=
 k (V.ref (List.length h) [] 55) (h ++ [zero P 55])
noncomputable def f118_r1 (t0 t2 : V) (h : List V) (k : List V → Rv) : Rv :=
 (bldS P 68 1 [(0, (V.int .u8 0))]).bind fun t3 => (conv P h 9 68 t0).bind fun t5 => (bldS P 182 2 [(0, t3), (1, t5)]).bind fun t6 => (Cl 117 (reifyL h [t6]) []).bind fun r => (sto P h 55 t2 r.1).bind fun h_1 => k h_1
theorem f118_eq (t0 : V) : Cl 118 [t0] [] =
 f118_r0 [] fun t2_1 h_2 =>
  f118_r1 t0 t2_1 h_2 fun h_3 =>
  (ldP h_3 55 t2_1).bind fun c_4 => finT 0 h_3 c_4 :=
 f_eq (by kernel_rfl)
noncomputable def f119_l0 (t0 t3 : V) : Rv := lp W 119 0 (cd 119 71) (bk 0 (sk 119 0 31 (lv 119 0))) ⟨[(0, t0), (3, t3)], []⟩
theorem f119_l0_eq (t0 t3 : V) : f119_l0 t0 t3 =
 (bin .sub t0 t3).bind fun t9_2 => (bin .lss t3 t9_2).bind fun t10_3 => V.ite t10_3
  ((bin .mul t3 (V.int .i64 2)).bind fun t12_4 => f119_l0 t0 t12_4)
  (finT 0 [] t3) :=
 l_eq (by kernel_rfl)
theorem f119_eq (t0 : V) : Cl 119 [t0] [] =
 (bin .lss t0 (V.int .i64 2)).bind fun t5_1 => V.ite t5_1
  (finT 0 [] (V.int .i64 0))
  (f119_l0 t0 (V.int .i64 1)) :=
 f_eq (by kernel_rfl)
theorem f120_eq (t0 t1 : V) : Cl 120 [t0, t1] [] =
 if ((tyG 54) t0 && V.under 0 t0) = true then if ((tyG 54) t1 && V.under 1 t1) = true then (bsL 5 false (ck [(tyI .u8) (V.int .u8 1)] [(V.int .u8 1)])).bind fun t5_1 => (slA 55 54 32 5 (V.ref 0 [] 55) none none none).bind fun t6_2 => (slA 55 54 32 5 (V.ref 1 [] 55) none none none).bind fun t7_3 => (bsL 68 true (ck [(tyL 5) t5_1, (tyL 5) t6_2, (tyL 5) t7_3] [(V.weak t5_1), (V.weak t6_2), (V.weak t7_3)])).bind fun t8_4 => (Cl 117 (reifyL [t0, t1, (V.agg 54 (List.replicate 32 (V.int .u8 0)))] [t8_4]) []).bind fun r_5 => (stT (tyG 54) 55 [t0, t1, (V.agg 54 (List.replicate 32 (V.int .u8 0)))] (V.ref 2 [] 55) r_5.1).bind fun h_6 => (ldP h_6 55 (V.ref 2 [] 55)).bind fun c_7 => finT 0 h_6 c_7 else none else none :=
 f_eq (by kernel_rfl)
theorem f121_eq (t0 : V) : Cl 121 [t0] [] =
 jn (fun t2_1 =>
 finT 0 [] t2_1) (fun (k_2 : V → Rv) => (bin .gtr t0 (V.int .i64 1125899906842624)).bind fun t4_3 => V.ite t4_3 (k_2 (V.bool true)) ((bin .lss t0 (V.int .i64 (-1125899906842624))).bind fun t7_4 => k_2 t7_4)) :=
 f_eq (by kernel_rfl)
noncomputable def f133_r0 (k : V → Rv) : Rv :=
 k (V.bool true)
noncomputable def f133_r1 (k : V → Rv) : Rv :=
 k (V.bool true)
noncomputable def f133_l0 (t0 t1 t2 t3 t4 t10 t11 : V) (n : Nat) (h : List V) : Rv := lp W 133 0 (cd 133 19) (bk 0 (lv 133 n)) ⟨[(0, t0), (1, t1), (2, t2), (3, t3), (4, t4), (10, t10), (11, t11)], h⟩
noncomputable def f133_r2 (t1 t2 : V) (k : V → Rv) : Rv :=
 (bin .sub t2 t1).bind fun t23 => k t23
noncomputable def f133_r3 (t12 : V) (k : V → Rv) : Rv :=
 (bin .leq t12 (V.int .i64 12)).bind fun t25 => k t25
noncomputable def f133_r4 (t0 t1 t2 t4 : V) (h : List V) (k : List V → Rv) : Rv :=
 (Cl 145 (normL [t0, t1, t2, t4]) h).bind fun r => k r.2
noncomputable def f133_r5 (t3 : V) (k : V → Rv) : Rv :=
 (bin .eql t3 (V.int .i64 0)).bind fun t32 => k t32
noncomputable def f133_r6 (t0 t1 t2 t4 : V) (h : List V) (k : List V → Rv) : Rv :=
 (Cl 146 (normL [t0, t1, t2, t4]) h).bind fun r => k r.2
noncomputable def f133_r7 (t10 : V) (k : V → Rv) : Rv :=
 (un .not t10).bind fun t39 => k t39
noncomputable def f133_r10 (t0 t1 t2 t4 : V) (h : List V) (k : V → V → List V → Rv) : Rv :=
 (Cl 148 (normL [(V.weak t0), t1, t2, t4]) h).bind fun r => (ext r.1 0).bind fun t53 => (ext r.1 1).bind fun t54 => k t53 t54 r.2
noncomputable def f133_r11 (t14 : V) (k : V → Rv) : Rv :=
 (bin .eql t14 (V.int .i64 2)).bind fun t56 => k t56
noncomputable def f133_r15 (t10 t11 t14 : V) (k : V → Rv) : Rv :=
 V.ite t10 (V.ite t11 ((bin .eql t14 (V.int .i64 1)).bind fun t74 => k t74) (k (V.bool false))) (k (V.bool false))
noncomputable def f133_r17 (t0 t1 t4 t13 : V) (h : List V) (k : V → List V → Rv) : Rv :=
 (bin .gtr t1 (V.int .i64 0)).bind fun t82 => V.ite t82 ((bin .sub t1 (V.int .i64 1)).bind fun t87 => (indexA P 22 (V.weak t0) t87).bind fun t88 => (ldP h 112 t88).bind fun t89 => (indexA P 22 (V.weak t0) t13).bind fun t92 => (ldP h 112 t92).bind fun t93 => callV P ann W t4 [t89, t93] h fun t94 h_1 => if V.noOwn t94 = true then (bin .lss t94 (V.int .i64 0)).bind fun t95 => (un .not t95).bind fun t96 => k t96 h_1 else none) (k (V.bool false) h)
noncomputable def f133_r18 (t0 t1 t2 t4 t13 : V) (h : List V) (k : V → List V → Rv) : Rv :=
 (Cl 151 (normL [(V.weak t0), t1, t2, t13, t4]) h).bind fun r => k r.1 r.2
noncomputable def f133_r19 (t15 : V) (k : V → Rv) : Rv :=
 k t15
noncomputable def f133_r20 (t0 t1 t2 t4 t13 : V) (h : List V) (k : V → V → List V → Rv) : Rv :=
 (Cl 152 (normL [(V.weak t0), t1, t2, t13, t4]) h).bind fun r => (ext r.1 0).bind fun t112 => (ext r.1 1).bind fun t113 => k t112 t113 r.2
noncomputable def f133_r21 (t17 : V) (k : V → Rv) : Rv :=
 k t17
noncomputable def f133_r22 (t1 t2 t16 : V) (k : V → V → Rv) : Rv :=
 (bin .sub t16 t1).bind fun t117 => (bin .sub t2 t16).bind fun t120 => k t117 t120
noncomputable def f133_r23 (t12 : V) (k : V → Rv) : Rv :=
 (bin .quo t12 (V.int .i64 8)).bind fun t122 => k t122
noncomputable def f133_r24 (t18 t19 : V) (k : V → Rv) : Rv :=
 (bin .lss t18 t19).bind fun t125 => k t125
noncomputable def f133_r25 (t18 t20 : V) (k : V → Rv) : Rv :=
 (bin .geq t18 t20).bind fun t128 => k t128
noncomputable def f133_r26 (t0 t1 t3 t4 t16 : V) (h : List V) (k : List V → Rv) : Rv :=
 (Cl 133 (normL [(V.weak t0), t1, t16, t3, t4]) h).bind fun r => k r.2
noncomputable def f133_r27 (t16 : V) (k : V → Rv) : Rv :=
 (bin .add t16 (V.int .i64 1)).bind fun t136 => k t136
noncomputable def f133_r28 (t19 t20 : V) (k : V → Rv) : Rv :=
 (bin .geq t19 t20).bind fun t139 => k t139
noncomputable def f133_r29 (t0 t2 t3 t4 t16 : V) (h : List V) (k : List V → Rv) : Rv :=
 (bin .add t16 (V.int .i64 1)).bind fun t142 => (Cl 133 (normL [(V.weak t0), t142, t2, t3, t4]) h).bind fun r => k r.2
noncomputable def f133_r30 (t16 : V) (k : V → Rv) : Rv :=
 k t16
noncomputable def f133_r16 (t0 t1 t2 t4 : V) (h : List V) (k : V → List V → Rv) : Rv :=
 (Cl 150 (normL [(V.weak t0), t1, t2, t4]) h).bind fun r => k r.1 r.2
noncomputable def f133_r12 (t0 t1 t2 t4 : V) (h : List V) (k : List V → Rv) : Rv :=
 (Cl 149 (normL [(V.weak t0), t1, t2, t4]) h).bind fun r => k r.2
noncomputable def f133_r13 (t1 t2 t13 : V) (k : V → Rv) : Rv :=
 (bin .sub t2 (V.int .i64 1)).bind fun t63 => (bin .sub t13 t1).bind fun t66 => (bin .sub t63 t66).bind fun t67 => k t67
noncomputable def f133_r14 (k : V → Rv) : Rv :=
 k (V.int .i64 1)
noncomputable def f133_r8 (t0 t1 t2 t4 : V) (h : List V) (k : List V → Rv) : Rv :=
 (Cl 147 (normL [(V.weak t0), t1, t2, t4]) h).bind fun r => k r.2
noncomputable def f133_r9 (t3 : V) (k : V → Rv) : Rv :=
 (bin .sub t3 (V.int .i64 1)).bind fun t46 => k t46
theorem f133_l0_eq (t0 t1 t2 t3 t4 t10 t11 : V) (n : Nat) (h : List V) : f133_l0 t0 t1 t2 t3 t4 t10 t11 n h =
 f133_r2 t1 t2 fun t12_3 =>
  f133_r3 t12_3 fun t25_4 =>
  V.ite t25_4
  (f133_r4 t0 t1 t2 t4 h fun h_5 =>
  if (List.all [] V.okE) = true then finT n h_5 (V.tup []) else none)
  (f133_r5 t3 fun t32_6 =>
  V.ite t32_6
  (f133_r6 t0 t1 t2 t4 h fun h_7 =>
  if (List.all [] V.okE) = true then finT n h_7 (V.tup []) else none)
  (f133_r7 t10 fun t39_8 =>
  jn (fun t3_9 h_10 => f133_r10 t0 t1 t2 t4 h_10 fun t13_11 t14_12 h_13 =>
  f133_r11 t14_12 fun t56_14 =>
  jn (fun t13_15 t14_16 h_17 => f133_r15 t10 t11 t14_16 fun t75_18 =>
  jn (fun h_19 => f133_r17 t0 t1 t4 t13_15 h_19 fun t97_20 h_21 =>
  V.ite t97_20
  (f133_r18 t0 t1 t2 t4 t13_15 h_21 fun t15_22 h_23 =>
  f133_r19 t15_22 fun t1_24 =>
  f133_l0 t0 t1_24 t2 t3_9 t4 t10 t11 n h_23)
  (f133_r20 t0 t1 t2 t4 t13_15 h_21 fun t16_25 t17_26 h_27 =>
  f133_r21 t17_26 fun t11_28 =>
  f133_r22 t1 t2 t16_25 fun t18_29 t19_30 =>
  f133_r23 t12_3 fun t20_31 =>
  f133_r24 t18_29 t19_30 fun t125_32 =>
  V.ite t125_32
  (f133_r25 t18_29 t20_31 fun t10_33 =>
  f133_r26 t0 t1 t3_9 t4 t16_25 h_27 fun h_34 =>
  f133_r27 t16_25 fun t1_35 =>
  f133_l0 t0 t1_35 t2 t3_9 t4 t10_33 t11_28 n h_34)
  (f133_r28 t19_30 t20_31 fun t10_36 =>
  f133_r29 t0 t2 t3_9 t4 t16_25 h_27 fun h_37 =>
  f133_r30 t16_25 fun t2_38 =>
  f133_l0 t0 t1 t2_38 t3_9 t4 t10_36 t11_28 n h_37)))
  (fun (j2 : List V → Rv) => V.ite t75_18
  (f133_r16 t0 t1 t2 t4 h_17 fun t80_39 h_40 =>
  V.ite t80_39
  (if (List.all [] V.okE) = true then finT n h_40 (V.tup []) else none)
  (j2 h_40))
  (j2 h_17)))
  (fun (j1 : V → V → List V → Rv) => V.ite t56_14
  (f133_r12 t0 t1 t2 t4 h_13 fun h_41 =>
  f133_r13 t1 t2 t13_11 fun t13_42 =>
  f133_r14 fun t14_43 =>
  j1 t13_42 t14_43 h_41)
  (j1 t13_11 t14_12 h_13)))
  (fun (j0 : V → List V → Rv) => V.ite t39_8
  (f133_r8 t0 t1 t2 t4 h fun h_44 =>
  f133_r9 t3 fun t3_45 =>
  j0 t3_45 h_44)
  (j0 t3 h)))) :=
 l_eq (y_block <| y_seq <| y_reg (fun K u12 => K ⟨[(0, t0), (1, t1), (2, t2), (3, t3), (4, t4), (10, t10), (11, t11), (12, u12)], h⟩) (funext fun t12_3 => seqK_n <| y_seq <| y_seq <| y_reg (fun K u25 => K ⟨[(0, t0), (1, t1), (2, t2), (3, t3), (4, t4), (10, t10), (11, t11), (12, t12_3), (25, u25)], h⟩) (funext fun t25_4 => seqK_n <| y_cond (by kernel_rfl) (y_skip <| seqK_n <| y_seq <| y_seq <| y_reg (fun K u32 => K ⟨[(0, t0), (1, t1), (2, t2), (3, t3), (4, t4), (10, t10), (11, t11), (12, t12_3), (32, u32)], h⟩) (funext fun t32_6 => seqK_n <| y_cond (by kernel_rfl) (y_skip <| seqK_n <| y_seq <| y_seq <| y_reg (fun K u39 => K ⟨[(0, t0), (1, t1), (2, t2), (3, t3), (4, t4), (10, t10), (11, t11), (12, t12_3), (39, u39)], h⟩) (funext fun t39_8 => seqK_n <| y_jn (fun K t3_9 h_10 => K ⟨[(0, t0), (1, t1), (2, t2), (3, t3_9), (4, t4), (10, t10), (11, t11), (12, t12_3)], h_10⟩) (funext fun t3_9 => funext fun h_10 => seqK_n <| y_seq <| y_reg (fun K u13 u14 h' => K ⟨[(0, t0), (1, t1), (2, t2), (3, t3_9), (4, t4), (10, t10), (11, t11), (12, t12_3), (13, u13), (14, u14)], h'⟩) (funext fun t13_11 => funext fun t14_12 => funext fun h_13 => seqK_n <| y_seq <| y_seq <| y_reg (fun K u56 => K ⟨[(0, t0), (1, t1), (2, t2), (3, t3_9), (4, t4), (10, t10), (11, t11), (12, t12_3), (13, t13_11), (14, t14_12), (56, u56)], h_13⟩) (funext fun t56_14 => seqK_n <| y_jn (fun K t13_15 t14_16 h_17 => K ⟨[(0, t0), (1, t1), (2, t2), (3, t3_9), (4, t4), (10, t10), (11, t11), (12, t12_3), (13, t13_15), (14, t14_16)], h_17⟩) (funext fun t13_15 => funext fun t14_16 => funext fun h_17 => seqK_n <| y_seq <| y_seq <| y_reg (fun K u75 => K ⟨[(0, t0), (1, t1), (2, t2), (3, t3_9), (4, t4), (10, t10), (11, t11), (12, t12_3), (13, t13_15), (75, u75)], h_17⟩) (funext fun t75_18 => seqK_n <| y_jn (fun K h_19 => K ⟨[(0, t0), (1, t1), (2, t2), (3, t3_9), (4, t4), (10, t10), (11, t11), (12, t12_3), (13, t13_15)], h_19⟩) (funext fun h_19 => by kernel_rfl) (y_cond (y_seq <| y_reg (fun K u80 h' => K ⟨[(0, t0), (1, t1), (2, t2), (3, t3_9), (4, t4), (10, t10), (11, t11), (12, t12_3), (13, t13_15), (80, u80)], h'⟩) (funext fun t80_39 => funext fun h_40 => seqK_n <| y_cond (by kernel_rfl) (y_skip <| y_nf))) (y_skip <| y_nf)))) (y_cond (y_seq <| y_reg (fun K h' => K ⟨[(0, t0), (1, t1), (2, t2), (3, t3_9), (4, t4), (10, t10), (11, t11), (12, t12_3), (13, t13_11)], h'⟩) (funext fun h_41 => seqK_n <| y_seq <| y_reg (fun K u13 => K ⟨[(0, t0), (1, t1), (2, t2), (3, t3_9), (4, t4), (10, t10), (11, t11), (12, t12_3), (13, u13)], h_41⟩) (funext fun t13_42 => seqK_n <| y_reg (fun K u14 => K ⟨[(0, t0), (1, t1), (2, t2), (3, t3_9), (4, t4), (10, t10), (11, t11), (12, t12_3), (13, t13_42), (14, u14)], h_41⟩) (funext fun t14_43 => rfl)))) (y_skip <| y_nf))))) (y_cond (y_seq <| y_reg (fun K h' => K ⟨[(0, t0), (1, t1), (2, t2), (3, t3), (4, t4), (10, t10), (11, t11), (12, t12_3)], h'⟩) (funext fun h_44 => seqK_n <| y_reg (fun K u3 => K ⟨[(0, t0), (1, t1), (2, t2), (3, u3), (4, t4), (10, t10), (11, t11), (12, t12_3)], h_44⟩) (funext fun t3_45 => rfl))) (y_skip <| y_nf)))))))))
theorem f133_eq (t0 t1 t2 t3 t4 : V) (h : List V) : Cl 133 [t0, t1, t2, t3, t4] h =
 f133_r0 fun t10_1 =>
  f133_r1 fun t11_2 =>
  f133_l0 t0 t1 t2 t3 t4 t10_1 t11_2 (List.length h) h :=
 f_eq (by kernel_rfl)
noncomputable def f134_r0 (k : Rv) : Rv :=
 k
noncomputable def f134_r1 (t0 : V) (k : V → Rv) : Rv :=
 (conv P [] 126 149 t0).bind fun t4 => (Cl 153 (reifyL [] [t4]) []).bind fun r => k r.1
noncomputable def f134_r2 (t0 : V) (k : V → Rv) : Rv :=
 (Cl 154 (reifyL [] [t0]) []).bind fun r => k r.1
theorem f134_eq (t0 : V) : Cl 134 [t0] [] =
 f134_r0 (V.ite (V.bool false)
  (f134_r1 t0 fun t2_1 =>
  finT 0 [] t2_1)
  (f134_r2 t0 fun t2_2 =>
  finT 0 [] t2_2)) :=
 f_eq (by kernel_rfl)
noncomputable def f135_r0 (k : Rv) : Rv :=
 k
noncomputable def f135_r1 (t0 : V) (k : V → Rv) : Rv :=
 (lenV P 182 (V.weak t0)).bind fun t13 => (bin .eql t13 (V.int .i64 0)).bind fun t14 => k t14
noncomputable def f135_r2 (h : List V) (k : V → List V → Rv) : Rv :=
 (bldS P 68 0 []).bind fun v => (toBox h v).bind fun r => k r.1 r.2
noncomputable def f135_r3 (t0 : V) (k : V → Rv) : Rv :=
 (lenV P 182 (V.weak t0)).bind fun t17 => (bin .eql t17 (V.int .i64 1)).bind fun t18 => k t18
noncomputable def f135_r4 (t0 : V) (h : List V) (k : V → List V → Rv) : Rv :=
 (indexA P 182 t0 (V.int .i64 0)).bind fun t20 => (ldS h 68 t20).bind fun t21 => (appd P 68 h (V.lst 5 .nil []) t21).bind fun v => (toBox h v).bind fun r => k r.1 r.2
noncomputable def f135_r5 (k : V → Rv) : Rv :=
 k (V.int .i64 0)
noncomputable def f135_r6 (t1 : V) (k : V → Rv) : Rv :=
 (lenV P 68 (V.weak t1)).bind fun t24 => (bin .gtr t24 (V.int .i64 0)).bind fun t25 => k t25
noncomputable def f135_r10 (t0 : V) (k : V → V → V → Rv) : Rv :=
 (lenV P 182 (V.weak t0)).bind fun t43 => k (V.weak t0) t43 (V.int .i64 0)
noncomputable def f135_l0 (t0 t1 t5 t42 t43 t44 : V) (h : List V) : Rv := lp W 135 0 (cd 135 607) (bk 0 (sk 135 0 127 (lv 135 0))) ⟨[(0, t0), (1, t1), (5, t5), (42, t42), (43, t43), (44, t44)], h⟩
noncomputable def f135_r11 (t43 t44 : V) (k : V → Rv) : Rv :=
 (bin .lss t44 t43).bind fun t45 => k t45
noncomputable def f135_r12 (t42 t44 : V) (h : List V) (k : V → Rv) : Rv :=
 (indexA P 182 t42 t44).bind fun t46 => (ldS h 68 t46).bind fun t47 => k t47
noncomputable def f135_r13 (t5 t7 : V) (k : V → Rv) : Rv :=
 (lenV P 68 (V.weak t7)).bind fun t49 => (bin .sub (V.int .i64 9223372036854775807) t5).bind fun t51 => (bin .gtr t49 t51).bind fun t52 => k t52
noncomputable def f135_r15 (t5 t7 : V) (k : V → Rv) : Rv :=
 (lenV P 68 t7).bind fun t56 => (bin .add t5 t56).bind fun t57 => k t57
noncomputable def f135_r16 (t44 : V) (k : V → Rv) : Rv :=
 (bin .add t44 (V.int .i64 1)).bind fun t58 => k t58
noncomputable def f135_r17 (t5 : V) (h : List V) (k : V → List V → Rv) : Rv :=
 mnz P 155 [t5] h fun t60 h_1 => (sli P 68 t60 none (some t5) (some t5)).bind fun t63 => k t63 h_1
noncomputable def f135_r18 (t0 t8 : V) (h : List V) (k : V → List V → Rv) : Rv :=
 (indexA P 182 (V.weak t0) (V.int .i64 0)).bind fun t66 => (ldS h 68 t66).bind fun t67 => (cpy P 68 h (V.weak t8) t67).bind fun r => k r.1 r.2
noncomputable def f135_r19 (t0 : V) (k : V → V → V → Rv) : Rv :=
 (sli P 182 t0 (some (V.int .i64 1)) none none).bind fun t70 => (lenV P 182 t70).bind fun t71 => k t70 t71 (V.int .i64 0)
noncomputable def f135_l2 (t1 t8 t9 t70 t71 t72 : V) (h : List V) : Rv := lp W 135 2 (cd 135 4863) (bk 2 (sk 135 0 1023 (lv 135 0))) ⟨[(1, t1), (8, t8), (9, t9), (70, t70), (71, t71), (72, t72)], h⟩
noncomputable def f135_r20 (t71 t72 : V) (k : V → Rv) : Rv :=
 (bin .lss t72 t71).bind fun t73 => k t73
noncomputable def f135_r21 (t70 t72 : V) (h : List V) (k : V → Rv) : Rv :=
 (indexA P 182 t70 t72).bind fun t74 => (ldS h 68 t74).bind fun t75 => k t75
noncomputable def f135_r22 (t1 t8 t9 : V) (h : List V) (k : V → List V → Rv) : Rv :=
 (sli P 68 (V.weak t8) (some t9) none none).bind fun t79 => (cpy P 68 h t79 (V.weak t1)).bind fun r => (bin .add t9 r.1).bind fun t82 => k t82 r.2
noncomputable def f135_r23 (t8 t9 t11 : V) (h : List V) (k : V → List V → Rv) : Rv :=
 (sli P 68 (V.weak t8) (some t9) none none).bind fun t86 => (cpy P 68 h t86 t11).bind fun r => (bin .add t9 r.1).bind fun t89 => k t89 r.2
noncomputable def f135_r24 (t72 : V) (k : V → Rv) : Rv :=
 (bin .add t72 (V.int .i64 1)).bind fun t90 => k t90
noncomputable def f135_r25 (t8 : V) (k : V → Rv) : Rv :=
 k t8
theorem f135_l2_eq (t1 t8 t9 t70 t71 t72 : V) (h : List V) : f135_l2 t1 t8 t9 t70 t71 t72 h =
 f135_r20 t71 t72 fun t73_25 =>
  V.ite t73_25
  (f135_r21 t70 t72 h fun t11_26 =>
  f135_r22 t1 t8 t9 h fun t9_27 h_28 =>
  f135_r23 t8 t9_27 t11_26 h_28 fun t9_29 h_30 =>
  f135_r24 t72 fun t72_31 =>
  f135_l2 t1 t8 t9_29 t70 t71 t72_31 h_30)
  (f135_r25 t8 fun t4_32 =>
  finO 0 h t4_32) :=
 l_eq (by kernel_rfl)
theorem f135_l0_eq (t0 t1 t5 t42 t43 t44 : V) (h : List V) : f135_l0 t0 t1 t5 t42 t43 t44 h =
 f135_r11 t43 t44 fun t45_13 =>
  V.ite t45_13
  (f135_r12 t42 t44 h fun t7_14 =>
  f135_r13 t5 t7_14 fun t52_15 =>
  V.ite t52_15
  (none)
  (f135_r15 t5 t7_14 fun t5_16 =>
  f135_r16 t44 fun t44_17 =>
  f135_l0 t0 t1 t5_16 t42 t43 t44_17 h))
  (f135_r17 t5 h fun t8_18 h_19 =>
  f135_r18 t0 t8_18 h_19 fun t9_20 h_21 =>
  f135_r19 t0 fun t70_22 t71_23 t72_24 =>
  f135_l2 t1 t8_18 t9_20 t70_22 t71_23 t72_24 h_21) :=
 l_eq (by kernel_rfl)
noncomputable def f135_r7 (t0 t1 : V) (k : V → Rv) : Rv :=
 (lenV P 68 (V.weak t1)).bind fun t27 => (lenV P 182 (V.weak t0)).bind fun t29 => (bin .sub t29 (V.int .i64 1)).bind fun t30 => (bin .quo (V.int .i64 9223372036854775807) t30).bind fun t31 => (bin .geq t27 t31).bind fun t32 => k t32
noncomputable def f135_r9 (t0 t1 t5 : V) (k : V → Rv) : Rv :=
 (lenV P 68 (V.weak t1)).bind fun t36 => (lenV P 182 (V.weak t0)).bind fun t38 => (bin .sub t38 (V.int .i64 1)).bind fun t39 => (bin .mul t36 t39).bind fun t40 => (bin .add t5 t40).bind fun t41 => k t41
theorem f135_eq (t0 t1 : V) : Cl 135 [t0, t1] [] =
 f135_r0 (f135_r1 t0 fun t14_1 =>
  V.ite t14_1
  (f135_r2 [] fun t4_2 h_3 =>
  finO 0 h_3 t4_2)
  (f135_r3 t0 fun t18_4 =>
  V.ite t18_4
  (f135_r4 t0 [] fun t4_5 h_6 =>
  finO 0 h_6 t4_5)
  (f135_r5 fun t5_7 =>
  f135_r6 t1 fun t25_8 =>
  jn (fun t5_9 => f135_r10 t0 fun t42_10 t43_11 t44_12 =>
  f135_l0 t0 t1 t5_9 t42_10 t43_11 t44_12 [])
  (fun (j0 : V → Rv) => V.ite t25_8
  (f135_r7 t0 t1 fun t32_33 =>
  V.ite t32_33
  (none)
  (f135_r9 t0 t1 t5_7 fun t5_34 =>
  j0 t5_34))
  (j0 t5_7))))) :=
 f_eq (y_seq <| y_reg (fun K => K ⟨[(0, t0), (1, t1)], []⟩) (seqK_n <| y_seq <| y_seq <| y_reg (fun K u14 => K ⟨[(0, t0), (1, t1), (14, u14)], []⟩) (funext fun t14_1 => seqK_n <| y_cond (by kernel_rfl) (y_skip <| seqK_n <| y_seq <| y_seq <| y_reg (fun K u18 => K ⟨[(0, t0), (1, t1), (18, u18)], []⟩) (funext fun t18_4 => seqK_n <| y_cond (by kernel_rfl) (y_skip <| seqK_n <| y_seq <| y_reg (fun K u5 => K ⟨[(0, t0), (1, t1), (5, u5)], []⟩) (funext fun t5_7 => seqK_n <| y_seq <| y_seq <| y_reg (fun K u25 => K ⟨[(0, t0), (1, t1), (5, t5_7), (25, u25)], []⟩) (funext fun t25_8 => seqK_n <| y_jn (fun K t5_9 => K ⟨[(0, t0), (1, t1), (5, t5_9)], []⟩) (funext fun t5_9 => by kernel_rfl) (y_cond (by kernel_rfl) (by kernel_rfl))))))))))
noncomputable def f136_r0 (t0 : V) (h : List V) (k : V → V → List V → Rv) : Rv :=
 if (tyOk P 184 t0 && V.under (List.length h) t0) = true then k (V.ref (List.length h) [] 184) (V.ref (List.length (h ++ [t0])) [] 184) ((h ++ [t0]) ++ [zero P 184]) else none
noncomputable def f136_r1 (h : List V) (k : V → List V → Rv) : Rv :=
 k (V.ref (List.length h) [] 204) (h ++ [zero P 204])
noncomputable def f136_r2 (k : V → Rv) : Rv :=
 k (V.int .i64 0)
noncomputable def f136_l0 (t1 t2 t4 t5 t23 : V) (h : List V) : Rv := lp W 136 0 (cd 136 75) (bk 0 (sk 136 0 15 (lv 136 0))) ⟨[(1, t1), (2, t2), (4, t4), (5, t5), (23, t23)], h⟩
noncomputable def f136_r3 (t23 : V) (k : V → Rv) : Rv :=
 (bin .lss t23 (V.int .i64 16)).bind fun t24 => k t24
noncomputable def f136_r4 (t23 : V) (k : V → Rv) : Rv :=
 k t23
noncomputable def f136_r5 (t1 t6 : V) (k : V → Rv) : Rv :=
 (bin .mul (V.int .i64 4) t6).bind fun t28 => (bin .mul (V.int .i64 4) t6).bind fun t30 => (bin .add t30 (V.int .i64 4)).bind fun t31 => (sli P 68 (V.weak t1) (some t28) (some t31) none).bind fun t32 => k t32
noncomputable def f136_r6 (t5 t6 t7 : V) (h : List V) (k : List V → Rv) : Rv :=
 (indexA P 68 (V.weak t7) (V.int .i64 0)).bind fun t35 => (ldP h 5 t35).bind fun t36 => (conv P h 5 149 t36).bind fun t37 => (bin .shl t37 (V.int .u64 24)).bind fun t38 => (indexA P 68 (V.weak t7) (V.int .i64 1)).bind fun t40 => (ldP h 5 t40).bind fun t41 => (conv P h 5 149 t41).bind fun t42 => (bin .shl t42 (V.int .u64 16)).bind fun t43 => (bin .or t38 t43).bind fun t44 => (indexA P 68 (V.weak t7) (V.int .i64 2)).bind fun t46 => (ldP h 5 t46).bind fun t47 => (conv P h 5 149 t47).bind fun t48 => (bin .shl t48 (V.int .u64 8)).bind fun t49 => (bin .or t44 t49).bind fun t50 => (indexA P 68 (V.weak t7) (V.int .i64 3)).bind fun t52 => (ldP h 5 t52).bind fun t53 => (conv P h 5 149 t53).bind fun t54 => (bin .or t50 t54).bind fun t55 => (indexA P 204 t5 t6).bind fun t56 => (sto P h 149 t56 t55).bind fun h_1 => k h_1
noncomputable def f136_r7 (t23 : V) (k : V → Rv) : Rv :=
 (bin .add t23 (V.int .i64 1)).bind fun t57 => k t57
noncomputable def f136_r8 (k : V → Rv) : Rv :=
 k (V.int .i64 16)
noncomputable def f136_l2 (t2 t4 t5 t8 : V) (h : List V) : Rv := lp W 136 2 (cd 136 151) (bk 2 (sk 136 0 31 (lv 136 0))) ⟨[(2, t2), (4, t4), (5, t5), (8, t8)], h⟩
noncomputable def f136_r9 (t8 : V) (k : V → Rv) : Rv :=
 (bin .lss t8 (V.int .i64 64)).bind fun t59 => k t59
noncomputable def f136_r11 (t5 t8 : V) (h : List V) (k : V → Rv) : Rv :=
 (bin .sub t8 (V.int .i64 15)).bind fun t63 => (indexA P 204 t5 t63).bind fun t64 => (ldP h 149 t64).bind fun t65 => (Cl 156 (reifyL h [t65, (V.int .i64 7)]) []).bind fun r => (bin .sub t8 (V.int .i64 15)).bind fun t68 => (indexA P 204 t5 t68).bind fun t69 => (ldP h 149 t69).bind fun t70 => (Cl 156 (reifyL h [t70, (V.int .i64 18)]) []).bind fun r_1 => (bin .xor r.1 r_1.1).bind fun t72 => (bin .sub t8 (V.int .i64 15)).bind fun t74 => (indexA P 204 t5 t74).bind fun t75 => (ldP h 149 t75).bind fun t76 => (bin .shr t76 (V.int .u64 3)).bind fun t77 => (bin .xor t72 t77).bind fun t78 => k t78
noncomputable def f136_r12 (t5 t8 : V) (h : List V) (k : V → Rv) : Rv :=
 (bin .sub t8 (V.int .i64 2)).bind fun t80 => (indexA P 204 t5 t80).bind fun t81 => (ldP h 149 t81).bind fun t82 => (Cl 156 (reifyL h [t82, (V.int .i64 17)]) []).bind fun r => (bin .sub t8 (V.int .i64 2)).bind fun t85 => (indexA P 204 t5 t85).bind fun t86 => (ldP h 149 t86).bind fun t87 => (Cl 156 (reifyL h [t87, (V.int .i64 19)]) []).bind fun r_1 => (bin .xor r.1 r_1.1).bind fun t89 => (bin .sub t8 (V.int .i64 2)).bind fun t91 => (indexA P 204 t5 t91).bind fun t92 => (ldP h 149 t92).bind fun t93 => (bin .shr t93 (V.int .u64 10)).bind fun t94 => (bin .xor t89 t94).bind fun t95 => k t95
noncomputable def f136_r13 (t5 t8 t9 t10 : V) (h : List V) (k : List V → Rv) : Rv :=
 (bin .sub t8 (V.int .i64 16)).bind fun t98 => (indexA P 204 t5 t98).bind fun t99 => (ldP h 149 t99).bind fun t100 => (bin .sub t8 (V.int .i64 7)).bind fun t102 => (indexA P 204 t5 t102).bind fun t103 => (ldP h 149 t103).bind fun t104 => (bin .add t100 t104).bind fun t105 => (bin .add t105 t9).bind fun t107 => (bin .add t107 t10).bind fun t109 => (indexA P 204 t5 t8).bind fun t110 => (sto P h 149 t110 t109).bind fun h_1 => k h_1
noncomputable def f136_r10 (t8 : V) (k : V → Rv) : Rv :=
 (bin .add t8 (V.int .i64 1)).bind fun t61 => k t61
noncomputable def f136_r14 (t2 : V) (h : List V) (k : V → List V → Rv) : Rv :=
 (ldP h 184 t2).bind fun t111 => (sto P (h ++ [zero P 184]) 184 (V.ref (List.length h) [] 184) t111).bind fun h_1 => k (V.ref (List.length h) [] 184) h_1
noncomputable def f136_r15 (k : V → Rv) : Rv :=
 k (V.int .i64 0)
noncomputable def f136_l4 (t2 t4 t5 t11 t112 : V) (h : List V) : Rv := lp W 136 4 (cd 136 607) (bk 4 (sk 136 0 127 (lv 136 0))) ⟨[(2, t2), (4, t4), (5, t5), (11, t11), (112, t112)], h⟩
noncomputable def f136_r16 (t112 : V) (k : V → Rv) : Rv :=
 (bin .lss t112 (V.int .i64 64)).bind fun t113 => k t113
noncomputable def f136_r17 (t112 : V) (k : V → Rv) : Rv :=
 k t112
noncomputable def f136_r18 (t11 : V) (h : List V) (k : V → V → V → V → V → V → Rv) : Rv :=
 (indexA P 184 t11 (V.int .i64 0)).bind fun t115 => (ldP h 149 t115).bind fun t116 => (indexA P 184 t11 (V.int .i64 1)).bind fun t117 => (ldP h 149 t117).bind fun t118 => (indexA P 184 t11 (V.int .i64 2)).bind fun t119 => (ldP h 149 t119).bind fun t120 => (indexA P 184 t11 (V.int .i64 4)).bind fun t121 => (ldP h 149 t121).bind fun t122 => (indexA P 184 t11 (V.int .i64 5)).bind fun t123 => (ldP h 149 t123).bind fun t124 => (indexA P 184 t11 (V.int .i64 6)).bind fun t125 => (ldP h 149 t125).bind fun t126 => k t116 t118 t120 t122 t124 t126
noncomputable def f136_r19 (t5 t11 t12 t16 t17 t18 : V) (h : List V) (k : V → Rv) : Rv :=
 (indexA P 184 t11 (V.int .i64 7)).bind fun t127 => (ldP h 149 t127).bind fun t128 => (Cl 156 (reifyL h [t16, (V.int .i64 6)]) []).bind fun r => (Cl 156 (reifyL h [t16, (V.int .i64 11)]) []).bind fun r_1 => (bin .xor r.1 r_1.1).bind fun t133 => (Cl 156 (reifyL h [t16, (V.int .i64 25)]) []).bind fun r_2 => (bin .xor t133 r_2.1).bind fun t136 => (bin .add t128 t136).bind fun t137 => (bin .xor t17 t18).bind fun t142 => (bin .and t16 t142).bind fun t143 => (bin .xor t18 t143).bind fun t144 => (bin .add t137 t144).bind fun t145 => (indexA P 204 (V.rop 204 glob1) t12).bind fun t147 => (ldP h 149 t147).bind fun t148 => (bin .add t145 t148).bind fun t149 => (indexA P 204 t5 t12).bind fun t151 => (ldP h 149 t151).bind fun t152 => (bin .add t149 t152).bind fun t153 => k t153
noncomputable def f136_r20 (t13 t14 t15 : V) (h : List V) (k : V → Rv) : Rv :=
 (Cl 156 (reifyL h [t13, (V.int .i64 2)]) []).bind fun r => (Cl 156 (reifyL h [t13, (V.int .i64 13)]) []).bind fun r_1 => (bin .xor r.1 r_1.1).bind fun t158 => (Cl 156 (reifyL h [t13, (V.int .i64 22)]) []).bind fun r_2 => (bin .xor t158 r_2.1).bind fun t161 => (bin .and t13 t14).bind fun t164 => (bin .or t13 t14).bind fun t168 => (bin .and t15 t168).bind fun t169 => (bin .or t164 t169).bind fun t170 => (bin .add t161 t170).bind fun t171 => k t171
noncomputable def f136_r21 (t11 t13 t14 t15 t16 t17 t18 t19 t20 : V) (h : List V) (k : List V → Rv) : Rv :=
 (bin .add t19 t20).bind fun t174 => (indexA P 184 t11 (V.int .i64 3)).bind fun t178 => (ldP h 149 t178).bind fun t179 => (bin .add t179 t19).bind fun t181 => (bld P 184 [(0, t174), (1, t13), (2, t14), (3, t15), (4, t181), (5, t16), (6, t17), (7, t18)]).bind fun t185 => (sto P h 184 t11 t185).bind fun h_1 => k h_1
noncomputable def f136_r22 (t112 : V) (k : V → Rv) : Rv :=
 (bin .add t112 (V.int .i64 1)).bind fun t186 => k t186
noncomputable def f136_r23 (t11 : V) (h : List V) (k : V → V → Rv) : Rv :=
 (ldP h 184 t11).bind fun t187 => k t187 (V.int .i64 0)
noncomputable def f136_l6 (t2 t4 t187 t188 : V) (h : List V) : Rv := lp W 136 6 (cd 136 1215) (bk 6 (sk 136 0 255 (lv 136 0))) ⟨[(2, t2), (4, t4), (187, t187), (188, t188)], h⟩
noncomputable def f136_r24 (t188 : V) (k : V → Rv) : Rv :=
 (bin .lss t188 (V.int .i64 8)).bind fun t189 => k t189
noncomputable def f136_r25 (t187 t188 : V) (k : V → V → Rv) : Rv :=
 (indexV P 184 t187 t188).bind fun t191 => k t188 t191
noncomputable def f136_r26 (t2 t21 t22 : V) (h : List V) (k : List V → Rv) : Rv :=
 (indexA P 184 t2 t21).bind fun t193 => (ldP h 149 t193).bind fun t194 => (bin .add t194 t22).bind fun t196 => (indexA P 184 t2 t21).bind fun t197 => (sto P h 149 t197 t196).bind fun h_1 => k h_1
noncomputable def f136_r27 (t188 : V) (k : V → Rv) : Rv :=
 (bin .add t188 (V.int .i64 1)).bind fun t198 => k t198
noncomputable def f136_r28 (t2 t4 : V) (h : List V) (k : List V → Rv) : Rv :=
 (ldP h 184 t2).bind fun t199 => (sto P h 184 t4 t199).bind fun h_1 => k h_1
theorem f136_l6_eq (t2 t4 t187 t188 : V) (h : List V) : f136_l6 t2 t4 t187 t188 h =
 f136_r24 t188 fun t189_35 =>
  V.ite t189_35
  (f136_r25 t187 t188 fun t21_36 t22_37 =>
  f136_r26 t2 t21_36 t22_37 h fun h_38 =>
  f136_r27 t188 fun t188_39 =>
  f136_l6 t2 t4 t187 t188_39 h_38)
  (f136_r28 t2 t4 h fun h_40 =>
  (ldP h_40 184 t4).bind fun c_41 => finT 0 h_40 c_41) :=
 l_eq (by kernel_rfl)
theorem f136_l4_eq (t2 t4 t5 t11 t112 : V) (h : List V) : f136_l4 t2 t4 t5 t11 t112 h =
 f136_r16 t112 fun t113_21 =>
  V.ite t113_21
  (f136_r17 t112 fun t12_22 =>
  f136_r18 t11 h fun t13_23 t14_24 t15_25 t16_26 t17_27 t18_28 =>
  f136_r19 t5 t11 t12_22 t16_26 t17_27 t18_28 h fun t19_29 =>
  f136_r20 t13_23 t14_24 t15_25 h fun t20_30 =>
  f136_r21 t11 t13_23 t14_24 t15_25 t16_26 t17_27 t18_28 t19_29 t20_30 h fun h_31 =>
  f136_r22 t112 fun t112_32 =>
  f136_l4 t2 t4 t5 t11 t112_32 h_31)
  (f136_r23 t11 h fun t187_33 t188_34 =>
  f136_l6 t2 t4 t187_33 t188_34 h) :=
 l_eq (by kernel_rfl)
theorem f136_l2_eq (t2 t4 t5 t8 : V) (h : List V) : f136_l2 t2 t4 t5 t8 h =
 f136_r9 t8 fun t59_13 =>
  V.ite t59_13
  (f136_r11 t5 t8 h fun t9_14 =>
  f136_r12 t5 t8 h fun t10_15 =>
  f136_r13 t5 t8 t9_14 t10_15 h fun h_16 =>
  f136_r10 t8 fun t8_17 =>
  f136_l2 t2 t4 t5 t8_17 h_16)
  (f136_r14 t2 h fun t11_18 h_19 =>
  f136_r15 fun t112_20 =>
  f136_l4 t2 t4 t5 t11_18 t112_20 h_19) :=
 l_eq (by kernel_rfl)
theorem f136_l0_eq (t1 t2 t4 t5 t23 : V) (h : List V) : f136_l0 t1 t2 t4 t5 t23 h =
 f136_r3 t23 fun t24_7 =>
  V.ite t24_7
  (f136_r4 t23 fun t6_8 =>
  f136_r5 t1 t6_8 fun t7_9 =>
  f136_r6 t5 t6_8 t7_9 h fun h_10 =>
  f136_r7 t23 fun t23_11 =>
  f136_l0 t1 t2 t4 t5 t23_11 h_10)
  (f136_r8 fun t8_12 =>
  f136_l2 t2 t4 t5 t8_12 h) :=
 l_eq (by kernel_rfl)
theorem f136_eq (t0 t1 : V) : Cl 136 [t0, t1] [] =
 f136_r0 t0 [] fun t2_1 t4_2 h_3 =>
  f136_r1 h_3 fun t5_4 h_5 =>
  f136_r2 fun t23_6 =>
  f136_l0 t1 t2_1 t4_2 t5_4 t23_6 h_5 :=
 f_eq (by kernel_rfl)
noncomputable def f145_r0 (t1 : V) (k : V → Rv) : Rv :=
 (bin .add t1 (V.int .i64 1)).bind fun t11 => k t11
noncomputable def f145_l0 (t0 t1 t2 t3 t8 : V) (n : Nat) (h : List V) : Rv := lp W 145 0 (cd 145 9) (bk 0 (lv 145 n)) ⟨[(0, t0), (1, t1), (2, t2), (3, t3), (8, t8)], h⟩
noncomputable def f145_r1 (t2 t8 : V) (k : V → Rv) : Rv :=
 (bin .lss t8 t2).bind fun t14 => k t14
noncomputable def f145_r3 (t8 : V) (k : V → Rv) : Rv :=
 k t8
noncomputable def f145_l2 (t0 t1 t2 t3 t8 t9 : V) (n : Nat) (m0 : Nat) (h : List V) : Rv := lp W 145 2 (cd 145 585) (bk 2 (bk 1 (sk 145 0 57 (lk 145 0 m0 9 (bk 0 (lv 145 n)))))) ⟨[(0, t0), (1, t1), (2, t2), (3, t3), (8, t8), (9, t9)], h⟩
noncomputable def f145_r4 (t0 t1 t3 t9 : V) (h : List V) (k : V → List V → Rv) : Rv :=
 (bin .gtr t9 t1).bind fun t20 => V.ite t20 ((indexA P 22 (V.weak t0) t9).bind fun t25 => (ldP h 112 t25).bind fun t26 => (bin .sub t9 (V.int .i64 1)).bind fun t29 => (indexA P 22 (V.weak t0) t29).bind fun t30 => (ldP h 112 t30).bind fun t31 => callV P ann W t3 [t26, t31] h fun t32 h_1 => if V.noOwn t32 = true then (bin .lss t32 (V.int .i64 0)).bind fun t33 => k t33 h_1 else none) (k (V.bool false) h)
noncomputable def f145_r6 (t0 t9 : V) (h : List V) (k : List V → Rv) : Rv :=
 (bin .sub t9 (V.int .i64 1)).bind fun t41 => (bin .sub t9 (V.int .i64 1)).bind fun t44 => (indexA P 22 (V.weak t0) t44).bind fun t45 => (ldP h 112 t45).bind fun t46 => (indexA P 22 (V.weak t0) t9).bind fun t49 => (ldP h 112 t49).bind fun t50 => (indexA P 22 (V.weak t0) t9).bind fun t51 => (sto P h 112 t51 t46).bind fun h_1 => (indexA P 22 (V.weak t0) t41).bind fun t52 => (sto P h_1 112 t52 t50).bind fun h_2 => k h_2
noncomputable def f145_r5 (t9 : V) (k : V → Rv) : Rv :=
 (bin .sub t9 (V.int .i64 1)).bind fun t36 => k t36
noncomputable def f145_r2 (t8 : V) (k : V → Rv) : Rv :=
 (bin .add t8 (V.int .i64 1)).bind fun t16 => k t16
theorem f145_l2_eq (t0 t1 t2 t3 t8 t9 : V) (n : Nat) (m0 : Nat) (h : List V) : f145_l2 t0 t1 t2 t3 t8 t9 n m0 h =
 f145_r4 t0 t1 t3 t9 h fun t34_4 h_5 =>
  V.ite t34_4
  (f145_r6 t0 t9 h_5 fun h_6 =>
  f145_r5 t9 fun t9_7 =>
  f145_l2 t0 t1 t2 t3 t8 t9_7 n m0 h_6)
  (f145_r2 t8 fun t8_8 =>
  f145_l0 t0 t1 t2 t3 t8_8 n h_5) :=
 l_eq (by kernel_rfl)
theorem f145_l0_eq (t0 t1 t2 t3 t8 : V) (n : Nat) (h : List V) : f145_l0 t0 t1 t2 t3 t8 n h =
 f145_r1 t2 t8 fun t14_2 =>
  V.ite t14_2
  (f145_r3 t8 fun t9_3 =>
  f145_l2 t0 t1 t2 t3 t8 t9_3 n (List.length h) h)
  (if (List.all [] V.okE) = true then finT n h (V.tup []) else none) :=
 l_eq (by kernel_rfl)
theorem f145_eq (t0 t1 t2 t3 : V) (h : List V) : Cl 145 [t0, t1, t2, t3] h =
 f145_r0 t1 fun t8_1 =>
  f145_l0 t0 t1 t2 t3 t8_1 (List.length h) h :=
 f_eq (by kernel_rfl)
noncomputable def f146_r0 (t1 : V) (k : V → Rv) : Rv :=
 k t1
noncomputable def f146_r1 (k : V → Rv) : Rv :=
 k (V.int .i64 0)
noncomputable def f146_r2 (t1 t2 : V) (k : V → Rv) : Rv :=
 (bin .sub t2 t1).bind fun t16 => k t16
noncomputable def f146_r3 (t10 : V) (k : V → Rv) : Rv :=
 (bin .sub t10 (V.int .i64 1)).bind fun t18 => (bin .quo t18 (V.int .i64 2)).bind fun t19 => k t19
noncomputable def f146_l0 (t0 t3 t8 t9 t10 t11 : V) (n : Nat) (h : List V) : Rv := lp W 146 0 (cd 146 151) (bk 0 (sk 146 0 31 (lv 146 n))) ⟨[(0, t0), (3, t3), (8, t8), (9, t9), (10, t10), (11, t11)], h⟩
noncomputable def f146_r4 (t11 : V) (k : V → Rv) : Rv :=
 (bin .geq t11 (V.int .i64 0)).bind fun t21 => k t21
noncomputable def f146_r6 (t0 t3 t8 t10 t11 : V) (h : List V) (k : List V → Rv) : Rv :=
 (Cl 167 (normL [(V.weak t0), t11, t10, t8, t3]) h).bind fun r => k r.2
noncomputable def f146_r5 (t11 : V) (k : V → Rv) : Rv :=
 (bin .sub t11 (V.int .i64 1)).bind fun t23 => k t23
noncomputable def f146_r7 (t10 : V) (k : V → Rv) : Rv :=
 (bin .sub t10 (V.int .i64 1)).bind fun t31 => k t31
noncomputable def f146_l2 (t0 t3 t8 t9 t12 : V) (n : Nat) (h : List V) : Rv := lp W 146 2 (cd 146 159) (bk 2 (lv 146 n)) ⟨[(0, t0), (3, t3), (8, t8), (9, t9), (12, t12)], h⟩
noncomputable def f146_r8 (t12 : V) (k : V → Rv) : Rv :=
 (bin .geq t12 (V.int .i64 0)).bind fun t33 => k t33
noncomputable def f146_r10 (t0 t8 t12 : V) (h : List V) (k : List V → Rv) : Rv :=
 (bin .add t8 t12).bind fun t41 => (bin .add t8 t12).bind fun t45 => (indexA P 22 (V.weak t0) t45).bind fun t46 => (ldP h 112 t46).bind fun t47 => (indexA P 22 (V.weak t0) t8).bind fun t50 => (ldP h 112 t50).bind fun t51 => (indexA P 22 (V.weak t0) t8).bind fun t52 => (sto P h 112 t52 t47).bind fun h_1 => (indexA P 22 (V.weak t0) t41).bind fun t53 => (sto P h_1 112 t53 t51).bind fun h_2 => k h_2
noncomputable def f146_r11 (t0 t3 t8 t9 t12 : V) (h : List V) (k : List V → Rv) : Rv :=
 (Cl 167 (normL [(V.weak t0), t9, t12, t8, t3]) h).bind fun r => k r.2
noncomputable def f146_r9 (t12 : V) (k : V → Rv) : Rv :=
 (bin .sub t12 (V.int .i64 1)).bind fun t35 => k t35
theorem f146_l2_eq (t0 t3 t8 t9 t12 : V) (n : Nat) (h : List V) : f146_l2 t0 t3 t8 t9 t12 n h =
 f146_r8 t12 fun t33_9 =>
  V.ite t33_9
  (f146_r10 t0 t8 t12 h fun h_10 =>
  f146_r11 t0 t3 t8 t9 t12 h_10 fun h_11 =>
  f146_r9 t12 fun t12_12 =>
  f146_l2 t0 t3 t8 t9 t12_12 n h_11)
  (if (List.all [] V.okE) = true then finT n h (V.tup []) else none) :=
 l_eq (by kernel_rfl)
theorem f146_l0_eq (t0 t3 t8 t9 t10 t11 : V) (n : Nat) (h : List V) : f146_l0 t0 t3 t8 t9 t10 t11 n h =
 f146_r4 t11 fun t21_5 =>
  V.ite t21_5
  (f146_r6 t0 t3 t8 t10 t11 h fun h_6 =>
  f146_r5 t11 fun t11_7 =>
  f146_l0 t0 t3 t8 t9 t10 t11_7 n h_6)
  (f146_r7 t10 fun t12_8 =>
  f146_l2 t0 t3 t8 t9 t12_8 n h) :=
 l_eq (by kernel_rfl)
theorem f146_eq (t0 t1 t2 t3 : V) (h : List V) : Cl 146 [t0, t1, t2, t3] h =
 f146_r0 t1 fun t8_1 =>
  f146_r1 fun t9_2 =>
  f146_r2 t1 t2 fun t10_3 =>
  f146_r3 t10_3 fun t11_4 =>
  f146_l0 t0 t3 t8_1 t9_2 t10_3 t11_4 (List.length h) h :=
 f_eq (by kernel_rfl)
noncomputable def f147_r0 (t1 t2 : V) (k : V → Rv) : Rv :=
 (bin .sub t2 t1).bind fun t15 => k t15
noncomputable def f147_r1 (t8 : V) (k : V → Rv) : Rv :=
 (bin .geq t8 (V.int .i64 8)).bind fun t17 => k t17
noncomputable def f147_r2 (t8 : V) (h : List V) (k : V → List V → Rv) : Rv :=
 (conv P h 3 211 t8).bind fun t19 => (sto P (h ++ [zero P 211]) 211 (V.ref (List.length h) [] 211) t19).bind fun h_1 => k (V.ref (List.length h) [] 211) h_1
noncomputable def f147_r3 (t8 : V) (h : List V) (k : V → Rv) : Rv :=
 (Cl 168 (reifyL h [t8]) []).bind fun r => k r.1
noncomputable def f147_r4 (t1 t8 : V) (k : V → Rv) : Rv :=
 (bin .quo t8 (V.int .i64 4)).bind fun t24 => (bin .mul t24 (V.int .i64 2)).bind fun t25 => (bin .add t1 t25).bind fun t26 => (bin .sub t26 (V.int .i64 1)).bind fun t27 => k t27
noncomputable def f147_l0 (t0 t1 t8 t9 t10 t11 : V) (n : Nat) (h : List V) : Rv := lp W 147 0 (cd 147 315) (bk 0 (lv 147 n)) ⟨[(0, t0), (1, t1), (8, t8), (9, t9), (10, t10), (11, t11)], h⟩
noncomputable def f147_r5 (t1 t8 t11 : V) (k : V → Rv) : Rv :=
 (bin .quo t8 (V.int .i64 4)).bind fun t31 => (bin .mul t31 (V.int .i64 2)).bind fun t32 => (bin .add t1 t32).bind fun t33 => (bin .add t33 (V.int .i64 1)).bind fun t34 => (bin .leq t11 t34).bind fun t35 => k t35
noncomputable def f147_r7 (t9 t10 : V) (h : List V) (k : V → List V → Rv) : Rv :=
 (Cl 169 (normL [t9]) h).bind fun r => (bin .sub t10 (V.int .u64 1)).bind fun t40 => (bin .and r.1 t40).bind fun t41 => (conv P r.2 126 3 t41).bind fun t42 => k t42 r.2
noncomputable def f147_r8 (t8 t12 : V) (k : V → Rv) : Rv :=
 (bin .geq t12 t8).bind fun t45 => k t45
noncomputable def f147_r10 (t0 t1 t11 t12 : V) (h : List V) (k : List V → Rv) : Rv :=
 (bin .add t1 t12).bind fun t54 => (bin .add t1 t12).bind fun t58 => (indexA P 22 (V.weak t0) t58).bind fun t59 => (ldP h 112 t59).bind fun t60 => (indexA P 22 (V.weak t0) t11).bind fun t63 => (ldP h 112 t63).bind fun t64 => (indexA P 22 (V.weak t0) t11).bind fun t65 => (sto P h 112 t65 t60).bind fun h_1 => (indexA P 22 (V.weak t0) t54).bind fun t66 => (sto P h_1 112 t66 t64).bind fun h_2 => k h_2
noncomputable def f147_r6 (t11 : V) (k : V → Rv) : Rv :=
 (bin .add t11 (V.int .i64 1)).bind fun t37 => k t37
noncomputable def f147_r9 (t8 t12 : V) (k : V → Rv) : Rv :=
 (bin .sub t12 t8).bind fun t48 => k t48
theorem f147_l0_eq (t0 t1 t8 t9 t10 t11 : V) (n : Nat) (h : List V) : f147_l0 t0 t1 t8 t9 t10 t11 n h =
 f147_r5 t1 t8 t11 fun t35_7 =>
  V.ite t35_7
  (f147_r7 t9 t10 h fun t12_8 h_9 =>
  f147_r8 t8 t12_8 fun t45_10 =>
  jn (fun t12_11 => f147_r10 t0 t1 t11 t12_11 h_9 fun h_12 =>
  f147_r6 t11 fun t11_13 =>
  f147_l0 t0 t1 t8 t9 t10 t11_13 n h_12)
  (fun (j0 : V → Rv) => V.ite t45_10
  (f147_r9 t8 t12_8 fun t12_14 =>
  j0 t12_14)
  (j0 t12_8)))
  (if (List.all [] V.okE) = true then finT n h (V.tup []) else none) :=
 l_eq (y_seq <| y_seq <| y_reg (fun K u35 => K ⟨[(0, t0), (1, t1), (8, t8), (9, t9), (10, t10), (11, t11), (35, u35)], h⟩) (funext fun t35_7 => seqK_n <| y_cond (y_skip <| seqK_n <| y_seq <| y_block <| y_seq <| y_reg (fun K u12 h' => K ⟨[(0, t0), (1, t1), (8, t8), (9, t9), (10, t10), (11, t11), (12, u12)], h'⟩) (funext fun t12_8 => funext fun h_9 => seqK_n <| y_seq <| y_seq <| y_reg (fun K u45 => K ⟨[(0, t0), (1, t1), (8, t8), (9, t9), (10, t10), (11, t11), (12, t12_8), (45, u45)], h_9⟩) (funext fun t45_10 => seqK_n <| y_jn (fun K t12_11 => K ⟨[(0, t0), (1, t1), (8, t8), (9, t9), (10, t10), (11, t11), (12, t12_11)], h_9⟩) (funext fun t12_11 => by kernel_rfl) (y_cond (by kernel_rfl) (by kernel_rfl))))) (by kernel_rfl)))
theorem f147_eq (t0 t1 t2 t3 : V) (h : List V) : Cl 147 [t0, t1, t2, t3] h =
 f147_r0 t1 t2 fun t8_1 =>
  f147_r1 t8_1 fun t17_2 =>
  V.ite t17_2
  (f147_r2 t8_1 h fun t9_3 h_4 =>
  f147_r3 t8_1 h_4 fun t10_5 =>
  f147_r4 t1 t8_1 fun t11_6 =>
  f147_l0 t0 t1 t8_1 t9_3 t10_5 t11_6 (List.length h) h_4)
  (if (List.all [] V.okE) = true then finT (List.length h) h (V.tup []) else none) :=
 f_eq (by kernel_rfl)
noncomputable def f148_r0 (k : Rv) : Rv :=
 k
noncomputable def f148_r1 (t1 t2 : V) (k : V → Rv) : Rv :=
 (bin .sub t2 t1).bind fun t17 => k t17
noncomputable def f148_r2 (h : List V) (k : V → List V → Rv) : Rv :=
 k (V.ref (List.length h) [] 3) (h ++ [zero P 3])
noncomputable def f148_r3 (t1 t10 : V) (k : V → Rv) : Rv :=
 (bin .quo t10 (V.int .i64 4)).bind fun t20 => (bin .mul t20 (V.int .i64 1)).bind fun t21 => (bin .add t1 t21).bind fun t22 => k t22
noncomputable def f148_r4 (t1 t10 : V) (k : V → Rv) : Rv :=
 (bin .quo t10 (V.int .i64 4)).bind fun t25 => (bin .mul t25 (V.int .i64 2)).bind fun t26 => (bin .add t1 t26).bind fun t27 => k t27
noncomputable def f148_r5 (t1 t10 : V) (k : V → Rv) : Rv :=
 (bin .quo t10 (V.int .i64 4)).bind fun t30 => (bin .mul t30 (V.int .i64 3)).bind fun t31 => (bin .add t1 t31).bind fun t32 => k t32
noncomputable def f148_r6 (t10 : V) (k : V → Rv) : Rv :=
 (bin .geq t10 (V.int .i64 8)).bind fun t34 => k t34
noncomputable def f148_r12 (t11 : V) (h : List V) (k : V → Rv) : Rv :=
 (ldP h 3 t11).bind fun t55 => k t55
noncomputable def f148_r14 (t55 : V) (k : V → Rv) : Rv :=
 (bin .eql t55 (V.int .i64 0)).bind fun t58 => k t58
noncomputable def f148_r15 (t13 : V) (k : V → V → Rv) : Rv :=
 k t13 (V.int .i64 1)
noncomputable def f148_r16 (t55 : V) (k : V → Rv) : Rv :=
 (bin .eql t55 (V.int .i64 12)).bind fun t61 => k t61
noncomputable def f148_r17 (t13 : V) (k : V → V → Rv) : Rv :=
 k t13 (V.int .i64 2)
noncomputable def f148_r13 (t13 : V) (k : V → V → Rv) : Rv :=
 k t13 (V.int .i64 0)
noncomputable def f148_r7 (t10 : V) (k : V → Rv) : Rv :=
 (bin .geq t10 (V.int .i64 50)).bind fun t36 => k t36
noncomputable def f148_r11 (t0 t3 t11 t12 t13 t14 : V) (h : List V) (k : V → List V → Rv) : Rv :=
 (Cl 171 (normL [t0, t12, t13, t14, t11, t3]) h).bind fun r => k r.1 r.2
noncomputable def f148_r8 (t0 t3 t11 t12 : V) (h : List V) (k : V → List V → Rv) : Rv :=
 (Cl 170 (normL [(V.weak t0), t12, t11, t3]) h).bind fun r => k r.1 r.2
noncomputable def f148_r9 (t0 t3 t11 t13 : V) (h : List V) (k : V → List V → Rv) : Rv :=
 (Cl 170 (normL [(V.weak t0), t13, t11, t3]) h).bind fun r => k r.1 r.2
noncomputable def f148_r10 (t0 t3 t11 t14 : V) (h : List V) (k : V → List V → Rv) : Rv :=
 (Cl 170 (normL [(V.weak t0), t14, t11, t3]) h).bind fun r => k r.1 r.2
theorem f148_eq (t0 t1 t2 t3 : V) (h : List V) : Cl 148 [t0, t1, t2, t3] h =
 f148_r0 (f148_r1 t1 t2 fun t10_1 =>
  f148_r2 h fun t11_2 h_3 =>
  f148_r3 t1 t10_1 fun t12_4 =>
  f148_r4 t1 t10_1 fun t13_5 =>
  f148_r5 t1 t10_1 fun t14_6 =>
  f148_r6 t10_1 fun t34_7 =>
  jn (fun t13_8 h_9 => f148_r12 t11_2 h_9 fun t55_10 =>
  f148_r14 t55_10 fun t57_11 =>
  V.ite t57_11
  (f148_r15 t13_8 fun t8_12 t9_13 =>
  if (List.all [t9_13, t8_12] V.okE) = true then finT (List.length h) h_9 (V.tup [t8_12, t9_13]) else none)
  (f148_r16 t55_10 fun t60_14 =>
  V.ite t60_14
  (f148_r17 t13_8 fun t8_15 t9_16 =>
  if (List.all [t9_16, t8_15] V.okE) = true then finT (List.length h) h_9 (V.tup [t8_15, t9_16]) else none)
  (f148_r13 t13_8 fun t8_17 t9_18 =>
  if (List.all [t9_18, t8_17] V.okE) = true then finT (List.length h) h_9 (V.tup [t8_17, t9_18]) else none)))
  (fun (j0 : V → List V → Rv) => V.ite t34_7
  (f148_r7 t10_1 fun t36_19 =>
  jn (fun t12_20 t13_21 t14_22 h_23 => f148_r11 t0 t3 t11_2 t12_20 t13_21 t14_22 h_23 fun t13_24 h_25 =>
  j0 t13_24 h_25)
  (fun (j1 : V → V → V → List V → Rv) => V.ite t36_19
  (f148_r8 t0 t3 t11_2 t12_4 h_3 fun t12_26 h_27 =>
  f148_r9 t0 t3 t11_2 t13_5 h_27 fun t13_28 h_29 =>
  f148_r10 t0 t3 t11_2 t14_6 h_29 fun t14_30 h_31 =>
  j1 t12_26 t13_28 t14_30 h_31)
  (j1 t12_4 t13_5 t14_6 h_3)))
  (j0 t13_5 h_3))) :=
 f_eq (y_seq <| y_reg (fun K => K ⟨[(0, t0), (1, t1), (2, t2), (3, t3)], h⟩) (seqK_n <| y_seq <| y_reg (fun K u10 => K ⟨[(0, t0), (1, t1), (3, t3), (10, u10)], h⟩) (funext fun t10_1 => seqK_n <| y_seq <| y_reg (fun K u11 h' => K ⟨[(0, t0), (1, t1), (3, t3), (10, t10_1), (11, u11)], h'⟩) (funext fun t11_2 => funext fun h_3 => seqK_n <| y_seq <| y_reg (fun K u12 => K ⟨[(0, t0), (1, t1), (3, t3), (10, t10_1), (11, t11_2), (12, u12)], h_3⟩) (funext fun t12_4 => seqK_n <| y_seq <| y_reg (fun K u13 => K ⟨[(0, t0), (1, t1), (3, t3), (10, t10_1), (11, t11_2), (12, t12_4), (13, u13)], h_3⟩) (funext fun t13_5 => seqK_n <| y_seq <| y_reg (fun K u14 => K ⟨[(0, t0), (3, t3), (10, t10_1), (11, t11_2), (12, t12_4), (13, t13_5), (14, u14)], h_3⟩) (funext fun t14_6 => seqK_n <| y_seq <| y_seq <| y_reg (fun K u34 => K ⟨[(0, t0), (3, t3), (10, t10_1), (11, t11_2), (12, t12_4), (13, t13_5), (14, t14_6), (34, u34)], h_3⟩) (funext fun t34_7 => seqK_n <| y_jn (fun K t13_8 h_9 => K ⟨[(11, t11_2), (13, t13_8)], h_9⟩) (funext fun t13_8 => funext fun h_9 => by kernel_rfl) (y_cond (y_seq <| y_seq <| y_reg (fun K u36 => K ⟨[(0, t0), (3, t3), (11, t11_2), (12, t12_4), (13, t13_5), (14, t14_6), (36, u36)], h_3⟩) (funext fun t36_19 => seqK_n <| y_jn (fun K t12_20 t13_21 t14_22 h_23 => K ⟨[(0, t0), (3, t3), (11, t11_2), (12, t12_20), (13, t13_21), (14, t14_22)], h_23⟩) (funext fun t12_20 => funext fun t13_21 => funext fun t14_22 => funext fun h_23 => seqK_n <| y_reg (fun K u13 h' => K ⟨[(11, t11_2), (13, u13)], h'⟩) (funext fun t13_24 => funext fun h_25 => rfl)) (y_cond (y_seq <| y_reg (fun K u12 h' => K ⟨[(0, t0), (3, t3), (11, t11_2), (12, u12), (13, t13_5), (14, t14_6)], h'⟩) (funext fun t12_26 => funext fun h_27 => seqK_n <| y_seq <| y_reg (fun K u13 h' => K ⟨[(0, t0), (3, t3), (11, t11_2), (12, t12_26), (13, u13), (14, t14_6)], h'⟩) (funext fun t13_28 => funext fun h_29 => seqK_n <| y_reg (fun K u14 h' => K ⟨[(0, t0), (3, t3), (11, t11_2), (12, t12_26), (13, t13_28), (14, u14)], h'⟩) (funext fun t14_30 => funext fun h_31 => rfl)))) (y_skip <| y_nf)))) (y_skip <| y_nf))))))))))
noncomputable def f149_r0 (t1 : V) (k : V → Rv) : Rv :=
 k t1
noncomputable def f149_r1 (t2 : V) (k : V → Rv) : Rv :=
 (bin .sub t2 (V.int .i64 1)).bind fun t12 => k t12
noncomputable def f149_l0 (t0 t8 t9 : V) (n : Nat) (h : List V) : Rv := lp W 149 0 (cd 149 19) (bk 0 (lv 149 n)) ⟨[(0, t0), (8, t8), (9, t9)], h⟩
noncomputable def f149_r2 (t8 t9 : V) (k : V → Rv) : Rv :=
 (bin .lss t8 t9).bind fun t15 => k t15
noncomputable def f149_r3 (t0 t8 t9 : V) (h : List V) (k : List V → Rv) : Rv :=
 (indexA P 22 (V.weak t0) t9).bind fun t22 => (ldP h 112 t22).bind fun t23 => (indexA P 22 (V.weak t0) t8).bind fun t26 => (ldP h 112 t26).bind fun t27 => (indexA P 22 (V.weak t0) t8).bind fun t28 => (sto P h 112 t28 t23).bind fun h_1 => (indexA P 22 (V.weak t0) t9).bind fun t29 => (sto P h_1 112 t29 t27).bind fun h_2 => k h_2
noncomputable def f149_r4 (t8 : V) (k : V → Rv) : Rv :=
 (bin .add t8 (V.int .i64 1)).bind fun t31 => k t31
noncomputable def f149_r5 (t9 : V) (k : V → Rv) : Rv :=
 (bin .sub t9 (V.int .i64 1)).bind fun t33 => k t33
theorem f149_l0_eq (t0 t8 t9 : V) (n : Nat) (h : List V) : f149_l0 t0 t8 t9 n h =
 f149_r2 t8 t9 fun t15_3 =>
  V.ite t15_3
  (f149_r3 t0 t8 t9 h fun h_4 =>
  f149_r4 t8 fun t8_5 =>
  f149_r5 t9 fun t9_6 =>
  f149_l0 t0 t8_5 t9_6 n h_4)
  (if (List.all [] V.okE) = true then finT n h (V.tup []) else none) :=
 l_eq (by kernel_rfl)
theorem f149_eq (t0 t1 t2 t3 : V) (h : List V) : Cl 149 [t0, t1, t2, t3] h =
 f149_r0 t1 fun t8_1 =>
  f149_r1 t2 fun t9_2 =>
  f149_l0 t0 t8_1 t9_2 (List.length h) h :=
 f_eq (by kernel_rfl)
noncomputable def f150_r0 (k : Rv) : Rv :=
 k
noncomputable def f150_r1 (t1 : V) (k : V → Rv) : Rv :=
 (bin .add t1 (V.int .i64 1)).bind fun t14 => k t14
noncomputable def f150_r2 (k : V → Rv) : Rv :=
 k (V.int .i64 0)
noncomputable def f150_l0 (t0 t1 t2 t3 t9 t10 : V) (n : Nat) (h : List V) : Rv := lp W 150 0 (cd 150 75) (bk 0 (sk 150 0 15 (lv 150 n))) ⟨[(0, t0), (1, t1), (2, t2), (3, t3), (9, t9), (10, t10)], h⟩
noncomputable def f150_r3 (t10 : V) (k : V → Rv) : Rv :=
 (bin .lss t10 (V.int .i64 5)).bind fun t16 => k t16
noncomputable def f150_l2 (t0 t1 t2 t3 t9 t10 : V) (n : Nat) (m0 : Nat) (h : List V) : Rv := lp W 150 2 (cd 150 4171) (bk 2 (sk 150 1 1611 (bk 1 (sk 150 0 459 (lk 150 0 m0 75 (bk 0 (sk 150 0 15 (lv 150 n)))))))) ⟨[(0, t0), (1, t1), (2, t2), (3, t3), (9, t9), (10, t10)], h⟩
noncomputable def f150_r5 (t0 t2 t3 t9 : V) (h : List V) (k : V → List V → Rv) : Rv :=
 (bin .lss t9 t2).bind fun t21 => V.ite t21 ((indexA P 22 (V.weak t0) t9).bind fun t26 => (ldP h 112 t26).bind fun t27 => (bin .sub t9 (V.int .i64 1)).bind fun t30 => (indexA P 22 (V.weak t0) t30).bind fun t31 => (ldP h 112 t31).bind fun t32 => callV P ann W t3 [t27, t32] h fun t33 h_1 => if V.noOwn t33 = true then (bin .lss t33 (V.int .i64 0)).bind fun t34 => (un .not t34).bind fun t35 => k t35 h_1 else none) (k (V.bool false) h)
noncomputable def f150_r6 (t9 : V) (k : V → Rv) : Rv :=
 (bin .add t9 (V.int .i64 1)).bind fun t38 => k t38
noncomputable def f150_r7 (t2 t9 : V) (k : V → Rv) : Rv :=
 (bin .eql t9 t2).bind fun t41 => k t41
noncomputable def f150_r8 (k : V → Rv) : Rv :=
 k (V.bool true)
noncomputable def f150_r9 (t1 t2 : V) (k : V → Rv) : Rv :=
 (bin .sub t2 t1).bind fun t44 => (bin .lss t44 (V.int .i64 50)).bind fun t45 => k t45
noncomputable def f150_r10 (k : V → Rv) : Rv :=
 k (V.bool false)
noncomputable def f150_r11 (t0 t9 : V) (h : List V) (k : List V → Rv) : Rv :=
 (bin .sub t9 (V.int .i64 1)).bind fun t50 => (bin .sub t9 (V.int .i64 1)).bind fun t53 => (indexA P 22 (V.weak t0) t53).bind fun t54 => (ldP h 112 t54).bind fun t55 => (indexA P 22 (V.weak t0) t9).bind fun t58 => (ldP h 112 t58).bind fun t59 => (indexA P 22 (V.weak t0) t9).bind fun t60 => (sto P h 112 t60 t55).bind fun h_1 => (indexA P 22 (V.weak t0) t50).bind fun t61 => (sto P h_1 112 t61 t59).bind fun h_2 => k h_2
noncomputable def f150_r12 (t1 t9 : V) (k : V → Rv) : Rv :=
 (bin .sub t9 t1).bind fun t64 => (bin .geq t64 (V.int .i64 2)).bind fun t65 => k t65
noncomputable def f150_r18 (t2 t9 : V) (k : V → Rv) : Rv :=
 (bin .sub t2 t9).bind fun t103 => (bin .geq t103 (V.int .i64 2)).bind fun t104 => k t104
noncomputable def f150_r19 (t9 : V) (k : V → Rv) : Rv :=
 (bin .add t9 (V.int .i64 1)).bind fun t106 => k t106
noncomputable def f150_l6 (t0 t1 t2 t3 t9 t10 t12 : V) (n : Nat) (m0 : Nat) (h : List V) : Rv := lp W 150 6 (cd 150 622155) (bk 6 (bk 1 (sk 150 0 459 (lk 150 0 m0 75 (bk 0 (sk 150 0 15 (lv 150 n))))))) ⟨[(0, t0), (1, t1), (2, t2), (3, t3), (9, t9), (10, t10), (12, t12)], h⟩
noncomputable def f150_r20 (t2 t12 : V) (k : V → Rv) : Rv :=
 (bin .lss t12 t2).bind fun t109 => k t109
noncomputable def f150_r22 (t0 t3 t12 : V) (h : List V) (k : V → List V → Rv) : Rv :=
 (indexA P 22 (V.weak t0) t12).bind fun t115 => (ldP h 112 t115).bind fun t116 => (bin .sub t12 (V.int .i64 1)).bind fun t119 => (indexA P 22 (V.weak t0) t119).bind fun t120 => (ldP h 112 t120).bind fun t121 => callV P ann W t3 [t116, t121] h fun t122 h_1 => if V.noOwn t122 = true then (bin .lss t122 (V.int .i64 0)).bind fun t123 => (un .not t123).bind fun t124 => k t124 h_1 else none
noncomputable def f150_r4 (t10 : V) (k : V → Rv) : Rv :=
 (bin .add t10 (V.int .i64 1)).bind fun t18 => k t18
noncomputable def f150_r23 (t0 t12 : V) (h : List V) (k : List V → Rv) : Rv :=
 (bin .sub t12 (V.int .i64 1)).bind fun t129 => (bin .sub t12 (V.int .i64 1)).bind fun t132 => (indexA P 22 (V.weak t0) t132).bind fun t133 => (ldP h 112 t133).bind fun t134 => (indexA P 22 (V.weak t0) t12).bind fun t137 => (ldP h 112 t137).bind fun t138 => (indexA P 22 (V.weak t0) t12).bind fun t139 => (sto P h 112 t139 t134).bind fun h_1 => (indexA P 22 (V.weak t0) t129).bind fun t140 => (sto P h_1 112 t140 t138).bind fun h_2 => k h_2
noncomputable def f150_r21 (t12 : V) (k : V → Rv) : Rv :=
 (bin .add t12 (V.int .i64 1)).bind fun t111 => k t111
theorem f150_l6_eq (t0 t1 t2 t3 t9 t10 t12 : V) (n : Nat) (m0 : Nat) (h : List V) : f150_l6 t0 t1 t2 t3 t9 t10 t12 n m0 h =
 f150_r20 t2 t12 fun t109_16 =>
  V.ite t109_16
  (f150_r22 t0 t3 t12 h fun t124_17 h_18 =>
  V.ite t124_17
  (f150_r4 t10 fun t10_19 =>
  f150_l0 t0 t1 t2 t3 t9 t10_19 n h_18)
  (f150_r23 t0 t12 h_18 fun h_20 =>
  f150_r21 t12 fun t12_21 =>
  f150_l6 t0 t1 t2 t3 t9 t10 t12_21 n m0 h_20))
  (f150_r4 t10 fun t10_22 =>
  f150_l0 t0 t1 t2 t3 t9 t10_22 n h) :=
 l_eq (by kernel_rfl)
noncomputable def f150_r13 (t9 : V) (k : V → Rv) : Rv :=
 (bin .sub t9 (V.int .i64 1)).bind fun t67 => k t67
noncomputable def f150_l4 (t0 t1 t2 t3 t9 t10 t11 : V) (n : Nat) (m0 : Nat) (h : List V) : Rv := lp W 150 4 (cd 150 613963) (bk 4 (sk 150 1 32331 (bk 1 (sk 150 0 459 (lk 150 0 m0 75 (bk 0 (sk 150 0 15 (lv 150 n)))))))) ⟨[(0, t0), (1, t1), (2, t2), (3, t3), (9, t9), (10, t10), (11, t11)], h⟩
noncomputable def f150_r14 (t11 : V) (k : V → Rv) : Rv :=
 (bin .geq t11 (V.int .i64 1)).bind fun t69 => k t69
noncomputable def f150_r16 (t0 t3 t11 : V) (h : List V) (k : V → List V → Rv) : Rv :=
 (indexA P 22 (V.weak t0) t11).bind fun t75 => (ldP h 112 t75).bind fun t76 => (bin .sub t11 (V.int .i64 1)).bind fun t79 => (indexA P 22 (V.weak t0) t79).bind fun t80 => (ldP h 112 t80).bind fun t81 => callV P ann W t3 [t76, t81] h fun t82 h_1 => if V.noOwn t82 = true then (bin .lss t82 (V.int .i64 0)).bind fun t83 => (un .not t83).bind fun t84 => k t84 h_1 else none
noncomputable def f150_r17 (t0 t11 : V) (h : List V) (k : List V → Rv) : Rv :=
 (bin .sub t11 (V.int .i64 1)).bind fun t89 => (bin .sub t11 (V.int .i64 1)).bind fun t92 => (indexA P 22 (V.weak t0) t92).bind fun t93 => (ldP h 112 t93).bind fun t94 => (indexA P 22 (V.weak t0) t11).bind fun t97 => (ldP h 112 t97).bind fun t98 => (indexA P 22 (V.weak t0) t11).bind fun t99 => (sto P h 112 t99 t94).bind fun h_1 => (indexA P 22 (V.weak t0) t89).bind fun t100 => (sto P h_1 112 t100 t98).bind fun h_2 => k h_2
noncomputable def f150_r15 (t11 : V) (k : V → Rv) : Rv :=
 (bin .sub t11 (V.int .i64 1)).bind fun t71 => k t71
theorem f150_l4_eq (t0 t1 t2 t3 t9 t10 t11 : V) (n : Nat) (m0 : Nat) (h : List V) : f150_l4 t0 t1 t2 t3 t9 t10 t11 n m0 h =
 f150_r14 t11 fun t69_25 =>
  V.ite t69_25
  (f150_r16 t0 t3 t11 h fun t84_26 h_27 =>
  V.ite t84_26
  (f150_r18 t2 t9 fun t104_28 =>
  V.ite t104_28
  (f150_r19 t9 fun t12_29 =>
  f150_l6 t0 t1 t2 t3 t9 t10 t12_29 n m0 h_27)
  (f150_r4 t10 fun t10_30 =>
  f150_l0 t0 t1 t2 t3 t9 t10_30 n h_27))
  (f150_r17 t0 t11 h_27 fun h_31 =>
  f150_r15 t11 fun t11_32 =>
  f150_l4 t0 t1 t2 t3 t9 t10 t11_32 n m0 h_31))
  (f150_r18 t2 t9 fun t104_33 =>
  V.ite t104_33
  (f150_r19 t9 fun t12_34 =>
  f150_l6 t0 t1 t2 t3 t9 t10 t12_34 n m0 h)
  (f150_r4 t10 fun t10_35 =>
  f150_l0 t0 t1 t2 t3 t9 t10_35 n h)) :=
 l_eq (by kernel_rfl)
theorem f150_l2_eq (t0 t1 t2 t3 t9 t10 : V) (n : Nat) (m0 : Nat) (h : List V) : f150_l2 t0 t1 t2 t3 t9 t10 n m0 h =
 f150_r5 t0 t2 t3 t9 h fun t36_4 h_5 =>
  V.ite t36_4
  (f150_r6 t9 fun t9_6 =>
  f150_l2 t0 t1 t2 t3 t9_6 t10 n m0 h_5)
  (f150_r7 t2 t9 fun t41_7 =>
  V.ite t41_7
  (f150_r8 fun t8_8 =>
  finT n h_5 t8_8)
  (f150_r9 t1 t2 fun t45_9 =>
  V.ite t45_9
  (f150_r10 fun t8_10 =>
  finT n h_5 t8_10)
  (f150_r11 t0 t9 h_5 fun h_11 =>
  f150_r12 t1 t9 fun t65_12 =>
  jn (fun h_13 => f150_r18 t2 t9 fun t104_14 =>
  V.ite t104_14
  (f150_r19 t9 fun t12_15 =>
  f150_l6 t0 t1 t2 t3 t9 t10 t12_15 n m0 h_13)
  (f150_r4 t10 fun t10_23 =>
  f150_l0 t0 t1 t2 t3 t9 t10_23 n h_13))
  (fun (j0 : List V → Rv) => V.ite t65_12
  (f150_r13 t9 fun t11_24 =>
  f150_l4 t0 t1 t2 t3 t9 t10 t11_24 n m0 h_11)
  (j0 h_11))))) :=
 l_eq (y_seq <| y_seq <| y_reg (fun K u36 h' => K ⟨[(0, t0), (1, t1), (2, t2), (3, t3), (9, t9), (10, t10), (36, u36)], h'⟩) (funext fun t36_4 => funext fun h_5 => seqK_n <| y_cond (by kernel_rfl) (y_exit <| seqK_x <| loopK_x <| blockK_h <| seqK_n <| y_seq <| y_seq <| y_reg (fun K u41 => K ⟨[(0, t0), (1, t1), (2, t2), (3, t3), (9, t9), (10, t10), (41, u41)], h_5⟩) (funext fun t41_7 => seqK_n <| y_cond (by kernel_rfl) (y_skip <| seqK_n <| y_seq <| y_seq <| y_reg (fun K u45 => K ⟨[(0, t0), (1, t1), (2, t2), (3, t3), (9, t9), (10, t10), (45, u45)], h_5⟩) (funext fun t45_9 => seqK_n <| y_cond (by kernel_rfl) (y_skip <| seqK_n <| y_seq <| y_reg (fun K h' => K ⟨[(0, t0), (1, t1), (2, t2), (3, t3), (9, t9), (10, t10)], h'⟩) (funext fun h_11 => seqK_n <| y_seq <| y_seq <| y_reg (fun K u65 => K ⟨[(0, t0), (1, t1), (2, t2), (3, t3), (9, t9), (10, t10), (65, u65)], h_11⟩) (funext fun t65_12 => seqK_n <| y_jn (fun K h_13 => K ⟨[(0, t0), (1, t1), (2, t2), (3, t3), (9, t9), (10, t10)], h_13⟩) (funext fun h_13 => by kernel_rfl) (y_cond (by kernel_rfl) (by kernel_rfl)))))))))))
noncomputable def f150_r24 (k : V → Rv) : Rv :=
 k (V.bool false)
theorem f150_l0_eq (t0 t1 t2 t3 t9 t10 : V) (n : Nat) (h : List V) : f150_l0 t0 t1 t2 t3 t9 t10 n h =
 f150_r3 t10 fun t16_3 =>
  V.ite t16_3
  (f150_l2 t0 t1 t2 t3 t9 t10 n (List.length h) h)
  (f150_r24 fun t8_36 =>
  finT n h t8_36) :=
 l_eq (by kernel_rfl)
theorem f150_eq (t0 t1 t2 t3 : V) (h : List V) : Cl 150 [t0, t1, t2, t3] h =
 f150_r0 (f150_r1 t1 fun t9_1 =>
  f150_r2 fun t10_2 =>
  f150_l0 t0 t1 t2 t3 t9_1 t10_2 (List.length h) h) :=
 f_eq (by kernel_rfl)
noncomputable def f151_r0 (k : Rv) : Rv :=
 k
noncomputable def f151_r1 (t0 t1 t3 : V) (h : List V) (k : List V → Rv) : Rv :=
 (indexA P 22 (V.weak t0) t3).bind fun t19 => (ldP h 112 t19).bind fun t20 => (indexA P 22 (V.weak t0) t1).bind fun t23 => (ldP h 112 t23).bind fun t24 => (indexA P 22 (V.weak t0) t1).bind fun t25 => (sto P h 112 t25 t20).bind fun h_1 => (indexA P 22 (V.weak t0) t3).bind fun t26 => (sto P h_1 112 t26 t24).bind fun h_2 => k h_2
noncomputable def f151_r2 (t1 t2 : V) (k : V → V → Rv) : Rv :=
 (bin .add t1 (V.int .i64 1)).bind fun t28 => (bin .sub t2 (V.int .i64 1)).bind fun t30 => k t28 t30
noncomputable def f151_l0 (t0 t1 t4 t11 t12 : V) (n : Nat) (h : List V) : Rv := lp W 151 0 (cd 151 71) (bk 0 (sk 151 0 31 (lv 151 n))) ⟨[(0, t0), (1, t1), (4, t4), (11, t11), (12, t12)], h⟩
noncomputable def f151_l2 (t0 t1 t4 t11 t12 : V) (n : Nat) (m0 : Nat) (h : List V) : Rv := lp W 151 2 (cd 151 1031) (bk 2 (sk 151 1 391 (bk 1 (lk 151 0 m0 71 (bk 0 (sk 151 0 31 (lv 151 n))))))) ⟨[(0, t0), (1, t1), (4, t4), (11, t11), (12, t12)], h⟩
noncomputable def f151_r3 (t0 t1 t4 t11 t12 : V) (h : List V) (k : V → List V → Rv) : Rv :=
 (bin .leq t11 t12).bind fun t33 => V.ite t33 ((indexA P 22 (V.weak t0) t1).bind fun t38 => (ldP h 112 t38).bind fun t39 => (indexA P 22 (V.weak t0) t11).bind fun t42 => (ldP h 112 t42).bind fun t43 => callV P ann W t4 [t39, t43] h fun t44 h_1 => if V.noOwn t44 = true then (bin .lss t44 (V.int .i64 0)).bind fun t45 => (un .not t45).bind fun t46 => k t46 h_1 else none) (k (V.bool false) h)
noncomputable def f151_r4 (t11 : V) (k : V → Rv) : Rv :=
 (bin .add t11 (V.int .i64 1)).bind fun t49 => k t49
noncomputable def f151_l4 (t0 t1 t4 t11 t12 : V) (n : Nat) (m0 : Nat) (h : List V) : Rv := lp W 151 4 (cd 151 2183) (bk 4 (sk 151 1 903 (bk 1 (lk 151 0 m0 71 (bk 0 (sk 151 0 31 (lv 151 n))))))) ⟨[(0, t0), (1, t1), (4, t4), (11, t11), (12, t12)], h⟩
noncomputable def f151_r5 (t0 t1 t4 t11 t12 : V) (h : List V) (k : V → List V → Rv) : Rv :=
 (bin .leq t11 t12).bind fun t52 => V.ite t52 ((indexA P 22 (V.weak t0) t1).bind fun t57 => (ldP h 112 t57).bind fun t58 => (indexA P 22 (V.weak t0) t12).bind fun t61 => (ldP h 112 t61).bind fun t62 => callV P ann W t4 [t58, t62] h fun t63 h_1 => if V.noOwn t63 = true then (bin .lss t63 (V.int .i64 0)).bind fun t64 => k t64 h_1 else none) (k (V.bool false) h)
noncomputable def f151_r6 (t12 : V) (k : V → Rv) : Rv :=
 (bin .sub t12 (V.int .i64 1)).bind fun t67 => k t67
noncomputable def f151_r7 (t11 t12 : V) (k : V → Rv) : Rv :=
 (bin .gtr t11 t12).bind fun t70 => k t70
noncomputable def f151_r11 (t11 : V) (k : V → Rv) : Rv :=
 k t11
noncomputable def f151_r8 (t0 t11 t12 : V) (h : List V) (k : List V → Rv) : Rv :=
 (indexA P 22 (V.weak t0) t12).bind fun t77 => (ldP h 112 t77).bind fun t78 => (indexA P 22 (V.weak t0) t11).bind fun t81 => (ldP h 112 t81).bind fun t82 => (indexA P 22 (V.weak t0) t11).bind fun t83 => (sto P h 112 t83 t78).bind fun h_1 => (indexA P 22 (V.weak t0) t12).bind fun t84 => (sto P h_1 112 t84 t82).bind fun h_2 => k h_2
noncomputable def f151_r9 (t11 : V) (k : V → Rv) : Rv :=
 (bin .add t11 (V.int .i64 1)).bind fun t86 => k t86
noncomputable def f151_r10 (t12 : V) (k : V → Rv) : Rv :=
 (bin .sub t12 (V.int .i64 1)).bind fun t88 => k t88
theorem f151_l4_eq (t0 t1 t4 t11 t12 : V) (n : Nat) (m0 : Nat) (h : List V) : f151_l4 t0 t1 t4 t11 t12 n m0 h =
 f151_r5 t0 t1 t4 t11 t12 h fun t65_7 h_8 =>
  V.ite t65_7
  (f151_r6 t12 fun t12_9 =>
  f151_l4 t0 t1 t4 t11 t12_9 n m0 h_8)
  (f151_r7 t11 t12 fun t70_10 =>
  V.ite t70_10
  (f151_r11 t11 fun t10_11 =>
  finT n h_8 t10_11)
  (f151_r8 t0 t11 t12 h_8 fun h_12 =>
  f151_r9 t11 fun t11_13 =>
  f151_r10 t12 fun t12_14 =>
  f151_l0 t0 t1 t4 t11_13 t12_14 n h_12)) :=
 l_eq (by kernel_rfl)
theorem f151_l2_eq (t0 t1 t4 t11 t12 : V) (n : Nat) (m0 : Nat) (h : List V) : f151_l2 t0 t1 t4 t11 t12 n m0 h =
 f151_r3 t0 t1 t4 t11 t12 h fun t47_4 h_5 =>
  V.ite t47_4
  (f151_r4 t11 fun t11_6 =>
  f151_l2 t0 t1 t4 t11_6 t12 n m0 h_5)
  (f151_l4 t0 t1 t4 t11 t12 n m0 h_5) :=
 l_eq (by kernel_rfl)
theorem f151_l0_eq (t0 t1 t4 t11 t12 : V) (n : Nat) (h : List V) : f151_l0 t0 t1 t4 t11 t12 n h =
 f151_l2 t0 t1 t4 t11 t12 n (List.length h) h :=
 l_eq (by kernel_rfl)
theorem f151_eq (t0 t1 t2 t3 t4 : V) (h : List V) : Cl 151 [t0, t1, t2, t3, t4] h =
 f151_r0 (f151_r1 t0 t1 t3 h fun h_1 =>
  f151_r2 t1 t2 fun t11_2 t12_3 =>
  f151_l0 t0 t1 t4 t11_2 t12_3 (List.length h) h_1) :=
 f_eq (by kernel_rfl)
noncomputable def f152_r0 (k : Rv) : Rv :=
 k
noncomputable def f152_r1 (t0 t1 t3 : V) (h : List V) (k : List V → Rv) : Rv :=
 (indexA P 22 (V.weak t0) t3).bind fun t20 => (ldP h 112 t20).bind fun t21 => (indexA P 22 (V.weak t0) t1).bind fun t24 => (ldP h 112 t24).bind fun t25 => (indexA P 22 (V.weak t0) t1).bind fun t26 => (sto P h 112 t26 t21).bind fun h_1 => (indexA P 22 (V.weak t0) t3).bind fun t27 => (sto P h_1 112 t27 t25).bind fun h_2 => k h_2
noncomputable def f152_r2 (t1 t2 : V) (k : V → V → Rv) : Rv :=
 (bin .add t1 (V.int .i64 1)).bind fun t29 => (bin .sub t2 (V.int .i64 1)).bind fun t31 => k t29 t31
noncomputable def f152_l0 (t0 t1 t4 t12 t13 : V) (n : Nat) (h : List V) : Rv := lp W 152 0 (cd 152 71) (bk 0 (sk 152 0 31 (lv 152 n))) ⟨[(0, t0), (1, t1), (4, t4), (12, t12), (13, t13)], h⟩
noncomputable def f152_r3 (t0 t1 t4 t12 t13 : V) (h : List V) (k : V → List V → Rv) : Rv :=
 (bin .leq t12 t13).bind fun t34 => V.ite t34 ((indexA P 22 (V.weak t0) t12).bind fun t39 => (ldP h 112 t39).bind fun t40 => (indexA P 22 (V.weak t0) t1).bind fun t43 => (ldP h 112 t43).bind fun t44 => callV P ann W t4 [t40, t44] h fun t45 h_1 => if V.noOwn t45 = true then (bin .lss t45 (V.int .i64 0)).bind fun t46 => k t46 h_1 else none) (k (V.bool false) h)
noncomputable def f152_r4 (t12 : V) (k : V → Rv) : Rv :=
 (bin .add t12 (V.int .i64 1)).bind fun t49 => k t49
noncomputable def f152_l2 (t0 t1 t4 t12 t13 : V) (n : Nat) (h : List V) : Rv := lp W 152 2 (cd 152 143) (bk 2 (sk 152 0 63 (lv 152 n))) ⟨[(0, t0), (1, t1), (4, t4), (12, t12), (13, t13)], h⟩
noncomputable def f152_r5 (t0 t1 t4 t12 t13 : V) (h : List V) (k : V → List V → Rv) : Rv :=
 (bin .leq t12 t13).bind fun t52 => V.ite t52 ((indexA P 22 (V.weak t0) t13).bind fun t57 => (ldP h 112 t57).bind fun t58 => (indexA P 22 (V.weak t0) t1).bind fun t61 => (ldP h 112 t61).bind fun t62 => callV P ann W t4 [t58, t62] h fun t63 h_1 => if V.noOwn t63 = true then (bin .lss t63 (V.int .i64 0)).bind fun t64 => (un .not t64).bind fun t65 => k t65 h_1 else none) (k (V.bool false) h)
noncomputable def f152_r6 (t13 : V) (k : V → Rv) : Rv :=
 (bin .sub t13 (V.int .i64 1)).bind fun t68 => k t68
noncomputable def f152_r7 (t12 t13 : V) (k : V → Rv) : Rv :=
 (bin .gtr t12 t13).bind fun t71 => k t71
noncomputable def f152_r8 (t0 t1 t13 : V) (h : List V) (k : List V → Rv) : Rv :=
 (indexA P 22 (V.weak t0) t1).bind fun t78 => (ldP h 112 t78).bind fun t79 => (indexA P 22 (V.weak t0) t13).bind fun t82 => (ldP h 112 t82).bind fun t83 => (indexA P 22 (V.weak t0) t13).bind fun t84 => (sto P h 112 t84 t79).bind fun h_1 => (indexA P 22 (V.weak t0) t1).bind fun t85 => (sto P h_1 112 t85 t83).bind fun h_2 => k h_2
noncomputable def f152_r9 (t13 : V) (k : V → V → Rv) : Rv :=
 k t13 (V.bool true)
noncomputable def f152_r10 (t0 t12 t13 : V) (h : List V) (k : List V → Rv) : Rv :=
 (indexA P 22 (V.weak t0) t13).bind fun t93 => (ldP h 112 t93).bind fun t94 => (indexA P 22 (V.weak t0) t12).bind fun t97 => (ldP h 112 t97).bind fun t98 => (indexA P 22 (V.weak t0) t12).bind fun t99 => (sto P h 112 t99 t94).bind fun h_1 => (indexA P 22 (V.weak t0) t13).bind fun t100 => (sto P h_1 112 t100 t98).bind fun h_2 => k h_2
noncomputable def f152_r11 (t12 : V) (k : V → Rv) : Rv :=
 (bin .add t12 (V.int .i64 1)).bind fun t102 => k t102
noncomputable def f152_r12 (t13 : V) (k : V → Rv) : Rv :=
 (bin .sub t13 (V.int .i64 1)).bind fun t104 => k t104
noncomputable def f152_l4 (t0 t1 t4 t12 t13 : V) (n : Nat) (h : List V) : Rv := lp W 152 4 (cd 152 4607) (bk 4 (sk 152 0 2047 (lv 152 n))) ⟨[(0, t0), (1, t1), (4, t4), (12, t12), (13, t13)], h⟩
noncomputable def f152_l6 (t0 t1 t4 t12 t13 : V) (n : Nat) (m4 : Nat) (h : List V) : Rv := lp W 152 6 (cd 152 66047) (bk 6 (sk 152 5 25087 (bk 5 (lk 152 4 m4 4607 (bk 4 (sk 152 0 2047 (lv 152 n))))))) ⟨[(0, t0), (1, t1), (4, t4), (12, t12), (13, t13)], h⟩
noncomputable def f152_r13 (t0 t1 t4 t12 t13 : V) (h : List V) (k : V → List V → Rv) : Rv :=
 (bin .leq t12 t13).bind fun t107 => V.ite t107 ((indexA P 22 (V.weak t0) t12).bind fun t112 => (ldP h 112 t112).bind fun t113 => (indexA P 22 (V.weak t0) t1).bind fun t116 => (ldP h 112 t116).bind fun t117 => callV P ann W t4 [t113, t117] h fun t118 h_1 => if V.noOwn t118 = true then (bin .lss t118 (V.int .i64 0)).bind fun t119 => k t119 h_1 else none) (k (V.bool false) h)
noncomputable def f152_r14 (t12 : V) (k : V → Rv) : Rv :=
 (bin .add t12 (V.int .i64 1)).bind fun t122 => k t122
noncomputable def f152_l8 (t0 t1 t4 t12 t13 : V) (n : Nat) (m4 : Nat) (h : List V) : Rv := lp W 152 8 (cd 152 139775) (bk 8 (sk 152 5 57855 (bk 5 (lk 152 4 m4 4607 (bk 4 (sk 152 0 2047 (lv 152 n))))))) ⟨[(0, t0), (1, t1), (4, t4), (12, t12), (13, t13)], h⟩
noncomputable def f152_r15 (t0 t1 t4 t12 t13 : V) (h : List V) (k : V → List V → Rv) : Rv :=
 (bin .leq t12 t13).bind fun t125 => V.ite t125 ((indexA P 22 (V.weak t0) t13).bind fun t130 => (ldP h 112 t130).bind fun t131 => (indexA P 22 (V.weak t0) t1).bind fun t134 => (ldP h 112 t134).bind fun t135 => callV P ann W t4 [t131, t135] h fun t136 h_1 => if V.noOwn t136 = true then (bin .lss t136 (V.int .i64 0)).bind fun t137 => (un .not t137).bind fun t138 => k t138 h_1 else none) (k (V.bool false) h)
noncomputable def f152_r16 (t13 : V) (k : V → Rv) : Rv :=
 (bin .sub t13 (V.int .i64 1)).bind fun t141 => k t141
noncomputable def f152_r17 (t12 t13 : V) (k : V → Rv) : Rv :=
 (bin .gtr t12 t13).bind fun t144 => k t144
noncomputable def f152_r21 (t0 t1 t13 : V) (h : List V) (k : List V → Rv) : Rv :=
 (indexA P 22 (V.weak t0) t1).bind fun t169 => (ldP h 112 t169).bind fun t170 => (indexA P 22 (V.weak t0) t13).bind fun t173 => (ldP h 112 t173).bind fun t174 => (indexA P 22 (V.weak t0) t13).bind fun t175 => (sto P h 112 t175 t170).bind fun h_1 => (indexA P 22 (V.weak t0) t1).bind fun t176 => (sto P h_1 112 t176 t174).bind fun h_2 => k h_2
noncomputable def f152_r22 (t13 : V) (k : V → V → Rv) : Rv :=
 k t13 (V.bool false)
noncomputable def f152_r18 (t0 t12 t13 : V) (h : List V) (k : List V → Rv) : Rv :=
 (indexA P 22 (V.weak t0) t13).bind fun t151 => (ldP h 112 t151).bind fun t152 => (indexA P 22 (V.weak t0) t12).bind fun t155 => (ldP h 112 t155).bind fun t156 => (indexA P 22 (V.weak t0) t12).bind fun t157 => (sto P h 112 t157 t152).bind fun h_1 => (indexA P 22 (V.weak t0) t13).bind fun t158 => (sto P h_1 112 t158 t156).bind fun h_2 => k h_2
noncomputable def f152_r19 (t12 : V) (k : V → Rv) : Rv :=
 (bin .add t12 (V.int .i64 1)).bind fun t160 => k t160
noncomputable def f152_r20 (t13 : V) (k : V → Rv) : Rv :=
 (bin .sub t13 (V.int .i64 1)).bind fun t162 => k t162
theorem f152_l8_eq (t0 t1 t4 t12 t13 : V) (n : Nat) (m4 : Nat) (h : List V) : f152_l8 t0 t1 t4 t12 t13 n m4 h =
 f152_r15 t0 t1 t4 t12 t13 h fun t139_20 h_21 =>
  V.ite t139_20
  (f152_r16 t13 fun t13_22 =>
  f152_l8 t0 t1 t4 t12 t13_22 n m4 h_21)
  (f152_r17 t12 t13 fun t144_23 =>
  V.ite t144_23
  (f152_r21 t0 t1 t13 h_21 fun h_24 =>
  f152_r22 t13 fun t10_25 t11_26 =>
  if (List.all [t11_26, t10_25] V.okE) = true then finT n h_24 (V.tup [t10_25, t11_26]) else none)
  (f152_r18 t0 t12 t13 h_21 fun h_27 =>
  f152_r19 t12 fun t12_28 =>
  f152_r20 t13 fun t13_29 =>
  f152_l4 t0 t1 t4 t12_28 t13_29 n h_27)) :=
 l_eq (by kernel_rfl)
theorem f152_l6_eq (t0 t1 t4 t12 t13 : V) (n : Nat) (m4 : Nat) (h : List V) : f152_l6 t0 t1 t4 t12 t13 n m4 h =
 f152_r13 t0 t1 t4 t12 t13 h fun t120_17 h_18 =>
  V.ite t120_17
  (f152_r14 t12 fun t12_19 =>
  f152_l6 t0 t1 t4 t12_19 t13 n m4 h_18)
  (f152_l8 t0 t1 t4 t12 t13 n m4 h_18) :=
 l_eq (by kernel_rfl)
theorem f152_l4_eq (t0 t1 t4 t12 t13 : V) (n : Nat) (h : List V) : f152_l4 t0 t1 t4 t12 t13 n h =
 f152_l6 t0 t1 t4 t12 t13 n (List.length h) h :=
 l_eq (by kernel_rfl)
theorem f152_l2_eq (t0 t1 t4 t12 t13 : V) (n : Nat) (h : List V) : f152_l2 t0 t1 t4 t12 t13 n h =
 f152_r5 t0 t1 t4 t12 t13 h fun t66_7 h_8 =>
  V.ite t66_7
  (f152_r6 t13 fun t13_9 =>
  f152_l2 t0 t1 t4 t12 t13_9 n h_8)
  (f152_r7 t12 t13 fun t71_10 =>
  V.ite t71_10
  (f152_r8 t0 t1 t13 h_8 fun h_11 =>
  f152_r9 t13 fun t10_12 t11_13 =>
  if (List.all [t11_13, t10_12] V.okE) = true then finT n h_11 (V.tup [t10_12, t11_13]) else none)
  (f152_r10 t0 t12 t13 h_8 fun h_14 =>
  f152_r11 t12 fun t12_15 =>
  f152_r12 t13 fun t13_16 =>
  f152_l4 t0 t1 t4 t12_15 t13_16 n h_14)) :=
 l_eq (by kernel_rfl)
theorem f152_l0_eq (t0 t1 t4 t12 t13 : V) (n : Nat) (h : List V) : f152_l0 t0 t1 t4 t12 t13 n h =
 f152_r3 t0 t1 t4 t12 t13 h fun t47_4 h_5 =>
  V.ite t47_4
  (f152_r4 t12 fun t12_6 =>
  f152_l0 t0 t1 t4 t12_6 t13 n h_5)
  (f152_l2 t0 t1 t4 t12 t13 n h_5) :=
 l_eq (by kernel_rfl)
theorem f152_eq (t0 t1 t2 t3 t4 : V) (h : List V) : Cl 152 [t0, t1, t2, t3, t4] h =
 f152_r0 (f152_r1 t0 t1 t3 h fun h_1 =>
  f152_r2 t1 t2 fun t12_2 t13_3 =>
  f152_l0 t0 t1 t4 t12_2 t13_3 (List.length h) h_1) :=
 f_eq (by kernel_rfl)
noncomputable def f154_r0 (k : V → Rv) : Rv :=
 k (V.int .i64 0)
noncomputable def f154_r1 (t0 : V) (k : V → Rv) : Rv :=
 (bin .geq t0 (V.int .u64 4294967296)).bind fun t4 => k t4
noncomputable def f154_r4 (t0 : V) (k : V → Rv) : Rv :=
 (bin .geq t0 (V.int .u64 65536)).bind fun t8 => k t8
noncomputable def f154_r7 (t0 : V) (k : V → Rv) : Rv :=
 (bin .geq t0 (V.int .u64 256)).bind fun t14 => k t14
noncomputable def f154_r10 (t0 t2 : V) (k : V → Rv) : Rv :=
 (conv P [] 93 5 t0).bind fun t21 => (indexV P 9 (V.str [0, 1, 2, 2, 3, 3, 3, 3, 4, 4, 4, 4, 4, 4, 4, 4, 5, 5, 5, 5, 5, 5, 5, 5, 5, 5, 5, 5, 5, 5, 5, 5, 6, 6, 6, 6, 6, 6, 6, 6, 6, 6, 6, 6, 6, 6, 6, 6, 6, 6, 6, 6, 6, 6, 6, 6, 6, 6, 6, 6, 6, 6, 6, 6, 7, 7, 7, 7, 7, 7, 7, 7, 7, 7, 7, 7, 7, 7, 7, 7, 7, 7, 7, 7, 7, 7, 7, 7, 7, 7, 7, 7, 7, 7, 7, 7, 7, 7, 7, 7, 7, 7, 7, 7, 7, 7, 7, 7, 7, 7, 7, 7, 7, 7, 7, 7, 7, 7, 7, 7, 7, 7, 7, 7, 7, 7, 7, 7, 8, 8, 8, 8, 8, 8, 8, 8, 8, 8, 8, 8, 8, 8, 8, 8, 8, 8, 8, 8, 8, 8, 8, 8, 8, 8, 8, 8, 8, 8, 8, 8, 8, 8, 8, 8, 8, 8, 8, 8, 8, 8, 8, 8, 8, 8, 8, 8, 8, 8, 8, 8, 8, 8, 8, 8, 8, 8, 8, 8, 8, 8, 8, 8, 8, 8, 8, 8, 8, 8, 8, 8, 8, 8, 8, 8, 8, 8, 8, 8, 8, 8, 8, 8, 8, 8, 8, 8, 8, 8, 8, 8, 8, 8, 8, 8, 8, 8, 8, 8, 8, 8, 8, 8, 8, 8, 8, 8, 8, 8, 8, 8, 8, 8, 8, 8, 8, 8, 8, 8, 8, 8, 8, 8, 8, 8, 8, 8]) t21).bind fun t22 => (conv P [] 5 3 t22).bind fun t23 => (bin .add t2 t23).bind fun t24 => k t24
noncomputable def f154_r8 (t0 : V) (k : V → Rv) : Rv :=
 (bin .shr t0 (V.int .u64 8)).bind fun t16 => k t16
noncomputable def f154_r9 (t2 : V) (k : V → Rv) : Rv :=
 (bin .add t2 (V.int .i64 8)).bind fun t18 => k t18
noncomputable def f154_r5 (t0 : V) (k : V → Rv) : Rv :=
 (bin .shr t0 (V.int .u64 16)).bind fun t10 => k t10
noncomputable def f154_r6 (t2 : V) (k : V → Rv) : Rv :=
 (bin .add t2 (V.int .i64 16)).bind fun t12 => k t12
noncomputable def f154_r2 (t0 : V) (k : V → Rv) : Rv :=
 (bin .shr t0 (V.int .u64 32)).bind fun t6 => k t6
noncomputable def f154_r3 (k : V → Rv) : Rv :=
 k (V.int .i64 32)
theorem f154_eq (t0 : V) : Cl 154 [t0] [] =
 f154_r0 fun t2_1 =>
  f154_r1 t0 fun t4_2 =>
  jn (fun t0_3 t2_4 => f154_r4 t0_3 fun t8_5 =>
  jn (fun t0_6 t2_7 => f154_r7 t0_6 fun t14_8 =>
  jn (fun t0_9 t2_10 => f154_r10 t0_9 t2_10 fun t2_11 =>
  finT 0 [] t2_11)
  (fun (j2 : V → V → Rv) => V.ite t14_8
  (f154_r8 t0_6 fun t0_12 =>
  f154_r9 t2_7 fun t2_13 =>
  j2 t0_12 t2_13)
  (j2 t0_6 t2_7)))
  (fun (j1 : V → V → Rv) => V.ite t8_5
  (f154_r5 t0_3 fun t0_14 =>
  f154_r6 t2_4 fun t2_15 =>
  j1 t0_14 t2_15)
  (j1 t0_3 t2_4)))
  (fun (j0 : V → V → Rv) => V.ite t4_2
  (f154_r2 t0 fun t0_16 =>
  f154_r3 fun t2_17 =>
  j0 t0_16 t2_17)
  (j0 t0 t2_1)) :=
 f_eq (y_seq <| y_reg (fun K u2 => K ⟨[(0, t0), (2, u2)], []⟩) (funext fun t2_1 => seqK_n <| y_seq <| y_seq <| y_reg (fun K u4 => K ⟨[(0, t0), (2, t2_1), (4, u4)], []⟩) (funext fun t4_2 => seqK_n <| y_jn (fun K t0_3 t2_4 => K ⟨[(0, t0_3), (2, t2_4)], []⟩) (funext fun t0_3 => funext fun t2_4 => seqK_n <| y_seq <| y_seq <| y_reg (fun K u8 => K ⟨[(0, t0_3), (2, t2_4), (8, u8)], []⟩) (funext fun t8_5 => seqK_n <| y_jn (fun K t0_6 t2_7 => K ⟨[(0, t0_6), (2, t2_7)], []⟩) (funext fun t0_6 => funext fun t2_7 => seqK_n <| y_seq <| y_seq <| y_reg (fun K u14 => K ⟨[(0, t0_6), (2, t2_7), (14, u14)], []⟩) (funext fun t14_8 => seqK_n <| y_jn (fun K t0_9 t2_10 => K ⟨[(0, t0_9), (2, t2_10)], []⟩) (funext fun t0_9 => funext fun t2_10 => by kernel_rfl) (y_cond (y_seq <| y_reg (fun K u0 => K ⟨[(0, u0), (2, t2_7)], []⟩) (funext fun t0_12 => seqK_n <| y_reg (fun K u2 => K ⟨[(0, t0_12), (2, u2)], []⟩) (funext fun t2_13 => rfl))) (y_skip <| y_nf)))) (y_cond (y_seq <| y_reg (fun K u0 => K ⟨[(0, u0), (2, t2_4)], []⟩) (funext fun t0_14 => seqK_n <| y_reg (fun K u2 => K ⟨[(0, t0_14), (2, u2)], []⟩) (funext fun t2_15 => rfl))) (y_skip <| y_nf)))) (y_cond (y_seq <| y_reg (fun K u0 => K ⟨[(0, u0)], []⟩) (funext fun t0_16 => seqK_n <| y_reg (fun K u2 => K ⟨[(0, t0_16), (2, u2)], []⟩) (funext fun t2_17 => rfl))) (y_skip <| y_nf)))))
noncomputable def f156_r0 (k : Rv) : Rv :=
 k
noncomputable def f156_r1 (t0 t1 : V) (k : V → Rv) : Rv :=
 (un .neg t1).bind fun t7 => (Cl 172 (reifyL [] [t0, t7]) []).bind fun r => k r.1
theorem f156_eq (t0 t1 : V) : Cl 156 [t0, t1] [] =
 f156_r0 (f156_r1 t0 t1 fun t4_1 =>
  finT 0 [] t4_1) :=
 f_eq (by kernel_rfl)
noncomputable def f167_r0 (t1 : V) (k : V → Rv) : Rv :=
 k t1
noncomputable def f167_l0 (t0 t2 t3 t4 t10 : V) (n : Nat) (h : List V) : Rv := lp W 167 0 (cd 167 9) (bk 0 (lv 167 n)) ⟨[(0, t0), (2, t2), (3, t3), (4, t4), (10, t10)], h⟩
noncomputable def f167_r1 (t10 : V) (k : V → Rv) : Rv :=
 (bin .mul (V.int .i64 2) t10).bind fun t14 => (bin .add t14 (V.int .i64 1)).bind fun t15 => k t15
noncomputable def f167_r2 (t2 t11 : V) (k : V → Rv) : Rv :=
 (bin .geq t11 t2).bind fun t18 => k t18
noncomputable def f167_r3 (t0 t2 t3 t4 t11 : V) (h : List V) (k : V → List V → Rv) : Rv :=
 (bin .add t11 (V.int .i64 1)).bind fun t20 => (bin .lss t20 t2).bind fun t22 => V.ite t22 ((bin .add t3 t11).bind fun t28 => (indexA P 22 (V.weak t0) t28).bind fun t29 => (ldP h 112 t29).bind fun t30 => (bin .add t3 t11).bind fun t34 => (bin .add t34 (V.int .i64 1)).bind fun t35 => (indexA P 22 (V.weak t0) t35).bind fun t36 => (ldP h 112 t36).bind fun t37 => callV P ann W t4 [t30, t37] h fun t38 h_1 => if V.noOwn t38 = true then (bin .lss t38 (V.int .i64 0)).bind fun t39 => k t39 h_1 else none) (k (V.bool false) h)
noncomputable def f167_r5 (t0 t3 t4 t10 t11 : V) (h : List V) (k : V → List V → Rv) : Rv :=
 (bin .add t3 t10).bind fun t47 => (indexA P 22 (V.weak t0) t47).bind fun t48 => (ldP h 112 t48).bind fun t49 => (bin .add t3 t11).bind fun t53 => (indexA P 22 (V.weak t0) t53).bind fun t54 => (ldP h 112 t54).bind fun t55 => callV P ann W t4 [t49, t55] h fun t56 h_1 => if V.noOwn t56 = true then (bin .lss t56 (V.int .i64 0)).bind fun t57 => (un .not t57).bind fun t58 => k t58 h_1 else none
noncomputable def f167_r6 (t0 t3 t10 t11 : V) (h : List V) (k : List V → Rv) : Rv :=
 (bin .add t3 t10).bind fun t62 => (bin .add t3 t11).bind fun t66 => (bin .add t3 t11).bind fun t70 => (indexA P 22 (V.weak t0) t70).bind fun t71 => (ldP h 112 t71).bind fun t72 => (bin .add t3 t10).bind fun t76 => (indexA P 22 (V.weak t0) t76).bind fun t77 => (ldP h 112 t77).bind fun t78 => (indexA P 22 (V.weak t0) t62).bind fun t79 => (sto P h 112 t79 t72).bind fun h_1 => (indexA P 22 (V.weak t0) t66).bind fun t80 => (sto P h_1 112 t80 t78).bind fun h_2 => k h_2
noncomputable def f167_r7 (t11 : V) (k : V → Rv) : Rv :=
 k t11
noncomputable def f167_r4 (t11 : V) (k : V → Rv) : Rv :=
 (bin .add t11 (V.int .i64 1)).bind fun t42 => k t42
theorem f167_l0_eq (t0 t2 t3 t4 t10 : V) (n : Nat) (h : List V) : f167_l0 t0 t2 t3 t4 t10 n h =
 f167_r1 t10 fun t11_2 =>
  f167_r2 t2 t11_2 fun t18_3 =>
  V.ite t18_3
  (if (List.all [] V.okE) = true then finT n h (V.tup []) else none)
  (f167_r3 t0 t2 t3 t4 t11_2 h fun t40_4 h_5 =>
  jn (fun t11_6 => f167_r5 t0 t3 t4 t10 t11_6 h_5 fun t58_7 h_8 =>
  V.ite t58_7
  (if (List.all [] V.okE) = true then finT n h_8 (V.tup []) else none)
  (f167_r6 t0 t3 t10 t11_6 h_8 fun h_9 =>
  f167_r7 t11_6 fun t10_10 =>
  f167_l0 t0 t2 t3 t4 t10_10 n h_9))
  (fun (j0 : V → Rv) => V.ite t40_4
  (f167_r4 t11_2 fun t11_11 =>
  j0 t11_11)
  (j0 t11_2))) :=
 l_eq (y_block <| y_seq <| y_reg (fun K u11 => K ⟨[(0, t0), (2, t2), (3, t3), (4, t4), (10, t10), (11, u11)], h⟩) (funext fun t11_2 => seqK_n <| y_seq <| y_seq <| y_reg (fun K u18 => K ⟨[(0, t0), (2, t2), (3, t3), (4, t4), (10, t10), (11, t11_2), (18, u18)], h⟩) (funext fun t18_3 => seqK_n <| y_cond (by kernel_rfl) (y_skip <| seqK_n <| y_seq <| y_seq <| y_reg (fun K u40 h' => K ⟨[(0, t0), (2, t2), (3, t3), (4, t4), (10, t10), (11, t11_2), (40, u40)], h'⟩) (funext fun t40_4 => funext fun h_5 => seqK_n <| y_jn (fun K t11_6 => K ⟨[(0, t0), (2, t2), (3, t3), (4, t4), (10, t10), (11, t11_6)], h_5⟩) (funext fun t11_6 => by kernel_rfl) (y_cond (by kernel_rfl) (by kernel_rfl)))))))
theorem f167_eq (t0 t1 t2 t3 t4 : V) (h : List V) : Cl 167 [t0, t1, t2, t3, t4] h =
 f167_r0 t1 fun t10_1 =>
  f167_l0 t0 t2 t3 t4 t10_1 (List.length h) h :=
 f_eq (by kernel_rfl)
noncomputable def f168_r0 (k : Rv) : Rv :=
 k
noncomputable def f168_r1 (t0 : V) (k : V → Rv) : Rv :=
 (conv P [] 3 126 t0).bind fun t4 => (Cl 134 (reifyL [] [t4]) []).bind fun r => (bin .shl (V.int .u64 1) r.1).bind fun t6 => k t6
theorem f168_eq (t0 : V) : Cl 168 [t0] [] =
 f168_r0 (f168_r1 t0 fun t2_1 =>
  finT 0 [] t2_1) :=
 f_eq (by kernel_rfl)
noncomputable def f169_r0 (k : Rv) : Rv :=
 k
noncomputable def f169_r1 (t0 : V) (h : List V) (k : List V → Rv) : Rv :=
 (notNil t0).bind fun t4 => (ldP h 211 t4).bind fun t5 => (notNil t0).bind fun t7 => (ldP h 211 t7).bind fun t8 => (bin .shl t8 (V.int .u64 13)).bind fun t9 => (bin .xor t5 t9).bind fun t10 => (notNil t0).bind fun t11 => (sto P h 211 t11 t10).bind fun h_1 => k h_1
noncomputable def f169_r2 (t0 : V) (h : List V) (k : List V → Rv) : Rv :=
 (notNil t0).bind fun t13 => (ldP h 211 t13).bind fun t14 => (notNil t0).bind fun t16 => (ldP h 211 t16).bind fun t17 => (bin .shr t17 (V.int .u64 7)).bind fun t18 => (bin .xor t14 t18).bind fun t19 => (notNil t0).bind fun t20 => (sto P h 211 t20 t19).bind fun h_1 => k h_1
noncomputable def f169_r3 (t0 : V) (h : List V) (k : List V → Rv) : Rv :=
 (notNil t0).bind fun t22 => (ldP h 211 t22).bind fun t23 => (notNil t0).bind fun t25 => (ldP h 211 t25).bind fun t26 => (bin .shl t26 (V.int .u64 17)).bind fun t27 => (bin .xor t23 t27).bind fun t28 => (notNil t0).bind fun t29 => (sto P h 211 t29 t28).bind fun h_1 => k h_1
noncomputable def f169_r4 (t0 : V) (h : List V) (k : V → Rv) : Rv :=
 (notNil t0).bind fun t31 => (ldP h 211 t31).bind fun t32 => k t32
theorem f169_eq (t0 : V) (h : List V) : Cl 169 [t0] h =
 f169_r0 (f169_r1 t0 h fun h_1 =>
  f169_r2 t0 h_1 fun h_2 =>
  f169_r3 t0 h_2 fun h_3 =>
  f169_r4 t0 h_3 fun t2_4 =>
  finT (List.length h) h_3 t2_4) :=
 f_eq (by kernel_rfl)
noncomputable def f170_r0 (k : Rv) : Rv :=
 k
noncomputable def f170_r1 (t0 t1 t2 t3 : V) (h : List V) (k : V → List V → Rv) : Rv :=
 (bin .sub t1 (V.int .i64 1)).bind fun t11 => (bin .add t1 (V.int .i64 1)).bind fun t14 => (Cl 171 (normL [t0, t11, t1, t14, t2, t3]) h).bind fun r => k r.1 r.2
theorem f170_eq (t0 t1 t2 t3 : V) (h : List V) : Cl 170 [t0, t1, t2, t3] h =
 f170_r0 (f170_r1 t0 t1 t2 t3 h fun t8_1 h_2 =>
  finT (List.length h) h_2 t8_1) :=
 f_eq (by kernel_rfl)
noncomputable def f171_r0 (k : Rv) : Rv :=
 k
noncomputable def f171_r1 (t0 t1 t2 t4 t5 : V) (h : List V) (k : V → V → List V → Rv) : Rv :=
 (Cl 176 (normL [(V.weak t0), t1, t2, t4, t5]) h).bind fun r => (ext r.1 0).bind fun t20 => (ext r.1 1).bind fun t21 => k t20 t21 r.2
noncomputable def f171_r2 (t0 t2 t3 t4 t5 : V) (h : List V) (k : V → List V → Rv) : Rv :=
 (Cl 176 (normL [(V.weak t0), t2, t3, t4, t5]) h).bind fun r => (ext r.1 0).bind fun t29 => (ext r.1 1).bind fun t30 => k t29 r.2
noncomputable def f171_r3 (t0 t1 t2 t4 t5 : V) (h : List V) (k : V → List V → Rv) : Rv :=
 (Cl 176 (normL [t0, t1, t2, t4, t5]) h).bind fun r => (ext r.1 0).bind fun t38 => (ext r.1 1).bind fun t39 => k t39 r.2
noncomputable def f171_r4 (t2 : V) (k : V → Rv) : Rv :=
 k t2
theorem f171_eq (t0 t1 t2 t3 t4 t5 : V) (h : List V) : Cl 171 [t0, t1, t2, t3, t4, t5] h =
 f171_r0 (f171_r1 t0 t1 t2 t4 t5 h fun t1_1 t2_2 h_3 =>
  f171_r2 t0 t2_2 t3 t4 t5 h_3 fun t2_4 h_5 =>
  f171_r3 t0 t1_1 t2_4 t4 t5 h_5 fun t2_6 h_7 =>
  f171_r4 t2_6 fun t12_8 =>
  finT (List.length h) h_7 t12_8) :=
 f_eq (by kernel_rfl)
noncomputable def f172_r0 (k : Rv) : Rv :=
 k
noncomputable def f172_r1 (t1 : V) (k : V → Rv) : Rv :=
 (conv P [] 3 126 t1).bind fun t7 => (bin .and t7 (V.int .u64 31)).bind fun t8 => k t8
noncomputable def f172_r2 (t0 t5 : V) (k : V → Rv) : Rv :=
 (bin .shl t0 t5).bind fun t11 => (bin .sub (V.int .u64 32) t5).bind fun t14 => (bin .shr t0 t14).bind fun t15 => (bin .or t11 t15).bind fun t16 => k t16
theorem f172_eq (t0 t1 : V) : Cl 172 [t0, t1] [] =
 f172_r0 (f172_r1 t1 fun t5_1 =>
  f172_r2 t0 t5_1 fun t4_2 =>
  finT 0 [] t4_2) :=
 f_eq (by kernel_rfl)
noncomputable def f176_r0 (k : Rv) : Rv :=
 k
noncomputable def f176_r1 (t0 t1 t2 t4 : V) (h : List V) (k : V → List V → Rv) : Rv :=
 (indexA P 22 (V.weak t0) t2).bind fun t15 => (ldP h 112 t15).bind fun t16 => (indexA P 22 (V.weak t0) t1).bind fun t19 => (ldP h 112 t19).bind fun t20 => callV P ann W t4 [t16, t20] h fun t21 h_1 => if V.noOwn t21 = true then (bin .lss t21 (V.int .i64 0)).bind fun t22 => k t22 h_1 else none
noncomputable def f176_r2 (t3 : V) (h : List V) (k : List V → Rv) : Rv :=
 (notNil t3).bind fun t24 => (ldP h 3 t24).bind fun t25 => (bin .add t25 (V.int .i64 1)).bind fun t26 => (notNil t3).bind fun t27 => (sto P h 3 t27 t26).bind fun h_1 => k h_1
noncomputable def f176_r3 (t1 t2 : V) (k : V → V → Rv) : Rv :=
 k t2 t1
noncomputable def f176_r4 (t1 t2 : V) (k : V → V → Rv) : Rv :=
 k t1 t2
theorem f176_eq (t0 t1 t2 t3 t4 : V) (h : List V) : Cl 176 [t0, t1, t2, t3, t4] h =
 f176_r0 (f176_r1 t0 t1 t2 t4 h fun t22_1 h_2 =>
  V.ite t22_1
  (f176_r2 t3 h_2 fun h_3 =>
  f176_r3 t1 t2 fun t10_4 t11_5 =>
  if (List.all [t11_5, t10_4] V.okE) = true then finT (List.length h) h_3 (V.tup [t10_4, t11_5]) else none)
  (f176_r4 t1 t2 fun t10_6 t11_7 =>
  if (List.all [t11_7, t10_6] V.okE) = true then finT (List.length h) h_2 (V.tup [t10_6, t11_7]) else none)) :=
 f_eq (by kernel_rfl)
end Go.Proofs.YtiegkempfolgcaaGreatDoor
end
