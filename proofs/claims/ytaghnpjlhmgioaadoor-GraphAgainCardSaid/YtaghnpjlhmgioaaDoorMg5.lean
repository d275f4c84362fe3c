/-
  Part of the proof of a statement about the given program: an abstract machine over its code, the simulation, its functions' equations, what they compute.
-/
import Derived.Test.YtaghnpjlhmgioaaDoorMg4
section
set_option maxRecDepth 100000
set_option linter.unusedVariables false
namespace Go.Proofs.YtaghnpjlhmgioaaDoor
open Go AM
theorem f9_eq (t0 : V) : Cl 9 [t0] [] =
 jn (fun a1 =>
 V.ite a1
  ((Cl 10 (reifyL [] []) []).bind fun a2 => finT 0 [] a2.1)
  ((Cl 23 (reifyL [] [t0]) []).bind fun a3 => (extS a3.1 0).bind fun a4 => (ext a3.1 1).bind fun a5 => (ext a3.1 2).bind fun a6 => (stT (tyG 23) 24 [(V.agg 23 [(V.int .i64 0), (V.lst 45 .nil [])])] (V.ref 0 [] 24) a4).bind fun a7 => (bin .neq a6 (V.int .i64 0)).bind fun a8 => V.ite a8
  (jn (fun a9 =>
 finT 0 a7 a9) (fun (a10 : V → Rv) => (fA 24 3 0 (V.ref 0 [] 24)).bind fun a11 => (ldP a7 3 a11).bind fun a12 => (bin .eql a12 (V.int .i64 0)).bind fun a13 => V.ite a13 ((fA 24 22 1 (V.ref 0 [] 24)).bind fun a14 => (ldS a7 22 a14).bind fun a15 => (lnL a15).bind fun a16 => (bin .eql a16 (V.int .i64 0)).bind fun a17 => a10 a17) (a10 (V.bool false))))
  ((ldS a7 24 (V.ref 0 [] 24)).bind fun a18 => (Cl 22 (reifyL a7 [a18]) []).bind fun a19 => (ext a19.1 0).bind fun a20 => (ext a19.1 1).bind fun a21 => (Cl 23 (reifyL a7 [a20]) []).bind fun a22 => (extS a22.1 0).bind fun a23 => (ext a22.1 1).bind fun a24 => (ext a22.1 2).bind fun a25 => (stT (tyG 23) 24 (a7 ++ [(V.agg 23 [(V.int .i64 0), (V.lst 45 .nil [])])]) (V.ref (List.length a7) [] 24) a23).bind fun a26 => (ldS a26 24 (V.ref (List.length a7) [] 24)).bind fun a27 => (Cl 22 (reifyL a26 [a27]) []).bind fun a28 => (ext a28.1 0).bind fun a29 => (ext a28.1 1).bind fun a30 => jn (fun a31 =>
 finT 0 a26 a31) (fun (a32 : V → Rv) => (bin .eql a21 (V.int .i64 0)).bind fun a33 => V.ite a33 ((bin .eql a24 (V.int .i64 0)).bind fun a34 => V.ite a34 ((bin .eql a25 (V.int .i64 0)).bind fun a35 => V.ite a35 ((bin .eql a30 (V.int .i64 0)).bind fun a36 => V.ite a36 ((bin .eql a29 a20).bind fun a37 => V.ite a37 ((ldS a26 24 (V.ref 0 [] 24)).bind fun a38 => (ldS a26 24 (V.ref (List.length a7) [] 24)).bind fun a39 => (Cl 15 (reifyL a26 [a38, a39]) []).bind fun a40 => V.ite a40.1 ((lnS a20).bind fun a41 => (lnS t0).bind fun a42 => (bin .eql a41 a42).bind fun a43 => a32 a43) (a32 (V.bool false))) (a32 (V.bool false))) (a32 (V.bool false))) (a32 (V.bool false))) (a32 (V.bool false))) (a32 (V.bool false)))))) (fun (a44 : V → Rv) => (Cl 10 (reifyL [] []) []).bind fun a45 => (un .not a45.1).bind fun a46 => V.ite a46 (a44 (V.bool true)) ((lnS t0).bind fun a47 => (bin .gtr a47 (V.int .i64 2000)).bind fun a48 => a44 a48)) :=
 f_eq (by kernel_rfl)
theorem f12_eq (t0 : V) : Cl 12 [t0] [] =
 if ((tyG 23) (V.weak t0) && V.under 0 (V.weak t0)) = true then (ldS [(V.weak t0), (V.agg 23 [(V.int .i64 0), (V.lst 45 .nil [])])] 24 (V.ref 0 [] 24)).bind fun a1 => (Cl 14 (reifyL [(V.weak t0), (V.agg 23 [(V.int .i64 0), (V.lst 45 .nil [])])] [a1]) []).bind fun a2 => (bin .neq a2.1 (V.int .i64 0)).bind fun a3 => V.ite a3
  (((ck [] [(V.int .i64 0), (V.lst 45 .nil [])]).map (.agg 23)).bind fun a4 => (stT (tyG 23) 24 [(V.weak t0), (V.agg 23 [(V.int .i64 0), (V.lst 45 .nil [])])] (V.ref 1 [] 24) a4).bind fun a5 => (ldS a5 24 (V.ref 1 [] 24)).bind fun a6 => if (List.all [a2.1, a6] V.okE) = true then finT 0 a5 (V.tup [a6, a2.1]) else none)
  ((fA 24 3 0 (V.ref 0 [] 24)).bind fun a7 => if sameB (V.ref 0 [] 24) a7 = true then (ldP [(V.weak t0), (V.agg 23 [(V.int .i64 0), (V.lst 45 .nil [])])] 3 a7).bind fun a8 => (fA 24 22 1 (V.ref 0 [] 24)).bind fun a9 => (ldS [(V.weak t0), (V.agg 23 [(V.int .i64 0), (V.lst 45 .nil [])])] 22 a9).bind fun a10 => callH P ann W (some (V.ref 0 [] 24)) (V.clo 27 []) [a10] [(V.weak t0), (V.agg 23 [(V.int .i64 0), (V.lst 45 .nil [])])] fun a11 a12 => callH P ann W (some (V.ref 0 [] 24)) (V.clo 26 []) [a11, (V.clo 28 [])] a12 fun a13 a14 => ((ck [(tyI .i64) a8, (tyL 45) a13] [a8, (V.weak a13)]).map (.agg 23)).bind fun a15 => (stT (tyG 23) 24 a14 (V.ref 1 [] 24) a15).bind fun a16 => (ldS a16 24 (V.ref 1 [] 24)).bind fun a17 => if (List.all [(V.int .i64 0), a17] V.okE) = true then finT 0 a16 (V.tup [a17, (V.int .i64 0)]) else none else none) else none :=
 f_eq (by kernel_rfl)
noncomputable def f14_l0 (t4 t5 : V) (h : List V) : Rv := lp W 14 0 (cd 14 303) (bk 0 (sk 14 0 63 (lv 14 0))) ⟨[(4, t4), (5, t5)], h⟩
theorem f14_l0_eq (t4 t5 : V) (h : List V) : f14_l0 t4 t5 h =
 (lnL (V.weak t4)).bind fun a8 => (bin .lss t5 a8).bind fun a9 => V.ite a9
  ((bin .sub t5 (V.int .i64 1)).bind fun a10 => (ixS 45 (V.weak t4) a10).bind fun a11 => (ldP h 45 a11).bind fun a12 => (ixS 45 (V.weak t4) t5).bind fun a13 => (ldP h 45 a13).bind fun a14 => (Cl 28 (reifyL h [a12, a14]) []).bind fun a15 => (bin .eql a15.1 (V.int .i64 0)).bind fun a16 => V.ite a16
  (finT 0 h (V.int .i64 51))
  ((bin .add t5 (V.int .i64 1)).bind fun a17 => f14_l0 t4 a17 h))
  (finT 0 h (V.int .i64 0)) :=
 l_eq (by kernel_rfl)
theorem f14_eq (t0 : V) : Cl 14 [t0] [] =
 if ((tyG 23) (V.weak t0) && V.under 0 (V.weak t0)) = true then (if (List.all [(V.ref 0 [] 24)] V.capOk) = true then some (V.clo 29 [(V.ref 0 [] 24)]) else none).bind fun a1 => jn (fun a2 a3 =>
 V.ite a2
  (finT 0 a3 (V.int .i64 50))
  ((fA 24 22 1 (V.ref 0 [] 24)).bind fun a4 => (ldS a3 22 a4).bind fun a5 => (Cl 27 (normL [a5]) a3).bind fun a6 => (Cl 26 (normL [a6.1, (V.clo 28 [])]) a6.2).bind fun a7 => f14_l0 a7.1 (V.int .i64 1) a7.2)) (fun (a18 : V → List V → Rv) => (fA 24 3 0 (V.ref 0 [] 24)).bind fun a19 => (ldP [(V.weak t0)] 3 a19).bind fun a20 => (bin .lss a20 (V.int .i64 1)).bind fun a21 => V.ite a21 (a18 (V.bool true) [(V.weak t0)]) ((fA 24 3 0 (V.ref 0 [] 24)).bind fun a22 => (ldP [(V.weak t0)] 3 a22).bind fun a23 => (bin .gtr a23 (V.int .i64 64)).bind fun a24 => V.ite a24 (a18 (V.bool true) [(V.weak t0)]) ((fA 24 22 1 (V.ref 0 [] 24)).bind fun a25 => (ldS [(V.weak t0)] 22 a25).bind fun a26 => (lnL a26).bind fun a27 => (bin .gtr a27 (V.int .i64 512)).bind fun a28 => V.ite a28 (a18 (V.bool true) [(V.weak t0)]) ((fA 24 22 1 (V.ref 0 [] 24)).bind fun a29 => (ldS [(V.weak t0)] 22 a29).bind fun a30 => (Cl 30 (normL [a30, a1]) [(V.weak t0)]).bind fun a31 => a18 a31.1 a31.2)))) else none :=
 f_eq (by kernel_rfl)
theorem f15_eq (t0 t1 : V) : Cl 15 [t0, t1] [] =
 if ((tyG 23) (V.weak t0) && V.under 0 (V.weak t0)) = true then if ((tyG 23) (V.weak t1) && V.under 1 (V.weak t1)) = true then jn (fun a1 =>
 finT 0 [(V.weak t0), (V.weak t1)] a1) (fun (a2 : V → Rv) => (fA 24 3 0 (V.ref 0 [] 24)).bind fun a3 => (ldP [(V.weak t0), (V.weak t1)] 3 a3).bind fun a4 => (fA 24 3 0 (V.ref 1 [] 24)).bind fun a5 => (ldP [(V.weak t0), (V.weak t1)] 3 a5).bind fun a6 => (bin .eql a4 a6).bind fun a7 => V.ite a7 ((fA 24 22 1 (V.ref 0 [] 24)).bind fun a8 => (ldS [(V.weak t0), (V.weak t1)] 22 a8).bind fun a9 => (fA 24 22 1 (V.ref 1 [] 24)).bind fun a10 => (ldS [(V.weak t0), (V.weak t1)] 22 a10).bind fun a11 => (Cl 19 (reifyL [(V.weak t0), (V.weak t1)] [a9, a11]) []).bind fun a12 => a2 a12.1) (a2 (V.bool false))) else none else none :=
 f_eq (by kernel_rfl)
noncomputable def f19_l0 (t0 t1 t5 : V) : Rv := lp W 19 0 (cd 19 75) (bk 0 (sk 19 0 15 (lv 19 0))) ⟨[(0, t0), (1, t1), (5, t5)], []⟩
theorem f19_l0_eq (t0 t1 t5 : V) : f19_l0 t0 t1 t5 =
 (lnL (V.weak t0)).bind fun a4 => (bin .lss t5 a4).bind fun a5 => V.ite a5
  ((ixS 45 (V.weak t0) t5).bind fun a6 => (ldP [] 45 a6).bind fun a7 => (ixS 45 (V.weak t1) t5).bind fun a8 => (ldP [] 45 a8).bind fun a9 => (eqT (tyG 44) .neq a7 a9).bind fun a10 => V.ite a10
  (finT 0 [] (V.bool false))
  ((bin .add t5 (V.int .i64 1)).bind fun a11 => f19_l0 t0 t1 a11))
  (finT 0 [] (V.bool true)) :=
 l_eq (by kernel_rfl)
theorem f19_eq (t0 t1 : V) : Cl 19 [t0, t1] [] =
 (lnL (V.weak t0)).bind fun a1 => (lnL (V.weak t1)).bind fun a2 => (bin .neq a1 a2).bind fun a3 => V.ite a3
  (finT 0 [] (V.bool false))
  (f19_l0 t0 t1 (V.int .i64 0)) :=
 f_eq (by kernel_rfl)
noncomputable def f22_l0 (t6 t22 t23 t24 : V) (h : List V) : Rv := lp W 22 0 (cd 22 303) (bk 0 (sk 22 0 63 (lv 22 0))) ⟨[(6, t6), (22, t22), (23, t23), (24, t24)], h⟩
theorem f22_l0_eq (t6 t22 t23 t24 : V) (h : List V) : f22_l0 t6 t22 t23 t24 h =
 (bin .lss t24 t23).bind fun a14 => V.ite a14
  ((ixS 45 t22 t24).bind fun a15 => (ldP h 45 a15).bind fun a16 => (stT (tyG 44) 45 (h ++ [(V.agg 44 [(V.int .i64 0), (V.int .i64 0), (V.int .i64 0)])]) (V.ref (List.length h) [] 45) a16).bind fun a17 => (fA 45 3 0 (V.ref (List.length h) [] 45)).bind fun a18 => (ldP a17 3 a18).bind fun a19 => (fA 45 3 1 (V.ref (List.length h) [] 45)).bind fun a20 => (ldP a17 3 a20).bind fun a21 => (fA 45 2 2 (V.ref (List.length h) [] 45)).bind fun a22 => (ldP a17 2 a22).bind fun a23 => (bsL 3 false (ck [(tyI .i64) a19, (tyI .i64) a21, (tyI .i64) a23] [a19, a21, a23])).bind fun a24 => (Cl 34 (reifyL a17 [(V.str [101, 100, 103, 101]), a24]) []).bind fun a25 => (bin .add t6 a25.1).bind fun a26 => (bin .add t24 (V.int .i64 1)).bind fun a27 => if underL (List.length h) [a26, t22, t23, a27] = true then f22_l0 a26 t22 t23 a27 (List.take (List.length h) a17) else none)
  (if (List.all [(V.int .i64 0), t6] V.okE) = true then finT 0 h (V.tup [t6, (V.int .i64 0)]) else none) :=
 l_eq (by kernel_rfl)
theorem f22_eq (t0 : V) : Cl 22 [t0] [] =
 if ((tyG 23) (V.weak t0) && V.under 0 (V.weak t0)) = true then (ldS [(V.weak t0)] 24 (V.ref 0 [] 24)).bind fun a1 => (Cl 12 (reifyL [(V.weak t0)] [a1]) []).bind fun a2 => (extS a2.1 0).bind fun a3 => (ext a2.1 1).bind fun a4 => (stT (tyG 23) 24 [(V.weak t0), (V.agg 23 [(V.int .i64 0), (V.lst 45 .nil [])])] (V.ref 1 [] 24) a3).bind fun a5 => (bin .neq a4 (V.int .i64 0)).bind fun a6 => V.ite a6
  (if (List.all [a4, (V.str [])] V.okE) = true then finT 0 a5 (V.tup [(V.str []), a4]) else none)
  ((fA 24 3 0 (V.ref 1 [] 24)).bind fun a7 => (ldP a5 3 a7).bind fun a8 => (bsL 3 false (ck [(tyI .i64) a8] [a8])).bind fun a9 => (Cl 34 (reifyL a5 [(V.str [103, 114, 97, 112, 104]), a9]) []).bind fun a10 => (fA 24 22 1 (V.ref 1 [] 24)).bind fun a11 => (ldS a5 22 a11).bind fun a12 => (lnL a12).bind fun a13 => f22_l0 a10.1 a12 a13 (V.int .i64 0) a5) else none :=
 f_eq (by kernel_rfl)
noncomputable def f23_r0 (h : List V) (k : V → List V → Rv) : Rv :=
 k (V.ref (List.length h) [] 24) (h ++ [(V.agg 23 [(V.int .i64 0), (V.lst 45 .nil [])])])
noncomputable def f23_r1 (h : List V) (k : V → List V → Rv) : Rv :=
 k (V.ref (List.length h) [] 24) (h ++ [(V.agg 23 [(V.int .i64 0), (V.lst 45 .nil [])])])
noncomputable def f23_r2 (k : V → Rv) : Rv :=
 k (V.int .i64 1)
noncomputable def f23_l0 (t0 t2 t5 t6 : V) (h : List V) : Rv := lp W 23 0 (cd 23 75) (bk 0 (sk 23 0 15 (lv 23 0))) ⟨[(0, t0), (2, t2), (5, t5), (6, t6)], h⟩
noncomputable def f23_r3 (t0 t6 : V) (k : V → Rv) : Rv :=
 (bin .eql t6 (V.int .i64 1)).bind fun t16 => V.ite t16 (k (V.bool true)) ((bin .neq t0 (V.str [])).bind fun t19 => k t19)
noncomputable def f23_r5 (t0 : V) (h : List V) (k : V → V → V → Rv) : Rv :=
 (Cl 35 (reifyL h [t0, (V.str [10])]) []).bind fun r => (ext r.1 0).bind fun t26 => (ext r.1 1).bind fun t27 => (ext r.1 2).bind fun t28 => k t26 t27 t28
noncomputable def f23_r6 (k : V → V → Rv) : Rv :=
 k (V.str [101, 100, 103, 101]) (V.int .i64 3)
noncomputable def f23_r7 (t6 : V) (k : V → Rv) : Rv :=
 (bin .eql t6 (V.int .i64 1)).bind fun t30 => k t30
noncomputable def f23_r9 (t7 t10 t11 : V) (h : List V) (k : V → V → Rv) : Rv :=
 (Cl 36 (reifyL h [t7, t10, t11]) []).bind fun r => (extS r.1 0).bind fun t36 => (ext r.1 1).bind fun t37 => k t36 t37
noncomputable def f23_r10 (t9 t13 : V) (k : V → Rv) : Rv :=
 (un .not t9).bind fun t39 => V.ite t39 (k (V.bool true)) ((un .not t13).bind fun t42 => k t42)
noncomputable def f23_r11 (t2 t6 : V) (h : List V) (k : V → V → List V → Rv) : Rv :=
 ((ck [] [(V.int .i64 0), (V.lst 45 .nil [])]).map (.agg 23)).bind fun t44 => (stT (tyG 23) 24 h t2 t44).bind fun a1 => k t6 (V.int .i64 52) a1
noncomputable def f23_r12 (t6 : V) (k : V → Rv) : Rv :=
 (bin .eql t6 (V.int .i64 1)).bind fun t47 => k t47
noncomputable def f23_r15 (t8 : V) (k : V → Rv) : Rv :=
 k t8
noncomputable def f23_r4 (t6 : V) (k : V → Rv) : Rv :=
 (bin .add t6 (V.int .i64 1)).bind fun t22 => k t22
noncomputable def f23_r13 (t5 t12 : V) (h : List V) (k : List V → Rv) : Rv :=
 (ixS 3 t12 (V.int .i64 0)).bind fun t49 => (ldP h 3 t49).bind fun t50 => (fA 24 3 0 t5).bind fun t51 => (stT (tyI .i64) 3 h t51 t50).bind fun a1 => k a1
noncomputable def f23_r14 (t5 t12 : V) (h : List V) (k : List V → Rv) : Rv :=
 (fA 24 22 1 t5).bind fun t52 => if sameB t5 t52 = true then (ldTake h 22 t52).bind fun r => (ixS 3 (V.weak t12) (V.int .i64 0)).bind fun t55 => if lowB true [t55] = true then (ldP r.2 3 t55).bind fun t56 => (ixS 3 (V.weak t12) (V.int .i64 1)).bind fun t58 => if lowB true [t58] = true then (ldP r.2 3 t58).bind fun t59 => (ixS 3 (V.weak t12) (V.int .i64 2)).bind fun t61 => if lowB true [t61] = true then (ldP r.2 3 t61).bind fun t62 => ((ck [(tyI .i64) t56, (tyI .i64) t59, (tyI .i64) t62] [t56, t59, t62]).map (.agg 44)).bind fun t63 => (bsL 45 false (ck [(tyG 44) t63] [t63])).bind fun t64 => (apL 45 (tyG 44) false r.2 r.1 t64).bind fun t65 => (fA 24 22 1 t5).bind fun t66 => (stT (tyL 45) 22 r.2 t66 t65).bind fun a1 => k a1 else none else none else none else none
noncomputable def f23_r8 (k : V → V → Rv) : Rv :=
 k (V.str [103, 114, 97, 112, 104]) (V.int .i64 1)
noncomputable def f23_r16 (t5 : V) (h : List V) (k : V → List V → Rv) : Rv :=
 (ldS h 24 t5).bind fun t69 => (Cl 12 (reifyL h [t69]) []).bind fun r => (extS r.1 0).bind fun t71 => (ext r.1 1).bind fun t72 => (stT (tyG 23) 24 h t5 t71).bind fun a1 => k t72 a1
noncomputable def f23_r17 (t2 t5 t14 : V) (h : List V) (k : V → V → List V → Rv) : Rv :=
 (ldS h 24 t5).bind fun t73 => (stT (tyG 23) 24 h t2 t73).bind fun a1 => k (V.int .i64 0) t14 a1
theorem f23_l0_eq (t0 t2 t5 t6 : V) (h : List V) : f23_l0 t0 t2 t5 t6 h =
 f23_r3 t0 t6 fun a6 =>
  V.ite a6
  (f23_r5 t0 h fun a7 a8 a9 =>
  f23_r6 fun a10 a11 =>
  f23_r7 t6 fun a12 =>
  jn (fun a13 a14 => f23_r9 a7 a13 a14 h fun a15 a16 =>
  f23_r10 a9 a16 fun a17 =>
  V.ite a17
  (f23_r11 t2 t6 h fun a18 a19 a20 =>
  (ldS a20 24 t2).bind fun a21 => if (List.all [a19, a18, a21] V.okE) = true then finT 0 a20 (V.tup [a21, a18, a19]) else none)
  (f23_r12 t6 fun a22 =>
  jn (fun a23 => f23_r15 a8 fun a24 =>
  f23_r4 t6 fun a25 =>
  f23_l0 a24 t2 t5 a25 a23)
  (fun (j1 : List V → Rv) => V.ite a22
  (f23_r13 t5 a15 h fun a26 =>
  j1 a26)
  (f23_r14 t5 a15 h fun a27 =>
  j1 a27))))
  (fun (j0 : V → V → Rv) => V.ite a12
  (f23_r8 fun a28 a29 =>
  j0 a28 a29)
  (j0 a10 a11)))
  (f23_r16 t5 h fun a30 a31 =>
  f23_r17 t2 t5 a30 a31 fun a32 a33 a34 =>
  (ldS a34 24 t2).bind fun a35 => if (List.all [a33, a32, a35] V.okE) = true then finT 0 a34 (V.tup [a35, a32, a33]) else none) :=
 l_eq (y_seq <| y_seq <| y_reg (fun K u20 => K ⟨[(0, t0), (2, t2), (5, t5), (6, t6), (20, u20)], h⟩) (funext fun a6 => seqK_n <| y_cond (y_skip <| seqK_n <| y_seq <| y_block <| y_seq <| y_reg (fun K u7 u8 u9 => K ⟨[(2, t2), (5, t5), (6, t6), (7, u7), (8, u8), (9, u9)], h⟩) (funext fun a7 => funext fun a8 => funext fun a9 => seqK_n <| y_seq <| y_reg (fun K u10 u11 => K ⟨[(2, t2), (5, t5), (6, t6), (7, a7), (8, a8), (9, a9), (10, u10), (11, u11)], h⟩) (funext fun a10 => funext fun a11 => seqK_n <| y_seq <| y_seq <| y_reg (fun K u30 => K ⟨[(2, t2), (5, t5), (6, t6), (7, a7), (8, a8), (9, a9), (10, a10), (11, a11), (30, u30)], h⟩) (funext fun a12 => seqK_n <| y_jn (fun K a13 a14 => K ⟨[(2, t2), (5, t5), (6, t6), (7, a7), (8, a8), (9, a9), (10, a13), (11, a14)], h⟩) (funext fun a13 => funext fun a14 => seqK_n <| y_seq <| y_reg (fun K u12 u13 => K ⟨[(2, t2), (5, t5), (6, t6), (8, a8), (9, a9), (12, u12), (13, u13)], h⟩) (funext fun a15 => funext fun a16 => seqK_n <| y_seq <| y_seq <| y_reg (fun K u43 => K ⟨[(2, t2), (5, t5), (6, t6), (8, a8), (12, a15), (43, u43)], h⟩) (funext fun a17 => seqK_n <| y_cond (by kernel_rfl) (y_skip <| seqK_n <| y_seq <| y_seq <| y_reg (fun K u47 => K ⟨[(2, t2), (5, t5), (6, t6), (8, a8), (12, a15), (47, u47)], h⟩) (funext fun a22 => seqK_n <| y_jn (fun K a23 => K ⟨[(2, t2), (5, t5), (6, t6), (8, a8)], a23⟩) (funext fun a23 => by kernel_rfl) (y_cond (y_reg (fun K h' => K ⟨[(2, t2), (5, t5), (6, t6), (8, a8)], h'⟩) (funext fun a26 => rfl)) (y_reg (fun K h' => K ⟨[(2, t2), (5, t5), (6, t6), (8, a8)], h'⟩) (funext fun a27 => rfl)))))))) (y_cond (y_reg (fun K u10 u11 => K ⟨[(2, t2), (5, t5), (6, t6), (7, a7), (8, a8), (9, a9), (10, u10), (11, u11)], h⟩) (funext fun a28 => funext fun a29 => rfl)) (y_skip <| y_nf)))))) (by kernel_rfl)))
theorem f23_eq (t0 : V) : Cl 23 [t0] [] =
 f23_r0 [] fun a1 a2 =>
  f23_r1 a2 fun a3 a4 =>
  f23_r2 fun a5 =>
  f23_l0 t0 a1 a3 a5 a4 :=
 f_eq (by kernel_rfl)
theorem f26_eq (t0 t1 : V) (h : List V) : Cl 26 [t0, t1] h =
 (Cl 40 (normL [t0]) h).bind fun a1 => (Cl 41 (normL [(V.weak a1.1), t1]) a1.2).bind fun a2 => finT (List.length h) a2.2 a1.1 :=
 f_eq (by kernel_rfl)
theorem f27_eq (t0 : V) (h : List V) : Cl 27 [t0] h =
 if ((tyL 45) (V.weak t0) && V.under (List.length h) (V.weak t0)) = true then (if (List.all [(V.ref (List.length h) [] 22)] V.capOk) = true then some (V.clo 42 [(V.ref (List.length h) [] 22)]) else none).bind fun a1 => finK (h ++ [(V.weak t0)]) a1 else none :=
 f_eq (by kernel_rfl)
theorem f28_eq (t0 t1 : V) : Cl 28 [t0, t1] [] =
 if ((tyG 44) t0 && V.under 0 t0) = true then if ((tyG 44) t1 && V.under 1 t1) = true then (fA 45 3 0 (V.ref 0 [] 45)).bind fun a1 => (ldP [t0, t1] 3 a1).bind fun a2 => (fA 45 3 0 (V.ref 1 [] 45)).bind fun a3 => (ldP [t0, t1] 3 a3).bind fun a4 => (bin .neq a2 a4).bind fun a5 => V.ite a5
  ((fA 45 3 0 (V.ref 0 [] 45)).bind fun a6 => (ldP [t0, t1] 3 a6).bind fun a7 => (fA 45 3 0 (V.ref 1 [] 45)).bind fun a8 => (ldP [t0, t1] 3 a8).bind fun a9 => (bin .sub a7 a9).bind fun a10 => finT 0 [t0, t1] a10)
  ((fA 45 3 1 (V.ref 0 [] 45)).bind fun a11 => (ldP [t0, t1] 3 a11).bind fun a12 => (fA 45 3 1 (V.ref 1 [] 45)).bind fun a13 => (ldP [t0, t1] 3 a13).bind fun a14 => (bin .sub a12 a14).bind fun a15 => finT 0 [t0, t1] a15) else none else none :=
 f_eq (by kernel_rfl)
theorem f29_eq (t0 t1 : V) (h : List V) : Cl 29 [t0, t1] h =
 if ((tyG 44) t0 && V.under (List.length h) t0) = true then jn (fun a1 =>
 finT (List.length h) (h ++ [t0]) a1) (fun (a2 : V → Rv) => (fA 45 3 0 (V.ref (List.length h) [] 45)).bind fun a3 => (ldP (h ++ [t0]) 3 a3).bind fun a4 => (bin .lss a4 (V.int .i64 0)).bind fun a5 => V.ite a5 (a2 (V.bool true)) ((fA 45 3 0 (V.ref (List.length h) [] 45)).bind fun a6 => (ldP (h ++ [t0]) 3 a6).bind fun a7 => (fA 24 3 0 t1).bind fun a8 => (ldP (h ++ [t0]) 3 a8).bind fun a9 => (bin .geq a7 a9).bind fun a10 => V.ite a10 (a2 (V.bool true)) ((fA 45 3 1 (V.ref (List.length h) [] 45)).bind fun a11 => (ldP (h ++ [t0]) 3 a11).bind fun a12 => (bin .lss a12 (V.int .i64 0)).bind fun a13 => V.ite a13 (a2 (V.bool true)) ((fA 45 3 1 (V.ref (List.length h) [] 45)).bind fun a14 => (ldP (h ++ [t0]) 3 a14).bind fun a15 => (fA 24 3 0 t1).bind fun a16 => (ldP (h ++ [t0]) 3 a16).bind fun a17 => (bin .geq a15 a17).bind fun a18 => V.ite a18 (a2 (V.bool true)) ((fA 45 2 2 (V.ref (List.length h) [] 45)).bind fun a19 => (ldP (h ++ [t0]) 2 a19).bind fun a20 => (bin .lss a20 (V.int .i64 0)).bind fun a21 => V.ite a21 (a2 (V.bool true)) ((fA 45 2 2 (V.ref (List.length h) [] 45)).bind fun a22 => (ldP (h ++ [t0]) 2 a22).bind fun a23 => (bin .gtr a23 (V.int .i64 1048576)).bind fun a24 => a2 a24)))))) else none :=
 f_eq (by kernel_rfl)
theorem f30_eq (t0 t1 : V) (h : List V) : Cl 30 [t0, t1] h =
 (Cl 43 (normL [t0, t1]) h).bind fun a1 => (bin .geq a1.1 (V.int .i64 0)).bind fun a2 => finT (List.length h) a1.2 a2 :=
 f_eq (by kernel_rfl)
noncomputable def f34_l0 (t0 t7 t8 t9 : V) (h : List V) : Rv := lp W 34 0 (cd 34 37) (bk 0 (sk 34 0 7 (lv 34 0))) ⟨[(0, t0), (7, t7), (8, t8), (9, t9)], h⟩
theorem f34_l0_eq (t0 t7 t8 t9 : V) (h : List V) : f34_l0 t0 t7 t8 t9 h =
 (bin .lss t9 t8).bind fun a2 => V.ite a2
  ((ixS 3 t7 t9).bind fun a3 => (ldP h 3 a3).bind fun a4 => (aps 2 0 [a4] h).bind fun a5 => (bin .add (V.str [32]) a5.1).bind fun a6 => (bin .add t0 a6).bind fun a7 => (bin .add t9 (V.int .i64 1)).bind fun a8 => f34_l0 a7 t7 t8 a8 a5.2)
  ((bin .add t0 (V.str [10])).bind fun a9 => finT 0 h a9) :=
 l_eq (by kernel_rfl)
theorem f34_eq (t0 t1 : V) : Cl 34 [t0, t1] [] =
 (lnL t1).bind fun a1 => f34_l0 t0 t1 a1 (V.int .i64 0) [] :=
 f_eq (by kernel_rfl)
theorem f35_eq (t0 t1 : V) : Cl 35 [t0, t1] [] =
 (Cl 45 (reifyL [] [t0, t1]) []).bind fun a1 => (ext a1.1 0).bind fun a2 => (ext a1.1 1).bind fun a3 => (ext a1.1 2).bind fun a4 => if (List.all [a4, a3, a2] V.okE) = true then finT 0 [] (V.tup [a2, a3, a4]) else none :=
 f_eq (by kernel_rfl)
noncomputable def f36_l0 (t0 t1 t9 t23 t24 t25 : V) (h : List V) : Rv := lp W 36 0 (cd 36 303) (bk 0 (sk 36 0 63 (lv 36 0))) ⟨[(0, t0), (1, t1), (9, t9), (23, t23), (24, t24), (25, t25)], h⟩
theorem f36_l0_eq (t0 t1 t9 t23 t24 t25 : V) (h : List V) : f36_l0 t0 t1 t9 t23 t24 t25 h =
 (bin .lss t25 t24).bind fun a8 => V.ite a8
  ((ixS 9 t23 t25).bind fun a9 => (ldP h 9 a9).bind fun a10 => (aps 1 0 [a10] h).bind fun a11 => (ext a11.1 0).bind fun a12 => (ext a11.1 1).bind fun a13 => jn (fun a14 =>
 V.ite a14
  (if (List.all [(V.bool false), (V.weak (V.lst 3 .nil []))] V.okE) = true then finT 0 a11.2 (V.tup [(V.weak (V.lst 3 .nil [])), (V.bool false)]) else none)
  ((bsL 3 false (ck [(tyI .i64) a12] [a12])).bind fun a15 => (apL 3 (tyI .i64) false a11.2 t9 a15).bind fun a16 => (bin .add t25 (V.int .i64 1)).bind fun a17 => if underL (List.length h) [t0, t1, a16, t23, t24, a17] = true then f36_l0 t0 t1 a16 t23 t24 a17 (List.take (List.length h) a11.2) else none)) (fun (a18 : V → Rv) => (nilE .neq a13).bind fun a19 => V.ite a19 (a18 (V.bool true)) ((lnS a10).bind fun a20 => (bin .gtr a20 (V.int .i64 9)).bind fun a21 => a18 a21)))
  (jn (fun a22 a23 =>
 if (List.all [a23, a22] V.okE) = true then finT 0 h (V.tup [a22, a23]) else none) (fun (a24 : V → V → Rv) => (Cl 34 (reifyL h [t1, (V.weak t9)]) []).bind fun a25 => (bin .add t0 (V.str [10])).bind fun a26 => (bin .eql a25.1 a26).bind fun a27 => V.ite a27 ((Cl 48 (reifyL h [t9]) []).bind fun a28 => (bin .geq a28.1 (V.int .i64 0)).bind fun a29 => a24 (V.weak t9) a29) (a24 (V.weak t9) (V.bool false)))) :=
 l_eq (by kernel_rfl)
theorem f36_eq (t0 t1 t2 : V) : Cl 36 [t0, t1, t2] [] =
 (Cl 46 (reifyL [] [t0, (V.str [32])]) []).bind fun a1 => (lnL (V.weak a1.1)).bind fun a2 => (bin .add (V.int .i64 1) t2).bind fun a3 => (bin .neq a2 a3).bind fun a4 => V.ite a4
  (if (List.all [(V.bool false), (V.weak (V.lst 3 .nil []))] V.okE) = true then finT 0 [] (V.tup [(V.weak (V.lst 3 .nil [])), (V.bool false)]) else none)
  ((bsL 3 false (ck [] [])).bind fun a5 => (slL 9 a1.1 (some (V.int .i64 1)) none none).bind fun a6 => (lnL a6).bind fun a7 => f36_l0 t0 t1 a5 a6 a7 (V.int .i64 0) []) :=
 f_eq (by kernel_rfl)
theorem f40_eq (t0 : V) (h : List V) : Cl 40 [t0] h =
 (aps 42 45 [(V.lst 45 .nil []), t0] h).bind fun a1 => finK a1.2 a1.1 :=
 f_eq (by kernel_rfl)
noncomputable def f41_r0 (t0 : V) (k : V → Rv) : Rv :=
 (lenV P 22 (V.weak t0)).bind fun t6 => k t6
noncomputable def f41_r1 (t0 t1 t4 : V) (h : List V) (k : List V → Rv) : Rv :=
 (conv P h 3 77 t4).bind fun t10 => (Cl 51 (reifyL h [t10]) []).bind fun r => (Cl 50 (normL [t0, (V.int .i64 0), t4, r.1, t1]) h).bind fun a1 => k a1.2
theorem f41_eq (t0 t1 : V) (h : List V) : Cl 41 [t0, t1] h =
 f41_r0 t0 fun a1 =>
  f41_r1 t0 t1 a1 h fun a2 =>
  if (List.all [] V.okE) = true then finT (List.length h) a2 (V.tup []) else none :=
 f_eq (by kernel_rfl)
noncomputable def f43_l0 (t0 t1 t7 t8 : V) (n : Nat) (h : List V) : Rv := lp W 43 0 (cd 43 37) (bk 0 (sk 43 0 7 (lv 43 n))) ⟨[(0, t0), (1, t1), (7, t7), (8, t8)], h⟩
theorem f43_l0_eq (t0 t1 t7 t8 : V) (n : Nat) (h : List V) : f43_l0 t0 t1 t7 t8 n h =
 (bin .lss t8 t7).bind fun a2 => V.ite a2
  ((ixS 45 (V.weak t0) t8).bind fun a3 => (ldP h 45 a3).bind fun a4 => callV P ann W t1 [a4] h fun a5 a6 => if V.noOwn a5 = true then V.ite a5
  (finT n a6 t8)
  ((bin .add t8 (V.int .i64 1)).bind fun a7 => f43_l0 t0 t1 t7 a7 n a6) else none)
  (finT n h (V.int .i64 (-1))) :=
 l_eq (by kernel_rfl)
theorem f43_eq (t0 t1 : V) (h : List V) : Cl 43 [t0, t1] h =
 (lnL (V.weak t0)).bind fun a1 => f43_l0 t0 t1 a1 (V.int .i64 0) (List.length h) h :=
 f_eq (by kernel_rfl)
theorem f45_eq (t0 t1 : V) : Cl 45 [t0, t1] [] =
 (Cl 53 (reifyL [] [t0, t1]) []).bind fun a1 => (bin .geq a1.1 (V.int .i64 0)).bind fun a2 => V.ite a2
  ((slT t0 none (some a1.1)).bind fun a3 => (lnS t1).bind fun a4 => (bin .add a1.1 a4).bind fun a5 => (slT t0 (some a5) none).bind fun a6 => if (List.all [(V.bool true), a6, a3] V.okE) = true then finT 0 [] (V.tup [a3, a6, (V.bool true)]) else none)
  (if (List.all [(V.bool false), (V.str []), t0] V.okE) = true then finT 0 [] (V.tup [t0, (V.str []), (V.bool false)]) else none) :=
 f_eq (by kernel_rfl)
theorem f46_eq (t0 t1 : V) : Cl 46 [t0, t1] [] =
 (Cl 54 (reifyL [] [t0, t1, (V.int .i64 0), (V.int .i64 (-1))]) []).bind fun a1 => finT 0 [] a1.1 :=
 f_eq (by kernel_rfl)
noncomputable def f48_l0 (t0 t3 t4 : V) : Rv := lp W 48 0 (cd 48 151) (bk 0 (sk 48 0 31 (lv 48 0))) ⟨[(0, t0), (3, t3), (4, t4)], []⟩
theorem f48_l0_eq (t0 t3 t4 : V) : f48_l0 t0 t3 t4 =
 (lnL (V.weak t0)).bind fun a5 => (bin .lss t4 a5).bind fun a6 => V.ite a6
  ((ixS 3 (V.weak t0) t4).bind fun a7 => (ldP [] 3 a7).bind fun a8 => (minV t3 a8).bind fun a9 => (bin .add t4 (V.int .i64 1)).bind fun a10 => f48_l0 t0 a9 a10)
  (finT 0 [] t3) :=
 l_eq (by kernel_rfl)
theorem f48_eq (t0 : V) : Cl 48 [t0] [] =
 (lnL (V.weak t0)).bind fun a1 => (bin .lss a1 (V.int .i64 1)).bind fun a2 => V.ite a2
  (none)
  ((ixS 3 (V.weak t0) (V.int .i64 0)).bind fun a3 => (ldP [] 3 a3).bind fun a4 => f48_l0 t0 a4 (V.int .i64 1)) :=
 f_eq (by kernel_rfl)
noncomputable def f50_r0 (k : V → Rv) : Rv :=
 k (V.bool true)
noncomputable def f50_r1 (k : V → Rv) : Rv :=
 k (V.bool true)
noncomputable def f50_l0 (t0 t1 t2 t3 t4 t10 t11 : V) (n : Nat) (h : List V) : Rv := lp W 50 0 (cd 50 19) (bk 0 (lv 50 n)) ⟨[(0, t0), (1, t1), (2, t2), (3, t3), (4, t4), (10, t10), (11, t11)], h⟩
noncomputable def f50_r2 (t1 t2 : V) (k : V → Rv) : Rv :=
 (bin .sub t2 t1).bind fun t23 => k t23
noncomputable def f50_r3 (t12 : V) (k : V → Rv) : Rv :=
 (bin .leq t12 (V.int .i64 12)).bind fun t25 => k t25
noncomputable def f50_r4 (t0 t1 t2 t4 : V) (h : List V) (k : List V → Rv) : Rv :=
 (Cl 57 (normL [t0, t1, t2, t4]) h).bind fun r => k r.2
noncomputable def f50_r5 (t3 : V) (k : V → Rv) : Rv :=
 (bin .eql t3 (V.int .i64 0)).bind fun t32 => k t32
noncomputable def f50_r6 (t0 t1 t2 t4 : V) (h : List V) (k : List V → Rv) : Rv :=
 (Cl 58 (normL [t0, t1, t2, t4]) h).bind fun r => k r.2
noncomputable def f50_r7 (t10 : V) (k : V → Rv) : Rv :=
 (un .not t10).bind fun t39 => k t39
noncomputable def f50_r10 (t0 t1 t2 t4 : V) (h : List V) (k : V → V → List V → Rv) : Rv :=
 (Cl 60 (normL [(V.weak t0), t1, t2, t4]) h).bind fun r => (ext r.1 0).bind fun t53 => (ext r.1 1).bind fun t54 => k t53 t54 r.2
noncomputable def f50_r11 (t14 : V) (k : V → Rv) : Rv :=
 (bin .eql t14 (V.int .i64 2)).bind fun t56 => k t56
noncomputable def f50_r15 (t10 t11 t14 : V) (k : V → Rv) : Rv :=
 V.ite t10 (V.ite t11 ((bin .eql t14 (V.int .i64 1)).bind fun t74 => k t74) (k (V.bool false))) (k (V.bool false))
noncomputable def f50_r17 (t0 t1 t4 t13 : V) (h : List V) (k : V → List V → Rv) : Rv :=
 (bin .gtr t1 (V.int .i64 0)).bind fun t82 => V.ite t82 ((bin .sub t1 (V.int .i64 1)).bind fun t87 => (indexA P 22 (V.weak t0) t87).bind fun t88 => (ldP h 45 t88).bind fun t89 => (indexA P 22 (V.weak t0) t13).bind fun t92 => (ldP h 45 t92).bind fun t93 => callV P ann W t4 [t89, t93] h fun t94 a1 => if V.noOwn t94 = true then (bin .lss t94 (V.int .i64 0)).bind fun t95 => (un .not t95).bind fun t96 => k t96 a1 else none) (k (V.bool false) h)
noncomputable def f50_r18 (t0 t1 t2 t4 t13 : V) (h : List V) (k : V → List V → Rv) : Rv :=
 (Cl 63 (normL [(V.weak t0), t1, t2, t13, t4]) h).bind fun r => k r.1 r.2
noncomputable def f50_r19 (t15 : V) (k : V → Rv) : Rv :=
 k t15
noncomputable def f50_r20 (t0 t1 t2 t4 t13 : V) (h : List V) (k : V → V → List V → Rv) : Rv :=
 (Cl 64 (normL [(V.weak t0), t1, t2, t13, t4]) h).bind fun r => (ext r.1 0).bind fun t112 => (ext r.1 1).bind fun t113 => k t112 t113 r.2
noncomputable def f50_r21 (t17 : V) (k : V → Rv) : Rv :=
 k t17
noncomputable def f50_r22 (t1 t2 t16 : V) (k : V → V → Rv) : Rv :=
 (bin .sub t16 t1).bind fun t117 => (bin .sub t2 t16).bind fun t120 => k t117 t120
noncomputable def f50_r23 (t12 : V) (k : V → Rv) : Rv :=
 (bin .quo t12 (V.int .i64 8)).bind fun t122 => k t122
noncomputable def f50_r24 (t18 t19 : V) (k : V → Rv) : Rv :=
 (bin .lss t18 t19).bind fun t125 => k t125
noncomputable def f50_r25 (t18 t20 : V) (k : V → Rv) : Rv :=
 (bin .geq t18 t20).bind fun t128 => k t128
noncomputable def f50_r26 (t0 t1 t3 t4 t16 : V) (h : List V) (k : List V → Rv) : Rv :=
 (Cl 50 (normL [(V.weak t0), t1, t16, t3, t4]) h).bind fun r => k r.2
noncomputable def f50_r27 (t16 : V) (k : V → Rv) : Rv :=
 (bin .add t16 (V.int .i64 1)).bind fun t136 => k t136
noncomputable def f50_r28 (t19 t20 : V) (k : V → Rv) : Rv :=
 (bin .geq t19 t20).bind fun t139 => k t139
noncomputable def f50_r29 (t0 t2 t3 t4 t16 : V) (h : List V) (k : List V → Rv) : Rv :=
 (bin .add t16 (V.int .i64 1)).bind fun t142 => (Cl 50 (normL [(V.weak t0), t142, t2, t3, t4]) h).bind fun r => k r.2
noncomputable def f50_r30 (t16 : V) (k : V → Rv) : Rv :=
 k t16
noncomputable def f50_r16 (t0 t1 t2 t4 : V) (h : List V) (k : V → List V → Rv) : Rv :=
 (Cl 62 (normL [(V.weak t0), t1, t2, t4]) h).bind fun r => k r.1 r.2
noncomputable def f50_r12 (t0 t1 t2 t4 : V) (h : List V) (k : List V → Rv) : Rv :=
 (Cl 61 (normL [(V.weak t0), t1, t2, t4]) h).bind fun r => k r.2
noncomputable def f50_r13 (t1 t2 t13 : V) (k : V → Rv) : Rv :=
 (bin .sub t2 (V.int .i64 1)).bind fun t63 => (bin .sub t13 t1).bind fun t66 => (bin .sub t63 t66).bind fun t67 => k t67
noncomputable def f50_r14 (k : V → Rv) : Rv :=
 k (V.int .i64 1)
noncomputable def f50_r8 (t0 t1 t2 t4 : V) (h : List V) (k : List V → Rv) : Rv :=
 (Cl 59 (normL [(V.weak t0), t1, t2, t4]) h).bind fun r => k r.2
noncomputable def f50_r9 (t3 : V) (k : V → Rv) : Rv :=
 (bin .sub t3 (V.int .i64 1)).bind fun t46 => k t46
theorem f50_l0_eq (t0 t1 t2 t3 t4 t10 t11 : V) (n : Nat) (h : List V) : f50_l0 t0 t1 t2 t3 t4 t10 t11 n h =
 f50_r2 t1 t2 fun a3 =>
  f50_r3 a3 fun a4 =>
  V.ite a4
  (f50_r4 t0 t1 t2 t4 h fun a5 =>
  if (List.all [] V.okE) = true then finT n a5 (V.tup []) else none)
  (f50_r5 t3 fun a6 =>
  V.ite a6
  (f50_r6 t0 t1 t2 t4 h fun a7 =>
  if (List.all [] V.okE) = true then finT n a7 (V.tup []) else none)
  (f50_r7 t10 fun a8 =>
  jn (fun a9 a10 => f50_r10 t0 t1 t2 t4 a10 fun a11 a12 a13 =>
  f50_r11 a12 fun a14 =>
  jn (fun a15 a16 a17 => f50_r15 t10 t11 a16 fun a18 =>
  jn (fun a19 => f50_r17 t0 t1 t4 a15 a19 fun a20 a21 =>
  V.ite a20
  (f50_r18 t0 t1 t2 t4 a15 a21 fun a22 a23 =>
  f50_r19 a22 fun a24 =>
  f50_l0 t0 a24 t2 a9 t4 t10 t11 n a23)
  (f50_r20 t0 t1 t2 t4 a15 a21 fun a25 a26 a27 =>
  f50_r21 a26 fun a28 =>
  f50_r22 t1 t2 a25 fun a29 a30 =>
  f50_r23 a3 fun a31 =>
  f50_r24 a29 a30 fun a32 =>
  V.ite a32
  (f50_r25 a29 a31 fun a33 =>
  f50_r26 t0 t1 a9 t4 a25 a27 fun a34 =>
  f50_r27 a25 fun a35 =>
  f50_l0 t0 a35 t2 a9 t4 a33 a28 n a34)
  (f50_r28 a30 a31 fun a36 =>
  f50_r29 t0 t2 a9 t4 a25 a27 fun a37 =>
  f50_r30 a25 fun a38 =>
  f50_l0 t0 t1 a38 a9 t4 a36 a28 n a37)))
  (fun (j2 : List V → Rv) => V.ite a18
  (f50_r16 t0 t1 t2 t4 a17 fun a39 a40 =>
  V.ite a39
  (if (List.all [] V.okE) = true then finT n a40 (V.tup []) else none)
  (j2 a40))
  (j2 a17)))
  (fun (j1 : V → V → List V → Rv) => V.ite a14
  (f50_r12 t0 t1 t2 t4 a13 fun a41 =>
  f50_r13 t1 t2 a11 fun a42 =>
  f50_r14 fun a43 =>
  j1 a42 a43 a41)
  (j1 a11 a12 a13)))
  (fun (j0 : V → List V → Rv) => V.ite a8
  (f50_r8 t0 t1 t2 t4 h fun a44 =>
  f50_r9 t3 fun a45 =>
  j0 a45 a44)
  (j0 t3 h)))) :=
 l_eq (y_block <| y_seq <| y_reg (fun K u12 => K ⟨[(0, t0), (1, t1), (2, t2), (3, t3), (4, t4), (10, t10), (11, t11), (12, u12)], h⟩) (funext fun a3 => seqK_n <| y_seq <| y_seq <| y_reg (fun K u25 => K ⟨[(0, t0), (1, t1), (2, t2), (3, t3), (4, t4), (10, t10), (11, t11), (12, a3), (25, u25)], h⟩) (funext fun a4 => seqK_n <| y_cond (by kernel_rfl) (y_skip <| seqK_n <| y_seq <| y_seq <| y_reg (fun K u32 => K ⟨[(0, t0), (1, t1), (2, t2), (3, t3), (4, t4), (10, t10), (11, t11), (12, a3), (32, u32)], h⟩) (funext fun a6 => seqK_n <| y_cond (by kernel_rfl) (y_skip <| seqK_n <| y_seq <| y_seq <| y_reg (fun K u39 => K ⟨[(0, t0), (1, t1), (2, t2), (3, t3), (4, t4), (10, t10), (11, t11), (12, a3), (39, u39)], h⟩) (funext fun a8 => seqK_n <| y_jn (fun K a9 a10 => K ⟨[(0, t0), (1, t1), (2, t2), (3, a9), (4, t4), (10, t10), (11, t11), (12, a3)], a10⟩) (funext fun a9 => funext fun a10 => seqK_n <| y_seq <| y_reg (fun K u13 u14 h' => K ⟨[(0, t0), (1, t1), (2, t2), (3, a9), (4, t4), (10, t10), (11, t11), (12, a3), (13, u13), (14, u14)], h'⟩) (funext fun a11 => funext fun a12 => funext fun a13 => seqK_n <| y_seq <| y_seq <| y_reg (fun K u56 => K ⟨[(0, t0), (1, t1), (2, t2), (3, a9), (4, t4), (10, t10), (11, t11), (12, a3), (13, a11), (14, a12), (56, u56)], a13⟩) (funext fun a14 => seqK_n <| y_jn (fun K a15 a16 a17 => K ⟨[(0, t0), (1, t1), (2, t2), (3, a9), (4, t4), (10, t10), (11, t11), (12, a3), (13, a15), (14, a16)], a17⟩) (funext fun a15 => funext fun a16 => funext fun a17 => seqK_n <| y_seq <| y_seq <| y_reg (fun K u75 => K ⟨[(0, t0), (1, t1), (2, t2), (3, a9), (4, t4), (10, t10), (11, t11), (12, a3), (13, a15), (75, u75)], a17⟩) (funext fun a18 => seqK_n <| y_jn (fun K a19 => K ⟨[(0, t0), (1, t1), (2, t2), (3, a9), (4, t4), (10, t10), (11, t11), (12, a3), (13, a15)], a19⟩) (funext fun a19 => by kernel_rfl) (y_cond (y_seq <| y_reg (fun K u80 h' => K ⟨[(0, t0), (1, t1), (2, t2), (3, a9), (4, t4), (10, t10), (11, t11), (12, a3), (13, a15), (80, u80)], h'⟩) (funext fun a39 => funext fun a40 => seqK_n <| y_cond (by kernel_rfl) (y_skip <| y_nf))) (y_skip <| y_nf)))) (y_cond (y_seq <| y_reg (fun K h' => K ⟨[(0, t0), (1, t1), (2, t2), (3, a9), (4, t4), (10, t10), (11, t11), (12, a3), (13, a11)], h'⟩) (funext fun a41 => seqK_n <| y_seq <| y_reg (fun K u13 => K ⟨[(0, t0), (1, t1), (2, t2), (3, a9), (4, t4), (10, t10), (11, t11), (12, a3), (13, u13)], a41⟩) (funext fun a42 => seqK_n <| y_reg (fun K u14 => K ⟨[(0, t0), (1, t1), (2, t2), (3, a9), (4, t4), (10, t10), (11, t11), (12, a3), (13, a42), (14, u14)], a41⟩) (funext fun a43 => rfl)))) (y_skip <| y_nf))))) (y_cond (y_seq <| y_reg (fun K h' => K ⟨[(0, t0), (1, t1), (2, t2), (3, t3), (4, t4), (10, t10), (11, t11), (12, a3)], h'⟩) (funext fun a44 => seqK_n <| y_reg (fun K u3 => K ⟨[(0, t0), (1, t1), (2, t2), (3, u3), (4, t4), (10, t10), (11, t11), (12, a3)], a44⟩) (funext fun a45 => rfl))) (y_skip <| y_nf)))))))))
theorem f50_eq (t0 t1 t2 t3 t4 : V) (h : List V) : Cl 50 [t0, t1, t2, t3, t4] h =
 f50_r0 fun a1 =>
  f50_r1 fun a2 =>
  f50_l0 t0 t1 t2 t3 t4 a1 a2 (List.length h) h :=
 f_eq (by kernel_rfl)
noncomputable def f51_r0 (k : Rv) : Rv :=
 k
noncomputable def f51_r1 (t0 : V) (k : V → Rv) : Rv :=
 (conv P [] 77 90 t0).bind fun t4 => (Cl 65 (reifyL [] [t4]) []).bind fun r => k r.1
noncomputable def f51_r2 (t0 : V) (k : V → Rv) : Rv :=
 (Cl 66 (reifyL [] [t0]) []).bind fun r => k r.1
theorem f51_eq (t0 : V) : Cl 51 [t0] [] =
 f51_r0 (V.ite (V.bool false)
  (f51_r1 t0 fun a1 =>
  finT 0 [] a1)
  (f51_r2 t0 fun a2 =>
  finT 0 [] a2)) :=
 f_eq (by kernel_rfl)
noncomputable def f54_l0 (t0 t1 t2 t3 t9 t10 : V) (h : List V) : Rv := lp W 54 0 (cd 54 2303) (bk 0 (sk 54 0 1023 (lv 54 0))) ⟨[(0, t0), (1, t1), (2, t2), (3, t3), (9, t9), (10, t10)], h⟩
theorem f54_l0_eq (t0 t1 t2 t3 t9 t10 : V) (h : List V) : f54_l0 t0 t1 t2 t3 t9 t10 h =
 (bin .lss t10 t3).bind fun a12 => V.ite a12
  ((Cl 74 (reifyL h [t0, t1]) []).bind fun a13 => (bin .lss a13.1 (V.int .i64 0)).bind fun a14 => V.ite a14
  ((ixS 9 (V.weak t9) t10).bind fun a15 => (stT tyS 9 h a15 t0).bind fun a16 => (bin .add t10 (V.int .i64 1)).bind fun a17 => (slL 9 t9 none (some a17) none).bind fun a18 => finT 0 a16 a18)
  ((bin .add a13.1 t2).bind fun a19 => (slT t0 none (some a19)).bind fun a20 => (ixS 9 (V.weak t9) t10).bind fun a21 => (stT tyS 9 h a21 a20).bind fun a22 => (lnS t1).bind fun a23 => (bin .add a13.1 a23).bind fun a24 => (slT t0 (some a24) none).bind fun a25 => (bin .add t10 (V.int .i64 1)).bind fun a26 => f54_l0 a25 t1 t2 t3 t9 a26 a22))
  ((ixS 9 (V.weak t9) t10).bind fun a27 => (stT tyS 9 h a27 t0).bind fun a28 => (bin .add t10 (V.int .i64 1)).bind fun a29 => (slL 9 t9 none (some a29) none).bind fun a30 => finT 0 a28 a30) :=
 l_eq (by kernel_rfl)
theorem f54_eq (t0 t1 t2 t3 : V) : Cl 54 [t0, t1, t2, t3] [] =
 (bin .eql t3 (V.int .i64 0)).bind fun a1 => V.ite a1
  (finT 0 [] (V.weak (V.lst 9 .nil [])))
  ((bin .eql t1 (V.str [])).bind fun a2 => V.ite a2
  ((Cl 72 (reifyL [] [t0, t3]) []).bind fun a3 => finT 0 [] a3.1)
  ((bin .lss t3 (V.int .i64 0)).bind fun a4 => jn (fun a5 => (lnS t0).bind fun a6 => (bin .add a6 (V.int .i64 1)).bind fun a7 => (minV a5 a7).bind fun a8 => (mkL 9 (V.str []) a8 a8).bind fun a9 => (toBox [] a9).bind fun a10 => (bin .sub a8 (V.int .i64 1)).bind fun a11 => f54_l0 t0 t1 t2 a11 a10.1 (V.int .i64 0) a10.2)
  (fun (j0 : V → Rv) => V.ite a4
  ((Cl 73 (reifyL [] [t0, t1]) []).bind fun a31 => (bin .add a31.1 (V.int .i64 1)).bind fun a32 => j0 a32)
  (j0 t3)))) :=
 f_eq (by kernel_rfl)
noncomputable def f57_r0 (t1 : V) (k : V → Rv) : Rv :=
 (bin .add t1 (V.int .i64 1)).bind fun t11 => k t11
noncomputable def f57_l0 (t0 t1 t2 t3 t8 : V) (n : Nat) (h : List V) : Rv := lp W 57 0 (cd 57 9) (bk 0 (lv 57 n)) ⟨[(0, t0), (1, t1), (2, t2), (3, t3), (8, t8)], h⟩
noncomputable def f57_r1 (t2 t8 : V) (k : V → Rv) : Rv :=
 (bin .lss t8 t2).bind fun t14 => k t14
noncomputable def f57_r3 (t8 : V) (k : V → Rv) : Rv :=
 k t8
noncomputable def f57_l2 (t0 t1 t2 t3 t8 t9 : V) (n : Nat) (m0 : Nat) (h : List V) : Rv := lp W 57 2 (cd 57 585) (bk 2 (bk 1 (sk 57 0 57 (lk 57 0 m0 9 (bk 0 (lv 57 n)))))) ⟨[(0, t0), (1, t1), (2, t2), (3, t3), (8, t8), (9, t9)], h⟩
noncomputable def f57_r4 (t0 t1 t3 t9 : V) (h : List V) (k : V → List V → Rv) : Rv :=
 (bin .gtr t9 t1).bind fun t20 => V.ite t20 ((indexA P 22 (V.weak t0) t9).bind fun t25 => (ldP h 45 t25).bind fun t26 => (bin .sub t9 (V.int .i64 1)).bind fun t29 => (indexA P 22 (V.weak t0) t29).bind fun t30 => (ldP h 45 t30).bind fun t31 => callV P ann W t3 [t26, t31] h fun t32 a1 => if V.noOwn t32 = true then (bin .lss t32 (V.int .i64 0)).bind fun t33 => k t33 a1 else none) (k (V.bool false) h)
noncomputable def f57_r6 (t0 t9 : V) (h : List V) (k : List V → Rv) : Rv :=
 (bin .sub t9 (V.int .i64 1)).bind fun t41 => (bin .sub t9 (V.int .i64 1)).bind fun t44 => (indexA P 22 (V.weak t0) t44).bind fun t45 => (ldP h 45 t45).bind fun t46 => (indexA P 22 (V.weak t0) t9).bind fun t49 => (ldP h 45 t49).bind fun t50 => (indexA P 22 (V.weak t0) t9).bind fun t51 => (sto P h 45 t51 t46).bind fun a1 => (indexA P 22 (V.weak t0) t41).bind fun t52 => (sto P a1 45 t52 t50).bind fun a2 => k a2
noncomputable def f57_r5 (t9 : V) (k : V → Rv) : Rv :=
 (bin .sub t9 (V.int .i64 1)).bind fun t36 => k t36
noncomputable def f57_r2 (t8 : V) (k : V → Rv) : Rv :=
 (bin .add t8 (V.int .i64 1)).bind fun t16 => k t16
theorem f57_l2_eq (t0 t1 t2 t3 t8 t9 : V) (n : Nat) (m0 : Nat) (h : List V) : f57_l2 t0 t1 t2 t3 t8 t9 n m0 h =
 f57_r4 t0 t1 t3 t9 h fun a4 a5 =>
  V.ite a4
  (f57_r6 t0 t9 a5 fun a6 =>
  f57_r5 t9 fun a7 =>
  f57_l2 t0 t1 t2 t3 t8 a7 n m0 a6)
  (f57_r2 t8 fun a8 =>
  f57_l0 t0 t1 t2 t3 a8 n a5) :=
 l_eq (by kernel_rfl)
theorem f57_l0_eq (t0 t1 t2 t3 t8 : V) (n : Nat) (h : List V) : f57_l0 t0 t1 t2 t3 t8 n h =
 f57_r1 t2 t8 fun a2 =>
  V.ite a2
  (f57_r3 t8 fun a3 =>
  f57_l2 t0 t1 t2 t3 t8 a3 n (List.length h) h)
  (if (List.all [] V.okE) = true then finT n h (V.tup []) else none) :=
 l_eq (by kernel_rfl)
theorem f57_eq (t0 t1 t2 t3 : V) (h : List V) : Cl 57 [t0, t1, t2, t3] h =
 f57_r0 t1 fun a1 =>
  f57_l0 t0 t1 t2 t3 a1 (List.length h) h :=
 f_eq (by kernel_rfl)
noncomputable def f58_r0 (t1 : V) (k : V → Rv) : Rv :=
 k t1
noncomputable def f58_r1 (k : V → Rv) : Rv :=
 k (V.int .i64 0)
noncomputable def f58_r2 (t1 t2 : V) (k : V → Rv) : Rv :=
 (bin .sub t2 t1).bind fun t16 => k t16
noncomputable def f58_r3 (t10 : V) (k : V → Rv) : Rv :=
 (bin .sub t10 (V.int .i64 1)).bind fun t18 => (bin .quo t18 (V.int .i64 2)).bind fun t19 => k t19
noncomputable def f58_l0 (t0 t3 t8 t9 t10 t11 : V) (n : Nat) (h : List V) : Rv := lp W 58 0 (cd 58 151) (bk 0 (sk 58 0 31 (lv 58 n))) ⟨[(0, t0), (3, t3), (8, t8), (9, t9), (10, t10), (11, t11)], h⟩
noncomputable def f58_r4 (t11 : V) (k : V → Rv) : Rv :=
 (bin .geq t11 (V.int .i64 0)).bind fun t21 => k t21
noncomputable def f58_r6 (t0 t3 t8 t10 t11 : V) (h : List V) (k : List V → Rv) : Rv :=
 (Cl 80 (normL [(V.weak t0), t11, t10, t8, t3]) h).bind fun r => k r.2
noncomputable def f58_r5 (t11 : V) (k : V → Rv) : Rv :=
 (bin .sub t11 (V.int .i64 1)).bind fun t23 => k t23
noncomputable def f58_r7 (t10 : V) (k : V → Rv) : Rv :=
 (bin .sub t10 (V.int .i64 1)).bind fun t31 => k t31
noncomputable def f58_l2 (t0 t3 t8 t9 t12 : V) (n : Nat) (h : List V) : Rv := lp W 58 2 (cd 58 159) (bk 2 (lv 58 n)) ⟨[(0, t0), (3, t3), (8, t8), (9, t9), (12, t12)], h⟩
noncomputable def f58_r8 (t12 : V) (k : V → Rv) : Rv :=
 (bin .geq t12 (V.int .i64 0)).bind fun t33 => k t33
noncomputable def f58_r10 (t0 t8 t12 : V) (h : List V) (k : List V → Rv) : Rv :=
 (bin .add t8 t12).bind fun t41 => (bin .add t8 t12).bind fun t45 => (indexA P 22 (V.weak t0) t45).bind fun t46 => (ldP h 45 t46).bind fun t47 => (indexA P 22 (V.weak t0) t8).bind fun t50 => (ldP h 45 t50).bind fun t51 => (indexA P 22 (V.weak t0) t8).bind fun t52 => (sto P h 45 t52 t47).bind fun a1 => (indexA P 22 (V.weak t0) t41).bind fun t53 => (sto P a1 45 t53 t51).bind fun a2 => k a2
noncomputable def f58_r11 (t0 t3 t8 t9 t12 : V) (h : List V) (k : List V → Rv) : Rv :=
 (Cl 80 (normL [(V.weak t0), t9, t12, t8, t3]) h).bind fun r => k r.2
noncomputable def f58_r9 (t12 : V) (k : V → Rv) : Rv :=
 (bin .sub t12 (V.int .i64 1)).bind fun t35 => k t35
theorem f58_l2_eq (t0 t3 t8 t9 t12 : V) (n : Nat) (h : List V) : f58_l2 t0 t3 t8 t9 t12 n h =
 f58_r8 t12 fun a9 =>
  V.ite a9
  (f58_r10 t0 t8 t12 h fun a10 =>
  f58_r11 t0 t3 t8 t9 t12 a10 fun a11 =>
  f58_r9 t12 fun a12 =>
  f58_l2 t0 t3 t8 t9 a12 n a11)
  (if (List.all [] V.okE) = true then finT n h (V.tup []) else none) :=
 l_eq (by kernel_rfl)
theorem f58_l0_eq (t0 t3 t8 t9 t10 t11 : V) (n : Nat) (h : List V) : f58_l0 t0 t3 t8 t9 t10 t11 n h =
 f58_r4 t11 fun a5 =>
  V.ite a5
  (f58_r6 t0 t3 t8 t10 t11 h fun a6 =>
  f58_r5 t11 fun a7 =>
  f58_l0 t0 t3 t8 t9 t10 a7 n a6)
  (f58_r7 t10 fun a8 =>
  f58_l2 t0 t3 t8 t9 a8 n h) :=
 l_eq (by kernel_rfl)
theorem f58_eq (t0 t1 t2 t3 : V) (h : List V) : Cl 58 [t0, t1, t2, t3] h =
 f58_r0 t1 fun a1 =>
  f58_r1 fun a2 =>
  f58_r2 t1 t2 fun a3 =>
  f58_r3 a3 fun a4 =>
  f58_l0 t0 t3 a1 a2 a3 a4 (List.length h) h :=
 f_eq (by kernel_rfl)
noncomputable def f59_r0 (t1 t2 : V) (k : V → Rv) : Rv :=
 (bin .sub t2 t1).bind fun t15 => k t15
noncomputable def f59_r1 (t8 : V) (k : V → Rv) : Rv :=
 (bin .geq t8 (V.int .i64 8)).bind fun t17 => k t17
noncomputable def f59_r2 (t8 : V) (h : List V) (k : V → List V → Rv) : Rv :=
 (conv P h 3 103 t8).bind fun t19 => (sto P (h ++ [zero P 103]) 103 (V.ref (List.length h) [] 103) t19).bind fun a1 => k (V.ref (List.length h) [] 103) a1
noncomputable def f59_r3 (t8 : V) (h : List V) (k : V → Rv) : Rv :=
 (Cl 81 (reifyL h [t8]) []).bind fun r => k r.1
noncomputable def f59_r4 (t1 t8 : V) (k : V → Rv) : Rv :=
 (bin .quo t8 (V.int .i64 4)).bind fun t24 => (bin .mul t24 (V.int .i64 2)).bind fun t25 => (bin .add t1 t25).bind fun t26 => (bin .sub t26 (V.int .i64 1)).bind fun t27 => k t27
noncomputable def f59_l0 (t0 t1 t8 t9 t10 t11 : V) (n : Nat) (h : List V) : Rv := lp W 59 0 (cd 59 315) (bk 0 (lv 59 n)) ⟨[(0, t0), (1, t1), (8, t8), (9, t9), (10, t10), (11, t11)], h⟩
noncomputable def f59_r5 (t1 t8 t11 : V) (k : V → Rv) : Rv :=
 (bin .quo t8 (V.int .i64 4)).bind fun t31 => (bin .mul t31 (V.int .i64 2)).bind fun t32 => (bin .add t1 t32).bind fun t33 => (bin .add t33 (V.int .i64 1)).bind fun t34 => (bin .leq t11 t34).bind fun t35 => k t35
noncomputable def f59_r7 (t9 t10 : V) (h : List V) (k : V → List V → Rv) : Rv :=
 (Cl 82 (normL [t9]) h).bind fun r => (bin .sub t10 (V.int .u64 1)).bind fun t40 => (bin .and r.1 t40).bind fun t41 => (conv P r.2 77 3 t41).bind fun t42 => k t42 r.2
noncomputable def f59_r8 (t8 t12 : V) (k : V → Rv) : Rv :=
 (bin .geq t12 t8).bind fun t45 => k t45
noncomputable def f59_r10 (t0 t1 t11 t12 : V) (h : List V) (k : List V → Rv) : Rv :=
 (bin .add t1 t12).bind fun t54 => (bin .add t1 t12).bind fun t58 => (indexA P 22 (V.weak t0) t58).bind fun t59 => (ldP h 45 t59).bind fun t60 => (indexA P 22 (V.weak t0) t11).bind fun t63 => (ldP h 45 t63).bind fun t64 => (indexA P 22 (V.weak t0) t11).bind fun t65 => (sto P h 45 t65 t60).bind fun a1 => (indexA P 22 (V.weak t0) t54).bind fun t66 => (sto P a1 45 t66 t64).bind fun a2 => k a2
noncomputable def f59_r6 (t11 : V) (k : V → Rv) : Rv :=
 (bin .add t11 (V.int .i64 1)).bind fun t37 => k t37
noncomputable def f59_r9 (t8 t12 : V) (k : V → Rv) : Rv :=
 (bin .sub t12 t8).bind fun t48 => k t48
theorem f59_l0_eq (t0 t1 t8 t9 t10 t11 : V) (n : Nat) (h : List V) : f59_l0 t0 t1 t8 t9 t10 t11 n h =
 f59_r5 t1 t8 t11 fun a7 =>
  V.ite a7
  (f59_r7 t9 t10 h fun a8 a9 =>
  f59_r8 t8 a8 fun a10 =>
  jn (fun a11 => f59_r10 t0 t1 t11 a11 a9 fun a12 =>
  f59_r6 t11 fun a13 =>
  f59_l0 t0 t1 t8 t9 t10 a13 n a12)
  (fun (j0 : V → Rv) => V.ite a10
  (f59_r9 t8 a8 fun a14 =>
  j0 a14)
  (j0 a8)))
  (if (List.all [] V.okE) = true then finT n h (V.tup []) else none) :=
 l_eq (y_seq <| y_seq <| y_reg (fun K u35 => K ⟨[(0, t0), (1, t1), (8, t8), (9, t9), (10, t10), (11, t11), (35, u35)], h⟩) (funext fun a7 => seqK_n <| y_cond (y_skip <| seqK_n <| y_seq <| y_block <| y_seq <| y_reg (fun K u12 h' => K ⟨[(0, t0), (1, t1), (8, t8), (9, t9), (10, t10), (11, t11), (12, u12)], h'⟩) (funext fun a8 => funext fun a9 => seqK_n <| y_seq <| y_seq <| y_reg (fun K u45 => K ⟨[(0, t0), (1, t1), (8, t8), (9, t9), (10, t10), (11, t11), (12, a8), (45, u45)], a9⟩) (funext fun a10 => seqK_n <| y_jn (fun K a11 => K ⟨[(0, t0), (1, t1), (8, t8), (9, t9), (10, t10), (11, t11), (12, a11)], a9⟩) (funext fun a11 => by kernel_rfl) (y_cond (by kernel_rfl) (by kernel_rfl))))) (by kernel_rfl)))
theorem f59_eq (t0 t1 t2 t3 : V) (h : List V) : Cl 59 [t0, t1, t2, t3] h =
 f59_r0 t1 t2 fun a1 =>
  f59_r1 a1 fun a2 =>
  V.ite a2
  (f59_r2 a1 h fun a3 a4 =>
  f59_r3 a1 a4 fun a5 =>
  f59_r4 t1 a1 fun a6 =>
  f59_l0 t0 t1 a1 a3 a5 a6 (List.length h) a4)
  (if (List.all [] V.okE) = true then finT (List.length h) h (V.tup []) else none) :=
 f_eq (by kernel_rfl)
noncomputable def f60_r0 (k : Rv) : Rv :=
 k
noncomputable def f60_r1 (t1 t2 : V) (k : V → Rv) : Rv :=
 (bin .sub t2 t1).bind fun t17 => k t17
noncomputable def f60_r2 (h : List V) (k : V → List V → Rv) : Rv :=
 k (V.ref (List.length h) [] 3) (h ++ [zero P 3])
noncomputable def f60_r3 (t1 t10 : V) (k : V → Rv) : Rv :=
 (bin .quo t10 (V.int .i64 4)).bind fun t20 => (bin .mul t20 (V.int .i64 1)).bind fun t21 => (bin .add t1 t21).bind fun t22 => k t22
noncomputable def f60_r4 (t1 t10 : V) (k : V → Rv) : Rv :=
 (bin .quo t10 (V.int .i64 4)).bind fun t25 => (bin .mul t25 (V.int .i64 2)).bind fun t26 => (bin .add t1 t26).bind fun t27 => k t27
noncomputable def f60_r5 (t1 t10 : V) (k : V → Rv) : Rv :=
 (bin .quo t10 (V.int .i64 4)).bind fun t30 => (bin .mul t30 (V.int .i64 3)).bind fun t31 => (bin .add t1 t31).bind fun t32 => k t32
noncomputable def f60_r6 (t10 : V) (k : V → Rv) : Rv :=
 (bin .geq t10 (V.int .i64 8)).bind fun t34 => k t34
noncomputable def f60_r12 (t11 : V) (h : List V) (k : V → Rv) : Rv :=
 (ldP h 3 t11).bind fun t55 => k t55
noncomputable def f60_r14 (t55 : V) (k : V → Rv) : Rv :=
 (bin .eql t55 (V.int .i64 0)).bind fun t58 => k t58
noncomputable def f60_r15 (t13 : V) (k : V → V → Rv) : Rv :=
 k t13 (V.int .i64 1)
noncomputable def f60_r16 (t55 : V) (k : V → Rv) : Rv :=
 (bin .eql t55 (V.int .i64 12)).bind fun t61 => k t61
noncomputable def f60_r17 (t13 : V) (k : V → V → Rv) : Rv :=
 k t13 (V.int .i64 2)
noncomputable def f60_r13 (t13 : V) (k : V → V → Rv) : Rv :=
 k t13 (V.int .i64 0)
noncomputable def f60_r7 (t10 : V) (k : V → Rv) : Rv :=
 (bin .geq t10 (V.int .i64 50)).bind fun t36 => k t36
noncomputable def f60_r11 (t0 t3 t11 t12 t13 t14 : V) (h : List V) (k : V → List V → Rv) : Rv :=
 (Cl 84 (normL [t0, t12, t13, t14, t11, t3]) h).bind fun r => k r.1 r.2
noncomputable def f60_r8 (t0 t3 t11 t12 : V) (h : List V) (k : V → List V → Rv) : Rv :=
 (Cl 83 (normL [(V.weak t0), t12, t11, t3]) h).bind fun r => k r.1 r.2
noncomputable def f60_r9 (t0 t3 t11 t13 : V) (h : List V) (k : V → List V → Rv) : Rv :=
 (Cl 83 (normL [(V.weak t0), t13, t11, t3]) h).bind fun r => k r.1 r.2
noncomputable def f60_r10 (t0 t3 t11 t14 : V) (h : List V) (k : V → List V → Rv) : Rv :=
 (Cl 83 (normL [(V.weak t0), t14, t11, t3]) h).bind fun r => k r.1 r.2
theorem f60_eq (t0 t1 t2 t3 : V) (h : List V) : Cl 60 [t0, t1, t2, t3] h =
 f60_r0 (f60_r1 t1 t2 fun a1 =>
  f60_r2 h fun a2 a3 =>
  f60_r3 t1 a1 fun a4 =>
  f60_r4 t1 a1 fun a5 =>
  f60_r5 t1 a1 fun a6 =>
  f60_r6 a1 fun a7 =>
  jn (fun a8 a9 => f60_r12 a2 a9 fun a10 =>
  f60_r14 a10 fun a11 =>
  V.ite a11
  (f60_r15 a8 fun a12 a13 =>
  if (List.all [a13, a12] V.okE) = true then finT (List.length h) a9 (V.tup [a12, a13]) else none)
  (f60_r16 a10 fun a14 =>
  V.ite a14
  (f60_r17 a8 fun a15 a16 =>
  if (List.all [a16, a15] V.okE) = true then finT (List.length h) a9 (V.tup [a15, a16]) else none)
  (f60_r13 a8 fun a17 a18 =>
  if (List.all [a18, a17] V.okE) = true then finT (List.length h) a9 (V.tup [a17, a18]) else none)))
  (fun (j0 : V → List V → Rv) => V.ite a7
  (f60_r7 a1 fun a19 =>
  jn (fun a20 a21 a22 a23 => f60_r11 t0 t3 a2 a20 a21 a22 a23 fun a24 a25 =>
  j0 a24 a25)
  (fun (j1 : V → V → V → List V → Rv) => V.ite a19
  (f60_r8 t0 t3 a2 a4 a3 fun a26 a27 =>
  f60_r9 t0 t3 a2 a5 a27 fun a28 a29 =>
  f60_r10 t0 t3 a2 a6 a29 fun a30 a31 =>
  j1 a26 a28 a30 a31)
  (j1 a4 a5 a6 a3)))
  (j0 a5 a3))) :=
 f_eq (y_seq <| y_reg (fun K => K ⟨[(0, t0), (1, t1), (2, t2), (3, t3)], h⟩) (seqK_n <| y_seq <| y_reg (fun K u10 => K ⟨[(0, t0), (1, t1), (3, t3), (10, u10)], h⟩) (funext fun a1 => seqK_n <| y_seq <| y_reg (fun K u11 h' => K ⟨[(0, t0), (1, t1), (3, t3), (10, a1), (11, u11)], h'⟩) (funext fun a2 => funext fun a3 => seqK_n <| y_seq <| y_reg (fun K u12 => K ⟨[(0, t0), (1, t1), (3, t3), (10, a1), (11, a2), (12, u12)], a3⟩) (funext fun a4 => seqK_n <| y_seq <| y_reg (fun K u13 => K ⟨[(0, t0), (1, t1), (3, t3), (10, a1), (11, a2), (12, a4), (13, u13)], a3⟩) (funext fun a5 => seqK_n <| y_seq <| y_reg (fun K u14 => K ⟨[(0, t0), (3, t3), (10, a1), (11, a2), (12, a4), (13, a5), (14, u14)], a3⟩) (funext fun a6 => seqK_n <| y_seq <| y_seq <| y_reg (fun K u34 => K ⟨[(0, t0), (3, t3), (10, a1), (11, a2), (12, a4), (13, a5), (14, a6), (34, u34)], a3⟩) (funext fun a7 => seqK_n <| y_jn (fun K a8 a9 => K ⟨[(11, a2), (13, a8)], a9⟩) (funext fun a8 => funext fun a9 => by kernel_rfl) (y_cond (y_seq <| y_seq <| y_reg (fun K u36 => K ⟨[(0, t0), (3, t3), (11, a2), (12, a4), (13, a5), (14, a6), (36, u36)], a3⟩) (funext fun a19 => seqK_n <| y_jn (fun K a20 a21 a22 a23 => K ⟨[(0, t0), (3, t3), (11, a2), (12, a20), (13, a21), (14, a22)], a23⟩) (funext fun a20 => funext fun a21 => funext fun a22 => funext fun a23 => seqK_n <| y_reg (fun K u13 h' => K ⟨[(11, a2), (13, u13)], h'⟩) (funext fun a24 => funext fun a25 => rfl)) (y_cond (y_seq <| y_reg (fun K u12 h' => K ⟨[(0, t0), (3, t3), (11, a2), (12, u12), (13, a5), (14, a6)], h'⟩) (funext fun a26 => funext fun a27 => seqK_n <| y_seq <| y_reg (fun K u13 h' => K ⟨[(0, t0), (3, t3), (11, a2), (12, a26), (13, u13), (14, a6)], h'⟩) (funext fun a28 => funext fun a29 => seqK_n <| y_reg (fun K u14 h' => K ⟨[(0, t0), (3, t3), (11, a2), (12, a26), (13, a28), (14, u14)], h'⟩) (funext fun a30 => funext fun a31 => rfl)))) (y_skip <| y_nf)))) (y_skip <| y_nf))))))))))
noncomputable def f61_r0 (t1 : V) (k : V → Rv) : Rv :=
 k t1
noncomputable def f61_r1 (t2 : V) (k : V → Rv) : Rv :=
 (bin .sub t2 (V.int .i64 1)).bind fun t12 => k t12
noncomputable def f61_l0 (t0 t8 t9 : V) (n : Nat) (h : List V) : Rv := lp W 61 0 (cd 61 19) (bk 0 (lv 61 n)) ⟨[(0, t0), (8, t8), (9, t9)], h⟩
noncomputable def f61_r2 (t8 t9 : V) (k : V → Rv) : Rv :=
 (bin .lss t8 t9).bind fun t15 => k t15
noncomputable def f61_r3 (t0 t8 t9 : V) (h : List V) (k : List V → Rv) : Rv :=
 (indexA P 22 (V.weak t0) t9).bind fun t22 => (ldP h 45 t22).bind fun t23 => (indexA P 22 (V.weak t0) t8).bind fun t26 => (ldP h 45 t26).bind fun t27 => (indexA P 22 (V.weak t0) t8).bind fun t28 => (sto P h 45 t28 t23).bind fun a1 => (indexA P 22 (V.weak t0) t9).bind fun t29 => (sto P a1 45 t29 t27).bind fun a2 => k a2
noncomputable def f61_r4 (t8 : V) (k : V → Rv) : Rv :=
 (bin .add t8 (V.int .i64 1)).bind fun t31 => k t31
noncomputable def f61_r5 (t9 : V) (k : V → Rv) : Rv :=
 (bin .sub t9 (V.int .i64 1)).bind fun t33 => k t33
theorem f61_l0_eq (t0 t8 t9 : V) (n : Nat) (h : List V) : f61_l0 t0 t8 t9 n h =
 f61_r2 t8 t9 fun a3 =>
  V.ite a3
  (f61_r3 t0 t8 t9 h fun a4 =>
  f61_r4 t8 fun a5 =>
  f61_r5 t9 fun a6 =>
  f61_l0 t0 a5 a6 n a4)
  (if (List.all [] V.okE) = true then finT n h (V.tup []) else none) :=
 l_eq (by kernel_rfl)
theorem f61_eq (t0 t1 t2 t3 : V) (h : List V) : Cl 61 [t0, t1, t2, t3] h =
 f61_r0 t1 fun a1 =>
  f61_r1 t2 fun a2 =>
  f61_l0 t0 a1 a2 (List.length h) h :=
 f_eq (by kernel_rfl)
noncomputable def f62_r0 (k : Rv) : Rv :=
 k
noncomputable def f62_r1 (t1 : V) (k : V → Rv) : Rv :=
 (bin .add t1 (V.int .i64 1)).bind fun t14 => k t14
noncomputable def f62_r2 (k : V → Rv) : Rv :=
 k (V.int .i64 0)
noncomputable def f62_l0 (t0 t1 t2 t3 t9 t10 : V) (n : Nat) (h : List V) : Rv := lp W 62 0 (cd 62 75) (bk 0 (sk 62 0 15 (lv 62 n))) ⟨[(0, t0), (1, t1), (2, t2), (3, t3), (9, t9), (10, t10)], h⟩
noncomputable def f62_r3 (t10 : V) (k : V → Rv) : Rv :=
 (bin .lss t10 (V.int .i64 5)).bind fun t16 => k t16
noncomputable def f62_l2 (t0 t1 t2 t3 t9 t10 : V) (n : Nat) (m0 : Nat) (h : List V) : Rv := lp W 62 2 (cd 62 4171) (bk 2 (sk 62 1 1611 (bk 1 (sk 62 0 459 (lk 62 0 m0 75 (bk 0 (sk 62 0 15 (lv 62 n)))))))) ⟨[(0, t0), (1, t1), (2, t2), (3, t3), (9, t9), (10, t10)], h⟩
noncomputable def f62_r5 (t0 t2 t3 t9 : V) (h : List V) (k : V → List V → Rv) : Rv :=
 (bin .lss t9 t2).bind fun t21 => V.ite t21 ((indexA P 22 (V.weak t0) t9).bind fun t26 => (ldP h 45 t26).bind fun t27 => (bin .sub t9 (V.int .i64 1)).bind fun t30 => (indexA P 22 (V.weak t0) t30).bind fun t31 => (ldP h 45 t31).bind fun t32 => callV P ann W t3 [t27, t32] h fun t33 a1 => if V.noOwn t33 = true then (bin .lss t33 (V.int .i64 0)).bind fun t34 => (un .not t34).bind fun t35 => k t35 a1 else none) (k (V.bool false) h)
noncomputable def f62_r6 (t9 : V) (k : V → Rv) : Rv :=
 (bin .add t9 (V.int .i64 1)).bind fun t38 => k t38
noncomputable def f62_r7 (t2 t9 : V) (k : V → Rv) : Rv :=
 (bin .eql t9 t2).bind fun t41 => k t41
noncomputable def f62_r8 (k : V → Rv) : Rv :=
 k (V.bool true)
noncomputable def f62_r9 (t1 t2 : V) (k : V → Rv) : Rv :=
 (bin .sub t2 t1).bind fun t44 => (bin .lss t44 (V.int .i64 50)).bind fun t45 => k t45
noncomputable def f62_r10 (k : V → Rv) : Rv :=
 k (V.bool false)
noncomputable def f62_r11 (t0 t9 : V) (h : List V) (k : List V → Rv) : Rv :=
 (bin .sub t9 (V.int .i64 1)).bind fun t50 => (bin .sub t9 (V.int .i64 1)).bind fun t53 => (indexA P 22 (V.weak t0) t53).bind fun t54 => (ldP h 45 t54).bind fun t55 => (indexA P 22 (V.weak t0) t9).bind fun t58 => (ldP h 45 t58).bind fun t59 => (indexA P 22 (V.weak t0) t9).bind fun t60 => (sto P h 45 t60 t55).bind fun a1 => (indexA P 22 (V.weak t0) t50).bind fun t61 => (sto P a1 45 t61 t59).bind fun a2 => k a2
noncomputable def f62_r12 (t1 t9 : V) (k : V → Rv) : Rv :=
 (bin .sub t9 t1).bind fun t64 => (bin .geq t64 (V.int .i64 2)).bind fun t65 => k t65
noncomputable def f62_r18 (t2 t9 : V) (k : V → Rv) : Rv :=
 (bin .sub t2 t9).bind fun t103 => (bin .geq t103 (V.int .i64 2)).bind fun t104 => k t104
noncomputable def f62_r19 (t9 : V) (k : V → Rv) : Rv :=
 (bin .add t9 (V.int .i64 1)).bind fun t106 => k t106
noncomputable def f62_l6 (t0 t1 t2 t3 t9 t10 t12 : V) (n : Nat) (m0 : Nat) (h : List V) : Rv := lp W 62 6 (cd 62 622155) (bk 6 (bk 1 (sk 62 0 459 (lk 62 0 m0 75 (bk 0 (sk 62 0 15 (lv 62 n))))))) ⟨[(0, t0), (1, t1), (2, t2), (3, t3), (9, t9), (10, t10), (12, t12)], h⟩
noncomputable def f62_r20 (t2 t12 : V) (k : V → Rv) : Rv :=
 (bin .lss t12 t2).bind fun t109 => k t109
noncomputable def f62_r22 (t0 t3 t12 : V) (h : List V) (k : V → List V → Rv) : Rv :=
 (indexA P 22 (V.weak t0) t12).bind fun t115 => (ldP h 45 t115).bind fun t116 => (bin .sub t12 (V.int .i64 1)).bind fun t119 => (indexA P 22 (V.weak t0) t119).bind fun t120 => (ldP h 45 t120).bind fun t121 => callV P ann W t3 [t116, t121] h fun t122 a1 => if V.noOwn t122 = true then (bin .lss t122 (V.int .i64 0)).bind fun t123 => (un .not t123).bind fun t124 => k t124 a1 else none
noncomputable def f62_r4 (t10 : V) (k : V → Rv) : Rv :=
 (bin .add t10 (V.int .i64 1)).bind fun t18 => k t18
noncomputable def f62_r23 (t0 t12 : V) (h : List V) (k : List V → Rv) : Rv :=
 (bin .sub t12 (V.int .i64 1)).bind fun t129 => (bin .sub t12 (V.int .i64 1)).bind fun t132 => (indexA P 22 (V.weak t0) t132).bind fun t133 => (ldP h 45 t133).bind fun t134 => (indexA P 22 (V.weak t0) t12).bind fun t137 => (ldP h 45 t137).bind fun t138 => (indexA P 22 (V.weak t0) t12).bind fun t139 => (sto P h 45 t139 t134).bind fun a1 => (indexA P 22 (V.weak t0) t129).bind fun t140 => (sto P a1 45 t140 t138).bind fun a2 => k a2
noncomputable def f62_r21 (t12 : V) (k : V → Rv) : Rv :=
 (bin .add t12 (V.int .i64 1)).bind fun t111 => k t111
theorem f62_l6_eq (t0 t1 t2 t3 t9 t10 t12 : V) (n : Nat) (m0 : Nat) (h : List V) : f62_l6 t0 t1 t2 t3 t9 t10 t12 n m0 h =
 f62_r20 t2 t12 fun a16 =>
  V.ite a16
  (f62_r22 t0 t3 t12 h fun a17 a18 =>
  V.ite a17
  (f62_r4 t10 fun a19 =>
  f62_l0 t0 t1 t2 t3 t9 a19 n a18)
  (f62_r23 t0 t12 a18 fun a20 =>
  f62_r21 t12 fun a21 =>
  f62_l6 t0 t1 t2 t3 t9 t10 a21 n m0 a20))
  (f62_r4 t10 fun a22 =>
  f62_l0 t0 t1 t2 t3 t9 a22 n h) :=
 l_eq (by kernel_rfl)
noncomputable def f62_r13 (t9 : V) (k : V → Rv) : Rv :=
 (bin .sub t9 (V.int .i64 1)).bind fun t67 => k t67
noncomputable def f62_l4 (t0 t1 t2 t3 t9 t10 t11 : V) (n : Nat) (m0 : Nat) (h : List V) : Rv := lp W 62 4 (cd 62 613963) (bk 4 (sk 62 1 32331 (bk 1 (sk 62 0 459 (lk 62 0 m0 75 (bk 0 (sk 62 0 15 (lv 62 n)))))))) ⟨[(0, t0), (1, t1), (2, t2), (3, t3), (9, t9), (10, t10), (11, t11)], h⟩
noncomputable def f62_r14 (t11 : V) (k : V → Rv) : Rv :=
 (bin .geq t11 (V.int .i64 1)).bind fun t69 => k t69
noncomputable def f62_r16 (t0 t3 t11 : V) (h : List V) (k : V → List V → Rv) : Rv :=
 (indexA P 22 (V.weak t0) t11).bind fun t75 => (ldP h 45 t75).bind fun t76 => (bin .sub t11 (V.int .i64 1)).bind fun t79 => (indexA P 22 (V.weak t0) t79).bind fun t80 => (ldP h 45 t80).bind fun t81 => callV P ann W t3 [t76, t81] h fun t82 a1 => if V.noOwn t82 = true then (bin .lss t82 (V.int .i64 0)).bind fun t83 => (un .not t83).bind fun t84 => k t84 a1 else none
noncomputable def f62_r17 (t0 t11 : V) (h : List V) (k : List V → Rv) : Rv :=
 (bin .sub t11 (V.int .i64 1)).bind fun t89 => (bin .sub t11 (V.int .i64 1)).bind fun t92 => (indexA P 22 (V.weak t0) t92).bind fun t93 => (ldP h 45 t93).bind fun t94 => (indexA P 22 (V.weak t0) t11).bind fun t97 => (ldP h 45 t97).bind fun t98 => (indexA P 22 (V.weak t0) t11).bind fun t99 => (sto P h 45 t99 t94).bind fun a1 => (indexA P 22 (V.weak t0) t89).bind fun t100 => (sto P a1 45 t100 t98).bind fun a2 => k a2
noncomputable def f62_r15 (t11 : V) (k : V → Rv) : Rv :=
 (bin .sub t11 (V.int .i64 1)).bind fun t71 => k t71
theorem f62_l4_eq (t0 t1 t2 t3 t9 t10 t11 : V) (n : Nat) (m0 : Nat) (h : List V) : f62_l4 t0 t1 t2 t3 t9 t10 t11 n m0 h =
 f62_r14 t11 fun a25 =>
  V.ite a25
  (f62_r16 t0 t3 t11 h fun a26 a27 =>
  V.ite a26
  (f62_r18 t2 t9 fun a28 =>
  V.ite a28
  (f62_r19 t9 fun a29 =>
  f62_l6 t0 t1 t2 t3 t9 t10 a29 n m0 a27)
  (f62_r4 t10 fun a30 =>
  f62_l0 t0 t1 t2 t3 t9 a30 n a27))
  (f62_r17 t0 t11 a27 fun a31 =>
  f62_r15 t11 fun a32 =>
  f62_l4 t0 t1 t2 t3 t9 t10 a32 n m0 a31))
  (f62_r18 t2 t9 fun a33 =>
  V.ite a33
  (f62_r19 t9 fun a34 =>
  f62_l6 t0 t1 t2 t3 t9 t10 a34 n m0 h)
  (f62_r4 t10 fun a35 =>
  f62_l0 t0 t1 t2 t3 t9 a35 n h)) :=
 l_eq (by kernel_rfl)
theorem f62_l2_eq (t0 t1 t2 t3 t9 t10 : V) (n : Nat) (m0 : Nat) (h : List V) : f62_l2 t0 t1 t2 t3 t9 t10 n m0 h =
 f62_r5 t0 t2 t3 t9 h fun a4 a5 =>
  V.ite a4
  (f62_r6 t9 fun a6 =>
  f62_l2 t0 t1 t2 t3 a6 t10 n m0 a5)
  (f62_r7 t2 t9 fun a7 =>
  V.ite a7
  (f62_r8 fun a8 =>
  finT n a5 a8)
  (f62_r9 t1 t2 fun a9 =>
  V.ite a9
  (f62_r10 fun a10 =>
  finT n a5 a10)
  (f62_r11 t0 t9 a5 fun a11 =>
  f62_r12 t1 t9 fun a12 =>
  jn (fun a13 => f62_r18 t2 t9 fun a14 =>
  V.ite a14
  (f62_r19 t9 fun a15 =>
  f62_l6 t0 t1 t2 t3 t9 t10 a15 n m0 a13)
  (f62_r4 t10 fun a23 =>
  f62_l0 t0 t1 t2 t3 t9 a23 n a13))
  (fun (j0 : List V → Rv) => V.ite a12
  (f62_r13 t9 fun a24 =>
  f62_l4 t0 t1 t2 t3 t9 t10 a24 n m0 a11)
  (j0 a11))))) :=
 l_eq (y_seq <| y_seq <| y_reg (fun K u36 h' => K ⟨[(0, t0), (1, t1), (2, t2), (3, t3), (9, t9), (10, t10), (36, u36)], h'⟩) (funext fun a4 => funext fun a5 => seqK_n <| y_cond (by kernel_rfl) (y_exit <| seqK_x <| loopK_x <| blockK_h <| seqK_n <| y_seq <| y_seq <| y_reg (fun K u41 => K ⟨[(0, t0), (1, t1), (2, t2), (3, t3), (9, t9), (10, t10), (41, u41)], a5⟩) (funext fun a7 => seqK_n <| y_cond (by kernel_rfl) (y_skip <| seqK_n <| y_seq <| y_seq <| y_reg (fun K u45 => K ⟨[(0, t0), (1, t1), (2, t2), (3, t3), (9, t9), (10, t10), (45, u45)], a5⟩) (funext fun a9 => seqK_n <| y_cond (by kernel_rfl) (y_skip <| seqK_n <| y_seq <| y_reg (fun K h' => K ⟨[(0, t0), (1, t1), (2, t2), (3, t3), (9, t9), (10, t10)], h'⟩) (funext fun a11 => seqK_n <| y_seq <| y_seq <| y_reg (fun K u65 => K ⟨[(0, t0), (1, t1), (2, t2), (3, t3), (9, t9), (10, t10), (65, u65)], a11⟩) (funext fun a12 => seqK_n <| y_jn (fun K a13 => K ⟨[(0, t0), (1, t1), (2, t2), (3, t3), (9, t9), (10, t10)], a13⟩) (funext fun a13 => by kernel_rfl) (y_cond (by kernel_rfl) (by kernel_rfl)))))))))))
noncomputable def f62_r24 (k : V → Rv) : Rv :=
 k (V.bool false)
theorem f62_l0_eq (t0 t1 t2 t3 t9 t10 : V) (n : Nat) (h : List V) : f62_l0 t0 t1 t2 t3 t9 t10 n h =
 f62_r3 t10 fun a3 =>
  V.ite a3
  (f62_l2 t0 t1 t2 t3 t9 t10 n (List.length h) h)
  (f62_r24 fun a36 =>
  finT n h a36) :=
 l_eq (by kernel_rfl)
theorem f62_eq (t0 t1 t2 t3 : V) (h : List V) : Cl 62 [t0, t1, t2, t3] h =
 f62_r0 (f62_r1 t1 fun a1 =>
  f62_r2 fun a2 =>
  f62_l0 t0 t1 t2 t3 a1 a2 (List.length h) h) :=
 f_eq (by kernel_rfl)
noncomputable def f63_r0 (k : Rv) : Rv :=
 k
noncomputable def f63_r1 (t0 t1 t3 : V) (h : List V) (k : List V → Rv) : Rv :=
 (indexA P 22 (V.weak t0) t3).bind fun t19 => (ldP h 45 t19).bind fun t20 => (indexA P 22 (V.weak t0) t1).bind fun t23 => (ldP h 45 t23).bind fun t24 => (indexA P 22 (V.weak t0) t1).bind fun t25 => (sto P h 45 t25 t20).bind fun a1 => (indexA P 22 (V.weak t0) t3).bind fun t26 => (sto P a1 45 t26 t24).bind fun a2 => k a2
noncomputable def f63_r2 (t1 t2 : V) (k : V → V → Rv) : Rv :=
 (bin .add t1 (V.int .i64 1)).bind fun t28 => (bin .sub t2 (V.int .i64 1)).bind fun t30 => k t28 t30
noncomputable def f63_l0 (t0 t1 t4 t11 t12 : V) (n : Nat) (h : List V) : Rv := lp W 63 0 (cd 63 71) (bk 0 (sk 63 0 31 (lv 63 n))) ⟨[(0, t0), (1, t1), (4, t4), (11, t11), (12, t12)], h⟩
noncomputable def f63_l2 (t0 t1 t4 t11 t12 : V) (n : Nat) (m0 : Nat) (h : List V) : Rv := lp W 63 2 (cd 63 1031) (bk 2 (sk 63 1 391 (bk 1 (lk 63 0 m0 71 (bk 0 (sk 63 0 31 (lv 63 n))))))) ⟨[(0, t0), (1, t1), (4, t4), (11, t11), (12, t12)], h⟩
noncomputable def f63_r3 (t0 t1 t4 t11 t12 : V) (h : List V) (k : V → List V → Rv) : Rv :=
 (bin .leq t11 t12).bind fun t33 => V.ite t33 ((indexA P 22 (V.weak t0) t1).bind fun t38 => (ldP h 45 t38).bind fun t39 => (indexA P 22 (V.weak t0) t11).bind fun t42 => (ldP h 45 t42).bind fun t43 => callV P ann W t4 [t39, t43] h fun t44 a1 => if V.noOwn t44 = true then (bin .lss t44 (V.int .i64 0)).bind fun t45 => (un .not t45).bind fun t46 => k t46 a1 else none) (k (V.bool false) h)
noncomputable def f63_r4 (t11 : V) (k : V → Rv) : Rv :=
 (bin .add t11 (V.int .i64 1)).bind fun t49 => k t49
noncomputable def f63_l4 (t0 t1 t4 t11 t12 : V) (n : Nat) (m0 : Nat) (h : List V) : Rv := lp W 63 4 (cd 63 2183) (bk 4 (sk 63 1 903 (bk 1 (lk 63 0 m0 71 (bk 0 (sk 63 0 31 (lv 63 n))))))) ⟨[(0, t0), (1, t1), (4, t4), (11, t11), (12, t12)], h⟩
noncomputable def f63_r5 (t0 t1 t4 t11 t12 : V) (h : List V) (k : V → List V → Rv) : Rv :=
 (bin .leq t11 t12).bind fun t52 => V.ite t52 ((indexA P 22 (V.weak t0) t1).bind fun t57 => (ldP h 45 t57).bind fun t58 => (indexA P 22 (V.weak t0) t12).bind fun t61 => (ldP h 45 t61).bind fun t62 => callV P ann W t4 [t58, t62] h fun t63 a1 => if V.noOwn t63 = true then (bin .lss t63 (V.int .i64 0)).bind fun t64 => k t64 a1 else none) (k (V.bool false) h)
noncomputable def f63_r6 (t12 : V) (k : V → Rv) : Rv :=
 (bin .sub t12 (V.int .i64 1)).bind fun t67 => k t67
noncomputable def f63_r7 (t11 t12 : V) (k : V → Rv) : Rv :=
 (bin .gtr t11 t12).bind fun t70 => k t70
noncomputable def f63_r11 (t11 : V) (k : V → Rv) : Rv :=
 k t11
noncomputable def f63_r8 (t0 t11 t12 : V) (h : List V) (k : List V → Rv) : Rv :=
 (indexA P 22 (V.weak t0) t12).bind fun t77 => (ldP h 45 t77).bind fun t78 => (indexA P 22 (V.weak t0) t11).bind fun t81 => (ldP h 45 t81).bind fun t82 => (indexA P 22 (V.weak t0) t11).bind fun t83 => (sto P h 45 t83 t78).bind fun a1 => (indexA P 22 (V.weak t0) t12).bind fun t84 => (sto P a1 45 t84 t82).bind fun a2 => k a2
noncomputable def f63_r9 (t11 : V) (k : V → Rv) : Rv :=
 (bin .add t11 (V.int .i64 1)).bind fun t86 => k t86
noncomputable def f63_r10 (t12 : V) (k : V → Rv) : Rv :=
 (bin .sub t12 (V.int .i64 1)).bind fun t88 => k t88
theorem f63_l4_eq (t0 t1 t4 t11 t12 : V) (n : Nat) (m0 : Nat) (h : List V) : f63_l4 t0 t1 t4 t11 t12 n m0 h =
 f63_r5 t0 t1 t4 t11 t12 h fun a7 a8 =>
  V.ite a7
  (f63_r6 t12 fun a9 =>
  f63_l4 t0 t1 t4 t11 a9 n m0 a8)
  (f63_r7 t11 t12 fun a10 =>
  V.ite a10
  (f63_r11 t11 fun a11 =>
  finT n a8 a11)
  (f63_r8 t0 t11 t12 a8 fun a12 =>
  f63_r9 t11 fun a13 =>
  f63_r10 t12 fun a14 =>
  f63_l0 t0 t1 t4 a13 a14 n a12)) :=
 l_eq (by kernel_rfl)
theorem f63_l2_eq (t0 t1 t4 t11 t12 : V) (n : Nat) (m0 : Nat) (h : List V) : f63_l2 t0 t1 t4 t11 t12 n m0 h =
 f63_r3 t0 t1 t4 t11 t12 h fun a4 a5 =>
  V.ite a4
  (f63_r4 t11 fun a6 =>
  f63_l2 t0 t1 t4 a6 t12 n m0 a5)
  (f63_l4 t0 t1 t4 t11 t12 n m0 a5) :=
 l_eq (by kernel_rfl)
theorem f63_l0_eq (t0 t1 t4 t11 t12 : V) (n : Nat) (h : List V) : f63_l0 t0 t1 t4 t11 t12 n h =
 f63_l2 t0 t1 t4 t11 t12 n (List.length h) h :=
 l_eq (by kernel_rfl)
theorem f63_eq (t0 t1 t2 t3 t4 : V) (h : List V) : Cl 63 [t0, t1, t2, t3, t4] h =
 f63_r0 (f63_r1 t0 t1 t3 h fun a1 =>
  f63_r2 t1 t2 fun a2 a3 =>
  f63_l0 t0 t1 t4 a2 a3 (List.length h) a1) :=
 f_eq (by kernel_rfl)
noncomputable def f64_r0 (k : Rv) : Rv :=
 k
noncomputable def f64_r1 (t0 t1 t3 : V) (h : List V) (k : List V → Rv) : Rv :=
 (indexA P 22 (V.weak t0) t3).bind fun t20 => (ldP h 45 t20).bind fun t21 => (indexA P 22 (V.weak t0) t1).bind fun t24 => (ldP h 45 t24).bind fun t25 => (indexA P 22 (V.weak t0) t1).bind fun t26 => (sto P h 45 t26 t21).bind fun a1 => (indexA P 22 (V.weak t0) t3).bind fun t27 => (sto P a1 45 t27 t25).bind fun a2 => k a2
noncomputable def f64_r2 (t1 t2 : V) (k : V → V → Rv) : Rv :=
 (bin .add t1 (V.int .i64 1)).bind fun t29 => (bin .sub t2 (V.int .i64 1)).bind fun t31 => k t29 t31
noncomputable def f64_l0 (t0 t1 t4 t12 t13 : V) (n : Nat) (h : List V) : Rv := lp W 64 0 (cd 64 71) (bk 0 (sk 64 0 31 (lv 64 n))) ⟨[(0, t0), (1, t1), (4, t4), (12, t12), (13, t13)], h⟩
noncomputable def f64_r3 (t0 t1 t4 t12 t13 : V) (h : List V) (k : V → List V → Rv) : Rv :=
 (bin .leq t12 t13).bind fun t34 => V.ite t34 ((indexA P 22 (V.weak t0) t12).bind fun t39 => (ldP h 45 t39).bind fun t40 => (indexA P 22 (V.weak t0) t1).bind fun t43 => (ldP h 45 t43).bind fun t44 => callV P ann W t4 [t40, t44] h fun t45 a1 => if V.noOwn t45 = true then (bin .lss t45 (V.int .i64 0)).bind fun t46 => k t46 a1 else none) (k (V.bool false) h)
noncomputable def f64_r4 (t12 : V) (k : V → Rv) : Rv :=
 (bin .add t12 (V.int .i64 1)).bind fun t49 => k t49
noncomputable def f64_l2 (t0 t1 t4 t12 t13 : V) (n : Nat) (h : List V) : Rv := lp W 64 2 (cd 64 143) (bk 2 (sk 64 0 63 (lv 64 n))) ⟨[(0, t0), (1, t1), (4, t4), (12, t12), (13, t13)], h⟩
noncomputable def f64_r5 (t0 t1 t4 t12 t13 : V) (h : List V) (k : V → List V → Rv) : Rv :=
 (bin .leq t12 t13).bind fun t52 => V.ite t52 ((indexA P 22 (V.weak t0) t13).bind fun t57 => (ldP h 45 t57).bind fun t58 => (indexA P 22 (V.weak t0) t1).bind fun t61 => (ldP h 45 t61).bind fun t62 => callV P ann W t4 [t58, t62] h fun t63 a1 => if V.noOwn t63 = true then (bin .lss t63 (V.int .i64 0)).bind fun t64 => (un .not t64).bind fun t65 => k t65 a1 else none) (k (V.bool false) h)
noncomputable def f64_r6 (t13 : V) (k : V → Rv) : Rv :=
 (bin .sub t13 (V.int .i64 1)).bind fun t68 => k t68
noncomputable def f64_r7 (t12 t13 : V) (k : V → Rv) : Rv :=
 (bin .gtr t12 t13).bind fun t71 => k t71
noncomputable def f64_r8 (t0 t1 t13 : V) (h : List V) (k : List V → Rv) : Rv :=
 (indexA P 22 (V.weak t0) t1).bind fun t78 => (ldP h 45 t78).bind fun t79 => (indexA P 22 (V.weak t0) t13).bind fun t82 => (ldP h 45 t82).bind fun t83 => (indexA P 22 (V.weak t0) t13).bind fun t84 => (sto P h 45 t84 t79).bind fun a1 => (indexA P 22 (V.weak t0) t1).bind fun t85 => (sto P a1 45 t85 t83).bind fun a2 => k a2
noncomputable def f64_r9 (t13 : V) (k : V → V → Rv) : Rv :=
 k t13 (V.bool true)
noncomputable def f64_r10 (t0 t12 t13 : V) (h : List V) (k : List V → Rv) : Rv :=
 (indexA P 22 (V.weak t0) t13).bind fun t93 => (ldP h 45 t93).bind fun t94 => (indexA P 22 (V.weak t0) t12).bind fun t97 => (ldP h 45 t97).bind fun t98 => (indexA P 22 (V.weak t0) t12).bind fun t99 => (sto P h 45 t99 t94).bind fun a1 => (indexA P 22 (V.weak t0) t13).bind fun t100 => (sto P a1 45 t100 t98).bind fun a2 => k a2
noncomputable def f64_r11 (t12 : V) (k : V → Rv) : Rv :=
 (bin .add t12 (V.int .i64 1)).bind fun t102 => k t102
noncomputable def f64_r12 (t13 : V) (k : V → Rv) : Rv :=
 (bin .sub t13 (V.int .i64 1)).bind fun t104 => k t104
noncomputable def f64_l4 (t0 t1 t4 t12 t13 : V) (n : Nat) (h : List V) : Rv := lp W 64 4 (cd 64 4607) (bk 4 (sk 64 0 2047 (lv 64 n))) ⟨[(0, t0), (1, t1), (4, t4), (12, t12), (13, t13)], h⟩
noncomputable def f64_l6 (t0 t1 t4 t12 t13 : V) (n : Nat) (m4 : Nat) (h : List V) : Rv := lp W 64 6 (cd 64 66047) (bk 6 (sk 64 5 25087 (bk 5 (lk 64 4 m4 4607 (bk 4 (sk 64 0 2047 (lv 64 n))))))) ⟨[(0, t0), (1, t1), (4, t4), (12, t12), (13, t13)], h⟩
noncomputable def f64_r13 (t0 t1 t4 t12 t13 : V) (h : List V) (k : V → List V → Rv) : Rv :=
 (bin .leq t12 t13).bind fun t107 => V.ite t107 ((indexA P 22 (V.weak t0) t12).bind fun t112 => (ldP h 45 t112).bind fun t113 => (indexA P 22 (V.weak t0) t1).bind fun t116 => (ldP h 45 t116).bind fun t117 => callV P ann W t4 [t113, t117] h fun t118 a1 => if V.noOwn t118 = true then (bin .lss t118 (V.int .i64 0)).bind fun t119 => k t119 a1 else none) (k (V.bool false) h)
noncomputable def f64_r14 (t12 : V) (k : V → Rv) : Rv :=
 (bin .add t12 (V.int .i64 1)).bind fun t122 => k t122
noncomputable def f64_l8 (t0 t1 t4 t12 t13 : V) (n : Nat) (m4 : Nat) (h : List V) : Rv := lp W 64 8 (cd 64 139775) (bk 8 (sk 64 5 57855 (bk 5 (lk 64 4 m4 4607 (bk 4 (sk 64 0 2047 (lv 64 n))))))) ⟨[(0, t0), (1, t1), (4, t4), (12, t12), (13, t13)], h⟩
noncomputable def f64_r15 (t0 t1 t4 t12 t13 : V) (h : List V) (k : V → List V → Rv) : Rv :=
 (bin .leq t12 t13).bind fun t125 => V.ite t125 ((indexA P 22 (V.weak t0) t13).bind fun t130 => (ldP h 45 t130).bind fun t131 => (indexA P 22 (V.weak t0) t1).bind fun t134 => (ldP h 45 t134).bind fun t135 => callV P ann W t4 [t131, t135] h fun t136 a1 => if V.noOwn t136 = true then (bin .lss t136 (V.int .i64 0)).bind fun t137 => (un .not t137).bind fun t138 => k t138 a1 else none) (k (V.bool false) h)
noncomputable def f64_r16 (t13 : V) (k : V → Rv) : Rv :=
 (bin .sub t13 (V.int .i64 1)).bind fun t141 => k t141
noncomputable def f64_r17 (t12 t13 : V) (k : V → Rv) : Rv :=
 (bin .gtr t12 t13).bind fun t144 => k t144
noncomputable def f64_r21 (t0 t1 t13 : V) (h : List V) (k : List V → Rv) : Rv :=
 (indexA P 22 (V.weak t0) t1).bind fun t169 => (ldP h 45 t169).bind fun t170 => (indexA P 22 (V.weak t0) t13).bind fun t173 => (ldP h 45 t173).bind fun t174 => (indexA P 22 (V.weak t0) t13).bind fun t175 => (sto P h 45 t175 t170).bind fun a1 => (indexA P 22 (V.weak t0) t1).bind fun t176 => (sto P a1 45 t176 t174).bind fun a2 => k a2
noncomputable def f64_r22 (t13 : V) (k : V → V → Rv) : Rv :=
 k t13 (V.bool false)
noncomputable def f64_r18 (t0 t12 t13 : V) (h : List V) (k : List V → Rv) : Rv :=
 (indexA P 22 (V.weak t0) t13).bind fun t151 => (ldP h 45 t151).bind fun t152 => (indexA P 22 (V.weak t0) t12).bind fun t155 => (ldP h 45 t155).bind fun t156 => (indexA P 22 (V.weak t0) t12).bind fun t157 => (sto P h 45 t157 t152).bind fun a1 => (indexA P 22 (V.weak t0) t13).bind fun t158 => (sto P a1 45 t158 t156).bind fun a2 => k a2
noncomputable def f64_r19 (t12 : V) (k : V → Rv) : Rv :=
 (bin .add t12 (V.int .i64 1)).bind fun t160 => k t160
noncomputable def f64_r20 (t13 : V) (k : V → Rv) : Rv :=
 (bin .sub t13 (V.int .i64 1)).bind fun t162 => k t162
theorem f64_l8_eq (t0 t1 t4 t12 t13 : V) (n : Nat) (m4 : Nat) (h : List V) : f64_l8 t0 t1 t4 t12 t13 n m4 h =
 f64_r15 t0 t1 t4 t12 t13 h fun a20 a21 =>
  V.ite a20
  (f64_r16 t13 fun a22 =>
  f64_l8 t0 t1 t4 t12 a22 n m4 a21)
  (f64_r17 t12 t13 fun a23 =>
  V.ite a23
  (f64_r21 t0 t1 t13 a21 fun a24 =>
  f64_r22 t13 fun a25 a26 =>
  if (List.all [a26, a25] V.okE) = true then finT n a24 (V.tup [a25, a26]) else none)
  (f64_r18 t0 t12 t13 a21 fun a27 =>
  f64_r19 t12 fun a28 =>
  f64_r20 t13 fun a29 =>
  f64_l4 t0 t1 t4 a28 a29 n a27)) :=
 l_eq (by kernel_rfl)
theorem f64_l6_eq (t0 t1 t4 t12 t13 : V) (n : Nat) (m4 : Nat) (h : List V) : f64_l6 t0 t1 t4 t12 t13 n m4 h =
 f64_r13 t0 t1 t4 t12 t13 h fun a17 a18 =>
  V.ite a17
  (f64_r14 t12 fun a19 =>
  f64_l6 t0 t1 t4 a19 t13 n m4 a18)
  (f64_l8 t0 t1 t4 t12 t13 n m4 a18) :=
 l_eq (by kernel_rfl)
theorem f64_l4_eq (t0 t1 t4 t12 t13 : V) (n : Nat) (h : List V) : f64_l4 t0 t1 t4 t12 t13 n h =
 f64_l6 t0 t1 t4 t12 t13 n (List.length h) h :=
 l_eq (by kernel_rfl)
theorem f64_l2_eq (t0 t1 t4 t12 t13 : V) (n : Nat) (h : List V) : f64_l2 t0 t1 t4 t12 t13 n h =
 f64_r5 t0 t1 t4 t12 t13 h fun a7 a8 =>
  V.ite a7
  (f64_r6 t13 fun a9 =>
  f64_l2 t0 t1 t4 t12 a9 n a8)
  (f64_r7 t12 t13 fun a10 =>
  V.ite a10
  (f64_r8 t0 t1 t13 a8 fun a11 =>
  f64_r9 t13 fun a12 a13 =>
  if (List.all [a13, a12] V.okE) = true then finT n a11 (V.tup [a12, a13]) else none)
  (f64_r10 t0 t12 t13 a8 fun a14 =>
  f64_r11 t12 fun a15 =>
  f64_r12 t13 fun a16 =>
  f64_l4 t0 t1 t4 a15 a16 n a14)) :=
 l_eq (by kernel_rfl)
theorem f64_l0_eq (t0 t1 t4 t12 t13 : V) (n : Nat) (h : List V) : f64_l0 t0 t1 t4 t12 t13 n h =
 f64_r3 t0 t1 t4 t12 t13 h fun a4 a5 =>
  V.ite a4
  (f64_r4 t12 fun a6 =>
  f64_l0 t0 t1 t4 a6 t13 n a5)
  (f64_l2 t0 t1 t4 t12 t13 n a5) :=
 l_eq (by kernel_rfl)
theorem f64_eq (t0 t1 t2 t3 t4 : V) (h : List V) : Cl 64 [t0, t1, t2, t3, t4] h =
 f64_r0 (f64_r1 t0 t1 t3 h fun a1 =>
  f64_r2 t1 t2 fun a2 a3 =>
  f64_l0 t0 t1 t4 a2 a3 (List.length h) a1) :=
 f_eq (by kernel_rfl)
noncomputable def f66_r0 (k : V → Rv) : Rv :=
 k (V.int .i64 0)
noncomputable def f66_r1 (t0 : V) (k : V → Rv) : Rv :=
 (bin .geq t0 (V.int .u64 4294967296)).bind fun t4 => k t4
noncomputable def f66_r4 (t0 : V) (k : V → Rv) : Rv :=
 (bin .geq t0 (V.int .u64 65536)).bind fun t8 => k t8
noncomputable def f66_r7 (t0 : V) (k : V → Rv) : Rv :=
 (bin .geq t0 (V.int .u64 256)).bind fun t14 => k t14
noncomputable def f66_r10 (t0 t2 : V) (k : V → Rv) : Rv :=
 (conv P [] 92 5 t0).bind fun t21 => (indexV P 9 (V.str [0, 1, 2, 2, 3, 3, 3, 3, 4, 4, 4, 4, 4, 4, 4, 4, 5, 5, 5, 5, 5, 5, 5, 5, 5, 5, 5, 5, 5, 5, 5, 5, 6, 6, 6, 6, 6, 6, 6, 6, 6, 6, 6, 6, 6, 6, 6, 6, 6, 6, 6, 6, 6, 6, 6, 6, 6, 6, 6, 6, 6, 6, 6, 6, 7, 7, 7, 7, 7, 7, 7, 7, 7, 7, 7, 7, 7, 7, 7, 7, 7, 7, 7, 7, 7, 7, 7, 7, 7, 7, 7, 7, 7, 7, 7, 7, 7, 7, 7, 7, 7, 7, 7, 7, 7, 7, 7, 7, 7, 7, 7, 7, 7, 7, 7, 7, 7, 7, 7, 7, 7, 7, 7, 7, 7, 7, 7, 7, 8, 8, 8, 8, 8, 8, 8, 8, 8, 8, 8, 8, 8, 8, 8, 8, 8, 8, 8, 8, 8, 8, 8, 8, 8, 8, 8, 8, 8, 8, 8, 8, 8, 8, 8, 8, 8, 8, 8, 8, 8, 8, 8, 8, 8, 8, 8, 8, 8, 8, 8, 8, 8, 8, 8, 8, 8, 8, 8, 8, 8, 8, 8, 8, 8, 8, 8, 8, 8, 8, 8, 8, 8, 8, 8, 8, 8, 8, 8, 8, 8, 8, 8, 8, 8, 8, 8, 8, 8, 8, 8, 8, 8, 8, 8, 8, 8, 8, 8, 8, 8, 8, 8, 8, 8, 8, 8, 8, 8, 8, 8, 8, 8, 8, 8, 8, 8, 8, 8, 8, 8, 8, 8, 8, 8, 8, 8, 8]) t21).bind fun t22 => (conv P [] 5 3 t22).bind fun t23 => (bin .add t2 t23).bind fun t24 => k t24
noncomputable def f66_r8 (t0 : V) (k : V → Rv) : Rv :=
 (bin .shr t0 (V.int .u64 8)).bind fun t16 => k t16
noncomputable def f66_r9 (t2 : V) (k : V → Rv) : Rv :=
 (bin .add t2 (V.int .i64 8)).bind fun t18 => k t18
noncomputable def f66_r5 (t0 : V) (k : V → Rv) : Rv :=
 (bin .shr t0 (V.int .u64 16)).bind fun t10 => k t10
noncomputable def f66_r6 (t2 : V) (k : V → Rv) : Rv :=
 (bin .add t2 (V.int .i64 16)).bind fun t12 => k t12
noncomputable def f66_r2 (t0 : V) (k : V → Rv) : Rv :=
 (bin .shr t0 (V.int .u64 32)).bind fun t6 => k t6
noncomputable def f66_r3 (k : V → Rv) : Rv :=
 k (V.int .i64 32)
theorem f66_eq (t0 : V) : Cl 66 [t0] [] =
 f66_r0 fun a1 =>
  f66_r1 t0 fun a2 =>
  jn (fun a3 a4 => f66_r4 a3 fun a5 =>
  jn (fun a6 a7 => f66_r7 a6 fun a8 =>
  jn (fun a9 a10 => f66_r10 a9 a10 fun a11 =>
  finT 0 [] a11)
  (fun (j2 : V → V → Rv) => V.ite a8
  (f66_r8 a6 fun a12 =>
  f66_r9 a7 fun a13 =>
  j2 a12 a13)
  (j2 a6 a7)))
  (fun (j1 : V → V → Rv) => V.ite a5
  (f66_r5 a3 fun a14 =>
  f66_r6 a4 fun a15 =>
  j1 a14 a15)
  (j1 a3 a4)))
  (fun (j0 : V → V → Rv) => V.ite a2
  (f66_r2 t0 fun a16 =>
  f66_r3 fun a17 =>
  j0 a16 a17)
  (j0 t0 a1)) :=
 f_eq (y_seq <| y_reg (fun K u2 => K ⟨[(0, t0), (2, u2)], []⟩) (funext fun a1 => seqK_n <| y_seq <| y_seq <| y_reg (fun K u4 => K ⟨[(0, t0), (2, a1), (4, u4)], []⟩) (funext fun a2 => seqK_n <| y_jn (fun K a3 a4 => K ⟨[(0, a3), (2, a4)], []⟩) (funext fun a3 => funext fun a4 => seqK_n <| y_seq <| y_seq <| y_reg (fun K u8 => K ⟨[(0, a3), (2, a4), (8, u8)], []⟩) (funext fun a5 => seqK_n <| y_jn (fun K a6 a7 => K ⟨[(0, a6), (2, a7)], []⟩) (funext fun a6 => funext fun a7 => seqK_n <| y_seq <| y_seq <| y_reg (fun K u14 => K ⟨[(0, a6), (2, a7), (14, u14)], []⟩) (funext fun a8 => seqK_n <| y_jn (fun K a9 a10 => K ⟨[(0, a9), (2, a10)], []⟩) (funext fun a9 => funext fun a10 => by kernel_rfl) (y_cond (y_seq <| y_reg (fun K u0 => K ⟨[(0, u0), (2, a7)], []⟩) (funext fun a12 => seqK_n <| y_reg (fun K u2 => K ⟨[(0, a12), (2, u2)], []⟩) (funext fun a13 => rfl))) (y_skip <| y_nf)))) (y_cond (y_seq <| y_reg (fun K u0 => K ⟨[(0, u0), (2, a4)], []⟩) (funext fun a14 => seqK_n <| y_reg (fun K u2 => K ⟨[(0, a14), (2, u2)], []⟩) (funext fun a15 => rfl))) (y_skip <| y_nf)))) (y_cond (y_seq <| y_reg (fun K u0 => K ⟨[(0, u0)], []⟩) (funext fun a16 => seqK_n <| y_reg (fun K u2 => K ⟨[(0, a16), (2, u2)], []⟩) (funext fun a17 => rfl))) (y_skip <| y_nf)))))
theorem f68_eq (t0 t1 : V) : Cl 68 [t0, t1] [] =
 mnz P 1 89 [t0, t1] [] fun a1 a2 => finT 0 a2 a1 :=
 f_eq (by kernel_rfl)
noncomputable def f73_l0 (t0 t1 t5 : V) (h : List V) : Rv := lp W 73 0 (cd 73 79) (bk 0 (lv 73 0)) ⟨[(0, t0), (1, t1), (5, t5)], h⟩
theorem f73_eq (t0 t1 : V) : Cl 73 [t0, t1] [] =
 (lnS t1).bind fun a1 => (bin .eql a1 (V.int .i64 0)).bind fun a2 => V.ite a2
  ((Cl 91 (reifyL [] [t0]) []).bind fun a3 => (bin .add a3.1 (V.int .i64 1)).bind fun a4 => finT 0 [] a4)
  ((lnS t1).bind fun a5 => (bin .eql a5 (V.int .i64 1)).bind fun a6 => V.ite a6
  ((ixT t1 (V.int .i64 0)).bind fun a7 => mnz P 2 93 [t0, a7] [] fun a8 a9 => finT 0 a9 a8)
  (f73_l0 t0 t1 (V.int .i64 0) [])) :=
 f_eq (by kernel_rfl)
theorem f74_eq (t0 t1 : V) : Cl 74 [t0, t1] [] =
 (Cl 53 (reifyL [] [t0, t1]) []).bind fun a1 => finT 0 [] a1.1 :=
 f_eq (by kernel_rfl)
noncomputable def f80_r0 (t1 : V) (k : V → Rv) : Rv :=
 k t1
noncomputable def f80_l0 (t0 t2 t3 t4 t10 : V) (n : Nat) (h : List V) : Rv := lp W 80 0 (cd 80 9) (bk 0 (lv 80 n)) ⟨[(0, t0), (2, t2), (3, t3), (4, t4), (10, t10)], h⟩
noncomputable def f80_r1 (t10 : V) (k : V → Rv) : Rv :=
 (bin .mul (V.int .i64 2) t10).bind fun t14 => (bin .add t14 (V.int .i64 1)).bind fun t15 => k t15
noncomputable def f80_r2 (t2 t11 : V) (k : V → Rv) : Rv :=
 (bin .geq t11 t2).bind fun t18 => k t18
noncomputable def f80_r3 (t0 t2 t3 t4 t11 : V) (h : List V) (k : V → List V → Rv) : Rv :=
 (bin .add t11 (V.int .i64 1)).bind fun t20 => (bin .lss t20 t2).bind fun t22 => V.ite t22 ((bin .add t3 t11).bind fun t28 => (indexA P 22 (V.weak t0) t28).bind fun t29 => (ldP h 45 t29).bind fun t30 => (bin .add t3 t11).bind fun t34 => (bin .add t34 (V.int .i64 1)).bind fun t35 => (indexA P 22 (V.weak t0) t35).bind fun t36 => (ldP h 45 t36).bind fun t37 => callV P ann W t4 [t30, t37] h fun t38 a1 => if V.noOwn t38 = true then (bin .lss t38 (V.int .i64 0)).bind fun t39 => k t39 a1 else none) (k (V.bool false) h)
noncomputable def f80_r5 (t0 t3 t4 t10 t11 : V) (h : List V) (k : V → List V → Rv) : Rv :=
 (bin .add t3 t10).bind fun t47 => (indexA P 22 (V.weak t0) t47).bind fun t48 => (ldP h 45 t48).bind fun t49 => (bin .add t3 t11).bind fun t53 => (indexA P 22 (V.weak t0) t53).bind fun t54 => (ldP h 45 t54).bind fun t55 => callV P ann W t4 [t49, t55] h fun t56 a1 => if V.noOwn t56 = true then (bin .lss t56 (V.int .i64 0)).bind fun t57 => (un .not t57).bind fun t58 => k t58 a1 else none
noncomputable def f80_r6 (t0 t3 t10 t11 : V) (h : List V) (k : List V → Rv) : Rv :=
 (bin .add t3 t10).bind fun t62 => (bin .add t3 t11).bind fun t66 => (bin .add t3 t11).bind fun t70 => (indexA P 22 (V.weak t0) t70).bind fun t71 => (ldP h 45 t71).bind fun t72 => (bin .add t3 t10).bind fun t76 => (indexA P 22 (V.weak t0) t76).bind fun t77 => (ldP h 45 t77).bind fun t78 => (indexA P 22 (V.weak t0) t62).bind fun t79 => (sto P h 45 t79 t72).bind fun a1 => (indexA P 22 (V.weak t0) t66).bind fun t80 => (sto P a1 45 t80 t78).bind fun a2 => k a2
noncomputable def f80_r7 (t11 : V) (k : V → Rv) : Rv :=
 k t11
noncomputable def f80_r4 (t11 : V) (k : V → Rv) : Rv :=
 (bin .add t11 (V.int .i64 1)).bind fun t42 => k t42
theorem f80_l0_eq (t0 t2 t3 t4 t10 : V) (n : Nat) (h : List V) : f80_l0 t0 t2 t3 t4 t10 n h =
 f80_r1 t10 fun a2 =>
  f80_r2 t2 a2 fun a3 =>
  V.ite a3
  (if (List.all [] V.okE) = true then finT n h (V.tup []) else none)
  (f80_r3 t0 t2 t3 t4 a2 h fun a4 a5 =>
  jn (fun a6 => f80_r5 t0 t3 t4 t10 a6 a5 fun a7 a8 =>
  V.ite a7
  (if (List.all [] V.okE) = true then finT n a8 (V.tup []) else none)
  (f80_r6 t0 t3 t10 a6 a8 fun a9 =>
  f80_r7 a6 fun a10 =>
  f80_l0 t0 t2 t3 t4 a10 n a9))
  (fun (j0 : V → Rv) => V.ite a4
  (f80_r4 a2 fun a11 =>
  j0 a11)
  (j0 a2))) :=
 l_eq (y_block <| y_seq <| y_reg (fun K u11 => K ⟨[(0, t0), (2, t2), (3, t3), (4, t4), (10, t10), (11, u11)], h⟩) (funext fun a2 => seqK_n <| y_seq <| y_seq <| y_reg (fun K u18 => K ⟨[(0, t0), (2, t2), (3, t3), (4, t4), (10, t10), (11, a2), (18, u18)], h⟩) (funext fun a3 => seqK_n <| y_cond (by kernel_rfl) (y_skip <| seqK_n <| y_seq <| y_seq <| y_reg (fun K u40 h' => K ⟨[(0, t0), (2, t2), (3, t3), (4, t4), (10, t10), (11, a2), (40, u40)], h'⟩) (funext fun a4 => funext fun a5 => seqK_n <| y_jn (fun K a6 => K ⟨[(0, t0), (2, t2), (3, t3), (4, t4), (10, t10), (11, a6)], a5⟩) (funext fun a6 => by kernel_rfl) (y_cond (by kernel_rfl) (by kernel_rfl)))))))
theorem f80_eq (t0 t1 t2 t3 t4 : V) (h : List V) : Cl 80 [t0, t1, t2, t3, t4] h =
 f80_r0 t1 fun a1 =>
  f80_l0 t0 t2 t3 t4 a1 (List.length h) h :=
 f_eq (by kernel_rfl)
noncomputable def f81_r0 (k : Rv) : Rv :=
 k
noncomputable def f81_r1 (t0 : V) (k : V → Rv) : Rv :=
 (conv P [] 3 77 t0).bind fun t4 => (Cl 51 (reifyL [] [t4]) []).bind fun r => (bin .shl (V.int .u64 1) r.1).bind fun t6 => k t6
theorem f81_eq (t0 : V) : Cl 81 [t0] [] =
 f81_r0 (f81_r1 t0 fun a1 =>
  finT 0 [] a1) :=
 f_eq (by kernel_rfl)
noncomputable def f82_r0 (k : Rv) : Rv :=
 k
noncomputable def f82_r1 (t0 : V) (h : List V) (k : List V → Rv) : Rv :=
 (notNil t0).bind fun t4 => (ldP h 103 t4).bind fun t5 => (notNil t0).bind fun t7 => (ldP h 103 t7).bind fun t8 => (bin .shl t8 (V.int .u64 13)).bind fun t9 => (bin .xor t5 t9).bind fun t10 => (notNil t0).bind fun t11 => (sto P h 103 t11 t10).bind fun a1 => k a1
noncomputable def f82_r2 (t0 : V) (h : List V) (k : List V → Rv) : Rv :=
 (notNil t0).bind fun t13 => (ldP h 103 t13).bind fun t14 => (notNil t0).bind fun t16 => (ldP h 103 t16).bind fun t17 => (bin .shr t17 (V.int .u64 7)).bind fun t18 => (bin .xor t14 t18).bind fun t19 => (notNil t0).bind fun t20 => (sto P h 103 t20 t19).bind fun a1 => k a1
noncomputable def f82_r3 (t0 : V) (h : List V) (k : List V → Rv) : Rv :=
 (notNil t0).bind fun t22 => (ldP h 103 t22).bind fun t23 => (notNil t0).bind fun t25 => (ldP h 103 t25).bind fun t26 => (bin .shl t26 (V.int .u64 17)).bind fun t27 => (bin .xor t23 t27).bind fun t28 => (notNil t0).bind fun t29 => (sto P h 103 t29 t28).bind fun a1 => k a1
noncomputable def f82_r4 (t0 : V) (h : List V) (k : V → Rv) : Rv :=
 (notNil t0).bind fun t31 => (ldP h 103 t31).bind fun t32 => k t32
theorem f82_eq (t0 : V) (h : List V) : Cl 82 [t0] h =
 f82_r0 (f82_r1 t0 h fun a1 =>
  f82_r2 t0 a1 fun a2 =>
  f82_r3 t0 a2 fun a3 =>
  f82_r4 t0 a3 fun a4 =>
  finT (List.length h) a3 a4) :=
 f_eq (by kernel_rfl)
noncomputable def f83_r0 (k : Rv) : Rv :=
 k
noncomputable def f83_r1 (t0 t1 t2 t3 : V) (h : List V) (k : V → List V → Rv) : Rv :=
 (bin .sub t1 (V.int .i64 1)).bind fun t11 => (bin .add t1 (V.int .i64 1)).bind fun t14 => (Cl 84 (normL [t0, t11, t1, t14, t2, t3]) h).bind fun r => k r.1 r.2
theorem f83_eq (t0 t1 t2 t3 : V) (h : List V) : Cl 83 [t0, t1, t2, t3] h =
 f83_r0 (f83_r1 t0 t1 t2 t3 h fun a1 a2 =>
  finT (List.length h) a2 a1) :=
 f_eq (by kernel_rfl)
noncomputable def f84_r0 (k : Rv) : Rv :=
 k
noncomputable def f84_r1 (t0 t1 t2 t4 t5 : V) (h : List V) (k : V → V → List V → Rv) : Rv :=
 (Cl 97 (normL [(V.weak t0), t1, t2, t4, t5]) h).bind fun r => (ext r.1 0).bind fun t20 => (ext r.1 1).bind fun t21 => k t20 t21 r.2
noncomputable def f84_r2 (t0 t2 t3 t4 t5 : V) (h : List V) (k : V → List V → Rv) : Rv :=
 (Cl 97 (normL [(V.weak t0), t2, t3, t4, t5]) h).bind fun r => (ext r.1 0).bind fun t29 => (ext r.1 1).bind fun t30 => k t29 r.2
noncomputable def f84_r3 (t0 t1 t2 t4 t5 : V) (h : List V) (k : V → List V → Rv) : Rv :=
 (Cl 97 (normL [t0, t1, t2, t4, t5]) h).bind fun r => (ext r.1 0).bind fun t38 => (ext r.1 1).bind fun t39 => k t39 r.2
noncomputable def f84_r4 (t2 : V) (k : V → Rv) : Rv :=
 k t2
theorem f84_eq (t0 t1 t2 t3 t4 t5 : V) (h : List V) : Cl 84 [t0, t1, t2, t3, t4, t5] h =
 f84_r0 (f84_r1 t0 t1 t2 t4 t5 h fun a1 a2 a3 =>
  f84_r2 t0 a2 t3 t4 t5 a3 fun a4 a5 =>
  f84_r3 t0 a1 a4 t4 t5 a5 fun a6 a7 =>
  f84_r4 a6 fun a8 =>
  finT (List.length h) a7 a8) :=
 f_eq (by kernel_rfl)
noncomputable def f97_r0 (k : Rv) : Rv :=
 k
noncomputable def f97_r1 (t0 t1 t2 t4 : V) (h : List V) (k : V → List V → Rv) : Rv :=
 (indexA P 22 (V.weak t0) t2).bind fun t15 => (ldP h 45 t15).bind fun t16 => (indexA P 22 (V.weak t0) t1).bind fun t19 => (ldP h 45 t19).bind fun t20 => callV P ann W t4 [t16, t20] h fun t21 a1 => if V.noOwn t21 = true then (bin .lss t21 (V.int .i64 0)).bind fun t22 => k t22 a1 else none
noncomputable def f97_r2 (t3 : V) (h : List V) (k : List V → Rv) : Rv :=
 (notNil t3).bind fun t24 => (ldP h 3 t24).bind fun t25 => (bin .add t25 (V.int .i64 1)).bind fun t26 => (notNil t3).bind fun t27 => (sto P h 3 t27 t26).bind fun a1 => k a1
noncomputable def f97_r3 (t1 t2 : V) (k : V → V → Rv) : Rv :=
 k t2 t1
noncomputable def f97_r4 (t1 t2 : V) (k : V → V → Rv) : Rv :=
 k t1 t2
theorem f97_eq (t0 t1 t2 t3 t4 : V) (h : List V) : Cl 97 [t0, t1, t2, t3, t4] h =
 f97_r0 (f97_r1 t0 t1 t2 t4 h fun a1 a2 =>
  V.ite a1
  (f97_r2 t3 a2 fun a3 =>
  f97_r3 t1 t2 fun a4 a5 =>
  if (List.all [a5, a4] V.okE) = true then finT (List.length h) a3 (V.tup [a4, a5]) else none)
  (f97_r4 t1 t2 fun a6 a7 =>
  if (List.all [a7, a6] V.okE) = true then finT (List.length h) a2 (V.tup [a6, a7]) else none)) :=
 f_eq (by kernel_rfl)
end Go.Proofs.YtaghnpjlhmgioaaDoor
end
