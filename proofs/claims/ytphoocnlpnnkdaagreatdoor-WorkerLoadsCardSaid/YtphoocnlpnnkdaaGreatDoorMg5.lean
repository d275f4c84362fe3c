/-
  Part of the proof of a statement about the given program: an abstract machine over its code, the simulation, its functions' equations, what they compute.
-/
import Derived.Test.YtphoocnlpnnkdaaGreatDoorMg4
set_option linter.unusedVariables false
set_option linter.unusedSimpArgs false
set_option linter.unusedSectionVars false
set_option maxRecDepth 100000
noncomputable section
namespace Go.Proofs.YtphoocnlpnnkdaaGreatDoor
section
open Go AM
def Oa (t2 t3 t4 t5 t6 t7 t13 t15 t17 t18:V) (h:List V):Rv:=lp W 3 0 (cd 3 1215) (bk 0 (sk 3 0 255 (lv 3 0))) ⟨[(2,t2),(3,t3),(4,t4),(5,t5),(6,t6),(7,t7),(13,t13),(15,t15),(17,t17),(18,t18)],h⟩
theorem QR (t2 t3 t4 t5 t6 t7 t13 t15 t17 t18:V) (h:List V):Oa t2 t3 t4 t5 t6 t7 t13 t15 t17 t18 h=
 (EJ (V.weak t4)).bind fun a1=>(AL .lss t18 a1).bind fun a2=>V.ite a2
  ((D9 36 (V.weak t4) t18).bind fun a3=>(CU h 36 a3).bind fun a4=>(EJ a4).bind fun a5=>(AL .gtr a5 (V.int .i64 20)).bind fun a6=>V.ite a6
  (AQ 0 h (V.bool true))
  ((Kr .i64 t5).bind fun a7=>(AL .rem a7 (V.int .i64 8)).bind fun a8=>(AL .eql t18 a8).bind fun a9=>jn (fun a10 a11=>jn (fun a12 a13=>
 V.ite a12
  (AQ 0 a13 (V.bool false))
  ((Cl 8 (AP [a10]) a13).bind fun a14=>(AL .add t18 (V.int .i64 1)).bind fun a15=>Oa t2 t3 t4 t5 t6 t7 t13 a10 a14.1 a15 a14.2)) (fun(a16:V→List V→Rv)=>(NU 103 false (ck [] [])).bind fun a17=>(D9 36 (V.weak t4) t18).bind fun a18=>(CU a11 36 a18).bind fun a19=>(FU 103 (tyG 102) false a11 a17 a19).bind fun a20=>(Cl 11 (AP [t13,t18,a20]) a11).bind fun a21=>(NU 103 false (ck [] [])).bind fun a22=>(D9 36 (V.weak t4) t18).bind fun a23=>if LQ true [a23]=true then(CU a21.2 36 a23).bind fun a24=>(FU 103 (tyG 102) false a21.2 a22 a24).bind fun a25=>(Cl 11 (AP [a10,t18,a25]) a21.2).bind fun a26=>(Cl 10 (AB a26.2 [a21.1,a26.1]) []).bind fun a27=>(un .not a27.1).bind fun a28=>V.ite a28 (a16 (V.bool true) a26.2) ((Cl 12 (AP [t13]) a26.2).bind fun a29=>(Cl 12 (AP [a10]) a29.2).bind fun a30=>(AL .neq a29.1 a30.1).bind fun a31=>V.ite a31 (a16 (V.bool true) a30.2) ((Cl 13 (AP [t13]) a30.2).bind fun a32=>(Cl 13 (AP [a10]) a32.2).bind fun a33=>(Tm (tyG 44) .neq a32.1 a33.1).bind fun a34=>a16 a34 a33.2))else none))
  (fun(j0:V→List V→Rv)=>V.ite a9
  ((CU h 24 t6).bind fun a35=>(Cl 7 (AB h [a35]) []).bind fun a36=>(AX h 26 t7).bind fun a37=>(Cl 6 (AP [a36.1,a37,t2,t3]) h).bind fun a38=>(ext a38.1 0).bind fun a39=>(ext a38.1 1).bind fun a40=>jn (fun a41 a42=>
 V.ite a41
  (AQ 0 a42 (V.bool false))
  (j0 a39 a42)) (fun(a43:V→List V→Rv)=>(AL .neq a40 (V.int .i64 0)).bind fun a44=>V.ite a44 (a43 (V.bool true) a38.2) ((VN .eql a39).bind fun a45=>V.ite a45 (a43 (V.bool true) a38.2) ((Cl 9 (AP [a39,t17]) a38.2).bind fun a46=>(AL .neq a46.1 (V.int .i64 0)).bind fun a47=>a43 a47 a46.2))))
  (j0 t15 h))))
  (jn (fun a48 a49=>
 AQ 0 a49 a48) (fun(a50:V→List V→Rv)=>(Cl 8 (AP [t13]) h).bind fun a51=>(AL .eql a51.1 t17).bind fun a52=>V.ite a52 ((Cl 15 (AP [t13]) a51.2).bind fun a53=>(Cl 15 (AP [t15]) a53.2).bind fun a54=>(Cl 14 (AB a54.2 [a53.1,a54.1]) []).bind fun a55=>a50 a55.1 a54.2) (a50 (V.bool false) a51.2))):=
 DV (by kernel_rfl)
theorem AR6 (t0 t1 t2 t3 t4 t5:V):Cl 3 [t0,t1,t2,t3,t4,t5] []=
 if((tyG 23) (V.weak t0)&&V.under 0 (V.weak t0))=true then if((tyG 25) t1&&V.under 1 t1)=true then jn (fun a56=>
 V.ite a56
  ((Cl 4 (AB [(V.weak t0),t1] []) []).bind fun a57=>AQ 0 [(V.weak t0),t1] a57.1)
  ((CU [(V.weak t0),t1] 24 (V.ref 0 [] 24)).bind fun a58=>(Cl 7 (AB [(V.weak t0),t1] [a58]) []).bind fun a59=>(AX [(V.weak t0),t1] 26 (V.ref 1 [] 26)).bind fun a60=>(Cl 6 (AP [a59.1,a60,t2,t3]) [(V.weak t0),t1]).bind fun a61=>(ext a61.1 0).bind fun a62=>(ext a61.1 1).bind fun a63=>(CU a61.2 24 (V.ref 0 [] 24)).bind fun a64=>(Cl 7 (AB a61.2 [a64]) []).bind fun a65=>(AX a61.2 26 (V.ref 1 [] 26)).bind fun a66=>(Cl 6 (AP [a65.1,a66,t2,t3]) a61.2).bind fun a67=>(ext a67.1 0).bind fun a68=>(ext a67.1 1).bind fun a69=>jn (fun a70=>
 V.ite a70
  (AQ 0 a67.2 (V.bool false))
  ((Cl 8 (AP [a68]) a67.2).bind fun a71=>Oa t2 t3 t4 t5 (V.ref 0 [] 24) (V.ref 1 [] 26) a62 a68 a71.1 (V.int .i64 0) a71.2)) (fun(a72:V→Rv)=>(AL .neq a63 (V.int .i64 0)).bind fun a73=>V.ite a73 (a72 (V.bool true)) ((AL .neq a69 (V.int .i64 0)).bind fun a74=>V.ite a74 (a72 (V.bool true)) ((VN .eql a62).bind fun a75=>V.ite a75 (a72 (V.bool true)) ((VN .eql a68).bind fun a76=>a72 a76)))))) (fun(a77:V→Rv)=>(Cl 4 (AB [(V.weak t0),t1] []) []).bind fun a78=>(un .not a78.1).bind fun a79=>V.ite a79 (a77 (V.bool true)) ((fA 24 22 1 (V.ref 0 [] 24)).bind fun a80=>(CU [(V.weak t0),t1] 22 a80).bind fun a81=>(EJ a81).bind fun a82=>(AL .gtr a82 (V.int .i64 40)).bind fun a83=>V.ite a83 (a77 (V.bool true)) ((fA 24 3 0 (V.ref 0 [] 24)).bind fun a84=>(AX [(V.weak t0),t1] 3 a84).bind fun a85=>(AL .gtr a85 (V.int .i64 12)).bind fun a86=>V.ite a86 (a77 (V.bool true)) ((EJ (V.weak t4)).bind fun a87=>(AL .gtr a87 (V.int .i64 8)).bind fun a88=>V.ite a88 (a77 (V.bool true)) ((CU [(V.weak t0),t1] 24 (V.ref 0 [] 24)).bind fun a89=>(AX [(V.weak t0),t1] 26 (V.ref 1 [] 26)).bind fun a90=>(Cl 5 (AB [(V.weak t0),t1] [a89,a90,t2,t3]) []).bind fun a91=>(un .not a91.1).bind fun a92=>a77 a92)))))else none else none:=
 Ar (by kernel_rfl)
theorem AR7 (t0 t1 t2 t3:V):Cl 5 [t0,t1,t2,t3] []=
 if((tyG 23) (V.weak t0)&&V.under 0 (V.weak t0))=true then if((tyG 25) t1&&V.under 1 t1)=true then jn (fun a1=>
 AQ 0 [(V.weak t0),t1] a1) (fun(a2:V→Rv)=>(CU [(V.weak t0),t1] 24 (V.ref 0 [] 24)).bind fun a3=>(AX [(V.weak t0),t1] 26 (V.ref 1 [] 26)).bind fun a4=>(Cl 19 (AB [(V.weak t0),t1] [a3,a4]) []).bind fun a5=>V.ite a5.1 ((AL .geq t2 (V.int .i64 1)).bind fun a6=>V.ite a6 ((AL .leq t2 (V.int .i64 64)).bind fun a7=>V.ite a7 ((AL .geq t3 (V.int .i64 0)).bind fun a8=>V.ite a8 ((AL .lss t3 t2).bind fun a9=>a2 a9) (a2 (V.bool false))) (a2 (V.bool false))) (a2 (V.bool false))) (a2 (V.bool false)))else none else none:=
 Ar (by kernel_rfl)
def Tq (t5 t12 t40 t41 t42:V) (n:Nat) (h:List V):Rv:=lp W 6 0 (cd 6 607) (bk 0 (sk 6 0 127 (lv 6 n))) ⟨[(5,t5),(12,t12),(40,t40),(41,t41),(42,t42)],h⟩
theorem IQ (t5 t12 t40 t41 t42:V) (n:Nat) (h:List V):Tq t5 t12 t40 t41 t42 n h=
 (AL .lss t42 t41).bind fun a1=>V.ite a1
  ((D9 3 t40 t42).bind fun a2=>(AX h 3 a2).bind fun a3=>if(JL t12 t5&&true)=true then(Ag t12).bind fun a4=>(fA 68 48 6 a4).bind fun a5=>if Du t12 a5=true then(BR h 48 a5).bind fun a6=>if Du t5 t5=true then(AX a6.2 26 t5).bind fun a7=>Dt P CX W (some t12) (V.clo 23 []) [a7,a3] a6.2 fun a8 a9=>(NU 70 false (ck [(tyG 69) a8] [a8])).bind fun a10=>(FU 70 (tyG 69) false a9 a6.1 a10).bind fun a11=>(Ag t12).bind fun a12=>(fA 68 48 6 a12).bind fun a13=>(DJ (tyL 70) 48 a9 a13 a11).bind fun a14=>(AL .add t42 (V.int .i64 1)).bind fun a15=>Tq t5 t12 t40 t41 a15 n a14 else none else none else none)
  (if(List.all [(V.int .i64 0),t12] V.okE)=true then QL h (V.tup [t12,(V.int .i64 0)])else none):=
 DV (by kernel_rfl)
theorem AFW (t0 t1 t2 t3:V) (h:List V):Cl 6 [t0,t1,t2,t3] h=
 if((tyG 23) (V.weak t0)&&V.under (List.length h) (V.weak t0))=true then if((tyG 25) t1&&V.under (List.length (h++[(V.weak t0)])) t1)=true then(CU ((h++[(V.weak t0)])++[t1]) 24 (V.ref (List.length h) [] 24)).bind fun a16=>(AX ((h++[(V.weak t0)])++[t1]) 26 (V.ref (List.length (h++[(V.weak t0)])) [] 26)).bind fun a17=>(Cl 20 (AB ((h++[(V.weak t0)])++[t1]) [a16,a17]) []).bind fun a18=>(AL .neq a18.1 (V.int .i64 0)).bind fun a19=>V.ite a19
  (if(List.all [(V.int .i64 130),V.nilp] V.okE)=true then QL ((h++[(V.weak t0)])++[t1]) (V.tup [V.nilp,(V.int .i64 130)])else none)
  ((fA 24 3 0 (V.ref (List.length h) [] 24)).bind fun a20=>(AX ((h++[(V.weak t0)])++[t1]) 3 a20).bind fun a21=>(Cl 21 (AB ((h++[(V.weak t0)])++[t1]) [a21,t2,t3]) []).bind fun a22=>(QI a22.1 0).bind fun a23=>(ext a22.1 1).bind fun a24=>(AL .neq a24 (V.int .i64 0)).bind fun a25=>V.ite a25
  (if(List.all [(V.int .i64 130),V.nilp] V.okE)=true then QL ((h++[(V.weak t0)])++[t1]) (V.tup [V.nilp,(V.int .i64 130)])else none)
  ((fA 24 3 0 (V.ref (List.length h) [] 24)).bind fun a26=>(AX ((h++[(V.weak t0)])++[t1]) 3 a26).bind fun a27=>(fA 24 22 1 (V.ref (List.length h) [] 24)).bind fun a28=>(CU ((h++[(V.weak t0)])++[t1]) 22 a28).bind fun a29=>(CT 22 (AB ((h++[(V.weak t0)])++[t1]) [a29])).bind fun a30=>((ck [(tyI .i64) a27,(tyL 52) a30.1] [a27,(V.weak a30.1)]).map (.agg 23)).bind fun a31=>(AX ((h++[(V.weak t0)])++[t1]) 26 (V.ref (List.length (h++[(V.weak t0)])) [] 26)).bind fun a32=>((ck [(tyG 23) a31,(tyG 25) a32,(tyI .i64) t2,(tyI .i64) t3] [(V.weak a31),a32,t2,t3,(V.int .i64 0),(V.lst 70 .nil []),(V.lst 70 .nil []),(V.bool false)]).map (.agg 67)).bind fun a33=>if((tyG 67) (V.weak a33)&&V.under (List.length ((h++[(V.weak t0)])++[t1])) (V.weak a33))=true then(EJ a23).bind fun a34=>Tq (V.ref (List.length (h++[(V.weak t0)])) [] 26) (V.ref (List.length ((h++[(V.weak t0)])++[t1])) [] 68) a23 a34 (V.int .i64 0) (List.length h) (((h++[(V.weak t0)])++[t1])++[(V.weak a33)])else none))else none else none:=
 Ar (by kernel_rfl)
theorem AR8 (t0:V):Cl 7 [t0] []=
 if((tyG 23) (V.weak t0)&&V.under 0 (V.weak t0))=true then(fA 24 3 0 (V.ref 0 [] 24)).bind fun a1=>(AX [(V.weak t0),(V.agg 23 [(V.int .i64 0),(V.lst 52 .nil [])])] 3 a1).bind fun a2=>(NU 52 false (ck [] [])).bind fun a3=>(fA 24 22 1 (V.ref 0 [] 24)).bind fun a4=>(CU [(V.weak t0),(V.agg 23 [(V.int .i64 0),(V.lst 52 .nil [])])] 22 a4).bind fun a5=>(FU 52 (tyG 51) false [(V.weak t0),(V.agg 23 [(V.int .i64 0),(V.lst 52 .nil [])])] a3 a5).bind fun a6=>((ck [(tyI .i64) a2,(tyL 52) a6] [a2,(V.weak a6)]).map (.agg 23)).bind fun a7=>(DJ (tyG 23) 24 [(V.weak t0),(V.agg 23 [(V.int .i64 0),(V.lst 52 .nil [])])] (V.ref 1 [] 24) a7).bind fun a8=>(CU a8 24 (V.ref 1 [] 24)).bind fun a9=>AQ 0 a8 a9 else none:=
 Ar (by kernel_rfl)
def ABX (t3 t28 t29 t30:V) (n:Nat) (h:List V):Rv:=lp W 8 0 (cd 8 607) (bk 0 (sk 8 0 127 (lv 8 n))) ⟨[(3,t3),(28,t28),(29,t29),(30,t30)],h⟩
theorem Xr (t3 t28 t29 t30:V) (n:Nat) (h:List V):ABX t3 t28 t29 t30 n h=
 (AL .lss t30 t29).bind fun a1=>V.ite a1
  ((D9 9 t28 t30).bind fun a2=>(AX h 9 a2).bind fun a3=>(Cl 27 (AP [t3,a3]) h).bind fun a4=>(AL .add t30 (V.int .i64 1)).bind fun a5=>ABX t3 t28 t29 a5 n a4.2)
  ((Cl 28 (AP [t3]) h).bind fun a6=>AQ n a6.2 a6.1):=
 DV (by kernel_rfl)
theorem AR9 (t0:V) (h:List V):Cl 8 [t0] h=
 (Cl 24 (AP []) h).bind fun a7=>(Cl 25 (AP [a7.1,(V.int .u64 83)]) a7.2).bind fun a8=>(Ag t0).bind fun a9=>(fA 68 3 4 a9).bind fun a10=>(AX a8.2 3 a10).bind fun a11=>(Kr .u64 a11).bind fun a12=>(Cl 25 (AP [a7.1,a12]) a8.2).bind fun a13=>(Ag t0).bind fun a14=>(fA 68 48 6 a14).bind fun a15=>(CU a13.2 48 a15).bind fun a16=>(EJ a16).bind fun a17=>(Kr .u64 a17).bind fun a18=>(Cl 25 (AP [a7.1,a18]) a13.2).bind fun a19=>(Ag t0).bind fun a20=>(fA 68 48 6 a20).bind fun a21=>(CU a19.2 48 a21).bind fun a22=>(Cl 26 (AB a19.2 [a22]) []).bind fun a23=>(EJ a23.1).bind fun a24=>ABX a7.1 a23.1 a24 (V.int .i64 0) (List.length h) a19.2:=
 Ar (by kernel_rfl)
def ABY (t0 t5 t7 t9 t53 t54:V) (n:Nat) (h:List V):Rv:=lp W 9 0 (cd 9 1215) (bk 0 (sk 9 0 255 (lv 9 n))) ⟨[(0,t0),(5,t5),(7,t7),(9,t9),(53,t53),(54,t54)],h⟩
theorem Xt (t0 t5 t7 t9 t53 t54:V) (n:Nat) (h:List V):ABY t0 t5 t7 t9 t53 t54 n h=
 (AL .lss t54 t53).bind fun a1=>V.ite a1
  ((Cl 33 (AP [t5,(V.int .i64 40)]) h).bind fun a2=>(Cl 32 (AB a2.2 [a2.1]) []).bind fun a3=>(ext a3.1 0).bind fun a4=>(ext a3.1 1).bind fun a5=>(DJ (tyG 69) 70 (a2.2++[(V.agg 69 [(V.int .i64 0),(V.int .i64 0),(V.bool false),(V.bool false),(V.int .i64 0)])]) (V.ref (List.length a2.2) [] 70) a4).bind fun a6=>jn (fun a7=>
 V.ite a7
  (AQ n a6 (V.int .i64 130))
  ((AX a6 70 (V.ref (List.length a2.2) [] 70)).bind fun a8=>(NU 70 false (ck [(tyG 69) a8] [a8])).bind fun a9=>(FU 70 (tyG 69) false a6 t9 a9).bind fun a10=>(AL .add t54 (V.int .i64 1)).bind fun a11=>if Aa (List.length h) [t0,t5,t7,a10,t53,a11]=true then ABY t0 t5 t7 a10 t53 a11 n (List.take (List.length h) a6)else none)) (fun(a12:V→Rv)=>(AL .neq a5 (V.int .i64 0)).bind fun a13=>V.ite a13 (a12 (V.bool true)) ((fA 70 3 0 (V.ref (List.length a2.2) [] 70)).bind fun a14=>(AX a6 3 a14).bind fun a15=>(Ag t0).bind fun a16=>(fA 68 48 6 a16).bind fun a17=>(CU a6 48 a17).bind fun a18=>(D9 70 a18 t54).bind fun a19=>(fA 70 3 0 a19).bind fun a20=>(AX a6 3 a20).bind fun a21=>(AL .neq a15 a21).bind fun a22=>V.ite a22 (a12 (V.bool true)) ((fA 70 4 3 (V.ref (List.length a2.2) [] 70)).bind fun a23=>(AX a6 4 a23).bind fun a24=>a12 a24))))
  ((Cl 34 (AP [t5]) h).bind fun a25=>(AL .neq a25.1 (V.int .i64 0)).bind fun a26=>V.ite a26
  (AQ n a25.2 (V.int .i64 130))
  ((Kr .i64 t7).bind fun a27=>(Ag t0).bind fun a28=>(fA 68 48 5 a28).bind fun a29=>(DJ (tyL 70) 48 a25.2 a29 (V.lst 70 .nil [])).bind fun a30=>(Ag t0).bind fun a31=>(fA 68 48 6 a31).bind fun a32=>(DJ (tyL 70) 48 a30 a32 t9).bind fun a33=>(Ag t0).bind fun a34=>(fA 68 3 4 a34).bind fun a35=>(DJ (tyI .i64) 3 a33 a35 a27).bind fun a36=>(Ag t0).bind fun a37=>(fA 68 4 7 a37).bind fun a38=>(DJ tyB 4 a36 a38 (V.bool false)).bind fun a39=>AQ n a39 (V.int .i64 0))):=
 DV (by kernel_rfl)
theorem ASA (t0 t1:V) (h:List V):Cl 9 [t0,t1] h=
 (Cl 29 (AP [t1]) h).bind fun a40=>(Cl 30 (AP [a40.1]) a40.2).bind fun a41=>(AL .eql a41.1 (V.int .u64 83)).bind fun a42=>(Cl 30 (AP [a40.1]) a41.2).bind fun a43=>(Cl 30 (AP [a40.1]) a43.2).bind fun a44=>jn (fun a45 a46=>
 V.ite a45
  (AQ (List.length h) a46 (V.int .i64 130))
  ((Ag t0).bind fun a47=>(fA 68 48 6 a47).bind fun a48=>(CU a46 48 a48).bind fun a49=>(EJ a49).bind fun a50=>ABY t0 a40.1 a43.1 (V.weak (V.lst 70 .nil [])) a50 (V.int .i64 0) (List.length h) a46)) (fun(a51:V→List V→Rv)=>(un .not a42).bind fun a52=>V.ite a52 (a51 (V.bool true) a44.2) ((Cl 31 (AP [a40.1]) a44.2).bind fun a53=>(AL .neq a53.1 (V.int .i64 0)).bind fun a54=>V.ite a54 (a51 (V.bool true) a53.2) ((Ag t0).bind fun a55=>(fA 68 26 1 a55).bind fun a56=>(fA 26 3 2 a56).bind fun a57=>(AX a53.2 3 a57).bind fun a58=>(Kr .u64 a58).bind fun a59=>(AL .gtr a43.1 a59).bind fun a60=>V.ite a60 (a51 (V.bool true) a53.2) ((Ag t0).bind fun a61=>(fA 68 48 6 a61).bind fun a62=>(CU a53.2 48 a62).bind fun a63=>(EJ a63).bind fun a64=>(Kr .u64 a64).bind fun a65=>(AL .neq a44.1 a65).bind fun a66=>a51 a66 a53.2)))):=
 Ar (by kernel_rfl)
def VQ (t2 t3 t5:V) (h:List V):Rv:=lp W 10 0 (cd 10 75) (bk 0 (sk 10 0 15 (lv 10 0))) ⟨[(2,t2),(3,t3),(5,t5)],h⟩
theorem Tt (t2 t3 t5:V) (h:List V):VQ t2 t3 t5 h=
 (fA 41 39 2 t2).bind fun a1=>(CU h 39 a1).bind fun a2=>(EJ a2).bind fun a3=>(AL .lss t5 a3).bind fun a4=>V.ite a4
  ((fA 41 39 2 t2).bind fun a5=>(CU h 39 a5).bind fun a6=>(D9 9 a6 t5).bind fun a7=>(AX h 9 a7).bind fun a8=>(fA 41 39 2 t3).bind fun a9=>(CU h 39 a9).bind fun a10=>(D9 9 a10 t5).bind fun a11=>(AX h 9 a11).bind fun a12=>(AL .neq a8 a12).bind fun a13=>V.ite a13
  (AQ 0 h (V.bool false))
  ((AL .add t5 (V.int .i64 1)).bind fun a14=>VQ t2 t3 a14 h))
  (AQ 0 h (V.bool true)):=
 DV (by kernel_rfl)
theorem AOS (t0 t1:V):Cl 10 [t0,t1] []=
 if((tyG 40) (V.weak t0)&&V.under 0 (V.weak t0))=true then if((tyG 40) (V.weak t1)&&V.under 1 (V.weak t1))=true then jn (fun a15=>
 V.ite a15
  (AQ 0 [(V.weak t0),(V.weak t1)] (V.bool false))
  (VQ (V.ref 0 [] 41) (V.ref 1 [] 41) (V.int .i64 0) [(V.weak t0),(V.weak t1)])) (fun(a16:V→Rv)=>(fA 41 31 0 (V.ref 0 [] 41)).bind fun a17=>(AX [(V.weak t0),(V.weak t1)] 31 a17).bind fun a18=>(fA 41 31 0 (V.ref 1 [] 41)).bind fun a19=>(AX [(V.weak t0),(V.weak t1)] 31 a19).bind fun a20=>(AL .neq a18 a20).bind fun a21=>V.ite a21 (a16 (V.bool true)) ((fA 41 9 1 (V.ref 0 [] 41)).bind fun a22=>(AX [(V.weak t0),(V.weak t1)] 9 a22).bind fun a23=>(fA 41 9 1 (V.ref 1 [] 41)).bind fun a24=>(AX [(V.weak t0),(V.weak t1)] 9 a24).bind fun a25=>(AL .neq a23 a25).bind fun a26=>V.ite a26 (a16 (V.bool true)) ((fA 41 39 2 (V.ref 0 [] 41)).bind fun a27=>(CU [(V.weak t0),(V.weak t1)] 39 a27).bind fun a28=>(EJ a28).bind fun a29=>(fA 41 39 2 (V.ref 1 [] 41)).bind fun a30=>(CU [(V.weak t0),(V.weak t1)] 39 a30).bind fun a31=>(EJ a31).bind fun a32=>(AL .neq a29 a32).bind fun a33=>a16 a33)))else none else none:=
 Ar (by kernel_rfl)
def LW (t3 t4 t6 t8 t15 t77 t78 t79:V) (n:Nat) (h:List V):Rv:=lp W 11 0 (cd 11 38911) (bk 0 (sk 11 0 8191 (lv 11 n))) ⟨[(3,t3),(4,t4),(6,t6),(8,t8),(15,t15),(77,t77),(78,t78),(79,t79)],h⟩
theorem Ep (t3 t4 t6 t8 t15 t77 t78 t79:V) (n:Nat) (h:List V):LW t3 t4 t6 t8 t15 t77 t78 t79 n h=
 (AL .lss t79 t78).bind fun a1=>V.ite a1
  ((D9 36 t77 t79).bind fun a2=>(CU h 36 a2).bind fun a3=>(Cl 43 (AB h [a3]) []).bind fun a4=>(ext a4.1 0).bind fun a5=>(ext a4.1 1).bind fun a6=>(fA 41 39 2 t15).bind fun a7=>(BR h 39 a7).bind fun a8=>(NU 9 false (ck [tyS a5] [a5])).bind fun a9=>(FU 9 tyS false a8.2 a8.1 a9).bind fun a10=>(fA 41 39 2 t15).bind fun a11=>(DJ (tyL 9) 39 a8.2 a11 a10).bind fun a12=>(AL .add t79 (V.int .i64 1)).bind fun a13=>LW t3 t4 t6 t8 t15 t77 t78 a13 n a12)
  ((AX h 30 t3).bind fun a14=>if Du t3 t3=true then(AX h 30 t3).bind fun a15=>if Du t3 t3=true then(AX h 30 t3).bind fun a16=>if Du t3 t3=true then(AX h 30 t3).bind fun a17=>(AX h 30 t3).bind fun a18=>(Ag a18).bind fun a19=>(fA 68 48 6 a19).bind fun a20=>(CU h 48 a20).bind fun a21=>if Du t8 t8=true then(CU h 48 t8).bind fun a22=>if Du t4 t4=true then(AX h 3 t4).bind fun a23=>(AL .add a23 (V.int .i64 1)).bind fun a24=>(Ag a14).bind fun a25=>(fA 68 48 5 a25).bind fun a26=>if avB h a26 [t3,t8,t4]=true then(DJ (tyL 70) 48 h a26 a21).bind fun a27=>(Ag a15).bind fun a28=>(fA 68 48 6 a28).bind fun a29=>if avB a27 a29 [t3,t4]=true then(DJ (tyL 70) 48 a27 a29 a22).bind fun a30=>(Ag a16).bind fun a31=>(fA 68 3 4 a31).bind fun a32=>if avB a30 a32 [t3]=true then(DJ (tyI .i64) 3 a30 a32 a24).bind fun a33=>(Ag a17).bind fun a34=>(fA 68 4 7 a34).bind fun a35=>(DJ tyB 4 a33 a35 (V.bool true)).bind fun a36=>(CU a36 41 t15).bind fun a37=>(DJ (tyG 40) 41 a36 t6 a37).bind fun a38=>(CU a38 41 t6).bind fun a39=>AQ n a38 a39 else none else none else none else none else none else none else none else none):=
 DV (by kernel_rfl)
theorem JR (t0 t1 t2:V) (h:List V):Cl 11 [t0,t1,t2] h=
 if(tyP t0&&V.under (List.length h) t0)=true then if((tyI .i64) t1&&V.under (List.length (h++[t0])) t1)=true then if((tyL 103) (V.weak t2)&&V.under (List.length ((h++[t0])++[t1])) (V.weak t2))=true then jn (fun a40=>
 V.ite a40
  (((ck [(tyI .i64) (V.int .i64 131)] [(V.int .i64 131),(V.str []),(V.lst 9 .nil [])]).map (.agg 40)).bind fun a41=>(DJ (tyG 40) 41 ((((h++[t0])++[t1])++[(V.weak t2)])++[(V.agg 40 [(V.int .i64 0),(V.str []),(V.lst 9 .nil [])])]) (V.ref (List.length (((h++[t0])++[t1])++[(V.weak t2)])) [] 41) a41).bind fun a42=>(CU a42 41 (V.ref (List.length (((h++[t0])++[t1])++[(V.weak t2)])) [] 41)).bind fun a43=>AQ (List.length h) a42 a43)
  ((AX (((((((h++[t0])++[t1])++[(V.weak t2)])++[(V.agg 40 [(V.int .i64 0),(V.str []),(V.lst 9 .nil [])])])++[(V.lst 70 .nil [])])++[(V.lst 70 .nil [])])++[(V.lst 103 .nil [])]) 30 (V.ref (List.length h) [] 30)).bind fun a44=>(Ag a44).bind fun a45=>(fA 68 48 6 a45).bind fun a46=>(CU (((((((h++[t0])++[t1])++[(V.weak t2)])++[(V.agg 40 [(V.int .i64 0),(V.str []),(V.lst 9 .nil [])])])++[(V.lst 70 .nil [])])++[(V.lst 70 .nil [])])++[(V.lst 103 .nil [])]) 48 a46).bind fun a47=>(if(List.all [(V.ref (List.length h) [] 30),(V.ref (List.length ((h++[t0])++[t1])) [] 36),(V.ref (List.length ((((h++[t0])++[t1])++[(V.weak t2)])++[(V.agg 40 [(V.int .i64 0),(V.str []),(V.lst 9 .nil [])])])) [] 48)] V.capOk)=true then some (V.clo 36 [(V.ref (List.length h) [] 30),(V.ref (List.length ((h++[t0])++[t1])) [] 36),(V.ref (List.length ((((h++[t0])++[t1])++[(V.weak t2)])++[(V.agg 40 [(V.int .i64 0),(V.str []),(V.lst 9 .nil [])])])) [] 48)])else none).bind fun a48=>(Cl 35 (AP [a47,a48]) (((((((h++[t0])++[t1])++[(V.weak t2)])++[(V.agg 40 [(V.int .i64 0),(V.str []),(V.lst 9 .nil [])])])++[(V.lst 70 .nil [])])++[(V.lst 70 .nil [])])++[(V.lst 103 .nil [])])).bind fun a49=>(AL .eql a49.1 (V.int .i64 0)).bind fun a50=>jn (fun a51 a52=>(AL .neq a51 (V.int .i64 0)).bind fun a53=>V.ite a53
  (((ck [(tyI .i64) a51] [a51,(V.str []),(V.lst 9 .nil [])]).map (.agg 40)).bind fun a54=>(DJ (tyG 40) 41 a52 (V.ref (List.length (((h++[t0])++[t1])++[(V.weak t2)])) [] 41) a54).bind fun a55=>(CU a55 41 (V.ref (List.length (((h++[t0])++[t1])++[(V.weak t2)])) [] 41)).bind fun a56=>AQ (List.length h) a55 a56)
  ((AX a52 30 (V.ref (List.length h) [] 30)).bind fun a57=>(Ag a57).bind fun a58=>(fA 68 3 2 a58).bind fun a59=>(AX a52 3 a59).bind fun a60=>(CU a52 36 (V.ref (List.length ((((((h++[t0])++[t1])++[(V.weak t2)])++[(V.agg 40 [(V.int .i64 0),(V.str []),(V.lst 9 .nil [])])])++[(V.lst 70 .nil [])])++[(V.lst 70 .nil [])])) [] 36)).bind fun a61=>(Cl 40 (AB a52 [a60,a61]) []).bind fun a62=>(QI a62.1 0).bind fun a63=>(ext a62.1 1).bind fun a64=>(AX a52 30 (V.ref (List.length h) [] 30)).bind fun a65=>(Ag a65).bind fun a66=>(fA 68 3 3 a66).bind fun a67=>(AX a52 3 a67).bind fun a68=>(AX a52 3 (V.ref (List.length (h++[t0])) [] 3)).bind fun a69=>(CU a52 48 (V.ref (List.length (((((h++[t0])++[t1])++[(V.weak t2)])++[(V.agg 40 [(V.int .i64 0),(V.str []),(V.lst 9 .nil [])])])++[(V.lst 70 .nil [])])) [] 48)).bind fun a70=>if LQ true [a68,a69,a70,(V.weak a63)]=true then(Cl 41 (AB a52 [a68,a69,a70,(V.weak a63)]) []).bind fun a71=>(QI a71.1 0).bind fun a72=>(ext a71.1 1).bind fun a73=>(DJ (tyG 93) 94 (a52++[(V.agg 93 [(V.int .i64 0),(V.int .i64 0),(V.agg 44 (List.replicate 32 (V.int .u8 0))),(V.lst 45 .nil [])])]) (V.ref (List.length a52) [] 94) a72).bind fun a74=>(CU (a74++[(V.agg 40 [(V.int .i64 0),(V.str []),(V.lst 9 .nil [])])]) 94 (V.ref (List.length a52) [] 94)).bind fun a75=>(Cl 42 (AB (a74++[(V.agg 40 [(V.int .i64 0),(V.str []),(V.lst 9 .nil [])])]) [a75]) []).bind fun a76=>(ext a76.1 0).bind fun a77=>(ext a76.1 1).bind fun a78=>(fA 41 9 1 (V.ref (List.length a74) [] 41)).bind fun a79=>(DJ tyS 9 (a74++[(V.agg 40 [(V.int .i64 0),(V.str []),(V.lst 9 .nil [])])]) a79 a77).bind fun a80=>(EJ a63).bind fun a81=>LW (V.ref (List.length h) [] 30) (V.ref (List.length (h++[t0])) [] 3) (V.ref (List.length (((h++[t0])++[t1])++[(V.weak t2)])) [] 41) (V.ref (List.length (((((h++[t0])++[t1])++[(V.weak t2)])++[(V.agg 40 [(V.int .i64 0),(V.str []),(V.lst 9 .nil [])])])++[(V.lst 70 .nil [])])) [] 48) (V.ref (List.length a74) [] 41) a63 a81 (V.int .i64 0) (List.length h) a80 else none))
  (fun(j0:V→List V→Rv)=>V.ite a50
  ((CU a49.2 48 (V.ref (List.length ((((h++[t0])++[t1])++[(V.weak t2)])++[(V.agg 40 [(V.int .i64 0),(V.str []),(V.lst 9 .nil [])])])) [] 48)).bind fun a82=>(if(List.all [(V.ref (List.length h) [] 30),(V.ref (List.length (h++[t0])) [] 3),(V.ref (List.length (((((h++[t0])++[t1])++[(V.weak t2)])++[(V.agg 40 [(V.int .i64 0),(V.str []),(V.lst 9 .nil [])])])++[(V.lst 70 .nil [])])) [] 48),(V.ref (List.length ((((((h++[t0])++[t1])++[(V.weak t2)])++[(V.agg 40 [(V.int .i64 0),(V.str []),(V.lst 9 .nil [])])])++[(V.lst 70 .nil [])])++[(V.lst 70 .nil [])])) [] 36)] V.capOk)=true then some (V.clo 38 [(V.ref (List.length h) [] 30),(V.ref (List.length (h++[t0])) [] 3),(V.ref (List.length (((((h++[t0])++[t1])++[(V.weak t2)])++[(V.agg 40 [(V.int .i64 0),(V.str []),(V.lst 9 .nil [])])])++[(V.lst 70 .nil [])])) [] 48),(V.ref (List.length ((((((h++[t0])++[t1])++[(V.weak t2)])++[(V.agg 40 [(V.int .i64 0),(V.str []),(V.lst 9 .nil [])])])++[(V.lst 70 .nil [])])++[(V.lst 70 .nil [])])) [] 36)])else none).bind fun a83=>(Cl 35 (AP [a82,a83]) a49.2).bind fun a84=>j0 a84.1 a84.2)
  (j0 a49.1 a49.2)))) (fun(a85:V→Rv)=>(AX ((((h++[t0])++[t1])++[(V.weak t2)])++[(V.agg 40 [(V.int .i64 0),(V.str []),(V.lst 9 .nil [])])]) 3 (V.ref (List.length (h++[t0])) [] 3)).bind fun a86=>(AX ((((h++[t0])++[t1])++[(V.weak t2)])++[(V.agg 40 [(V.int .i64 0),(V.str []),(V.lst 9 .nil [])])]) 30 (V.ref (List.length h) [] 30)).bind fun a87=>(Ag a87).bind fun a88=>(fA 68 3 4 a88).bind fun a89=>(AX ((((h++[t0])++[t1])++[(V.weak t2)])++[(V.agg 40 [(V.int .i64 0),(V.str []),(V.lst 9 .nil [])])]) 3 a89).bind fun a90=>(AL .neq a86 a90).bind fun a91=>V.ite a91 (a85 (V.bool true)) ((AX ((((h++[t0])++[t1])++[(V.weak t2)])++[(V.agg 40 [(V.int .i64 0),(V.str []),(V.lst 9 .nil [])])]) 3 (V.ref (List.length (h++[t0])) [] 3)).bind fun a92=>(AX ((((h++[t0])++[t1])++[(V.weak t2)])++[(V.agg 40 [(V.int .i64 0),(V.str []),(V.lst 9 .nil [])])]) 30 (V.ref (List.length h) [] 30)).bind fun a93=>(Ag a93).bind fun a94=>(fA 68 26 1 a94).bind fun a95=>(fA 26 3 2 a95).bind fun a96=>(AX ((((h++[t0])++[t1])++[(V.weak t2)])++[(V.agg 40 [(V.int .i64 0),(V.str []),(V.lst 9 .nil [])])]) 3 a96).bind fun a97=>(AL .geq a92 a97).bind fun a98=>a85 a98))else none else none else none:=
 Ar (by kernel_rfl)
theorem AOT (t0:V) (h:List V):Cl 12 [t0] h=
 (Ag t0).bind fun a1=>(fA 68 3 4 a1).bind fun a2=>(AX h 3 a2).bind fun a3=>AQ (List.length h) h a3:=
 Ar (by kernel_rfl)
theorem AOU (t0:V) (h:List V):Cl 13 [t0] h=
 (Ag t0).bind fun a1=>(fA 68 48 6 a1).bind fun a2=>(CU (h++[(V.agg 44 (List.replicate 32 (V.int .u8 0)))]) 48 a2).bind fun a3=>(Cl 44 (AB (h++[(V.agg 44 (List.replicate 32 (V.int .u8 0)))]) [a3]) []).bind fun a4=>(DJ (tyG 44) 45 (h++[(V.agg 44 (List.replicate 32 (V.int .u8 0)))]) (V.ref (List.length h) [] 45) a4.1).bind fun a5=>(AX a5 45 (V.ref (List.length h) [] 45)).bind fun a6=>AQ (List.length h) a5 a6:=
 Ar (by kernel_rfl)
def VS (t0 t1 t5:V):Rv:=lp W 14 0 (cd 14 75) (bk 0 (sk 14 0 15 (lv 14 0))) ⟨[(0,t0),(1,t1),(5,t5)],[]⟩
theorem Tv (t0 t1 t5:V):VS t0 t1 t5=
 (EJ (V.weak t0)).bind fun a1=>(AL .lss t5 a1).bind fun a2=>V.ite a2
  ((D9 70 (V.weak t0) t5).bind fun a3=>(AX [] 70 a3).bind fun a4=>(D9 70 (V.weak t1) t5).bind fun a5=>(AX [] 70 a5).bind fun a6=>(Tm (tyG 69) .neq a4 a6).bind fun a7=>V.ite a7
  (AQ 0 [] (V.bool false))
  ((AL .add t5 (V.int .i64 1)).bind fun a8=>VS t0 t1 a8))
  (AQ 0 [] (V.bool true)):=
 DV (by kernel_rfl)
theorem AOV (t0 t1:V):Cl 14 [t0,t1] []=
 (EJ (V.weak t0)).bind fun a9=>(EJ (V.weak t1)).bind fun a10=>(AL .neq a9 a10).bind fun a11=>V.ite a11
  (AQ 0 [] (V.bool false))
  (VS t0 t1 (V.int .i64 0)):=
 Ar (by kernel_rfl)
theorem AOW (t0:V) (h:List V):Cl 15 [t0] h=
 (Ag t0).bind fun a1=>(fA 68 48 6 a1).bind fun a2=>(CU h 48 a2).bind fun a3=>(CT 45 (AB h [a3])).bind fun a4=>AQ (List.length h) h a4.1:=
 Ar (by kernel_rfl)
theorem AOX (t0 t1:V):Cl 19 [t0,t1] []=
 if((tyG 23) (V.weak t0)&&V.under 0 (V.weak t0))=true then if((tyG 25) t1&&V.under 1 t1)=true then jn (fun a1=>
 AQ 0 [(V.weak t0),t1] a1) (fun(a2:V→Rv)=>(CU [(V.weak t0),t1] 24 (V.ref 0 [] 24)).bind fun a3=>(Cl 51 (AB [(V.weak t0),t1] [a3]) []).bind fun a4=>(AL .eql a4.1 (V.int .i64 0)).bind fun a5=>V.ite a5 ((fA 26 9 0 (V.ref 1 [] 26)).bind fun a6=>(AX [(V.weak t0),t1] 9 a6).bind fun a7=>(Cl 52 (AB [(V.weak t0),t1] [a7]) []).bind fun a8=>V.ite a8.1 ((fA 26 3 1 (V.ref 1 [] 26)).bind fun a9=>(AX [(V.weak t0),t1] 3 a9).bind fun a10=>(AL .geq a10 (V.int .i64 0)).bind fun a11=>V.ite a11 ((fA 26 3 1 (V.ref 1 [] 26)).bind fun a12=>(AX [(V.weak t0),t1] 3 a12).bind fun a13=>(fA 24 3 0 (V.ref 0 [] 24)).bind fun a14=>(AX [(V.weak t0),t1] 3 a14).bind fun a15=>(AL .lss a13 a15).bind fun a16=>V.ite a16 ((fA 26 3 2 (V.ref 1 [] 26)).bind fun a17=>(AX [(V.weak t0),t1] 3 a17).bind fun a18=>(AL .geq a18 (V.int .i64 1)).bind fun a19=>V.ite a19 ((fA 26 3 2 (V.ref 1 [] 26)).bind fun a20=>(AX [(V.weak t0),t1] 3 a20).bind fun a21=>(AL .leq a21 (V.int .i64 64)).bind fun a22=>a2 a22) (a2 (V.bool false))) (a2 (V.bool false))) (a2 (V.bool false))) (a2 (V.bool false))) (a2 (V.bool false)))else none else none:=
 Ar (by kernel_rfl)
theorem AOY (t0 t1:V):Cl 20 [t0,t1] []=
 if((tyG 23) (V.weak t0)&&V.under 0 (V.weak t0))=true then if((tyG 25) t1&&V.under 1 t1)=true then jn (fun a1=>
 V.ite a1
  (AQ 0 [(V.weak t0),t1] (V.int .i64 70))
  (AQ 0 [(V.weak t0),t1] (V.int .i64 0))) (fun(a2:V→Rv)=>(CU [(V.weak t0),t1] 24 (V.ref 0 [] 24)).bind fun a3=>(Cl 53 (AB [(V.weak t0),t1] [a3]) []).bind fun a4=>(AL .neq a4.1 (V.int .i64 0)).bind fun a5=>V.ite a5 (a2 (V.bool true)) ((fA 26 9 0 (V.ref 1 [] 26)).bind fun a6=>(AX [(V.weak t0),t1] 9 a6).bind fun a7=>(Cl 54 (AB [(V.weak t0),t1] [a7]) []).bind fun a8=>(un .not a8.1).bind fun a9=>V.ite a9 (a2 (V.bool true)) ((fA 26 3 1 (V.ref 1 [] 26)).bind fun a10=>(AX [(V.weak t0),t1] 3 a10).bind fun a11=>(AL .lss a11 (V.int .i64 0)).bind fun a12=>V.ite a12 (a2 (V.bool true)) ((fA 26 3 1 (V.ref 1 [] 26)).bind fun a13=>(AX [(V.weak t0),t1] 3 a13).bind fun a14=>(fA 24 3 0 (V.ref 0 [] 24)).bind fun a15=>(AX [(V.weak t0),t1] 3 a15).bind fun a16=>(AL .geq a14 a16).bind fun a17=>V.ite a17 (a2 (V.bool true)) ((fA 26 3 2 (V.ref 1 [] 26)).bind fun a18=>(AX [(V.weak t0),t1] 3 a18).bind fun a19=>(AL .lss a19 (V.int .i64 1)).bind fun a20=>V.ite a20 (a2 (V.bool true)) ((fA 26 3 2 (V.ref 1 [] 26)).bind fun a21=>(AX [(V.weak t0),t1] 3 a21).bind fun a22=>(AL .gtr a22 (V.int .i64 64)).bind fun a23=>a2 a23))))))else none else none:=
 Ar (by kernel_rfl)
def QT (t8 t9 t25 t26:V) (h:List V):Rv:=lp W 21 0 (cd 21 303) (bk 0 (sk 21 0 63 (lv 21 0))) ⟨[(8,t8),(9,t9),(25,t25),(26,t26)],h⟩
theorem Tz (t8 t9 t25 t26:V) (h:List V):QT t8 t9 t25 t26 h=
 (AL .lss t26 t25).bind fun a1=>V.ite a1
  (BH P CX W t8 [t26] h fun a2 a3=>if V.noOwn a2=true then V.ite a2
  ((NU 3 false (ck [(tyI .i64) t26] [t26])).bind fun a4=>(FU 3 (tyI .i64) false a3 t9 a4).bind fun a5=>(AL .add t26 (V.int .i64 1)).bind fun a6=>QT t8 a5 t25 a6 a3)
  ((AL .add t26 (V.int .i64 1)).bind fun a7=>QT t8 t9 t25 a7 a3)else none)
  (if(List.all [(V.int .i64 0),t9] V.okE)=true then AQ 0 h (V.tup [t9,(V.int .i64 0)])else none):=
 DV (by kernel_rfl)
theorem AOZ (t0 t1 t2:V):Cl 21 [t0,t1,t2] []=
 if((tyI .i64) t1&&V.under 0 t1)=true then if((tyI .i64) t2&&V.under 1 t2)=true then jn (fun a8=>
 V.ite a8
  (if(List.all [(V.int .i64 60),(V.weak (V.lst 3 .nil []))] V.okE)=true then AQ 0 [t1,t2] (V.tup [(V.weak (V.lst 3 .nil [])),(V.int .i64 60)])else none)
  ((if(List.all [(V.ref 0 [] 3),(V.ref 1 [] 3)] V.capOk)=true then some (V.clo 56 [(V.ref 0 [] 3),(V.ref 1 [] 3)])else none).bind fun a9=>QT a9 (V.weak (V.lst 3 .nil [])) t0 (V.int .i64 0) [t1,t2])) (fun(a10:V→Rv)=>(AX [t1,t2] 3 (V.ref 0 [] 3)).bind fun a11=>(Cl 55 (AB [t1,t2] [t0,a11]) []).bind fun a12=>(un .not a12.1).bind fun a13=>V.ite a13 (a10 (V.bool true)) ((AX [t1,t2] 3 (V.ref 1 [] 3)).bind fun a14=>(AL .lss a14 (V.int .i64 0)).bind fun a15=>V.ite a15 (a10 (V.bool true)) ((AX [t1,t2] 3 (V.ref 1 [] 3)).bind fun a16=>(AX [t1,t2] 3 (V.ref 0 [] 3)).bind fun a17=>(AL .geq a16 a17).bind fun a18=>a10 a18)))else none else none:=
 Ar (by kernel_rfl)
theorem AAF (t0:V):Cl 22 [t0] []=
 (KY .eql (V.weak t0) (V.lst 52 .nil [])).bind fun a1=>V.ite a1
  (AQ 0 [] (V.weak (V.lst 52 .nil [])))
  ((NU 52 false (ck [] [])).bind fun a2=>(FU 52 (tyG 51) false [] a2 t0).bind fun a3=>AQ 0 [] a3):=
 Ar (by kernel_rfl)
theorem AOa (t0 t1:V):Cl 23 [t0,t1] []=
 if((tyG 25) t0&&V.under 0 t0)=true then(fA 26 9 0 (V.ref 0 [] 26)).bind fun a1=>(AX [t0,(V.agg 69 [(V.int .i64 0),(V.int .i64 0),(V.bool false),(V.bool false),(V.int .i64 0)])] 9 a1).bind fun a2=>(Cl 54 (AB [t0,(V.agg 69 [(V.int .i64 0),(V.int .i64 0),(V.bool false),(V.bool false),(V.int .i64 0)])] [a2]) []).bind fun a3=>(un .not a3.1).bind fun a4=>V.ite a4
  (((ck [] [(V.int .i64 0),(V.int .i64 0),(V.bool false),(V.bool false),(V.int .i64 0)]).map (.agg 69)).bind fun a5=>(DJ (tyG 69) 70 [t0,(V.agg 69 [(V.int .i64 0),(V.int .i64 0),(V.bool false),(V.bool false),(V.int .i64 0)])] (V.ref 1 [] 70) a5).bind fun a6=>(AX a6 70 (V.ref 1 [] 70)).bind fun a7=>AQ 0 a6 a7)
  (((ck [(tyI .i64) t1,tyB (V.bool true)] [t1,(V.int .i64 0),(V.bool true),(V.bool false),(V.int .i64 0)]).map (.agg 69)).bind fun a8=>(DJ (tyG 69) 70 [t0,(V.agg 69 [(V.int .i64 0),(V.int .i64 0),(V.bool false),(V.bool false),(V.int .i64 0)]),(V.agg 69 [(V.int .i64 0),(V.int .i64 0),(V.bool false),(V.bool false),(V.int .i64 0)])] (V.ref 2 [] 70) a8).bind fun a9=>(fA 26 9 0 (V.ref 0 [] 26)).bind fun a10=>(AX a9 9 a10).bind fun a11=>(AL .eql a11 (V.str [109,97,120])).bind fun a12=>V.ite a12
  ((AL .mul (V.int .i64 37) t1).bind fun a13=>(AL .add a13 (V.int .i64 11)).bind fun a14=>(AL .rem a14 (V.int .i64 64)).bind fun a15=>(fA 70 2 1 (V.ref 2 [] 70)).bind fun a16=>(DJ (tyI .i64) 2 a9 a16 a15).bind fun a17=>(AX a17 70 (V.ref 2 [] 70)).bind fun a18=>(DJ (tyG 69) 70 a17 (V.ref 1 [] 70) a18).bind fun a19=>(AX a19 70 (V.ref 1 [] 70)).bind fun a20=>AQ 0 a19 a20)
  ((AL .eql a11 (V.str [108,97,98,101,108])).bind fun a21=>V.ite a21
  ((fA 70 2 1 (V.ref 2 [] 70)).bind fun a22=>(DJ (tyI .i64) 2 a9 a22 t1).bind fun a23=>(AX a23 70 (V.ref 2 [] 70)).bind fun a24=>(DJ (tyG 69) 70 a23 (V.ref 1 [] 70) a24).bind fun a25=>(AX a25 70 (V.ref 1 [] 70)).bind fun a26=>AQ 0 a25 a26)
  ((AL .eql a11 (V.str [98,102,115])).bind fun a27=>V.ite a27
  ((fA 26 3 1 (V.ref 0 [] 26)).bind fun a28=>(AX a9 3 a28).bind fun a29=>(AL .neq t1 a29).bind fun a30=>V.ite a30
  ((fA 70 2 1 (V.ref 2 [] 70)).bind fun a31=>(DJ (tyI .i64) 2 a9 a31 (V.int .i64 (-1))).bind fun a32=>(AX a32 70 (V.ref 2 [] 70)).bind fun a33=>(DJ (tyG 69) 70 a32 (V.ref 1 [] 70) a33).bind fun a34=>(AX a34 70 (V.ref 1 [] 70)).bind fun a35=>AQ 0 a34 a35)
  ((AX a9 70 (V.ref 2 [] 70)).bind fun a36=>(DJ (tyG 69) 70 a9 (V.ref 1 [] 70) a36).bind fun a37=>(AX a37 70 (V.ref 1 [] 70)).bind fun a38=>AQ 0 a37 a38))
  ((AL .eql a11 (V.str [115,115,115,112])).bind fun a39=>V.ite a39
  ((fA 26 3 1 (V.ref 0 [] 26)).bind fun a40=>(AX a9 3 a40).bind fun a41=>(AL .neq t1 a41).bind fun a42=>V.ite a42
  ((fA 70 2 1 (V.ref 2 [] 70)).bind fun a43=>(DJ (tyI .i64) 2 a9 a43 (V.int .i64 (-1))).bind fun a44=>(AX a44 70 (V.ref 2 [] 70)).bind fun a45=>(DJ (tyG 69) 70 a44 (V.ref 1 [] 70) a45).bind fun a46=>(AX a46 70 (V.ref 1 [] 70)).bind fun a47=>AQ 0 a46 a47)
  ((AX a9 70 (V.ref 2 [] 70)).bind fun a48=>(DJ (tyG 69) 70 a9 (V.ref 1 [] 70) a48).bind fun a49=>(AX a49 70 (V.ref 1 [] 70)).bind fun a50=>AQ 0 a49 a50))
  ((AL .eql a11 (V.str [114,97,110,107])).bind fun a51=>V.ite a51
  ((fA 70 2 1 (V.ref 2 [] 70)).bind fun a52=>(DJ (tyI .i64) 2 a9 a52 (V.int .i64 65536)).bind fun a53=>(AX a53 70 (V.ref 2 [] 70)).bind fun a54=>(DJ (tyG 69) 70 a53 (V.ref 1 [] 70) a54).bind fun a55=>(AX a55 70 (V.ref 1 [] 70)).bind fun a56=>AQ 0 a55 a56)
  ((AL .eql a11 (V.str [119,97,108,107,115])).bind fun a57=>V.ite a57
  ((fA 70 2 1 (V.ref 2 [] 70)).bind fun a58=>(DJ (tyI .i64) 2 a9 a58 (V.int .i64 1)).bind fun a59=>(AX a59 70 (V.ref 2 [] 70)).bind fun a60=>(DJ (tyG 69) 70 a59 (V.ref 1 [] 70) a60).bind fun a61=>(AX a61 70 (V.ref 1 [] 70)).bind fun a62=>AQ 0 a61 a62)
  ((AX a9 70 (V.ref 2 [] 70)).bind fun a63=>(DJ (tyG 69) 70 a9 (V.ref 1 [] 70) a63).bind fun a64=>(AX a64 70 (V.ref 1 [] 70)).bind fun a65=>AQ 0 a64 a65)))))))else none:=
 Ar (by kernel_rfl)
def AFX (k:Rv):Rv:=
 k
def AFY (h:List V) (k:V→List V→Rv):Rv:=
 (bld P 119 []).bind fun t1=>if(Bc P 119 (V.weak t1)&&V.under (List.length h) (V.weak t1))=true then k (V.ref (List.length h) [] 119) (h++[(V.weak t1)])else none
theorem AOb (h:List V):Cl 24 [] h=
 AFX (AFY h fun a1 a2=>
  QL a2 a1):=
 Ar (by kernel_rfl)
def VT (t0 t1:V) (n:Nat) (h:List V):Rv:=lp W 25 0 (cd 25 8) (bk 0 (sk 25 0 3 (lv 25 n))) ⟨[(0,t0),(1,t1)],h⟩
def AFZ (t1:V) (k:V→Rv):Rv:=
 (AL .geq t1 (V.int .u64 128)).bind fun t5=>k t5
def AFa (t0 t1:V) (h:List V) (k:List V→Rv):Rv:=
 (Ag t0).bind fun t10=>(Af P 119 0 t10).bind fun t11=>(BR h 117 t11).bind fun r=>(conv P r.2 75 5 t1).bind fun t14=>(AL .or t14 (V.int .u8 128)).bind fun t15=>(DR P 117 1 [(0,t15)]).bind fun t16=>(EP P 117 r.2 r.1 t16).bind fun t17=>(Ag t0).bind fun t18=>(Af P 119 0 t18).bind fun t19=>(FW P r.2 117 t19 t17).bind fun a1=>k a1
def AFb (t1:V) (k:V→Rv):Rv:=
 (AL .shr t1 (V.int .u64 7)).bind fun t7=>k t7
def AFc (t0 t1:V) (h:List V) (k:List V→Rv):Rv:=
 (Ag t0).bind fun t22=>(Af P 119 0 t22).bind fun t23=>(BR h 117 t23).bind fun r=>(conv P r.2 75 5 t1).bind fun t26=>(DR P 117 1 [(0,t26)]).bind fun t27=>(EP P 117 r.2 r.1 t27).bind fun t28=>(Ag t0).bind fun t29=>(Af P 119 0 t29).bind fun t30=>(FW P r.2 117 t30 t28).bind fun a1=>k a1
theorem AD0 (t0 t1:V) (n:Nat) (h:List V):VT t0 t1 n h=
 AFZ t1 fun a2=>
  V.ite a2
  (AFa t0 t1 h fun a3=>
  AFb t1 fun a4=>
  VT t0 a4 n a3)
  (AFc t0 t1 h fun a5=>
  if(List.all [] V.okE)=true then AQ n a5 (V.tup [])else none):=
 DV (by kernel_rfl)
theorem AOc (t0 t1:V) (h:List V):Cl 25 [t0,t1] h=
 VT t0 t1 (List.length h) h:=
 Ar (by kernel_rfl)
def VU (t3 t9 t10 t11:V) (h:List V):Rv:=lp W 26 0 (cd 26 75) (bk 0 (sk 26 0 15 (lv 26 0))) ⟨[(3,t3),(9,t9),(10,t10),(11,t11)],h⟩
theorem UA (t3 t9 t10 t11:V) (h:List V):VU t3 t9 t10 t11 h=
 (AL .lss t11 t10).bind fun a1=>V.ite a1
  ((D9 70 t9 t11).bind fun a2=>(AX h 70 a2).bind fun a3=>(DJ (tyG 69) 70 (h++[(V.agg 69 [(V.int .i64 0),(V.int .i64 0),(V.bool false),(V.bool false),(V.int .i64 0)])]) (V.ref (List.length h) [] 70) a3).bind fun a4=>(AX a4 70 (V.ref (List.length h) [] 70)).bind fun a5=>(Cl 47 (AB a4 [a5]) []).bind fun a6=>(D9 9 (V.weak t3) t11).bind fun a7=>(DJ tyS 9 a4 a7 a6.1).bind fun a8=>(AL .add t11 (V.int .i64 1)).bind fun a9=>if Aa (List.length h) [t3,t9,t10,a9]=true then VU t3 t9 t10 a9 (List.take (List.length h) a8)else none)
  (AQ 0 h t3):=
 DV (by kernel_rfl)
theorem AOd (t0:V):Cl 26 [t0] []=
 (EJ (V.weak t0)).bind fun a10=>(mkL 9 (V.str []) a10 a10).bind fun a11=>(Dp [] a11).bind fun a12=>(EJ t0).bind fun a13=>VU a12.1 t0 a13 (V.int .i64 0) a12.2:=
 Ar (by kernel_rfl)
def AFd (t0 t1:V) (h:List V) (k:List V→Rv):Rv:=
 (lenV P 9 t1).bind fun t6=>(conv P h 3 75 t6).bind fun t7=>(Cl 25 (AP [t0,t7]) h).bind fun r=>k r.2
def AFe (t0 t1:V) (h:List V) (k:List V→Rv):Rv:=
 (Ag t0).bind fun t11=>(Af P 119 0 t11).bind fun t12=>(BR h 117 t12).bind fun r=>(EP P 117 r.2 r.1 t1).bind fun t15=>(Ag t0).bind fun t16=>(Af P 119 0 t16).bind fun t17=>(FW P r.2 117 t17 t15).bind fun a1=>k a1
theorem AOe (t0 t1:V) (h:List V):Cl 27 [t0,t1] h=
 AFd t0 t1 h fun a1=>
  AFe t0 t1 a1 fun a2=>
  if(List.all [] V.okE)=true then AQ (List.length h) a2 (V.tup [])else none:=
 Ar (by kernel_rfl)
def AFf (k:Rv):Rv:=
 k
def AFg (t0:V) (h:List V) (k:V→Rv):Rv:=
 (Ag t0).bind fun t4=>(Af P 119 0 t4).bind fun t5=>(CU h 117 t5).bind fun t6=>(conv P h 117 9 t6).bind fun t7=>k t7
theorem AOf (t0:V) (h:List V):Cl 28 [t0] h=
 AFf (AFg t0 h fun a1=>
  AQ (List.length h) h a1):=
 Ar (by kernel_rfl)
def AFh (k:Rv):Rv:=
 k
def AFi (t0:V) (h:List V) (k:V→List V→Rv):Rv:=
 (bld P 122 [(0,t0)]).bind fun t4=>if(Bc P 122 t4&&V.under (List.length h) t4)=true then k (V.ref (List.length h) [] 122) (h++[t4])else none
theorem AOg (t0:V) (h:List V):Cl 29 [t0] h=
 AFh (AFi t0 h fun a1 a2=>
  QL a2 a1):=
 Ar (by kernel_rfl)
def AFj (k:Rv):Rv:=
 k
def AFk (h:List V) (k:V→List V→Rv):Rv:=
 (FW P (h++[zero P 75]) 75 (V.ref (List.length h) [] 75) (V.int .u64 0)).bind fun a1=>k (V.ref (List.length h) [] 75) a1
def AFl (t0 t3:V) (h:List V) (k:List V→Rv):Rv:=
 (if(List.all [t3] V.capOk)=true then some (V.clo 59 [t3])else none).bind fun t5=>(Cl 58 (AP [t0,t5]) h).bind fun r=>k r.2
def AFm (t3:V) (h:List V) (k:V→Rv):Rv:=
 (AX h 75 t3).bind fun t7=>k t7
theorem AOh (t0:V) (h:List V):Cl 30 [t0] h=
 AFj (AFk h fun a2 a3=>
  AFl t0 a2 a3 fun a4=>
  AFm a2 a4 fun a5=>
  AQ (List.length h) a4 a5):=
 Ar (by kernel_rfl)
def AFn (k:Rv):Rv:=
 k
def AFo (t0:V) (h:List V) (k:V→Rv):Rv:=
 (Ag t0).bind fun t4=>(Af P 122 1 t4).bind fun t5=>(AX h 31 t5).bind fun t6=>k t6
theorem AOi (t0:V) (h:List V):Cl 31 [t0] h=
 AFn (AFo t0 h fun a1=>
  AQ (List.length h) h a1):=
 Ar (by kernel_rfl)
theorem AOj (t0:V):Cl 32 [t0] []=
 (Cl 29 (AP [t0]) [(V.agg 69 [(V.int .i64 0),(V.int .i64 0),(V.bool false),(V.bool false),(V.int .i64 0)])]).bind fun a1=>BH P CX W (V.clo 30 []) [a1.1] a1.2 fun a2 a3=>if V.noOwn a2=true then BH P CX W (V.clo 61 []) [a1.1] a3 fun a4 a5=>if V.noOwn a4=true then BH P CX W (V.clo 30 []) [a1.1] a5 fun a6 a7=>if V.noOwn a6=true then BH P CX W (V.clo 30 []) [a1.1] a7 fun a8 a9=>if V.noOwn a8=true then BH P CX W (V.clo 61 []) [a1.1] a9 fun a10 a11=>if V.noOwn a10=true then(Cl 34 (AP [a1.1]) a11).bind fun a12=>(AL .neq a12.1 (V.int .i64 0)).bind fun a13=>V.ite a13
  (((ck [] [(V.int .i64 0),(V.int .i64 0),(V.bool false),(V.bool false),(V.int .i64 0)]).map (.agg 69)).bind fun a14=>(DJ (tyG 69) 70 a12.2 (V.ref 0 [] 70) a14).bind fun a15=>(AX a15 70 (V.ref 0 [] 70)).bind fun a16=>if(List.all [a12.1,a16] V.okE)=true then AQ 0 a15 (V.tup [a16,a12.1])else none)
  ((O4 a2 (V.int .u64 64)).bind fun a17=>(Kr .i64 a17).bind fun a18=>(AL .eql a6 (V.int .u64 1)).bind fun a19=>(AL .eql a8 (V.int .u64 1)).bind fun a20=>((ck [(tyI .i64) a18,(tyI .i64) a4,tyB a19,tyB a20,(tyI .i64) a10] [a18,a4,a19,a20,a10]).map (.agg 69)).bind fun a21=>(DJ (tyG 69) 70 (a12.2++[(V.agg 69 [(V.int .i64 0),(V.int .i64 0),(V.bool false),(V.bool false),(V.int .i64 0)])]) (V.ref (List.length a12.2) [] 70) a21).bind fun a22=>jn (fun a23=>
 V.ite a23
  (((ck [] [(V.int .i64 0),(V.int .i64 0),(V.bool false),(V.bool false),(V.int .i64 0)]).map (.agg 69)).bind fun a24=>(DJ (tyG 69) 70 a22 (V.ref 0 [] 70) a24).bind fun a25=>(AX a25 70 (V.ref 0 [] 70)).bind fun a26=>if(List.all [(V.int .i64 100),a26] V.okE)=true then AQ 0 a25 (V.tup [a26,(V.int .i64 100)])else none)
  ((AX a22 70 (V.ref (List.length a12.2) [] 70)).bind fun a27=>(DJ (tyG 69) 70 a22 (V.ref 0 [] 70) a27).bind fun a28=>(AX a28 70 (V.ref 0 [] 70)).bind fun a29=>if(List.all [(V.int .i64 0),a29] V.okE)=true then AQ 0 a28 (V.tup [a29,(V.int .i64 0)])else none)) (fun(a30:V→Rv)=>(AL .gtr a6 (V.int .u64 1)).bind fun a31=>V.ite a31 (a30 (V.bool true)) ((AL .gtr a8 (V.int .u64 1)).bind fun a32=>V.ite a32 (a30 (V.bool true)) ((AX a22 70 (V.ref (List.length a12.2) [] 70)).bind fun a33=>(Cl 62 (AB a22 [a33]) []).bind fun a34=>(AL .neq a34.1 (V.int .i64 0)).bind fun a35=>a30 a35))))else none else none else none else none else none:=
 Ar (by kernel_rfl)
def AFp (t1:V) (h:List V) (k:V→List V→Rv):Rv:=
 if(Bc P 3 t1&&V.under (List.length h) t1)=true then k (V.ref (List.length h) [] 3) (h++[t1])else none
def AFq (h:List V) (k:V→List V→Rv):Rv:=
 (FW P (h++[zero P 9]) 9 (V.ref (List.length h) [] 9) (V.str [])).bind fun a1=>k (V.ref (List.length h) [] 9) a1
def AFr (t0 t3 t5:V) (h:List V) (k:List V→Rv):Rv:=
 (if(List.all [t3,t5] V.capOk)=true then some (V.clo 63 [t3,t5])else none).bind fun t7=>(Cl 58 (AP [t0,t7]) h).bind fun r=>k r.2
def AFs (t5:V) (h:List V) (k:V→Rv):Rv:=
 (AX h 9 t5).bind fun t9=>k t9
theorem AOk (t0 t1:V) (h:List V):Cl 33 [t0,t1] h=
 AFp t1 h fun a2 a3=>
  AFq a3 fun a4 a5=>
  AFr t0 a2 a4 a5 fun a6=>
  AFs a4 a6 fun a7=>
  AQ (List.length h) a6 a7:=
 Ar (by kernel_rfl)
def AFt (k:Rv):Rv:=
 k
def AFu (t0:V) (h:List V) (k:V→Rv):Rv:=
 (Ag t0).bind fun t4=>(Af P 122 1 t4).bind fun t5=>(AX h 31 t5).bind fun t6=>(AL .eql t6 (V.int .i64 0)).bind fun t7=>V.ite t7 ((Ag t0).bind fun t10=>(Af P 122 0 t10).bind fun t11=>(AX h 9 t11).bind fun t12=>(AL .neq t12 (V.str [])).bind fun t13=>k t13) (k (V.bool false))
def AFv (k:V→Rv):Rv:=
 k (V.int .i64 22)
def AFw (t0:V) (h:List V) (k:V→Rv):Rv:=
 (Ag t0).bind fun t16=>(Af P 122 1 t16).bind fun t17=>(AX h 31 t17).bind fun t18=>k t18
theorem AOl (t0:V) (h:List V):Cl 34 [t0] h=
 AFt (AFu t0 h fun a1=>
  V.ite a1
  (AFv fun a2=>
  AQ (List.length h) h a2)
  (AFw t0 h fun a3=>
  AQ (List.length h) h a3)):=
 Ar (by kernel_rfl)
def Gi (t1 t8 t9 t10:V) (n:Nat) (h:List V):Rv:=lp W 35 0 (cd 35 37) (bk 0 (sk 35 0 7 (lv 35 n))) ⟨[(1,t1),(8,t8),(9,t9),(10,t10)],h⟩
theorem BF (t1 t8 t9 t10:V) (n:Nat) (h:List V):Gi t1 t8 t9 t10 n h=
 (AL .lss t10 t9).bind fun a1=>V.ite a1
  ((D9 70 t8 t10).bind fun a2=>(AX h 70 a2).bind fun a3=>(DJ (tyG 69) 70 (h++[(V.agg 69 [(V.int .i64 0),(V.int .i64 0),(V.bool false),(V.bool false),(V.int .i64 0)])]) (V.ref (List.length h) [] 70) a3).bind fun a4=>(AX a4 70 (V.ref (List.length h) [] 70)).bind fun a5=>BH P CX W t1 [a5] a4 fun a6 a7=>if V.noOwn a6=true then(AL .neq a6 (V.int .i64 0)).bind fun a8=>V.ite a8
  (AQ n a7 a6)
  ((AL .add t10 (V.int .i64 1)).bind fun a9=>if Aa (List.length h) [t1,t8,t9,a9]=true then Gi t1 t8 t9 a9 n (List.take (List.length h) a7)else none)else none)
  (AQ n h (V.int .i64 0)):=
 DV (by kernel_rfl)
theorem JS (t0 t1:V) (h:List V):Cl 35 [t0,t1] h=
 (EJ t0).bind fun a10=>Gi t1 t0 a10 (V.int .i64 0) (List.length h) h:=
 Ar (by kernel_rfl)
theorem VW (t0 t1 t2 t3:V) (h:List V):Cl 36 [t0,t1,t2,t3] h=
 if((tyG 69) t0&&V.under (List.length h) t0)=true then(AX (h++[t0]) 30 t1).bind fun a1=>(Ag a1).bind fun a2=>(fA 68 26 1 a2).bind fun a3=>(fA 26 9 0 a3).bind fun a4=>(AX (h++[t0]) 9 a4).bind fun a5=>(CU (h++[t0]) 36 t2).bind fun a6=>(fA 70 3 0 (V.ref (List.length h) [] 70)).bind fun a7=>(AX (h++[t0]) 3 a7).bind fun a8=>(Cl 37 (AB (h++[t0]) [a5,a6,a8]) []).bind fun a9=>(ext a9.1 0).bind fun a10=>(ext a9.1 1).bind fun a11=>(ext a9.1 2).bind fun a12=>(fA 70 4 3 (V.ref (List.length h) [] 70)).bind fun a13=>(DJ tyB 4 (h++[t0]) a13 a11).bind fun a14=>(fA 70 2 4 (V.ref (List.length h) [] 70)).bind fun a15=>(DJ (tyI .i64) 2 a14 a15 a10).bind fun a16=>(BR a16 48 t3).bind fun a17=>(AX a17.2 70 (V.ref (List.length h) [] 70)).bind fun a18=>(NU 70 false (ck [(tyG 69) a18] [a18])).bind fun a19=>(FU 70 (tyG 69) false a17.2 a17.1 a19).bind fun a20=>(DJ (tyL 70) 48 a17.2 t3 a20).bind fun a21=>AQ (List.length h) a21 a12 else none:=
 Ar (by kernel_rfl)
def VX (t0 t9 t10 t35 t36 t37:V) (h:List V):Rv:=lp W 37 0 (cd 37 607) (bk 0 (sk 37 0 127 (lv 37 0))) ⟨[(0,t0),(9,t9),(10,t10),(35,t35),(36,t36),(37,t37)],h⟩
theorem NZ (t0 t9 t10 t35 t36 t37:V) (h:List V):VX t0 t9 t10 t35 t36 t37 h=
 (AL .lss t37 t36).bind fun a1=>V.ite a1
  ((D9 103 t35 t37).bind fun a2=>(AX h 103 a2).bind fun a3=>(DJ (tyG 102) 103 (h++[(V.agg 102 [(V.int .i64 0),(V.int .i64 0),(V.int .i64 0)])]) (V.ref (List.length h) [] 103) a3).bind fun a4=>(AL .neq t10 (V.int .i64 0)).bind fun a5=>V.ite a5
  ((AL .neq t10 (V.int .i64 0)).bind fun a6=>V.ite a6
  (if(List.all [t10,(V.bool false),(V.int .i64 0)] V.okE)=true then AQ 0 a4 (V.tup [(V.int .i64 0),(V.bool false),t10])else none)
  (if(List.all [(V.int .i64 0),(V.bool true),t9] V.okE)=true then AQ 0 a4 (V.tup [t9,(V.bool true),(V.int .i64 0)])else none))
  ((fA 103 2 2 (V.ref (List.length h) [] 103)).bind fun a7=>(AX a4 2 a7).bind fun a8=>(Cl 65 (AB a4 [t0,t9,a8]) []).bind fun a9=>(ext a9.1 0).bind fun a10=>(ext a9.1 1).bind fun a11=>(AL .add t37 (V.int .i64 1)).bind fun a12=>if Aa (List.length h) [t0,a10,a11,t35,t36,a12]=true then VX t0 a10 a11 t35 t36 a12 (List.take (List.length h) a4)else none))
  ((AL .neq t10 (V.int .i64 0)).bind fun a13=>V.ite a13
  (if(List.all [t10,(V.bool false),(V.int .i64 0)] V.okE)=true then AQ 0 h (V.tup [(V.int .i64 0),(V.bool false),t10])else none)
  (if(List.all [(V.int .i64 0),(V.bool true),t9] V.okE)=true then AQ 0 h (V.tup [t9,(V.bool true),(V.int .i64 0)])else none)):=
 DV (by kernel_rfl)
theorem AFx (t0 t1 t2:V):Cl 37 [t0,t1,t2] []=
 (Cl 54 (AB [] [t0]) []).bind fun a14=>(un .not a14.1).bind fun a15=>V.ite a15
  (if(List.all [(V.int .i64 70),(V.bool false),(V.int .i64 0)] V.okE)=true then AQ 0 [] (V.tup [(V.int .i64 0),(V.bool false),(V.int .i64 70)])else none)
  ((Cl 64 (AB [] [t1,t2]) []).bind fun a16=>(EJ (V.weak a16.1)).bind fun a17=>(AL .eql a17 (V.int .i64 0)).bind fun a18=>V.ite a18
  (if(List.all [(V.int .i64 0),(V.bool false),(V.int .i64 0)] V.okE)=true then AQ 0 [] (V.tup [(V.int .i64 0),(V.bool false),(V.int .i64 0)])else none)
  ((D9 103 (V.weak a16.1) (V.int .i64 0)).bind fun a19=>(fA 103 2 2 a19).bind fun a20=>(AX [] 2 a20).bind fun a21=>(D9 103 (V.weak a16.1) (V.int .i64 0)).bind fun a22=>(fA 103 2 2 a22).bind fun a23=>(AX [] 2 a23).bind fun a24=>(Cl 65 (AB [] [(V.str [109,97,120]),a21,a24]) []).bind fun a25=>(ext a25.1 0).bind fun a26=>(ext a25.1 1).bind fun a27=>(slL 103 a16.1 (some (V.int .i64 1)) none none).bind fun a28=>(EJ a28).bind fun a29=>VX t0 a26 a27 a28 a29 (V.int .i64 0) [])):=
 Ar (by kernel_rfl)
theorem VY (t0 t1 t2 t3 t4:V) (h:List V):Cl 38 [t0,t1,t2,t3,t4] h=
 if((tyG 69) t0&&V.under (List.length h) t0)=true then(AX (h++[t0]) 30 t1).bind fun a1=>(Ag a1).bind fun a2=>(fA 68 24 0 a2).bind fun a3=>(CU (h++[t0]) 24 a3).bind fun a4=>(AX (h++[t0]) 30 t1).bind fun a5=>(Ag a5).bind fun a6=>(fA 68 26 1 a6).bind fun a7=>(AX (h++[t0]) 26 a7).bind fun a8=>(AX (h++[t0]) 3 t2).bind fun a9=>(AX (h++[t0]) 70 (V.ref (List.length h) [] 70)).bind fun a10=>if LQ true [a4,a8,a9,a10]=true then(Cl 39 (AB (h++[t0]) [a4,a8,a9,a10]) []).bind fun a11=>(ext a11.1 0).bind fun a12=>(QI a11.1 1).bind fun a13=>(ext a11.1 2).bind fun a14=>(DJ (tyG 69) 70 ((h++[t0])++[(V.agg 69 [(V.int .i64 0),(V.int .i64 0),(V.bool false),(V.bool false),(V.int .i64 0)])]) (V.ref (List.length (h++[t0])) [] 70) a12).bind fun a15=>if(JL t3 t4&&(JL t3 (V.ref (List.length (h++[t0])) [] 70)&&(JL t4 (V.ref (List.length (h++[t0])) [] 70)&&true)))=true then if Du t3 t3=true then(BR a15 48 t3).bind fun a16=>if Du (V.ref (List.length (h++[t0])) [] 70) (V.ref (List.length (h++[t0])) [] 70)=true then(AX a16.2 70 (V.ref (List.length (h++[t0])) [] 70)).bind fun a17=>(NU 70 false (ck [(tyG 69) a17] [a17])).bind fun a18=>if LQ true [a16.1,a18]=true then(FU 70 (tyG 69) false a16.2 a16.1 a18).bind fun a19=>if Du t4 t4=true then(BR a16.2 36 t4).bind fun a20=>(FU 103 (tyG 102) false a20.2 a20.1 a13).bind fun a21=>(DJ (tyL 70) 48 a20.2 t3 a19).bind fun a22=>(DJ (tyL 103) 36 a22 t4 a21).bind fun a23=>AQ (List.length h) a23 a14 else none else none else none else none else none else none else none:=
 Ar (by kernel_rfl)
def Na (t7 t8 t12 t13 t14 t16 t17 t18 t88 t89 t90:V) (h:List V):Rv:=lp W 39 0 (cd 39 19455) (bk 0 (sk 39 0 4095 (lv 39 0))) ⟨[(7,t7),(8,t8),(12,t12),(13,t13),(14,t14),(16,t16),(17,t17),(18,t18),(88,t88),(89,t89),(90,t90)],h⟩
theorem UB (t7 t8 t12 t13 t14 t16 t17 t18 t88 t89 t90:V) (h:List V):Na t7 t8 t12 t13 t14 t16 t17 t18 t88 t89 t90 h=
 (AL .lss t90 t89).bind fun a1=>V.ite a1
  ((D9 52 t88 t90).bind fun a2=>(AX h 52 a2).bind fun a3=>(DJ (tyG 51) 52 (h++[(V.agg 51 [(V.int .i64 0),(V.int .i64 0),(V.int .i64 0)])]) (V.ref (List.length h) [] 52) a3).bind fun a4=>V.ite t14
  ((AX a4 52 (V.ref (List.length h) [] 52)).bind fun a5=>BH P CX W t18 [a5] a4 fun a6 a7=>if V.noOwn a6=true then(AL .add t90 (V.int .i64 1)).bind fun a8=>if Aa (List.length h) [t7,t8,t12,t13,t14,t16,t17,t18,t88,t89,a8]=true then Na t7 t8 t12 t13 t14 t16 t17 t18 t88 t89 a8 (List.take (List.length h) a7)else none else none)
  ((AL .add t90 (V.int .i64 1)).bind fun a9=>if Aa (List.length h) [t7,t8,t12,t13,t14,t16,t17,t18,t88,t89,a9]=true then Na t7 t8 t12 t13 t14 t16 t17 t18 t88 t89 a9 (List.take (List.length h) a4)else none))
  ((AX h 4 t17).bind fun a10=>V.ite a10
  (((ck [] [(V.int .i64 0),(V.int .i64 0),(V.bool false),(V.bool false),(V.int .i64 0)]).map (.agg 69)).bind fun a11=>(DJ (tyG 69) 70 h t8 a11).bind fun a12=>(AX a12 70 t8).bind fun a13=>if(List.all [(V.int .i64 71),(V.weak (V.lst 103 .nil [])),a13] V.okE)=true then AQ 0 a12 (V.tup [a13,(V.weak (V.lst 103 .nil [])),(V.int .i64 71)])else none)
  (if(JL t8 t16&&true)=true then(fA 70 3 0 t7).bind fun a14=>(AX h 3 a14).bind fun a15=>((ck [(tyI .i64) a15,(tyI .i64) t12,tyB t13] [a15,t12,t13,(V.bool false),(V.int .i64 0)]).map (.agg 69)).bind fun a16=>if Du t16 t16=true then(CU h 36 t16).bind fun a17=>if Du t8 t8=true then(DJ (tyG 69) 70 h t8 a16).bind fun a18=>(AX a18 70 t8).bind fun a19=>if(List.all [(V.int .i64 0),a17,a19] V.okE)=true then AQ 0 a18 (V.tup [a19,a17,(V.int .i64 0)])else none else none else none else none)):=
 DV (by kernel_rfl)
theorem AOm (t0 t1 t2 t3:V):Cl 39 [t0,t1,t2,t3] []=
 if((tyG 23) (V.weak t0)&&V.under 0 (V.weak t0))=true then if((tyG 25) t1&&V.under 1 t1)=true then if((tyG 69) t3&&V.under 2 t3)=true then jn (fun a20=>
 V.ite a20
  (((ck [] [(V.int .i64 0),(V.int .i64 0),(V.bool false),(V.bool false),(V.int .i64 0)]).map (.agg 69)).bind fun a21=>(DJ (tyG 69) 70 [(V.weak t0),t1,t3,(V.agg 69 [(V.int .i64 0),(V.int .i64 0),(V.bool false),(V.bool false),(V.int .i64 0)])] (V.ref 3 [] 70) a21).bind fun a22=>(AX a22 70 (V.ref 3 [] 70)).bind fun a23=>if(List.all [(V.int .i64 70),(V.weak (V.lst 103 .nil [])),a23] V.okE)=true then AQ 0 a22 (V.tup [a23,(V.weak (V.lst 103 .nil [])),(V.int .i64 70)])else none)
  (jn (fun a24=>
 V.ite a24
  (((ck [] [(V.int .i64 0),(V.int .i64 0),(V.bool false),(V.bool false),(V.int .i64 0)]).map (.agg 69)).bind fun a25=>(DJ (tyG 69) 70 [(V.weak t0),t1,t3,(V.agg 69 [(V.int .i64 0),(V.int .i64 0),(V.bool false),(V.bool false),(V.int .i64 0)])] (V.ref 3 [] 70) a25).bind fun a26=>(AX a26 70 (V.ref 3 [] 70)).bind fun a27=>if(List.all [(V.int .i64 71),(V.weak (V.lst 103 .nil [])),a27] V.okE)=true then AQ 0 a26 (V.tup [a27,(V.weak (V.lst 103 .nil [])),(V.int .i64 71)])else none)
  (jn (fun a28=>
 V.ite a28
  ((AX [(V.weak t0),t1,t3,(V.agg 69 [(V.int .i64 0),(V.int .i64 0),(V.bool false),(V.bool false),(V.int .i64 0)])] 70 (V.ref 2 [] 70)).bind fun a29=>(DJ (tyG 69) 70 [(V.weak t0),t1,t3,(V.agg 69 [(V.int .i64 0),(V.int .i64 0),(V.bool false),(V.bool false),(V.int .i64 0)])] (V.ref 3 [] 70) a29).bind fun a30=>(AX a30 70 (V.ref 3 [] 70)).bind fun a31=>if(List.all [(V.int .i64 0),(V.weak (V.lst 103 .nil [])),a31] V.okE)=true then AQ 0 a30 (V.tup [a31,(V.weak (V.lst 103 .nil [])),(V.int .i64 0)])else none)
  ((fA 70 4 3 (V.ref 2 [] 70)).bind fun a32=>(AX [(V.weak t0),t1,t3,(V.agg 69 [(V.int .i64 0),(V.int .i64 0),(V.bool false),(V.bool false),(V.int .i64 0)])] 4 a32).bind fun a33=>(un .not a33).bind fun a34=>jn (fun a35=>(CU a35 24 (V.ref 0 [] 24)).bind fun a36=>(fA 70 3 0 (V.ref 2 [] 70)).bind fun a37=>(AX a35 3 a37).bind fun a38=>(Cl 67 (AB a35 [a36,a38]) []).bind fun a39=>(AX a35 26 (V.ref 1 [] 26)).bind fun a40=>(AX a35 70 (V.ref 2 [] 70)).bind fun a41=>(EJ (V.weak a39.1)).bind fun a42=>(Cl 68 (AB a35 [a40,t2,a41,a42]) []).bind fun a43=>(ext a43.1 0).bind fun a44=>(ext a43.1 1).bind fun a45=>(ext a43.1 2).bind fun a46=>(ext a43.1 3).bind fun a47=>(DJ (tyI .i64) 2 (a35++[(V.int .i64 0)]) (V.ref (List.length a35) [] 2) a47).bind fun a48=>(Cl 66 (AB (a48++[(V.lst 103 .nil [])]) [a44]) []).bind fun a49=>(DJ tyB 4 ((a48++[(V.lst 103 .nil [])])++[(V.bool false)]) (V.ref (List.length (a48++[(V.lst 103 .nil [])])) [] 4) a49.1).bind fun a50=>(if(List.all [(V.ref 2 [] 70),(V.ref (List.length a35) [] 2),(V.ref 1 [] 26),(V.ref (List.length (a48++[(V.lst 103 .nil [])])) [] 4),(V.ref (List.length a48) [] 36)] V.capOk)=true then some (V.clo 69 [(V.ref 2 [] 70),(V.ref (List.length a35) [] 2),(V.ref 1 [] 26),(V.ref (List.length (a48++[(V.lst 103 .nil [])])) [] 4),(V.ref (List.length a48) [] 36)])else none).bind fun a51=>(EJ a39.1).bind fun a52=>Na (V.ref 2 [] 70) (V.ref 3 [] 70) a44 a45 a46 (V.ref (List.length a48) [] 36) (V.ref (List.length (a48++[(V.lst 103 .nil [])])) [] 4) a51 a39.1 a52 (V.int .i64 0) a50)
  (fun(j0:List V→Rv)=>V.ite a34
  ((fA 70 2 4 (V.ref 2 [] 70)).bind fun a53=>(DJ (tyI .i64) 2 [(V.weak t0),t1,t3,(V.agg 69 [(V.int .i64 0),(V.int .i64 0),(V.bool false),(V.bool false),(V.int .i64 0)])] a53 (V.int .i64 0)).bind fun a54=>j0 a54)
  (j0 [(V.weak t0),t1,t3,(V.agg 69 [(V.int .i64 0),(V.int .i64 0),(V.bool false),(V.bool false),(V.int .i64 0)])])))) (fun(a55:V→Rv)=>(fA 70 4 2 (V.ref 2 [] 70)).bind fun a56=>(AX [(V.weak t0),t1,t3,(V.agg 69 [(V.int .i64 0),(V.int .i64 0),(V.bool false),(V.bool false),(V.int .i64 0)])] 4 a56).bind fun a57=>(un .not a57).bind fun a58=>V.ite a58 ((fA 70 4 3 (V.ref 2 [] 70)).bind fun a59=>(AX [(V.weak t0),t1,t3,(V.agg 69 [(V.int .i64 0),(V.int .i64 0),(V.bool false),(V.bool false),(V.int .i64 0)])] 4 a59).bind fun a60=>(un .not a60).bind fun a61=>a55 a61) (a55 (V.bool false))))) (fun(a62:V→Rv)=>(fA 70 2 1 (V.ref 2 [] 70)).bind fun a63=>(AX [(V.weak t0),t1,t3,(V.agg 69 [(V.int .i64 0),(V.int .i64 0),(V.bool false),(V.bool false),(V.int .i64 0)])] 2 a63).bind fun a64=>(Cl 66 (AB [(V.weak t0),t1,t3,(V.agg 69 [(V.int .i64 0),(V.int .i64 0),(V.bool false),(V.bool false),(V.int .i64 0)])] [a64]) []).bind fun a65=>V.ite a65.1 (a62 (V.bool true)) ((fA 70 2 4 (V.ref 2 [] 70)).bind fun a66=>(AX [(V.weak t0),t1,t3,(V.agg 69 [(V.int .i64 0),(V.int .i64 0),(V.bool false),(V.bool false),(V.int .i64 0)])] 2 a66).bind fun a67=>(Cl 66 (AB [(V.weak t0),t1,t3,(V.agg 69 [(V.int .i64 0),(V.int .i64 0),(V.bool false),(V.bool false),(V.int .i64 0)])] [a67]) []).bind fun a68=>a62 a68.1)))) (fun(a69:V→Rv)=>(CU [(V.weak t0),t1,t3,(V.agg 69 [(V.int .i64 0),(V.int .i64 0),(V.bool false),(V.bool false),(V.int .i64 0)])] 24 (V.ref 0 [] 24)).bind fun a70=>(AX [(V.weak t0),t1,t3,(V.agg 69 [(V.int .i64 0),(V.int .i64 0),(V.bool false),(V.bool false),(V.int .i64 0)])] 26 (V.ref 1 [] 26)).bind fun a71=>(Cl 20 (AB [(V.weak t0),t1,t3,(V.agg 69 [(V.int .i64 0),(V.int .i64 0),(V.bool false),(V.bool false),(V.int .i64 0)])] [a70,a71]) []).bind fun a72=>(AL .neq a72.1 (V.int .i64 0)).bind fun a73=>V.ite a73 (a69 (V.bool true)) ((fA 70 3 0 (V.ref 2 [] 70)).bind fun a74=>(AX [(V.weak t0),t1,t3,(V.agg 69 [(V.int .i64 0),(V.int .i64 0),(V.bool false),(V.bool false),(V.int .i64 0)])] 3 a74).bind fun a75=>(AL .lss a75 (V.int .i64 0)).bind fun a76=>V.ite a76 (a69 (V.bool true)) ((fA 70 3 0 (V.ref 2 [] 70)).bind fun a77=>(AX [(V.weak t0),t1,t3,(V.agg 69 [(V.int .i64 0),(V.int .i64 0),(V.bool false),(V.bool false),(V.int .i64 0)])] 3 a77).bind fun a78=>(fA 24 3 0 (V.ref 0 [] 24)).bind fun a79=>(AX [(V.weak t0),t1,t3,(V.agg 69 [(V.int .i64 0),(V.int .i64 0),(V.bool false),(V.bool false),(V.int .i64 0)])] 3 a79).bind fun a80=>(AL .geq a78 a80).bind fun a81=>V.ite a81 (a69 (V.bool true)) ((AL .lss t2 (V.int .i64 0)).bind fun a82=>V.ite a82 (a69 (V.bool true)) ((fA 26 3 2 (V.ref 1 [] 26)).bind fun a83=>(AX [(V.weak t0),t1,t3,(V.agg 69 [(V.int .i64 0),(V.int .i64 0),(V.bool false),(V.bool false),(V.int .i64 0)])] 3 a83).bind fun a84=>(AL .geq t2 a84).bind fun a85=>a69 a85)))))else none else none else none:=
 Ar (by kernel_rfl)
def VZ (t1 t2 t6 t21 t22:V) (h:List V):Rv:=lp W 40 0 (cd 40 151) (bk 0 (sk 40 0 31 (lv 40 0))) ⟨[(1,t1),(2,t2),(6,t6),(21,t21),(22,t22)],h⟩
theorem UC (t1 t2 t6 t21 t22:V) (h:List V):VZ t1 t2 t6 t21 t22 h=
 (AL .lss t22 t21).bind fun a1=>V.ite a1
  ((DJ (tyI .i64) 3 (h++[(V.int .i64 0)]) (V.ref (List.length h) [] 3) t22).bind fun a2=>if Du (V.ref (List.length h) [] 3) (V.ref (List.length h) [] 3)=true then(AX a2 3 (V.ref (List.length h) [] 3)).bind fun a3=>(if(List.all [t2,(V.ref (List.length h) [] 3)] V.capOk)=true then some (V.clo 75 [t2,(V.ref (List.length h) [] 3)])else none).bind fun a4=>Eo P CX W true none [(V.ref (List.length h) [] 3)] (V.clo 74 []) [(V.weak t1),a4] a2 fun a5 a6=>(Cl 73 (AB a6 [a5]) []).bind fun a7=>(D9 36 (V.weak t6) a3).bind fun a8=>(DJ (tyL 103) 36 a6 a8 a7.1).bind fun a9=>(AL .add t22 (V.int .i64 1)).bind fun a10=>if Aa (List.length h) [t1,t2,t6,t21,a10]=true then VZ t1 t2 t6 t21 a10 (List.take (List.length h) a9)else none else none)
  (if(List.all [(V.int .i64 0),t6] V.okE)=true then AQ 0 h (V.tup [t6,(V.int .i64 0)])else none):=
 DV (by kernel_rfl)
theorem AOn (t0 t1:V):Cl 40 [t0,t1] []=
 if((tyI .i64) t0&&V.under 0 t0)=true then jn (fun a11 a12=>
 V.ite a11
  (if(List.all [(V.int .i64 80),(V.weak (V.lst 36 .nil []))] V.okE)=true then AQ 0 a12 (V.tup [(V.weak (V.lst 36 .nil [])),(V.int .i64 80)])else none)
  ((AX a12 3 (V.ref 0 [] 3)).bind fun a13=>(mkL 36 (V.lst 103 .nil []) a13 a13).bind fun a14=>(Dp a12 a14).bind fun a15=>(EJ (V.weak a15.1)).bind fun a16=>VZ t1 (V.ref 0 [] 3) a15.1 a16 (V.int .i64 0) a15.2)) (fun(a17:V→List V→Rv)=>(AX [t0] 3 (V.ref 0 [] 3)).bind fun a18=>(AL .lss a18 (V.int .i64 1)).bind fun a19=>V.ite a19 (a17 (V.bool true) [t0]) ((AX [t0] 3 (V.ref 0 [] 3)).bind fun a20=>(AL .gtr a20 (V.int .i64 64)).bind fun a21=>V.ite a21 (a17 (V.bool true) [t0]) ((Cl 71 (AP [(V.weak t1),(V.clo 72 [])]) [t0]).bind fun a22=>a17 a22.1 a22.2)))else none:=
 Ar (by kernel_rfl)
def Va (t8 t10 t18 t19 t20:V) (h:List V):Rv:=lp W 41 0 (cd 41 75) (bk 0 (sk 41 0 15 (lv 41 0))) ⟨[(8,t8),(10,t10),(18,t18),(19,t19),(20,t20)],h⟩
theorem Nb (t8 t10 t18 t19 t20:V) (h:List V):Va t8 t10 t18 t19 t20 h=
 (AL .lss t20 t19).bind fun a1=>V.ite a1
  ((D9 36 t18 t20).bind fun a2=>(CU h 36 a2).bind fun a3=>(fA 94 55 3 t10).bind fun a4=>if Du t10 a4=true then(BR h 55 a4).bind fun a5=>Dt P CX W (some t10) (V.clo 76 []) [a3] a5.2 fun a6 a7=>(NU 45 false (ck [(tyG 44) a6] [a6])).bind fun a8=>(FU 45 (tyG 44) false a7 a5.1 a8).bind fun a9=>(fA 94 55 3 t10).bind fun a10=>(DJ (tyL 45) 55 a7 a10 a9).bind fun a11=>(AL .add t20 (V.int .i64 1)).bind fun a12=>Va t8 t10 t18 t19 a12 a11 else none)
  ((CU h 94 t10).bind fun a13=>(Cl 77 (AB h [a13]) []).bind fun a14=>(un .not a14.1).bind fun a15=>V.ite a15
  (((ck [] [(V.int .i64 0),(V.int .i64 0),(V.agg 44 (List.replicate 32 (V.int .u8 0))),(V.lst 45 .nil [])]).map (.agg 93)).bind fun a16=>(DJ (tyG 93) 94 h t8 a16).bind fun a17=>(CU a17 94 t8).bind fun a18=>if(List.all [(V.int .i64 120),a18] V.okE)=true then AQ 0 a17 (V.tup [a18,(V.int .i64 120)])else none)
  ((CU h 94 t10).bind fun a19=>(DJ (tyG 93) 94 h t8 a19).bind fun a20=>(CU a20 94 t8).bind fun a21=>if(List.all [(V.int .i64 0),a21] V.okE)=true then AQ 0 a20 (V.tup [a21,(V.int .i64 0)])else none)):=
 DV (by kernel_rfl)
theorem AOo (t0 t1 t2 t3:V):Cl 41 [t0,t1,t2,t3] []=
 (Cl 44 (AB [(V.agg 93 [(V.int .i64 0),(V.int .i64 0),(V.agg 44 (List.replicate 32 (V.int .u8 0))),(V.lst 45 .nil [])])] [t2]) []).bind fun a22=>((ck [(tyI .i64) t0,(tyI .i64) t1,(tyG 44) a22.1] [t0,t1,a22.1,(V.lst 45 .nil [])]).map (.agg 93)).bind fun a23=>(DJ (tyG 93) 94 [(V.agg 93 [(V.int .i64 0),(V.int .i64 0),(V.agg 44 (List.replicate 32 (V.int .u8 0))),(V.lst 45 .nil [])]),(V.agg 93 [(V.int .i64 0),(V.int .i64 0),(V.agg 44 (List.replicate 32 (V.int .u8 0))),(V.lst 45 .nil [])])] (V.ref 1 [] 94) a23).bind fun a24=>(EJ t3).bind fun a25=>Va (V.ref 0 [] 94) (V.ref 1 [] 94) t3 a25 (V.int .i64 0) a24:=
 Ar (by kernel_rfl)
def Vb (t4 t34 t35 t36:V) (h:List V):Rv:=lp W 42 0 (cd 42 4863) (bk 0 (sk 42 0 1023 (lv 42 0))) ⟨[(4,t4),(34,t34),(35,t35),(36,t36)],h⟩
theorem UD (t4 t34 t35 t36:V) (h:List V):Vb t4 t34 t35 t36 h=
 (AL .lss t36 t35).bind fun a1=>V.ite a1
  ((D9 45 t34 t36).bind fun a2=>(AX h 45 a2).bind fun a3=>(DJ (tyG 44) 45 (h++[(V.agg 44 (List.replicate 32 (V.int .u8 0)))]) (V.ref (List.length h) [] 45) a3).bind fun a4=>(AX a4 45 (V.ref (List.length h) [] 45)).bind fun a5=>(Cl 78 (AP [t4,a5]) a4).bind fun a6=>(AL .add t36 (V.int .i64 1)).bind fun a7=>if Aa (List.length h) [t4,t34,t35,a7]=true then Vb t4 t34 t35 a7 (List.take (List.length h) a6.2)else none)
  ((Cl 28 (AP [t4]) h).bind fun a8=>if(List.all [(V.int .i64 0),a8.1] V.okE)=true then AQ 0 a8.2 (V.tup [a8.1,(V.int .i64 0)])else none):=
 DV (by kernel_rfl)
theorem AFy (t0:V):Cl 42 [t0] []=
 if((tyG 93) (V.weak t0)&&V.under 0 (V.weak t0))=true then(CU [(V.weak t0)] 94 (V.ref 0 [] 94)).bind fun a9=>(Cl 77 (AB [(V.weak t0)] [a9]) []).bind fun a10=>(un .not a10.1).bind fun a11=>V.ite a11
  (if(List.all [(V.int .i64 120),(V.str [])] V.okE)=true then AQ 0 [(V.weak t0)] (V.tup [(V.str []),(V.int .i64 120)])else none)
  ((Cl 24 (AP []) [(V.weak t0)]).bind fun a12=>(Cl 25 (AP [a12.1,(V.int .u64 67)]) a12.2).bind fun a13=>(fA 94 3 0 (V.ref 0 [] 94)).bind fun a14=>(AX a13.2 3 a14).bind fun a15=>(Kr .u64 a15).bind fun a16=>(Cl 25 (AP [a12.1,a16]) a13.2).bind fun a17=>(fA 94 3 1 (V.ref 0 [] 94)).bind fun a18=>(AX a17.2 3 a18).bind fun a19=>(Kr .u64 a19).bind fun a20=>(Cl 25 (AP [a12.1,a20]) a17.2).bind fun a21=>(fA 94 45 2 (V.ref 0 [] 94)).bind fun a22=>(AX a21.2 45 a22).bind fun a23=>(Cl 78 (AP [a12.1,a23]) a21.2).bind fun a24=>(fA 94 55 3 (V.ref 0 [] 94)).bind fun a25=>(CU a24.2 55 a25).bind fun a26=>(EJ a26).bind fun a27=>(Kr .u64 a27).bind fun a28=>(Cl 25 (AP [a12.1,a28]) a24.2).bind fun a29=>(fA 94 55 3 (V.ref 0 [] 94)).bind fun a30=>(CU a29.2 55 a30).bind fun a31=>(EJ a31).bind fun a32=>Vb a12.1 a31 a32 (V.int .i64 0) a29.2)else none:=
 Ar (by kernel_rfl)
def AFz (k:Rv):Rv:=
 k
def AF0 (t0:V) (h:List V) (k:V→Rv):Rv:=
 (Cl 79 (AB h [(V.weak t0)]) []).bind fun r=>k r.1
def AF1 (t4:V) (k:V→Rv):Rv:=
 (AL .neq t4 (V.int .i64 0)).bind fun t11=>k t11
def AF2 (t4:V) (k:V→V→Rv):Rv:=
 k (V.str []) t4
def AF3 (h:List V) (k:V→List V→Rv):Rv:=
 (Cl 24 (AP []) h).bind fun r=>k r.1 r.2
def AF4 (t0 t5:V) (h:List V) (k:List V→Rv):Rv:=
 (lenV P 36 (V.weak t0)).bind fun t16=>(conv P h 3 75 t16).bind fun t17=>(Cl 25 (AP [t5,t17]) h).bind fun r=>k r.2
def AF5 (t0:V) (h:List V) (k:V→V→V→Rv):Rv:=
 (Cl 80 (AB h [t0]) []).bind fun r=>(lenV P 39 r.1).bind fun t21=>k r.1 t21 (V.int .i64 0)
def Vd (t5 t20 t21 t22:V) (h:List V):Rv:=lp W 43 0 (cd 43 303) (bk 0 (sk 43 0 63 (lv 43 0))) ⟨[(5,t5),(20,t20),(21,t21),(22,t22)],h⟩
def AAG (t21 t22:V) (k:V→Rv):Rv:=
 (AL .lss t22 t21).bind fun t23=>k t23
def AF6 (t20 t22:V) (h:List V) (k:V→Rv):Rv:=
 (AY P 39 t20 t22).bind fun t24=>(AX h 9 t24).bind fun t25=>k t25
def AF7 (t5 t7:V) (h:List V) (k:List V→Rv):Rv:=
 (Cl 27 (AP [t5,t7]) h).bind fun r=>k r.2
def ABZ (t22:V) (k:V→Rv):Rv:=
 (AL .add t22 (V.int .i64 1)).bind fun t29=>k t29
def ABa (t5:V) (h:List V) (k:V→V→List V→Rv):Rv:=
 (Cl 28 (AP [t5]) h).bind fun r=>k r.1 (V.int .i64 0) r.2
theorem UE (t5 t20 t21 t22:V) (h:List V):Vd t5 t20 t21 t22 h=
 AAG t21 t22 fun a1=>
  V.ite a1
  (AF6 t20 t22 h fun a2=>
  AF7 t5 a2 h fun a3=>
  ABZ t22 fun a4=>
  Vd t5 t20 t21 a4 a3)
  (ABa t5 h fun a5 a6 a7=>
  if(List.all [a6,a5] V.okE)=true then AQ 0 a7 (V.tup [a5,a6])else none):=
 DV (by kernel_rfl)
theorem AOp (t0:V):Cl 43 [t0] []=
 AFz (AF0 t0 [] fun a8=>
  AF1 a8 fun a9=>
  V.ite a9
  (AF2 a8 fun a10 a11=>
  if(List.all [a11,a10] V.okE)=true then AQ 0 [] (V.tup [a10,a11])else none)
  (AF3 [] fun a12 a13=>
  AF4 t0 a12 a13 fun a14=>
  AF5 t0 a14 fun a15 a16 a17=>
  Vd a12 a15 a16 a17 a14)):=
 Ar (by kernel_rfl)
theorem AOq (t0:V):Cl 44 [t0] []=
 (Cl 26 (AB [(V.agg 44 (List.replicate 32 (V.int .u8 0)))] [t0]) []).bind fun a1=>(Cl 81 (AB [(V.agg 44 (List.replicate 32 (V.int .u8 0)))] [a1.1]) []).bind fun a2=>(DJ (tyG 44) 45 [(V.agg 44 (List.replicate 32 (V.int .u8 0)))] (V.ref 0 [] 45) a2.1).bind fun a3=>(AX a3 45 (V.ref 0 [] 45)).bind fun a4=>AQ 0 a3 a4:=
 Ar (by kernel_rfl)
theorem AAH (t0:V):Cl 45 [t0] []=
 (KY .eql (V.weak t0) (V.lst 70 .nil [])).bind fun a1=>V.ite a1
  (AQ 0 [] (V.weak (V.lst 70 .nil [])))
  ((NU 70 false (ck [] [])).bind fun a2=>(FU 70 (tyG 69) false [] a2 t0).bind fun a3=>AQ 0 [] a3):=
 Ar (by kernel_rfl)
theorem AF8 (t0:V):Cl 47 [t0] []=
 if((tyG 69) t0&&V.under 0 t0)=true then(AX [t0] 70 (V.ref 0 [] 70)).bind fun a1=>(Cl 62 (AB [t0] [a1]) []).bind fun a2=>(AL .neq a2.1 (V.int .i64 0)).bind fun a3=>V.ite a3
  (AQ 0 [t0] (V.str []))
  ((Cl 24 (AP []) [t0]).bind fun a4=>(fA 70 3 0 (V.ref 0 [] 70)).bind fun a5=>(AX a4.2 3 a5).bind fun a6=>(Kr .u64 a6).bind fun a7=>(Cl 25 (AP [a4.1,a7]) a4.2).bind fun a8=>(fA 70 2 1 (V.ref 0 [] 70)).bind fun a9=>(AX a8.2 2 a9).bind fun a10=>(Cl 83 (AP [a4.1,a10]) a8.2).bind fun a11=>(fA 70 4 2 (V.ref 0 [] 70)).bind fun a12=>(AX a11.2 4 a12).bind fun a13=>(Cl 84 (AB a11.2 [a13]) []).bind fun a14=>(Cl 25 (AP [a4.1,a14.1]) a11.2).bind fun a15=>(fA 70 4 3 (V.ref 0 [] 70)).bind fun a16=>(AX a15.2 4 a16).bind fun a17=>(Cl 84 (AB a15.2 [a17]) []).bind fun a18=>(Cl 25 (AP [a4.1,a18.1]) a15.2).bind fun a19=>(fA 70 2 4 (V.ref 0 [] 70)).bind fun a20=>(AX a19.2 2 a20).bind fun a21=>(Cl 83 (AP [a4.1,a21]) a19.2).bind fun a22=>(Cl 28 (AP [a4.1]) a22.2).bind fun a23=>AQ 0 a23.2 a23.1)else none:=
 Ar (by kernel_rfl)
def QU (t1 t3 t4:V) (h:List V):Rv:=lp W 51 0 (cd 51 151) (bk 0 (sk 51 0 31 (lv 51 0))) ⟨[(1,t1),(3,t3),(4,t4)],h⟩
def Ve (t1 t3 t4 t5 t6:V) (m0:Nat) (h:List V):Rv:=lp W 51 2 (cd 51 40087) (bk 2 (bk 1 (sk 51 0 919 (lk 51 0 m0 151 (bk 0 (sk 51 0 31 (lv 51 0))))))) ⟨[(1,t1),(3,t3),(4,t4),(5,t5),(6,t6)],h⟩
theorem UF (t1 t3 t4 t5 t6:V) (m0:Nat) (h:List V):Ve t1 t3 t4 t5 t6 m0 h=
 (AL .lss t6 t4).bind fun a1=>V.ite a1
  (jn (fun a2=>
 (AL .add t6 (V.int .i64 1)).bind fun a3=>Ve t1 a2 t4 t5 a3 m0 h) (fun(a4:V→Rv)=>V.ite t3 (a4 (V.bool true)) ((fA 24 22 1 t1).bind fun a5=>(CU h 22 a5).bind fun a6=>(D9 52 a6 t6).bind fun a7=>(fA 52 3 0 a7).bind fun a8=>(AX h 3 a8).bind fun a9=>(fA 52 3 0 t5).bind fun a10=>(AX h 3 a10).bind fun a11=>(AL .eql a9 a11).bind fun a12=>V.ite a12 ((fA 24 22 1 t1).bind fun a13=>(CU h 22 a13).bind fun a14=>(D9 52 a14 t6).bind fun a15=>(fA 52 3 1 a15).bind fun a16=>(AX h 3 a16).bind fun a17=>(fA 52 3 1 t5).bind fun a18=>(AX h 3 a18).bind fun a19=>(AL .eql a17 a19).bind fun a20=>a4 a20) (a4 (V.bool false)))))
  ((AL .add t4 (V.int .i64 1)).bind fun a21=>if Aa m0 [t1,t3,a21]=true then QU t1 t3 a21 (List.take m0 h)else none):=
 DV (by kernel_rfl)
theorem UG (t1 t3 t4:V) (h:List V):QU t1 t3 t4 h=
 (fA 24 22 1 t1).bind fun a22=>(CU h 22 a22).bind fun a23=>(EJ a23).bind fun a24=>(AL .lss t4 a24).bind fun a25=>V.ite a25
  ((fA 24 22 1 t1).bind fun a26=>(CU h 22 a26).bind fun a27=>(D9 52 a27 t4).bind fun a28=>(AX h 52 a28).bind fun a29=>(DJ (tyG 51) 52 (h++[(V.agg 51 [(V.int .i64 0),(V.int .i64 0),(V.int .i64 0)])]) (V.ref (List.length h) [] 52) a29).bind fun a30=>jn (fun a31=>
 V.ite a31
  (AQ 0 a30 (V.int .i64 50))
  (Ve t1 t3 t4 (V.ref (List.length h) [] 52) (V.int .i64 0) (List.length h) a30)) (fun(a32:V→Rv)=>(fA 52 3 0 (V.ref (List.length h) [] 52)).bind fun a33=>(AX a30 3 a33).bind fun a34=>(AL .lss a34 (V.int .i64 0)).bind fun a35=>V.ite a35 (a32 (V.bool true)) ((fA 52 3 0 (V.ref (List.length h) [] 52)).bind fun a36=>(AX a30 3 a36).bind fun a37=>(fA 24 3 0 t1).bind fun a38=>(AX a30 3 a38).bind fun a39=>(AL .geq a37 a39).bind fun a40=>V.ite a40 (a32 (V.bool true)) ((fA 52 3 1 (V.ref (List.length h) [] 52)).bind fun a41=>(AX a30 3 a41).bind fun a42=>(AL .lss a42 (V.int .i64 0)).bind fun a43=>V.ite a43 (a32 (V.bool true)) ((fA 52 3 1 (V.ref (List.length h) [] 52)).bind fun a44=>(AX a30 3 a44).bind fun a45=>(fA 24 3 0 t1).bind fun a46=>(AX a30 3 a46).bind fun a47=>(AL .geq a45 a47).bind fun a48=>V.ite a48 (a32 (V.bool true)) ((fA 52 2 2 (V.ref (List.length h) [] 52)).bind fun a49=>(AX a30 2 a49).bind fun a50=>(AL .lss a50 (V.int .i64 0)).bind fun a51=>V.ite a51 (a32 (V.bool true)) ((fA 52 2 2 (V.ref (List.length h) [] 52)).bind fun a52=>(AX a30 2 a52).bind fun a53=>(AL .gtr a53 (V.int .i64 1048576)).bind fun a54=>a32 a54)))))))
  (V.ite t3
  (AQ 0 h (V.int .i64 51))
  (AQ 0 h (V.int .i64 0))):=
 DV (by kernel_rfl)
theorem Vf (t0:V):Cl 51 [t0] []=
 if((tyG 23) (V.weak t0)&&V.under 0 (V.weak t0))=true then jn (fun a55=>
 V.ite a55
  (AQ 0 [(V.weak t0)] (V.int .i64 50))
  (QU (V.ref 0 [] 24) (V.bool false) (V.int .i64 0) [(V.weak t0)])) (fun(a56:V→Rv)=>(fA 24 3 0 (V.ref 0 [] 24)).bind fun a57=>(AX [(V.weak t0)] 3 a57).bind fun a58=>(AL .lss a58 (V.int .i64 1)).bind fun a59=>V.ite a59 (a56 (V.bool true)) ((fA 24 3 0 (V.ref 0 [] 24)).bind fun a60=>(AX [(V.weak t0)] 3 a60).bind fun a61=>(AL .gtr a61 (V.int .i64 64)).bind fun a62=>V.ite a62 (a56 (V.bool true)) ((fA 24 22 1 (V.ref 0 [] 24)).bind fun a63=>(CU [(V.weak t0)] 22 a63).bind fun a64=>(EJ a64).bind fun a65=>(AL .gtr a65 (V.int .i64 512)).bind fun a66=>a56 a66)))else none:=
 Ar (by kernel_rfl)
theorem AOr (t0:V):Cl 52 [t0] []=
 jn (fun a1=>
 AQ 0 [] a1) (fun(a2:V→Rv)=>(AL .eql t0 (V.str [109,97,120])).bind fun a3=>V.ite a3 (a2 (V.bool true)) ((AL .eql t0 (V.str [108,97,98,101,108])).bind fun a4=>V.ite a4 (a2 (V.bool true)) ((AL .eql t0 (V.str [115,115,115,112])).bind fun a5=>V.ite a5 (a2 (V.bool true)) ((AL .eql t0 (V.str [98,102,115])).bind fun a6=>V.ite a6 (a2 (V.bool true)) ((AL .eql t0 (V.str [100,101,103,114,101,101])).bind fun a7=>V.ite a7 (a2 (V.bool true)) ((AL .eql t0 (V.str [114,97,110,107])).bind fun a8=>V.ite a8 (a2 (V.bool true)) ((AL .eql t0 (V.str [119,97,108,107,115])).bind fun a9=>a2 a9))))))):=
 Ar (by kernel_rfl)
def QV (t4 t5:V) (h:List V):Rv:=lp W 53 0 (cd 53 303) (bk 0 (sk 53 0 63 (lv 53 0))) ⟨[(4,t4),(5,t5)],h⟩
theorem Nc (t4 t5:V) (h:List V):QV t4 t5 h=
 (EJ (V.weak t4)).bind fun a1=>(AL .lss t5 a1).bind fun a2=>V.ite a2
  ((AL .sub t5 (V.int .i64 1)).bind fun a3=>(D9 52 (V.weak t4) a3).bind fun a4=>(AX h 52 a4).bind fun a5=>(D9 52 (V.weak t4) t5).bind fun a6=>(AX h 52 a6).bind fun a7=>(Cl 98 (AB h [a5,a7]) []).bind fun a8=>(AL .eql a8.1 (V.int .i64 0)).bind fun a9=>V.ite a9
  (AQ 0 h (V.int .i64 51))
  ((AL .add t5 (V.int .i64 1)).bind fun a10=>QV t4 a10 h))
  (AQ 0 h (V.int .i64 0)):=
 DV (by kernel_rfl)
theorem QW (t0:V):Cl 53 [t0] []=
 if((tyG 23) (V.weak t0)&&V.under 0 (V.weak t0))=true then(if(List.all [(V.ref 0 [] 24)] V.capOk)=true then some (V.clo 94 [(V.ref 0 [] 24)])else none).bind fun a11=>jn (fun a12 a13=>
 V.ite a12
  (AQ 0 a13 (V.int .i64 50))
  ((fA 24 22 1 (V.ref 0 [] 24)).bind fun a14=>(CU a13 22 a14).bind fun a15=>(Cl 97 (AP [a15]) a13).bind fun a16=>(Cl 96 (AP [a16.1,(V.clo 98 [])]) a16.2).bind fun a17=>QV a17.1 (V.int .i64 1) a17.2)) (fun(a18:V→List V→Rv)=>(fA 24 3 0 (V.ref 0 [] 24)).bind fun a19=>(AX [(V.weak t0)] 3 a19).bind fun a20=>(AL .lss a20 (V.int .i64 1)).bind fun a21=>V.ite a21 (a18 (V.bool true) [(V.weak t0)]) ((fA 24 3 0 (V.ref 0 [] 24)).bind fun a22=>(AX [(V.weak t0)] 3 a22).bind fun a23=>(AL .gtr a23 (V.int .i64 64)).bind fun a24=>V.ite a24 (a18 (V.bool true) [(V.weak t0)]) ((fA 24 22 1 (V.ref 0 [] 24)).bind fun a25=>(CU [(V.weak t0)] 22 a25).bind fun a26=>(EJ a26).bind fun a27=>(AL .gtr a27 (V.int .i64 512)).bind fun a28=>V.ite a28 (a18 (V.bool true) [(V.weak t0)]) ((fA 24 22 1 (V.ref 0 [] 24)).bind fun a29=>(CU [(V.weak t0)] 22 a29).bind fun a30=>(Cl 95 (AP [a30,a11]) [(V.weak t0)]).bind fun a31=>a18 a31.1 a31.2))))else none:=
 Ar (by kernel_rfl)
theorem AOs (t0:V):Cl 54 [t0] []=
 (NU 9 false (ck [tyS (V.str [109,97,120]),tyS (V.str [108,97,98,101,108]),tyS (V.str [115,115,115,112]),tyS (V.str [98,102,115]),tyS (V.str [100,101,103,114,101,101]),tyS (V.str [114,97,110,107]),tyS (V.str [119,97,108,107,115])] [(V.str [109,97,120]),(V.str [108,97,98,101,108]),(V.str [115,115,115,112]),(V.str [98,102,115]),(V.str [100,101,103,114,101,101]),(V.str [114,97,110,107]),(V.str [119,97,108,107,115])])).bind fun a1=>(Cl 99 (AB [] [a1,t0]) []).bind fun a2=>AQ 0 [] a2.1:=
 Ar (by kernel_rfl)
theorem AOt (t0 t1:V):Cl 55 [t0,t1] []=
 jn (fun a1=>
 AQ 0 [] a1) (fun(a2:V→Rv)=>(AL .geq t0 (V.int .i64 1)).bind fun a3=>V.ite a3 ((AL .leq t0 (V.int .i64 64)).bind fun a4=>V.ite a4 ((AL .geq t1 (V.int .i64 1)).bind fun a5=>V.ite a5 ((AL .leq t1 (V.int .i64 64)).bind fun a6=>a2 a6) (a2 (V.bool false))) (a2 (V.bool false))) (a2 (V.bool false))):=
 Ar (by kernel_rfl)
theorem AOu (t0 t1 t2:V) (h:List V):Cl 56 [t0,t1,t2] h=
 (AX h 3 t1).bind fun a1=>(Cl 57 (AB h [t0,a1]) []).bind fun a2=>(AX h 3 t2).bind fun a3=>(AL .eql a2.1 a3).bind fun a4=>AQ (List.length h) h a4:=
 Ar (by kernel_rfl)
theorem AOv (t0 t1:V):Cl 57 [t0,t1] []=
 jn (fun a1=>
 V.ite a1
  (AQ 0 [] (V.int .i64 (-1)))
  ((Kr .u32 t0).bind fun a2=>(Cl 100 (AB [] [a2]) []).bind fun a3=>(Kr .u32 t1).bind fun a4=>(AL .rem a3.1 a4).bind fun a5=>(Kr .i64 a5).bind fun a6=>AQ 0 [] a6)) (fun(a7:V→Rv)=>(AL .lss t0 (V.int .i64 0)).bind fun a8=>V.ite a8 (a7 (V.bool true)) ((AL .lss t1 (V.int .i64 1)).bind fun a9=>V.ite a9 (a7 (V.bool true)) ((AL .gtr t1 (V.int .i64 64)).bind fun a10=>a7 a10))):=
 Ar (by kernel_rfl)
def AAI (k:Rv):Rv:=
 k
def AAJ (t0:V) (h:List V) (k:V→Rv):Rv:=
 (Ag t0).bind fun t8=>(Af P 122 1 t8).bind fun t9=>(AX h 31 t9).bind fun t10=>(AL .neq t10 (V.int .i64 0)).bind fun t11=>k t11
def AF9 (k:V→Rv):Rv:=
 k (V.bool false)
def AGA (t0 t1:V) (h:List V) (k:V→V→List V→Rv):Rv:=
 (Ag t0).bind fun t15=>(Af P 122 0 t15).bind fun t16=>(AX h 9 t16).bind fun t17=>BH P CX W t1 [t17] h fun t18 a1=>if V.noOwn t18=true then(ext t18 0).bind fun t19=>(ext t18 1).bind fun t20=>k t19 t20 a1 else none
def AGB (t0 t6:V) (h:List V) (k:List V→Rv):Rv:=
 (Ag t0).bind fun t23=>(Af P 122 1 t23).bind fun t24=>(FW P h 31 t24 t6).bind fun a1=>k a1
def AGC (t6:V) (k:V→Rv):Rv:=
 (AL .neq t6 (V.int .i64 0)).bind fun t26=>k t26
def AGD (k:V→Rv):Rv:=
 k (V.bool false)
def AGE (t0 t5:V) (h:List V) (k:List V→Rv):Rv:=
 (Ag t0).bind fun t29=>(Af P 122 0 t29).bind fun t30=>(AX h 9 t30).bind fun t31=>(KZ P 9 t31 (some t5) none none).bind fun t33=>(Ag t0).bind fun t34=>(Af P 122 0 t34).bind fun t35=>(FW P h 9 t35 t33).bind fun a1=>k a1
def AGF (k:V→Rv):Rv:=
 k (V.bool true)
theorem AGG (t0 t1:V) (h:List V):Cl 58 [t0,t1] h=
 AAI (AAJ t0 h fun a2=>
  V.ite a2
  (AF9 fun a3=>
  AQ (List.length h) h a3)
  (AGA t0 t1 h fun a4 a5 a6=>
  AGB t0 a5 a6 fun a7=>
  AGC a5 fun a8=>
  V.ite a8
  (AGD fun a9=>
  AQ (List.length h) a7 a9)
  (AGE t0 a4 a7 fun a10=>
  AGF fun a11=>
  AQ (List.length h) a10 a11))):=
 Ar (by kernel_rfl)
def AGH (k:Rv):Rv:=
 k
def AGI (t0:V) (h:List V) (k:V→V→V→Rv):Rv:=
 (Cl 60 (AB h [t0]) []).bind fun r=>(ext r.1 0).bind fun t11=>(ext r.1 1).bind fun t12=>(ext r.1 2).bind fun t13=>k t11 t12 t13
def AGJ (t1 t5:V) (h:List V) (k:List V→Rv):Rv:=
 (FW P h 75 t1 t5).bind fun a1=>k a1
def AGK (t6 t7:V) (k:V→V→Rv):Rv:=
 k t6 t7
theorem AOw (t0 t1:V) (h:List V):Cl 59 [t0,t1] h=
 AGH (AGI t0 h fun a2 a3 a4=>
  AGJ t1 a2 h fun a5=>
  AGK a3 a4 fun a6 a7=>
  if(List.all [a7,a6] V.okE)=true then AQ (List.length h) a5 (V.tup [a6,a7])else none):=
 Ar (by kernel_rfl)
def AGL (k:Rv):Rv:=
 k
def AGM (k:V→Rv):Rv:=
 k (V.int .u64 0)
def AGN (t0:V) (k:V→V→Rv):Rv:=
 (lenV P 9 t0).bind fun t9=>k t9 (V.int .i64 0)
def Vg (t0 t5 t9 t10:V):Rv:=lp W 60 0 (cd 60 75) (bk 0 (sk 60 0 15 (lv 60 0))) ⟨[(0,t0),(5,t5),(9,t9),(10,t10)],[]⟩
def AAK (t9 t10:V) (k:V→Rv):Rv:=
 (AL .lss t10 t9).bind fun t11=>k t11
def AGO (t10:V) (k:V→Rv):Rv:=
 k t10
def AGP (t0 t6:V) (k:V→Rv):Rv:=
 (Il P 9 t0 t6).bind fun t15=>k t15
def AAL (t6 t7:V) (k:V→Rv):Rv:=
 (AL .eql t6 (V.int .i64 9)).bind fun t17=>V.ite t17 ((AL .gtr t7 (V.int .u8 1)).bind fun t20=>V.ite t20 (k (V.bool true)) ((AL .gtr t6 (V.int .i64 0)).bind fun t24=>V.ite t24 ((AL .eql t7 (V.int .u8 0)).bind fun t27=>k t27) (k (V.bool false)))) ((AL .gtr t6 (V.int .i64 0)).bind fun a1=>V.ite a1 ((AL .eql t7 (V.int .u8 0)).bind fun a2=>k a2) (k (V.bool false)))
def AGQ (k:V→V→V→Rv):Rv:=
 k (V.int .u64 0) (V.int .i64 0) (V.int .i64 21)
def AAM (t5 t6 t7:V) (k:V→Rv):Rv:=
 (AL .and t7 (V.int .u8 127)).bind fun t32=>(conv P [] 5 75 t32).bind fun t33=>(AL .mul (V.int .i64 7) t6).bind fun t35=>(conv P [] 3 120 t35).bind fun t36=>(AL .shl t33 t36).bind fun t37=>(AL .or t5 t37).bind fun t38=>k t38
def AGR (t7:V) (k:V→Rv):Rv:=
 (AL .lss t7 (V.int .u8 128)).bind fun t40=>k t40
def ABb (t5 t6:V) (k:V→V→V→Rv):Rv:=
 (AL .add t6 (V.int .i64 1)).bind fun t43=>k t5 t43 (V.int .i64 0)
def ABc (t10:V) (k:V→Rv):Rv:=
 (AL .add t10 (V.int .i64 1)).bind fun t44=>k t44
def ABd (k:V→V→V→Rv):Rv:=
 k (V.int .u64 0) (V.int .i64 0) (V.int .i64 20)
theorem UH (t0 t5 t9 t10:V):Vg t0 t5 t9 t10=
 AAK t9 t10 fun a3=>
  V.ite a3
  (AGO t10 fun a4=>
  AGP t0 a4 fun a5=>
  AAL a4 a5 fun a6=>
  V.ite a6
  (AGQ fun a7 a8 a9=>
  if(List.all [a9,a8,a7] V.okE)=true then AQ 0 [] (V.tup [a7,a8,a9])else none)
  (AAM t5 a4 a5 fun a10=>
  AGR a5 fun a11=>
  V.ite a11
  (ABb a10 a4 fun a12 a13 a14=>
  if(List.all [a14,a13,a12] V.okE)=true then AQ 0 [] (V.tup [a12,a13,a14])else none)
  (ABc t10 fun a15=>
  Vg t0 a10 t9 a15)))
  (ABd fun a16 a17 a18=>
  if(List.all [a18,a17,a16] V.okE)=true then AQ 0 [] (V.tup [a16,a17,a18])else none):=
 DV (by kernel_rfl)
theorem AOx (t0:V):Cl 60 [t0] []=
 AGL (AGM fun a19=>
  AGN t0 fun a20 a21=>
  Vg t0 a19 a20 a21):=
 Ar (by kernel_rfl)
def AGS (k:Rv):Rv:=
 k
def AGT (t0:V) (h:List V) (k:V→List V→Rv):Rv:=
 (Cl 30 (AP [t0]) h).bind fun r=>k r.1 r.2
def AGU (t3:V) (h:List V) (k:V→Rv):Rv:=
 (AL .shr t3 (V.int .u64 1)).bind fun t7=>(conv P h 75 2 t7).bind fun t8=>(AL .and t3 (V.int .u64 1)).bind fun t10=>(conv P h 75 2 t10).bind fun t11=>(un .neg t11).bind fun t12=>(AL .xor t8 t12).bind fun t13=>k t13
theorem AOy (t0:V) (h:List V):Cl 61 [t0] h=
 AGS (AGT t0 h fun a1 a2=>
  AGU a1 a2 fun a3=>
  AQ (List.length h) a2 a3):=
 Ar (by kernel_rfl)
theorem LX (t0:V):Cl 62 [t0] []=
 if((tyG 69) t0&&V.under 0 t0)=true then jn (fun a1=>
 V.ite a1
  (AQ 0 [t0] (V.int .i64 100))
  (AQ 0 [t0] (V.int .i64 0))) (fun(a2:V→Rv)=>(fA 70 3 0 (V.ref 0 [] 70)).bind fun a3=>(AX [t0] 3 a3).bind fun a4=>(AL .lss a4 (V.int .i64 0)).bind fun a5=>V.ite a5 (a2 (V.bool true)) ((fA 70 3 0 (V.ref 0 [] 70)).bind fun a6=>(AX [t0] 3 a6).bind fun a7=>(AL .geq a7 (V.int .i64 64)).bind fun a8=>V.ite a8 (a2 (V.bool true)) ((fA 70 2 1 (V.ref 0 [] 70)).bind fun a9=>(AX [t0] 2 a9).bind fun a10=>(Cl 101 (AB [t0] [a10]) []).bind fun a11=>V.ite a11.1 (a2 (V.bool true)) ((fA 70 2 4 (V.ref 0 [] 70)).bind fun a12=>(AX [t0] 2 a12).bind fun a13=>(Cl 101 (AB [t0] [a13]) []).bind fun a14=>V.ite a14.1 (a2 (V.bool true)) ((fA 70 4 3 (V.ref 0 [] 70)).bind fun a15=>(AX [t0] 4 a15).bind fun a16=>(un .not a16).bind fun a17=>V.ite a17 ((fA 70 2 4 (V.ref 0 [] 70)).bind fun a18=>(AX [t0] 2 a18).bind fun a19=>(AL .neq a19 (V.int .i64 0)).bind fun a20=>a2 a20) (a2 (V.bool false)))))))else none:=
 Ar (by kernel_rfl)
def AGV (k:Rv):Rv:=
 k
def AGW (t0:V) (h:List V) (k:V→V→V→Rv):Rv:=
 (Cl 60 (AB h [t0]) []).bind fun r=>(ext r.1 0).bind fun t12=>(ext r.1 1).bind fun t13=>(ext r.1 2).bind fun t14=>k t12 t13 t14
def AGX (t8:V) (k:V→Rv):Rv:=
 (AL .neq t8 (V.int .i64 0)).bind fun t17=>k t17
def AGY (t8:V) (k:V→V→Rv):Rv:=
 k (V.int .i64 0) t8
def AGZ (t1 t6:V) (h:List V) (k:V→Rv):Rv:=
 (AX h 3 t1).bind fun t20=>(AL .lss t20 (V.int .i64 0)).bind fun t21=>V.ite t21 (k (V.bool true)) ((AX h 3 t1).bind fun t24=>(conv P h 3 75 t24).bind fun t25=>(AL .gtr t6 t25).bind fun t26=>k t26)
def AGa (k:V→V→Rv):Rv:=
 k (V.int .i64 0) (V.int .i64 22)
def AGb (t0 t6 t7:V) (h:List V) (k:V→Rv):Rv:=
 (lenV P 9 t0).bind fun t31=>(AL .sub t31 t7).bind fun t33=>(conv P h 3 75 t33).bind fun t34=>(AL .gtr t6 t34).bind fun t35=>k t35
def AGc (k:V→V→Rv):Rv:=
 k (V.int .i64 0) (V.int .i64 20)
def AGd (t0 t2 t6 t7:V) (h:List V) (k:List V→Rv):Rv:=
 (conv P h 75 3 t6).bind fun t40=>(AL .add t7 t40).bind fun t41=>(KZ P 9 t0 (some t7) (some t41) none).bind fun t42=>(FW P h 9 t2 t42).bind fun a1=>k a1
def AGe (t6 t7:V) (h:List V) (k:V→V→Rv):Rv:=
 (conv P h 75 3 t6).bind fun t45=>(AL .add t7 t45).bind fun t46=>k t46 (V.int .i64 0)
theorem AOz (t0 t1 t2:V) (h:List V):Cl 63 [t0,t1,t2] h=
 AGV (AGW t0 h fun a2 a3 a4=>
  AGX a4 fun a5=>
  V.ite a5
  (AGY a4 fun a6 a7=>
  if(List.all [a7,a6] V.okE)=true then AQ (List.length h) h (V.tup [a6,a7])else none)
  (AGZ t1 a2 h fun a8=>
  V.ite a8
  (AGa fun a9 a10=>
  if(List.all [a10,a9] V.okE)=true then AQ (List.length h) h (V.tup [a9,a10])else none)
  (AGb t0 a2 a3 h fun a11=>
  V.ite a11
  (AGc fun a12 a13=>
  if(List.all [a13,a12] V.okE)=true then AQ (List.length h) h (V.tup [a12,a13])else none)
  (AGd t0 t2 a2 a3 h fun a14=>
  AGe a2 a3 a14 fun a15 a16=>
  if(List.all [a16,a15] V.okE)=true then AQ (List.length h) a14 (V.tup [a15,a16])else none)))):=
 Ar (by kernel_rfl)
theorem AO0 (t0 t1:V):Cl 64 [t0,t1] []=
 if((tyI .i64) t1&&V.under 0 t1)=true then(if(List.all [(V.ref 0 [] 3)] V.capOk)=true then some (V.clo 102 [(V.ref 0 [] 3)])else none).bind fun a1=>(Cl 74 (AP [t0,a1]) [t1]).bind fun a2=>(Cl 73 (AB a2.2 [a2.1]) []).bind fun a3=>AQ 0 a2.2 a3.1 else none:=
 Ar (by kernel_rfl)
theorem JU (t0 t1 t2:V):Cl 65 [t0,t1,t2] []=
 (Cl 54 (AB [] [t0]) []).bind fun a1=>(un .not a1.1).bind fun a2=>V.ite a2
  (if(List.all [(V.int .i64 70),(V.int .i64 0)] V.okE)=true then AQ 0 [] (V.tup [(V.int .i64 0),(V.int .i64 70)])else none)
  (jn (fun a3=>
 V.ite a3
  (if(List.all [(V.int .i64 71),(V.int .i64 0)] V.okE)=true then AQ 0 [] (V.tup [(V.int .i64 0),(V.int .i64 71)])else none)
  ((AL .add t1 t2).bind fun a4=>(AL .eql t0 (V.str [109,97,120])).bind fun a5=>V.ite a5
  ((Xh t1 t2).bind fun a6=>(Cl 66 (AB [] [a6]) []).bind fun a7=>V.ite a7.1
  (if(List.all [(V.int .i64 71),(V.int .i64 0)] V.okE)=true then AQ 0 [] (V.tup [(V.int .i64 0),(V.int .i64 71)])else none)
  (if(List.all [(V.int .i64 0),a6] V.okE)=true then AQ 0 [] (V.tup [a6,(V.int .i64 0)])else none))
  ((AL .eql t0 (V.str [108,97,98,101,108])).bind fun a8=>V.ite a8
  (V.ite a8
  ((O4 t1 t2).bind fun a9=>(Cl 66 (AB [] [a9]) []).bind fun a10=>V.ite a10.1
  (if(List.all [(V.int .i64 71),(V.int .i64 0)] V.okE)=true then AQ 0 [] (V.tup [(V.int .i64 0),(V.int .i64 71)])else none)
  (if(List.all [(V.int .i64 0),a9] V.okE)=true then AQ 0 [] (V.tup [a9,(V.int .i64 0)])else none))
  ((Cl 66 (AB [] [a4]) []).bind fun a11=>V.ite a11.1
  (if(List.all [(V.int .i64 71),(V.int .i64 0)] V.okE)=true then AQ 0 [] (V.tup [(V.int .i64 0),(V.int .i64 71)])else none)
  (if(List.all [(V.int .i64 0),a4] V.okE)=true then AQ 0 [] (V.tup [a4,(V.int .i64 0)])else none)))
  ((AL .eql t0 (V.str [115,115,115,112])).bind fun a12=>V.ite a12
  (V.ite a12
  ((O4 t1 t2).bind fun a13=>(Cl 66 (AB [] [a13]) []).bind fun a14=>V.ite a14.1
  (if(List.all [(V.int .i64 71),(V.int .i64 0)] V.okE)=true then AQ 0 [] (V.tup [(V.int .i64 0),(V.int .i64 71)])else none)
  (if(List.all [(V.int .i64 0),a13] V.okE)=true then AQ 0 [] (V.tup [a13,(V.int .i64 0)])else none))
  ((Cl 66 (AB [] [a4]) []).bind fun a15=>V.ite a15.1
  (if(List.all [(V.int .i64 71),(V.int .i64 0)] V.okE)=true then AQ 0 [] (V.tup [(V.int .i64 0),(V.int .i64 71)])else none)
  (if(List.all [(V.int .i64 0),a4] V.okE)=true then AQ 0 [] (V.tup [a4,(V.int .i64 0)])else none)))
  ((AL .eql t0 (V.str [98,102,115])).bind fun a16=>V.ite a16
  ((O4 t1 t2).bind fun a17=>(Cl 66 (AB [] [a17]) []).bind fun a18=>V.ite a18.1
  (if(List.all [(V.int .i64 71),(V.int .i64 0)] V.okE)=true then AQ 0 [] (V.tup [(V.int .i64 0),(V.int .i64 71)])else none)
  (if(List.all [(V.int .i64 0),a17] V.okE)=true then AQ 0 [] (V.tup [a17,(V.int .i64 0)])else none))
  ((Cl 66 (AB [] [a4]) []).bind fun a19=>V.ite a19.1
  (if(List.all [(V.int .i64 71),(V.int .i64 0)] V.okE)=true then AQ 0 [] (V.tup [(V.int .i64 0),(V.int .i64 71)])else none)
  (if(List.all [(V.int .i64 0),a4] V.okE)=true then AQ 0 [] (V.tup [a4,(V.int .i64 0)])else none))))))) (fun(a20:V→Rv)=>(Cl 66 (AB [] [t1]) []).bind fun a21=>V.ite a21.1 (a20 (V.bool true)) ((Cl 66 (AB [] [t2]) []).bind fun a22=>a20 a22.1))):=
 Ar (by kernel_rfl)
theorem AO1 (t0:V):Cl 66 [t0] []=
 jn (fun a1=>
 AQ 0 [] a1) (fun(a2:V→Rv)=>(AL .gtr t0 (V.int .i64 1125899906842624)).bind fun a3=>V.ite a3 (a2 (V.bool true)) ((AL .lss t0 (V.int .i64 (-1125899906842624))).bind fun a4=>a2 a4)):=
 Ar (by kernel_rfl)
theorem AO2 (t0 t1:V):Cl 67 [t0,t1] []=
 if((tyG 23) (V.weak t0)&&V.under 0 (V.weak t0))=true then if((tyI .i64) t1&&V.under 1 t1)=true then(CU [(V.weak t0),t1] 24 (V.ref 0 [] 24)).bind fun a1=>(if(List.all [(V.ref 1 [] 3)] V.capOk)=true then some (V.clo 104 [(V.ref 1 [] 3)])else none).bind fun a2=>(Cl 103 (AP [a1,a2]) [(V.weak t0),t1]).bind fun a3=>AQ 0 a3.2 a3.1 else none else none:=
 Ar (by kernel_rfl)
def AGf (t0 t1 t2:V) (h:List V) (k:V→V→V→List V→Rv):Rv:=
 if(Bc P 26 t0&&V.under (List.length h) t0)=true then if(Bc P 3 t1&&V.under (List.length (h++[t0])) t1)=true then if(Bc P 70 t2&&V.under (List.length ((h++[t0])++[t1])) t2)=true then k (V.ref (List.length h) [] 26) (V.ref (List.length (h++[t0])) [] 3) (V.ref (List.length ((h++[t0])++[t1])) [] 70) (((h++[t0])++[t1])++[t2])else none else none else none
def AGg (t5 t6:V) (h:List V) (k:V→List V→Rv):Rv:=
 (AX h 3 t5).bind fun t15=>(AL .gtr t15 (V.int .i64 0)).bind fun t16=>V.ite t16 ((Af P 70 3 t6).bind fun t18=>(AX h 4 t18).bind fun t19=>(FW P (h++[zero P 4]) 4 (V.ref (List.length h) [] 4) t19).bind fun a1=>k (V.ref (List.length h) [] 4) a1) ((FW P (h++[zero P 4]) 4 (V.ref (List.length h) [] 4) (V.bool false)).bind fun a2=>k (V.ref (List.length h) [] 4) a2)
def AGh (t5 t6 t12:V) (k:V→Rv):Rv:=
 (if(List.all [t5,t6,t12] V.capOk)=true then some (V.clo 105 [t5,t6,t12])else none).bind fun t21=>k t21
def AGi (t4:V) (h:List V) (k:V→Rv):Rv:=
 (Af P 26 0 t4).bind fun t22=>(AX h 9 t22).bind fun t23=>k t23
def AGj (t23:V) (k:V→Rv):Rv:=
 (AL .eql t23 (V.str [109,97,120])).bind fun t25=>k t25
def AGk (t6 t13:V) (h:List V) (k:V→V→V→V→List V→Rv):Rv:=
 (Af P 70 4 t6).bind fun t27=>(AX h 2 t27).bind fun t28=>(Af P 70 1 t6).bind fun t29=>(AX h 2 t29).bind fun t30=>(AL .gtr t28 t30).bind fun t31=>BH P CX W t13 [t31] h fun t32 a1=>if V.noOwn t32=true then(ext t32 0).bind fun t33=>(ext t32 1).bind fun t34=>(ext t32 2).bind fun t35=>(ext t32 3).bind fun t36=>k t33 t34 t35 t36 a1 else none
def AGl (t23:V) (k:V→Rv):Rv:=
 (AL .eql t23 (V.str [108,97,98,101,108])).bind fun t38=>k t38
def AGm (t6 t13:V) (h:List V) (k:V→V→V→V→List V→Rv):Rv:=
 (Af P 70 4 t6).bind fun t40=>(AX h 2 t40).bind fun t41=>(Af P 70 1 t6).bind fun t42=>(AX h 2 t42).bind fun t43=>(AL .lss t41 t43).bind fun t44=>BH P CX W t13 [t44] h fun t45 a1=>if V.noOwn t45=true then(ext t45 0).bind fun t46=>(ext t45 1).bind fun t47=>(ext t45 2).bind fun t48=>(ext t45 3).bind fun t49=>k t46 t47 t48 t49 a1 else none
def AGn (t23:V) (k:V→Rv):Rv:=
 (AL .eql t23 (V.str [115,115,115,112])).bind fun t51=>k t51
def Vh (t5:V) (h:List V) (k:V→Rv):Rv:=
 (AX h 3 t5).bind fun t53=>(AL .eql t53 (V.int .i64 0)).bind fun t54=>k t54
def Vj (t4 t6:V) (h:List V) (k:V→V→V→V→Rv):Rv:=
 (Af P 70 1 t6).bind fun t55=>(AX h 2 t55).bind fun t56=>(Af P 70 0 t6).bind fun t57=>(AX h 3 t57).bind fun t58=>(Af P 26 1 t4).bind fun t59=>(AX h 3 t59).bind fun t60=>(AL .eql t58 t60).bind fun t61=>k t56 (V.bool false) t61 (V.int .i64 0)
def Vk (t6 t13:V) (h:List V) (k:V→V→V→V→List V→Rv):Rv:=
 (Af P 70 1 t6).bind fun t63=>(AX h 2 t63).bind fun t64=>(AL .lss t64 (V.int .i64 0)).bind fun t65=>V.ite t65 (BH P CX W t13 [(V.bool true)] h fun t73 a1=>if V.noOwn t73=true then(ext t73 0).bind fun t74=>(ext t73 1).bind fun t75=>(ext t73 2).bind fun t76=>(ext t73 3).bind fun t77=>k t74 t75 t76 t77 a1 else none) ((Af P 70 4 t6).bind fun t67=>(AX h 2 t67).bind fun t68=>(Af P 70 1 t6).bind fun t69=>(AX h 2 t69).bind fun t70=>(AL .lss t68 t70).bind fun t71=>BH P CX W t13 [t71] h fun a3 a2=>if V.noOwn a3=true then(ext a3 0).bind fun a4=>(ext a3 1).bind fun a5=>(ext a3 2).bind fun a6=>(ext a3 3).bind fun a7=>k a4 a5 a6 a7 a2 else none)
def Vl (t23:V) (k:V→Rv):Rv:=
 (AL .eql t23 (V.str [100,101,103,114,101,101])).bind fun t79=>k t79
def Vm (t12:V) (h:List V) (k:V→Rv):Rv:=
 (AX h 4 t12).bind fun t80=>k t80
def Vo (t6:V) (h:List V) (k:V→V→V→V→Rv):Rv:=
 (Af P 70 4 t6).bind fun t81=>(AX h 2 t81).bind fun t82=>k t82 (V.bool false) (V.bool false) (V.int .i64 0)
def Vp (t5 t6:V) (h:List V) (k:V→V→V→V→Rv):Rv:=
 (Af P 70 1 t6).bind fun t83=>(AX h 2 t83).bind fun t84=>(AX h 3 t5).bind fun t85=>(AL .eql t85 (V.int .i64 0)).bind fun t86=>k t84 (V.bool false) t86 (V.int .i64 1)
def Vq (t23:V) (k:V→Rv):Rv:=
 (AL .eql t23 (V.str [119,97,108,107,115])).bind fun t88=>k t88
def Vr (t5:V) (h:List V) (k:V→Rv):Rv:=
 (AX h 3 t5).bind fun t89=>(AL .eql t89 (V.int .i64 0)).bind fun t90=>k t90
def Vs (t6:V) (h:List V) (k:V→V→V→V→Rv):Rv:=
 (Af P 70 1 t6).bind fun t91=>(AX h 2 t91).bind fun t92=>k t92 (V.bool false) (V.bool true) (V.int .i64 1)
def Vt (t6 t12:V) (h:List V) (k:V→V→V→V→Rv):Rv:=
 (Af P 70 1 t6).bind fun t93=>(AX h 2 t93).bind fun t94=>(Af P 70 4 t6).bind fun t95=>(AX h 2 t95).bind fun t96=>(AL .add t94 t96).bind fun t97=>(AX h 4 t12).bind fun t98=>(Af P 70 4 t6).bind fun t99=>(AX h 2 t99).bind fun t100=>k t97 (V.bool false) t98 t100
def Vu (t6:V) (h:List V) (k:V→Rv):Rv:=
 (Af P 70 1 t6).bind fun t101=>(AX h 2 t101).bind fun t102=>k t102
def Vw (t5:V) (h:List V) (k:V→Rv):Rv:=
 (AX h 3 t5).bind fun t103=>(AL .gtr t103 (V.int .i64 0)).bind fun t104=>k t104
def Vx (t4 t5:V) (h:List V) (k:V→Rv):Rv:=
 (AX h 3 t5).bind fun t110=>(Af P 26 2 t4).bind fun t111=>(AX h 3 t111).bind fun t112=>(AL .sub t112 (V.int .i64 1)).bind fun t113=>(AL .eql t110 t113).bind fun t114=>k t114
def Vy (t14:V) (k:V→V→V→V→Rv):Rv:=
 k t14 (V.bool false) (V.bool false) (V.int .i64 0)
def Vz (t3 t14:V) (h:List V) (k:V→V→V→V→Rv):Rv:=
 (AL .gtr t3 (V.int .i64 0)).bind fun t118=>(Xh t3 (V.int .i64 1)).bind fun t121=>(Cl 106 (AB h [t14,t121]) []).bind fun r=>k t14 (V.bool true) t118 r.1
def V3 (t6:V) (h:List V) (k:V→Rv):Rv:=
 (Af P 70 4 t6).bind fun t105=>(AX h 2 t105).bind fun t106=>(AL .mul t106 (V.int .i64 85)).bind fun t107=>(Cl 106 (AB h [t107,(V.int .i64 100)]) []).bind fun r=>(AL .add (V.int .i64 9830) r.1).bind fun t109=>k t109
def AGo (t23:V) (k:V→Rv):Rv:=
 (AL .eql t23 (V.str [98,102,115])).bind fun t52=>k t52
theorem AO3 (t0 t1 t2 t3:V):Cl 68 [t0,t1,t2,t3] []=
 AGf t0 t1 t2 [] fun a8 a9 a10 a11=>
  AGg a9 a10 a11 fun a12 a13=>
  AGh a9 a10 a12 fun a14=>
  AGi a8 a13 fun a15=>
  AGj a15 fun a16=>
  V.ite a16
  (AGk a10 a14 a13 fun a17 a18 a19 a20 a21=>
  if(List.all [a20,a19,a18,a17] V.okE)=true then AQ 0 a21 (V.tup [a17,a18,a19,a20])else none)
  (AGl a15 fun a22=>
  V.ite a22
  (AGm a10 a14 a13 fun a23 a24 a25 a26 a27=>
  if(List.all [a26,a25,a24,a23] V.okE)=true then AQ 0 a27 (V.tup [a23,a24,a25,a26])else none)
  (AGn a15 fun a28=>
  V.ite a28
  (V.ite a28
  (Vh a9 a13 fun a29=>
  V.ite a29
  (Vj a8 a10 a13 fun a30 a31 a32 a33=>
  if(List.all [a33,a32,a31,a30] V.okE)=true then AQ 0 a13 (V.tup [a30,a31,a32,a33])else none)
  (Vk a10 a14 a13 fun a34 a35 a36 a37 a38=>
  if(List.all [a37,a36,a35,a34] V.okE)=true then AQ 0 a38 (V.tup [a34,a35,a36,a37])else none))
  (Vl a15 fun a39=>
  V.ite a39
  (Vm a12 a13 fun a40=>
  V.ite a40
  (Vo a10 a13 fun a41 a42 a43 a44=>
  if(List.all [a44,a43,a42,a41] V.okE)=true then AQ 0 a13 (V.tup [a41,a42,a43,a44])else none)
  (Vp a9 a10 a13 fun a45 a46 a47 a48=>
  if(List.all [a48,a47,a46,a45] V.okE)=true then AQ 0 a13 (V.tup [a45,a46,a47,a48])else none))
  (Vq a15 fun a49=>
  V.ite a49
  (Vr a9 a13 fun a50=>
  V.ite a50
  (Vs a10 a13 fun a51 a52 a53 a54=>
  if(List.all [a54,a53,a52,a51] V.okE)=true then AQ 0 a13 (V.tup [a51,a52,a53,a54])else none)
  (Vt a10 a12 a13 fun a55 a56 a57 a58=>
  if(List.all [a58,a57,a56,a55] V.okE)=true then AQ 0 a13 (V.tup [a55,a56,a57,a58])else none))
  (Vu a10 a13 fun a59=>
  Vw a9 a13 fun a60=>
  jn (fun a61=>Vx a8 a9 a13 fun a62=>
  V.ite a62
  (Vy a61 fun a63 a64 a65 a66=>
  if(List.all [a66,a65,a64,a63] V.okE)=true then AQ 0 a13 (V.tup [a63,a64,a65,a66])else none)
  (Vz t3 a61 a13 fun a67 a68 a69 a70=>
  if(List.all [a70,a69,a68,a67] V.okE)=true then AQ 0 a13 (V.tup [a67,a68,a69,a70])else none))
  (fun(j0:V→Rv)=>V.ite a60
  (V3 a10 a13 fun a71=>
  j0 a71)
  (j0 a59))))))
  (AGo a15 fun a72=>
  V.ite a72
  (Vh a9 a13 fun a73=>
  V.ite a73
  (Vj a8 a10 a13 fun a74 a75 a76 a77=>
  if(List.all [a77,a76,a75,a74] V.okE)=true then AQ 0 a13 (V.tup [a74,a75,a76,a77])else none)
  (Vk a10 a14 a13 fun a78 a79 a80 a81 a82=>
  if(List.all [a81,a80,a79,a78] V.okE)=true then AQ 0 a82 (V.tup [a78,a79,a80,a81])else none))
  (Vl a15 fun a83=>
  V.ite a83
  (Vm a12 a13 fun a84=>
  V.ite a84
  (Vo a10 a13 fun a85 a86 a87 a88=>
  if(List.all [a88,a87,a86,a85] V.okE)=true then AQ 0 a13 (V.tup [a85,a86,a87,a88])else none)
  (Vp a9 a10 a13 fun a89 a90 a91 a92=>
  if(List.all [a92,a91,a90,a89] V.okE)=true then AQ 0 a13 (V.tup [a89,a90,a91,a92])else none))
  (Vq a15 fun a93=>
  V.ite a93
  (Vr a9 a13 fun a94=>
  V.ite a94
  (Vs a10 a13 fun a95 a96 a97 a98=>
  if(List.all [a98,a97,a96,a95] V.okE)=true then AQ 0 a13 (V.tup [a95,a96,a97,a98])else none)
  (Vt a10 a12 a13 fun a99 a100 a101 a102=>
  if(List.all [a102,a101,a100,a99] V.okE)=true then AQ 0 a13 (V.tup [a99,a100,a101,a102])else none))
  (Vu a10 a13 fun a103=>
  Vw a9 a13 fun a104=>
  jn (fun a105=>Vx a8 a9 a13 fun a106=>
  V.ite a106
  (Vy a105 fun a107 a108 a109 a110=>
  if(List.all [a110,a109,a108,a107] V.okE)=true then AQ 0 a13 (V.tup [a107,a108,a109,a110])else none)
  (Vz t3 a105 a13 fun a111 a112 a113 a114=>
  if(List.all [a114,a113,a112,a111] V.okE)=true then AQ 0 a13 (V.tup [a111,a112,a113,a114])else none))
  (fun(j1:V→Rv)=>V.ite a104
  (V3 a10 a13 fun a115=>
  j1 a115)
  (j1 a103)))))))):=
 Ar (Dv<|EQ (fun K u4 u5 u6 h'=>K ⟨[(3,t3),(4,u4),(5,u5),(6,u6)],h'⟩) (funext fun a8=>funext fun a9=>funext fun a10=>funext fun a11=>Cm<|Dv<|EQ (fun K u12 h'=>K ⟨[(3,t3),(4,a8),(5,a9),(6,a10),(12,u12)],h'⟩) (funext fun a12=>funext fun a13=>Cm<|Dv<|EQ (fun K u13=>K ⟨[(3,t3),(4,a8),(5,a9),(6,a10),(12,a12),(13,u13)],a13⟩) (funext fun a14=>Cm<|Dv<|Dv<|EQ (fun K u23=>K ⟨[(3,t3),(4,a8),(5,a9),(6,a10),(12,a12),(13,a14),(23,u23)],a13⟩) (funext fun a15=>Cm<|AKV<|Dv<|EQ (fun K u24=>K ⟨[(3,t3),(4,a8),(5,a9),(6,a10),(12,a12),(13,a14),(23,a15),(24,u24)],a13⟩) (funext fun a16=>Cm<|E8 (by kernel_rfl) (Dv<|EQ (fun K u37=>K ⟨[(3,t3),(4,a8),(5,a9),(6,a10),(12,a12),(13,a14),(23,a15),(37,u37)],a13⟩) (funext fun a22=>Cm<|E8 (by kernel_rfl) (Dv<|Dv<|EQ (fun K u50=>K ⟨[(3,t3),(4,a8),(5,a9),(6,a10),(12,a12),(13,a14),(23,a15),(50,u50)],a13⟩) (funext fun a28=>Cm<|E8 (LV<|Cm<|E8 (by kernel_rfl) (Dv<|EQ (fun K u78=>K ⟨[(3,t3),(4,a8),(5,a9),(6,a10),(12,a12),(23,a15),(78,u78)],a13⟩) (funext fun a39=>Cm<|E8 (by kernel_rfl) (Dv<|EQ (fun K u87=>K ⟨[(3,t3),(4,a8),(5,a9),(6,a10),(12,a12),(87,u87)],a13⟩) (funext fun a49=>Cm<|E8 (by kernel_rfl) (LV<|Xp<|Cm<|Dv<|EQ (fun K u14=>K ⟨[(3,t3),(4,a8),(5,a9),(6,a10),(14,u14)],a13⟩) (funext fun a59=>Cm<|Dv<|Dv<|EQ (fun K u104=>K ⟨[(3,t3),(4,a8),(5,a9),(6,a10),(14,a59),(104,u104)],a13⟩) (funext fun a60=>Cm<|AOO (fun K a61=>K ⟨[(3,t3),(4,a8),(5,a9),(14,a61)],a13⟩) (funext fun a61=>by kernel_rfl) (E8 (EQ (fun K u14=>K ⟨[(3,t3),(4,a8),(5,a9),(14,u14)],a13⟩) (funext fun a71=>rfl)) (LV<|ARz)))))))))) (EQ (fun K u50=>K ⟨[(3,t3),(4,a8),(5,a9),(6,a10),(12,a12),(13,a14),(23,a15),(50,u50)],a13⟩) (funext fun a72=>Cm<|E8 (by kernel_rfl) (Dv<|EQ (fun K u78=>K ⟨[(3,t3),(4,a8),(5,a9),(6,a10),(12,a12),(23,a15),(78,u78)],a13⟩) (funext fun a83=>Cm<|E8 (by kernel_rfl) (Dv<|EQ (fun K u87=>K ⟨[(3,t3),(4,a8),(5,a9),(6,a10),(12,a12),(87,u87)],a13⟩) (funext fun a93=>Cm<|E8 (by kernel_rfl) (LV<|Xp<|Cm<|Dv<|EQ (fun K u14=>K ⟨[(3,t3),(4,a8),(5,a9),(6,a10),(14,u14)],a13⟩) (funext fun a103=>Cm<|Dv<|Dv<|EQ (fun K u104=>K ⟨[(3,t3),(4,a8),(5,a9),(6,a10),(14,a103),(104,u104)],a13⟩) (funext fun a104=>Cm<|AOO (fun K a105=>K ⟨[(3,t3),(4,a8),(5,a9),(14,a105)],a13⟩) (funext fun a105=>by kernel_rfl) (E8 (EQ (fun K u14=>K ⟨[(3,t3),(4,a8),(5,a9),(14,u14)],a13⟩) (funext fun a115=>rfl)) (LV<|ARz)))))))))))))))))))))
theorem AO4 (t0 t1 t2 t3 t4 t5:V) (h:List V):Cl 69 [t0,t1,t2,t3,t4,t5] h=
 if((tyG 51) t0&&V.under (List.length h) t0)=true then(fA 70 3 0 t1).bind fun a1=>(AX (h++[t0]) 3 a1).bind fun a2=>(fA 52 3 1 (V.ref (List.length h) [] 52)).bind fun a3=>(AX (h++[t0]) 3 a3).bind fun a4=>(AX (h++[t0]) 2 t2).bind fun a5=>(fA 26 9 0 t3).bind fun a6=>(AX (h++[t0]) 9 a6).bind fun a7=>(AX (h++[t0]) 52 (V.ref (List.length h) [] 52)).bind fun a8=>if LQ true [a7,a8]=true then(Cl 70 (AB (h++[t0]) [a7,a8]) []).bind fun a9=>(AL .add a5 a9.1).bind fun a10=>((ck [(tyI .i64) a2,(tyI .i64) a4,(tyI .i64) a10] [a2,a4,a10]).map (.agg 102)).bind fun a11=>(DJ (tyG 102) 103 ((h++[t0])++[(V.agg 102 [(V.int .i64 0),(V.int .i64 0),(V.int .i64 0)])]) (V.ref (List.length (h++[t0])) [] 103) a11).bind fun a12=>jn (fun a13=>
 (BR a13 36 t5).bind fun a14=>(AX a14.2 103 (V.ref (List.length (h++[t0])) [] 103)).bind fun a15=>(NU 103 false (ck [(tyG 102) a15] [a15])).bind fun a16=>(FU 103 (tyG 102) false a14.2 a14.1 a16).bind fun a17=>(DJ (tyL 103) 36 a14.2 t5 a17).bind fun a18=>if(List.all [] V.okE)=true then AQ (List.length h) a18 (V.tup [])else none) (fun(a19:List V→Rv)=>(AX a12 4 t4).bind fun a20=>V.ite a20 ((DJ tyB 4 a12 t4 (V.bool true)).bind fun a21=>a19 a21) ((fA 103 2 2 (V.ref (List.length (h++[t0])) [] 103)).bind fun a22=>(AX a12 2 a22).bind fun a23=>(Cl 66 (AB a12 [a23]) []).bind fun a24=>(DJ tyB 4 a12 t4 a24.1).bind fun a25=>a19 a25))else none else none:=
 Ar (by kernel_rfl)
theorem AO5 (t0 t1:V):Cl 70 [t0,t1] []=
 if((tyG 51) t1&&V.under 0 t1)=true then(AL .eql t0 (V.str [115,115,115,112])).bind fun a1=>V.ite a1
  ((fA 52 2 2 (V.ref 0 [] 52)).bind fun a2=>(AX [t1] 2 a2).bind fun a3=>AQ 0 [t1] a3)
  ((AL .eql t0 (V.str [98,102,115])).bind fun a4=>V.ite a4
  (AQ 0 [t1] (V.int .i64 1))
  (AQ 0 [t1] (V.int .i64 0)))else none:=
 Ar (by kernel_rfl)
theorem AO6 (t0 t1:V) (h:List V):Cl 71 [t0,t1] h=
 (Cl 107 (AP [t0,t1]) h).bind fun a1=>(AL .geq a1.1 (V.int .i64 0)).bind fun a2=>AQ (List.length h) a1.2 a2:=
 Ar (by kernel_rfl)
theorem AO7 (t0:V):Cl 72 [t0] []=
 if((tyG 102) t0&&V.under 0 t0)=true then(fA 103 3 1 (V.ref 0 [] 103)).bind fun a1=>(AX [t0] 3 a1).bind fun a2=>(AL .lss a2 (V.int .i64 0)).bind fun a3=>AQ 0 [t0] a3 else none:=
 Ar (by kernel_rfl)
def AGp (k:Rv):Rv:=
 k
def AGq (t0:V) (h:List V) (k:V→List V→Rv):Rv:=
 (EP P 36 h (V.lst 103 .nil []) t0).bind fun v=>(Dp h v).bind fun r=>k r.1 r.2
def AGr (t3:V) (h:List V) (k:List V→Rv):Rv:=
 (Z5 2000109 103 [(V.weak t3),(V.clo 109 [])] h).bind fun r=>k r.2
def AGt (t3:V) (k:V→Rv):Rv:=
 k t3
theorem AO8 (t0:V):Cl 73 [t0] []=
 AGp (AGq t0 [] fun a1 a2=>
  AGr a1 a2 fun a3=>
  AGt a1 fun a4=>
  AQ 0 a3 a4):=
 Ar (by kernel_rfl)
def QX (t1 t5 t8 t9 t10:V) (n:Nat) (h:List V):Rv:=lp W 74 0 (cd 74 75) (bk 0 (sk 74 0 15 (lv 74 n))) ⟨[(1,t1),(5,t5),(8,t8),(9,t9),(10,t10)],h⟩
theorem Nh (t1 t5 t8 t9 t10:V) (n:Nat) (h:List V):QX t1 t5 t8 t9 t10 n h=
 (AL .lss t10 t9).bind fun a1=>V.ite a1
  ((D9 103 t8 t10).bind fun a2=>(AX h 103 a2).bind fun a3=>(DJ (tyG 102) 103 (h++[(V.agg 102 [(V.int .i64 0),(V.int .i64 0),(V.int .i64 0)])]) (V.ref (List.length h) [] 103) a3).bind fun a4=>(AX a4 103 (V.ref (List.length h) [] 103)).bind fun a5=>BH P CX W t1 [a5] a4 fun a6 a7=>if V.noOwn a6=true then V.ite a6
  ((AX a7 103 (V.ref (List.length h) [] 103)).bind fun a8=>(NU 103 false (ck [(tyG 102) a8] [a8])).bind fun a9=>(FU 103 (tyG 102) false a7 t5 a9).bind fun a10=>(AL .add t10 (V.int .i64 1)).bind fun a11=>if Aa (List.length h) [t1,a10,t8,t9,a11]=true then QX t1 a10 t8 t9 a11 n (List.take (List.length h) a7)else none)
  ((AL .add t10 (V.int .i64 1)).bind fun a12=>if Aa (List.length h) [t1,t5,t8,t9,a12]=true then QX t1 t5 t8 t9 a12 n (List.take (List.length h) a7)else none)else none)
  (AQ n h t5):=
 DV (by kernel_rfl)
theorem AO9 (t0 t1:V) (h:List V):Cl 74 [t0,t1] h=
 (EJ t0).bind fun a13=>QX t1 (V.weak (V.lst 103 .nil [])) t0 a13 (V.int .i64 0) (List.length h) h:=
 Ar (by kernel_rfl)
theorem APA (t0 t1 t2:V) (h:List V):Cl 75 [t0,t1,t2] h=
 if((tyG 102) t0&&V.under (List.length h) t0)=true then(fA 103 3 1 (V.ref (List.length h) [] 103)).bind fun a1=>(AX (h++[t0]) 3 a1).bind fun a2=>(AX (h++[t0]) 3 t1).bind fun a3=>(Cl 57 (AB (h++[t0]) [a2,a3]) []).bind fun a4=>(AX (h++[t0]) 3 t2).bind fun a5=>(AL .eql a4.1 a5).bind fun a6=>AQ (List.length h) (h++[t0]) a6 else none:=
 Ar (by kernel_rfl)
theorem APB (t0:V):Cl 76 [t0] []=
 (Cl 80 (AB [(V.agg 44 (List.replicate 32 (V.int .u8 0)))] [t0]) []).bind fun a1=>(Cl 81 (AB [(V.agg 44 (List.replicate 32 (V.int .u8 0)))] [a1.1]) []).bind fun a2=>(DJ (tyG 44) 45 [(V.agg 44 (List.replicate 32 (V.int .u8 0)))] (V.ref 0 [] 45) a2.1).bind fun a3=>(AX a3 45 (V.ref 0 [] 45)).bind fun a4=>AQ 0 a3 a4:=
 Ar (by kernel_rfl)
theorem APC (t0:V):Cl 77 [t0] []=
 if((tyG 93) (V.weak t0)&&V.under 0 (V.weak t0))=true then jn (fun a1 a2=>
 AQ 0 a2 a1) (fun(a3:V→List V→Rv)=>(fA 94 3 0 (V.ref 0 [] 94)).bind fun a4=>(AX [(V.weak t0)] 3 a4).bind fun a5=>BH P CX W (V.clo 110 []) [a5,(V.int .i64 0),(V.int .i64 63)] [(V.weak t0)] fun a6 a7=>if V.noOwn a6=true then V.ite a6 ((fA 94 3 1 (V.ref 0 [] 94)).bind fun a8=>(AX a7 3 a8).bind fun a9=>BH P CX W (V.clo 110 []) [a9,(V.int .i64 0),(V.int .i64 63)] a7 fun a10 a11=>if V.noOwn a10=true then V.ite a10 ((fA 94 55 3 (V.ref 0 [] 94)).bind fun a12=>(CU a11 55 a12).bind fun a13=>(EJ a13).bind fun a14=>BH P CX W (V.clo 110 []) [a14,(V.int .i64 1),(V.int .i64 64)] a11 fun a15 a16=>if V.noOwn a15=true then a3 a15 a16 else none) (a3 (V.bool false) a11)else none) (a3 (V.bool false) a7)else none)else none:=
 Ar (by kernel_rfl)
theorem APD (t0 t1:V) (h:List V):Cl 78 [t0,t1] h=
 if((tyG 44) t1&&V.under (List.length h) t1)=true then(Ag t0).bind fun a1=>(fA 119 117 0 a1).bind fun a2=>(BR (h++[t1]) 117 a2).bind fun a3=>(slA 45 44 32 5 (V.ref (List.length h) [] 45) none none none).bind fun a4=>(FU 5 (tyI .u8) false a3.2 a3.1 a4).bind fun a5=>(Ag t0).bind fun a6=>(fA 119 117 0 a6).bind fun a7=>(DJ (tyL 5) 117 a3.2 a7 a5).bind fun a8=>if(List.all [] V.okE)=true then AQ (List.length h) a8 (V.tup [])else none else none:=
 Ar (by kernel_rfl)
def AGu (k:Rv):Rv:=
 k
def AGv (k:V→Rv):Rv:=
 k (V.clo 111 [])
def AGx (t0:V) (k:V→Rv):Rv:=
 (lenV P 36 (V.weak t0)).bind fun t9=>(AL .gtr t9 (V.int .i64 512)).bind fun t10=>k t10
def AGy (k:V→Rv):Rv:=
 k (V.int .i64 110)
def AGz (t0:V) (h:List V) (k:V→Rv):Rv:=
 (Cl 73 (AB h [t0]) []).bind fun r=>k r.1
def AG0 (t4:V) (k:V→V→V→Rv):Rv:=
 (lenV P 36 (V.weak t4)).bind fun t14=>k (V.weak t4) t14 (V.int .i64 0)
def V4 (t3 t4 t13 t14 t15:V) (h:List V):Rv:=lp W 79 0 (cd 79 303) (bk 0 (sk 79 0 63 (lv 79 0))) ⟨[(3,t3),(4,t4),(13,t13),(14,t14),(15,t15)],h⟩
def AAN (t14 t15:V) (k:V→Rv):Rv:=
 (AL .lss t15 t14).bind fun t16=>k t16
def AG1 (t13 t15:V) (h:List V) (k:V→V→List V→Rv):Rv:=
 (AY P 36 t13 t15).bind fun t18=>(AX h 103 t18).bind fun t19=>(FW P (h++[zero P 103]) 103 (V.ref (List.length h) [] 103) t19).bind fun a1=>k t15 (V.ref (List.length h) [] 103) a1
def AAO (t4 t5 t6:V) (h:List V) (k:V→Rv):Rv:=
 (AL .gtr t5 (V.int .i64 0)).bind fun t21=>V.ite t21 ((AL .sub t5 (V.int .i64 1)).bind fun t25=>(AY P 36 (V.weak t4) t25).bind fun t26=>(Af P 103 0 t26).bind fun t27=>(AX h 3 t27).bind fun t28=>(Af P 103 0 t6).bind fun t29=>(AX h 3 t29).bind fun t30=>(AL .eql t28 t30).bind fun t31=>V.ite t31 ((AL .sub t5 (V.int .i64 1)).bind fun t36=>(AY P 36 (V.weak t4) t36).bind fun t37=>(Af P 103 1 t37).bind fun t38=>(AX h 3 t38).bind fun t39=>(Af P 103 1 t6).bind fun t40=>(AX h 3 t40).bind fun t41=>(AL .eql t39 t41).bind fun t42=>k t42) (k (V.bool false))) (k (V.bool false))
def AAP (t3 t6 t7:V) (h:List V) (k:V→List V→Rv):Rv:=
 (Af P 103 0 t6).bind fun t45=>(AX h 3 t45).bind fun t46=>BH P CX W t3 [t46] h fun t47 a1=>if V.noOwn t47=true then(un .not t47).bind fun t48=>V.ite t48 (k (V.bool true) a1) ((Af P 103 1 t6).bind fun t51=>(AX a1 3 t51).bind fun t52=>BH P CX W t3 [t52] a1 fun t53 a2=>if V.noOwn t53=true then(un .not t53).bind fun t54=>V.ite t54 (k (V.bool true) a2) ((Af P 103 2 t6).bind fun t57=>(AX a2 2 t57).bind fun t58=>(AL .gtr t58 (V.int .i64 1125899906842624)).bind fun t59=>V.ite t59 (k (V.bool true) a2) ((Af P 103 2 t6).bind fun t62=>(AX a2 2 t62).bind fun t63=>(AL .lss t63 (V.int .i64 (-1125899906842624))).bind fun t64=>V.ite t64 (k (V.bool true) a2) (k t7 a2)))else none)else none
def ABe (k:V→Rv):Rv:=
 k (V.int .i64 110)
def ABf (t15:V) (k:V→Rv):Rv:=
 (AL .add t15 (V.int .i64 1)).bind fun t69=>k t69
def ABg (k:V→Rv):Rv:=
 k (V.int .i64 0)
theorem UI (t3 t4 t13 t14 t15:V) (h:List V):V4 t3 t4 t13 t14 t15 h=
 AAN t14 t15 fun a3=>
  V.ite a3
  (AG1 t13 t15 h fun a4 a5 a6=>
  AAO t4 a4 a5 a6 fun a7=>
  AAP t3 a5 a7 a6 fun a8 a9=>
  V.ite a8
  (ABe fun a10=>
  AQ 0 a9 a10)
  (ABf t15 fun a11=>
  if Aa (List.length h) [t3,t4,t13,t14,a11]=true then V4 t3 t4 t13 t14 a11 (List.take (List.length h) a9)else none))
  (ABg fun a12=>
  AQ 0 h a12):=
 DV (by kernel_rfl)
theorem APE (t0:V):Cl 79 [t0] []=
 AGu (AGv fun a13=>
  AGx t0 fun a14=>
  V.ite a14
  (AGy fun a15=>
  AQ 0 [] a15)
  (AGz t0 [] fun a16=>
  AG0 a16 fun a17 a18 a19=>
  V4 a13 a16 a17 a18 a19 [])):=
 Ar (by kernel_rfl)
def AG2 (k:Rv):Rv:=
 k
def AG3 (k:V→Rv):Rv:=
 k (V.weak (V.lst 9 .nil []))
def AG4 (t0:V) (h:List V) (k:V→V→V→Rv):Rv:=
 (Cl 73 (AB h [t0]) []).bind fun r=>(lenV P 36 r.1).bind fun t8=>k r.1 t8 (V.int .i64 0)
def V5 (t3 t7 t8 t9:V) (h:List V):Rv:=lp W 80 0 (cd 80 75) (bk 0 (sk 80 0 15 (lv 80 0))) ⟨[(3,t3),(7,t7),(8,t8),(9,t9)],h⟩
def AAQ (t8 t9:V) (k:V→Rv):Rv:=
 (AL .lss t9 t8).bind fun t10=>k t10
def AG5 (t7 t9:V) (h:List V) (k:V→List V→Rv):Rv:=
 (AY P 36 t7 t9).bind fun t11=>(AX h 103 t11).bind fun t12=>(FW P (h++[zero P 103]) 103 (V.ref (List.length h) [] 103) t12).bind fun a1=>k (V.ref (List.length h) [] 103) a1
def AG6 (t3 t5:V) (h:List V) (k:V→Rv):Rv:=
 (AX h 103 t5).bind fun t14=>(Cl 112 (AB h [t14]) []).bind fun r=>(DR P 39 1 [(0,r.1)]).bind fun t16=>(EP P 39 h t3 t16).bind fun t17=>k t17
def AG7 (t9:V) (k:V→Rv):Rv:=
 (AL .add t9 (V.int .i64 1)).bind fun t18=>k t18
def AG8 (t3:V) (k:V→Rv):Rv:=
 k t3
theorem UJ (t3 t7 t8 t9:V) (h:List V):V5 t3 t7 t8 t9 h=
 AAQ t8 t9 fun a2=>
  V.ite a2
  (AG5 t7 t9 h fun a3 a4=>
  AG6 t3 a3 a4 fun a5=>
  AG7 t9 fun a6=>
  if Aa (List.length h) [a5,t7,t8,a6]=true then V5 a5 t7 t8 a6 (List.take (List.length h) a4)else none)
  (AG8 t3 fun a7=>
  AQ 0 h a7):=
 DV (by kernel_rfl)
theorem APF (t0:V):Cl 80 [t0] []=
 AG2 (AG3 fun a8=>
  AG4 t0 [] fun a9 a10 a11=>
  V5 a8 a9 a10 a11 []):=
 Ar (by kernel_rfl)
theorem APG (t0:V):Cl 81 [t0] []=
 (EJ (V.weak t0)).bind fun a1=>(Cl 87 (AB [(V.agg 44 (List.replicate 32 (V.int .u8 0)))] [t0]) []).bind fun a2=>(Cl 113 (AB [(V.agg 44 (List.replicate 32 (V.int .u8 0)))] [a1,a2.1]) []).bind fun a3=>(DJ (tyG 44) 45 [(V.agg 44 (List.replicate 32 (V.int .u8 0)))] (V.ref 0 [] 45) a3.1).bind fun a4=>(AX a4 45 (V.ref 0 [] 45)).bind fun a5=>AQ 0 a4 a5:=
 Ar (by kernel_rfl)
def AG9 (t0 t1:V) (h:List V) (k:List V→Rv):Rv:=
 (conv P h 2 75 t1).bind fun t6=>(AL .shl t6 (V.int .u64 1)).bind fun t7=>(AL .shr t1 (V.int .u64 63)).bind fun t9=>(conv P h 2 75 t9).bind fun t10=>(AL .xor t7 t10).bind fun t11=>(Cl 25 (AP [t0,t11]) h).bind fun r=>k r.2
theorem APH (t0 t1:V) (h:List V):Cl 83 [t0,t1] h=
 AG9 t0 t1 h fun a1=>
  if(List.all [] V.okE)=true then AQ (List.length h) a1 (V.tup [])else none:=
 Ar (by kernel_rfl)
theorem APJ (t0:V):Cl 84 [t0] []=
 V.ite t0
  (AQ 0 [] (V.int .u64 1))
  (AQ 0 [] (V.int .u64 0)):=
 Ar (by kernel_rfl)
def V6 (t0 t3:V):Rv:=lp W 86 0 (cd 86 71) (bk 0 (sk 86 0 31 (lv 86 0))) ⟨[(0,t0),(3,t3)],[]⟩
theorem AD1 (t0 t3:V):V6 t0 t3=
 (AL .sub t0 t3).bind fun a1=>(AL .lss t3 a1).bind fun a2=>V.ite a2
  ((AL .mul t3 (V.int .i64 2)).bind fun a3=>V6 t0 a3)
  (AQ 0 [] t3):=
 DV (by kernel_rfl)
theorem APK (t0:V):Cl 86 [t0] []=
 (AL .lss t0 (V.int .i64 2)).bind fun a4=>V.ite a4
  (AQ 0 [] (V.int .i64 0))
  (V6 t0 (V.int .i64 1)):=
 Ar (by kernel_rfl)
theorem AHA (t0:V):Cl 87 [t0] []=
 (EJ (V.weak t0)).bind fun a1=>(AL .eql a1 (V.int .i64 0)).bind fun a2=>V.ite a2
  ((NU 5 false (ck [(tyI .u8) (V.int .u8 2)] [(V.int .u8 2)])).bind fun a3=>(NU 117 true (ck [(tyL 5) a3] [(V.weak a3)])).bind fun a4=>(Cl 114 (AB [(V.agg 44 (List.replicate 32 (V.int .u8 0)))] [a4]) []).bind fun a5=>(DJ (tyG 44) 45 [(V.agg 44 (List.replicate 32 (V.int .u8 0)))] (V.ref 0 [] 45) a5.1).bind fun a6=>(AX a6 45 (V.ref 0 [] 45)).bind fun a7=>AQ 0 a6 a7)
  ((AL .eql a1 (V.int .i64 1)).bind fun a8=>V.ite a8
  ((D9 9 t0 (V.int .i64 0)).bind fun a9=>(AX [(V.agg 44 (List.replicate 32 (V.int .u8 0)))] 9 a9).bind fun a10=>(Cl 115 (AB [(V.agg 44 (List.replicate 32 (V.int .u8 0)))] [a10]) []).bind fun a11=>(DJ (tyG 44) 45 [(V.agg 44 (List.replicate 32 (V.int .u8 0)))] (V.ref 0 [] 45) a11.1).bind fun a12=>(AX a12 45 (V.ref 0 [] 45)).bind fun a13=>AQ 0 a12 a13)
  ((EJ (V.weak t0)).bind fun a14=>(Cl 86 (AB [(V.agg 44 (List.replicate 32 (V.int .u8 0)))] [a14]) []).bind fun a15=>(slL 9 (V.weak t0) none (some a15.1) (some a15.1)).bind fun a16=>(Cl 87 (AB [(V.agg 44 (List.replicate 32 (V.int .u8 0)))] [a16]) []).bind fun a17=>(slL 9 (V.weak t0) (some a15.1) none none).bind fun a18=>(Cl 87 (AB [(V.agg 44 (List.replicate 32 (V.int .u8 0)))] [a18]) []).bind fun a19=>(Cl 116 (AB [(V.agg 44 (List.replicate 32 (V.int .u8 0)))] [a17.1,a19.1]) []).bind fun a20=>(DJ (tyG 44) 45 [(V.agg 44 (List.replicate 32 (V.int .u8 0)))] (V.ref 0 [] 45) a20.1).bind fun a21=>(AX a21 45 (V.ref 0 [] 45)).bind fun a22=>AQ 0 a21 a22)):=
 Ar (by kernel_rfl)
def AHB (k:Rv):Rv:=
 k
def AHC (t0:V) (h:List V) (k:V→Rv):Rv:=
 (conv P h 9 117 t0).bind fun t26=>(DR P 117 1 [(0,(V.int .u8 128))]).bind fun t27=>(EP P 117 h t26 t27).bind fun t28=>k t28
def V7 (t0 t3:V) (h:List V):Rv:=lp W 92 0 (cd 92 35) (bk 0 (sk 92 0 15 (lv 92 0))) ⟨[(0,t0),(3,t3)],h⟩
def AAR (t3:V) (k:V→Rv):Rv:=
 (lenV P 117 (V.weak t3)).bind fun t30=>(AL .rem t30 (V.int .i64 64)).bind fun t31=>(AL .neq t31 (V.int .i64 56)).bind fun t32=>k t32
def AHD (t3:V) (h:List V) (k:V→Rv):Rv:=
 (DR P 117 1 [(0,(V.int .u8 0))]).bind fun t34=>(EP P 117 h t3 t34).bind fun t35=>k t35
def AHE (t0:V) (h:List V) (k:V→Rv):Rv:=
 (lenV P 9 t0).bind fun t37=>(AL .mul (V.int .i64 8) t37).bind fun t38=>(conv P h 3 75 t38).bind fun t39=>k t39
def AHF (k:V→Rv):Rv:=
 k (V.int .i64 7)
def V8 (t3 t4 t5:V) (h:List V):Rv:=lp W 92 2 (cd 92 303) (bk 2 (sk 92 0 63 (lv 92 0))) ⟨[(3,t3),(4,t4),(5,t5)],h⟩
def AAS (t5:V) (k:V→Rv):Rv:=
 (AL .geq t5 (V.int .i64 0)).bind fun t41=>k t41
def AHG (t3 t4 t5:V) (h:List V) (k:V→Rv):Rv:=
 (AL .mul (V.int .i64 8) t5).bind fun t47=>(Cl 117 (AB h [t47]) []).bind fun r=>(AL .quo t4 r.1).bind fun t49=>(AL .rem t49 (V.int .u64 256)).bind fun t50=>(conv P h 75 5 t50).bind fun t51=>(DR P 117 1 [(0,t51)]).bind fun t52=>(EP P 117 h t3 t52).bind fun t53=>k t53
def AHH (t5:V) (k:V→Rv):Rv:=
 (AL .sub t5 (V.int .i64 1)).bind fun t43=>k t43
def AHI (h:List V) (k:V→Rv):Rv:=
 (Cl 118 (AB h []) []).bind fun r=>k r.1
def ABh (h:List V) (k:V→List V→Rv):Rv:=
 (DR P 181 8 [(0,(V.int .u64 1779033703)),(1,(V.int .u64 3144134277)),(2,(V.int .u64 1013904242)),(3,(V.int .u64 2773480762)),(4,(V.int .u64 1359893119)),(5,(V.int .u64 2600822924)),(6,(V.int .u64 528734635)),(7,(V.int .u64 1541459225))]).bind fun v=>(Dp h v).bind fun r=>k r.1 r.2
def ABi (k:V→Rv):Rv:=
 k (V.int .i64 0)
def IA (t3 t6 t7 t8:V) (h:List V):Rv:=lp W 92 4 (cd 92 2431) (bk 4 (sk 92 0 511 (lv 92 0))) ⟨[(3,t3),(6,t6),(7,t7),(8,t8)],h⟩
def V9 (t3 t8:V) (k:V→Rv):Rv:=
 (lenV P 117 (V.weak t3)).bind fun t58=>(AL .lss t8 t58).bind fun t59=>k t59
def ABj (k:V→Rv):Rv:=
 (DR P 181 0 []).bind fun t62=>k t62
def ABk (k:V→Rv):Rv:=
 k (V.int .i64 0)
def Nj (t3 t6 t7 t8 t9 t10:V) (m4:Nat) (h:List V):Rv:=lp W 92 6 (cd 92 608639) (bk 6 (sk 92 5 117119 (bk 5 (sk 92 4 14719 (lk 92 4 m4 2431 (bk 4 (sk 92 0 511 (lv 92 0)))))))) ⟨[(3,t3),(6,t6),(7,t7),(8,t8),(9,t9),(10,t10)],h⟩
def O9 (t10:V) (k:V→Rv):Rv:=
 (AL .lss t10 (V.int .i64 64)).bind fun t64=>k t64
def WA (t10:V) (k:V→Rv):Rv:=
 (AL .lss t10 (V.int .i64 16)).bind fun t68=>k t68
def ABl (t3 t8 t10:V) (k:V→Rv):Rv:=
 (AL .mul (V.int .i64 4) t10).bind fun t72=>(AL .add t8 t72).bind fun t73=>(AL .mul (V.int .i64 4) t10).bind fun t76=>(AL .add t8 t76).bind fun t77=>(AL .add t77 (V.int .i64 4)).bind fun t78=>(KZ P 117 (V.weak t3) (some t73) (some t78) none).bind fun t79=>k t79
def WB (t9 t11:V) (h:List V) (k:V→Rv):Rv:=
 (AY P 117 (V.weak t11) (V.int .i64 0)).bind fun t82=>(AX h 5 t82).bind fun t83=>(conv P h 5 75 t83).bind fun t84=>(AL .mul t84 (V.int .u64 16777216)).bind fun t85=>(AY P 117 (V.weak t11) (V.int .i64 1)).bind fun t87=>(AX h 5 t87).bind fun t88=>(conv P h 5 75 t88).bind fun t89=>(AL .mul t89 (V.int .u64 65536)).bind fun t90=>(AL .add t85 t90).bind fun t91=>(AY P 117 (V.weak t11) (V.int .i64 2)).bind fun t93=>(AX h 5 t93).bind fun t94=>(conv P h 5 75 t94).bind fun t95=>(AL .mul t95 (V.int .u64 256)).bind fun t96=>(AL .add t91 t96).bind fun t97=>(AY P 117 (V.weak t11) (V.int .i64 3)).bind fun t99=>(AX h 5 t99).bind fun t100=>(conv P h 5 75 t100).bind fun t101=>(AL .add t97 t101).bind fun t102=>(DR P 181 1 [(0,t102)]).bind fun t103=>(EP P 181 h t9 t103).bind fun t104=>k t104
def PD (t10:V) (k:V→Rv):Rv:=
 (AL .add t10 (V.int .i64 1)).bind fun t66=>k t66
def WC (t9 t10:V) (h:List V) (k:V→V→Rv):Rv:=
 (AL .sub t10 (V.int .i64 15)).bind fun t107=>(AY P 181 (V.weak t9) t107).bind fun t108=>(AX h 75 t108).bind fun t109=>(AL .sub t10 (V.int .i64 2)).bind fun t112=>(AY P 181 (V.weak t9) t112).bind fun t113=>(AX h 75 t113).bind fun t114=>k t109 t114
def WE (t9 t10 t12 t13:V) (h:List V) (k:V→Rv):Rv:=
 (AL .sub t10 (V.int .i64 16)).bind fun t118=>(AY P 181 (V.weak (V.weak t9)) t118).bind fun t119=>(AX h 75 t119).bind fun t120=>(AL .sub t10 (V.int .i64 7)).bind fun t123=>(AY P 181 (V.weak (V.weak t9)) t123).bind fun t124=>(AX h 75 t124).bind fun t125=>(AL .add t120 t125).bind fun t126=>(Cl 120 (AB h [t12,(V.int .i64 7)]) []).bind fun r=>(Cl 120 (AB h [t12,(V.int .i64 18)]) []).bind fun a1=>(AL .xor r.1 a1.1).bind fun t131=>(AL .quo t12 (V.int .u64 8)).bind fun t133=>(AL .xor t131 t133).bind fun t134=>(AL .add t126 t134).bind fun t135=>(Cl 120 (AB h [t13,(V.int .i64 17)]) []).bind fun a2=>(Cl 120 (AB h [t13,(V.int .i64 19)]) []).bind fun a3=>(AL .xor a2.1 a3.1).bind fun t140=>(AL .quo t13 (V.int .u64 1024)).bind fun t142=>(AL .xor t140 t142).bind fun t143=>(AL .add t135 t143).bind fun t144=>(Cl 119 (AB h [t144]) []).bind fun a4=>(DR P 181 1 [(0,a4.1)]).bind fun t146=>(EP P 181 h t9 t146).bind fun t147=>k t147
def WH (t7:V) (h:List V) (k:V→Rv):Rv:=
 (DR P 181 0 []).bind fun t148=>(EP P 181 h t148 (V.weak t7)).bind fun t150=>k t150
def ABm (k:V→Rv):Rv:=
 k (V.int .i64 0)
def WI (t3 t6 t7 t8 t9 t14 t15:V) (m4:Nat) (h:List V):Rv:=lp W 92 8 (cd 92 2476415) (bk 8 (sk 92 5 510335 (bk 5 (sk 92 4 14719 (lk 92 4 m4 2431 (bk 4 (sk 92 0 511 (lv 92 0)))))))) ⟨[(3,t3),(6,t6),(7,t7),(8,t8),(9,t9),(14,t14),(15,t15)],h⟩
def WJ (t15:V) (k:V→Rv):Rv:=
 (AL .lss t15 (V.int .i64 64)).bind fun t152=>k t152
def WL (t14:V) (h:List V) (k:V→V→Rv):Rv:=
 (AY P 181 (V.weak t14) (V.int .i64 0)).bind fun t156=>(AX h 75 t156).bind fun t157=>(AY P 181 (V.weak t14) (V.int .i64 4)).bind fun t159=>(AX h 75 t159).bind fun t160=>k t157 t160
def WM (t14 t17:V) (h:List V) (k:V→Rv):Rv:=
 (AY P 181 (V.weak t14) (V.int .i64 5)).bind fun t163=>(AX h 75 t163).bind fun t164=>(AL .and t17 t164).bind fun t165=>(AL .sub (V.int .u64 4294967295) t17).bind fun t167=>(AY P 181 (V.weak t14) (V.int .i64 6)).bind fun t169=>(AX h 75 t169).bind fun t170=>(AL .and t167 t170).bind fun t171=>(AL .xor t165 t171).bind fun t172=>k t172
def WN (t14 t16:V) (h:List V) (k:V→Rv):Rv:=
 (AY P 181 (V.weak t14) (V.int .i64 1)).bind fun t175=>(AX h 75 t175).bind fun t176=>(AL .and t16 t176).bind fun t177=>(AY P 181 (V.weak t14) (V.int .i64 2)).bind fun t180=>(AX h 75 t180).bind fun t181=>(AL .and t16 t181).bind fun t182=>(AL .xor t177 t182).bind fun t183=>(AY P 181 (V.weak t14) (V.int .i64 1)).bind fun t185=>(AX h 75 t185).bind fun t186=>(AY P 181 (V.weak t14) (V.int .i64 2)).bind fun t188=>(AX h 75 t188).bind fun t189=>(AL .and t186 t189).bind fun t190=>(AL .xor t183 t190).bind fun t191=>k t191
def WO (t6 t9 t14 t15 t17 t18:V) (h:List V) (k:V→Rv):Rv:=
 (AY P 181 (V.weak t14) (V.int .i64 7)).bind fun t193=>(AX h 75 t193).bind fun t194=>(Cl 120 (AB h [t17,(V.int .i64 6)]) []).bind fun r=>(Cl 120 (AB h [t17,(V.int .i64 11)]) []).bind fun a1=>(AL .xor r.1 a1.1).bind fun t199=>(Cl 120 (AB h [t17,(V.int .i64 25)]) []).bind fun a2=>(AL .xor t199 a2.1).bind fun t202=>(AL .add t194 t202).bind fun t203=>(AL .add t203 t18).bind fun t205=>(AY P 181 (V.weak t6) t15).bind fun t208=>(AX h 75 t208).bind fun t209=>(AL .add t205 t209).bind fun t210=>(AY P 181 (V.weak t9) t15).bind fun t213=>(AX h 75 t213).bind fun t214=>(AL .add t210 t214).bind fun t215=>k t215
def WQ (t16 t19:V) (h:List V) (k:V→Rv):Rv:=
 (Cl 120 (AB h [t16,(V.int .i64 2)]) []).bind fun r=>(Cl 120 (AB h [t16,(V.int .i64 13)]) []).bind fun a1=>(AL .xor r.1 a1.1).bind fun t220=>(Cl 120 (AB h [t16,(V.int .i64 22)]) []).bind fun a2=>(AL .xor t220 a2.1).bind fun t223=>(AL .add t223 t19).bind fun t225=>k t225
def WR (t14 t16 t17 t20 t21:V) (h:List V) (k:V→Rv):Rv:=
 (AL .add t20 t21).bind fun t228=>(Cl 119 (AB h [t228]) []).bind fun r=>(AY P 181 (V.weak t14) (V.int .i64 1)).bind fun t232=>(AX h 75 t232).bind fun t233=>(AY P 181 (V.weak t14) (V.int .i64 2)).bind fun t235=>(AX h 75 t235).bind fun t236=>(AY P 181 (V.weak t14) (V.int .i64 3)).bind fun t238=>(AX h 75 t238).bind fun t239=>(AL .add t239 t20).bind fun t241=>(Cl 119 (AB h [t241]) []).bind fun a1=>(AY P 181 (V.weak t14) (V.int .i64 5)).bind fun t245=>(AX h 75 t245).bind fun t246=>(AY P 181 (V.weak t14) (V.int .i64 6)).bind fun t248=>(AX h 75 t248).bind fun t249=>(DR P 181 8 [(0,r.1),(1,t16),(2,t233),(3,t236),(4,a1.1),(5,t17),(6,t246),(7,t249)]).bind fun t250=>k t250
def ABn (t15:V) (k:V→Rv):Rv:=
 (AL .add t15 (V.int .i64 1)).bind fun t154=>k t154
def ABo (k:V→Rv):Rv:=
 k (V.int .i64 0)
def PE (t3 t6 t7 t8 t14 t22:V) (m4:Nat) (h:List V):Rv:=lp W 92 10 (cd 92 2607487) (bk 10 (bk 5 (sk 92 4 14719 (lk 92 4 m4 2431 (bk 4 (sk 92 0 511 (lv 92 0))))))) ⟨[(3,t3),(6,t6),(7,t7),(8,t8),(14,t14),(22,t22)],h⟩
def WS (t22:V) (k:V→Rv):Rv:=
 (AL .lss t22 (V.int .i64 8)).bind fun t252=>k t252
def ABp (t7 t14 t22:V) (h:List V) (k:List V→Rv):Rv:=
 (AY P 181 (V.weak t7) t22).bind fun t259=>(AX h 75 t259).bind fun t260=>(AY P 181 (V.weak t14) t22).bind fun t263=>(AX h 75 t263).bind fun t264=>(AL .add t260 t264).bind fun t265=>(Cl 119 (AB h [t265]) []).bind fun r=>(AY P 181 (V.weak t7) t22).bind fun t267=>(FW P h 75 t267 r.1).bind fun a5=>k a5
def ABq (t22:V) (k:V→Rv):Rv:=
 (AL .add t22 (V.int .i64 1)).bind fun t254=>k t254
def ABr (t8:V) (k:V→Rv):Rv:=
 (AL .add t8 (V.int .i64 64)).bind fun t61=>k t61
theorem QY (t3 t6 t7 t8 t14 t22:V) (m4:Nat) (h:List V):PE t3 t6 t7 t8 t14 t22 m4 h=
 WS t22 fun a6=>
  V.ite a6
  (ABp t7 t14 t22 h fun a7=>
  ABq t22 fun a8=>
  PE t3 t6 t7 t8 t14 a8 m4 a7)
  (ABr t8 fun a9=>
  IA t3 t6 t7 a9 h):=
 DV (by kernel_rfl)
theorem UK (t3 t6 t7 t8 t9 t14 t15:V) (m4:Nat) (h:List V):WI t3 t6 t7 t8 t9 t14 t15 m4 h=
 WJ t15 fun a10=>
  V.ite a10
  (WL t14 h fun a11 a12=>
  WM t14 a12 h fun a13=>
  WN t14 a11 h fun a14=>
  WO t6 t9 t14 t15 a12 a13 h fun a15=>
  WQ a11 a14 h fun a16=>
  WR t14 a11 a12 a15 a16 h fun a17=>
  ABn t15 fun a18=>
  WI t3 t6 t7 t8 t9 a17 a18 m4 h)
  (ABo fun a19=>
  PE t3 t6 t7 t8 t14 a19 m4 h):=
 DV (by kernel_rfl)
theorem Nk (t3 t6 t7 t8 t9 t10:V) (m4:Nat) (h:List V):Nj t3 t6 t7 t8 t9 t10 m4 h=
 O9 t10 fun a20=>
  V.ite a20
  (WA t10 fun a21=>
  V.ite a21
  (ABl t3 t8 t10 fun a22=>
  WB t9 a22 h fun a23=>
  PD t10 fun a24=>
  Nj t3 t6 t7 t8 a23 a24 m4 h)
  (WC t9 t10 h fun a25 a26=>
  WE t9 t10 a25 a26 h fun a27=>
  PD t10 fun a28=>
  Nj t3 t6 t7 t8 a27 a28 m4 h))
  (WH t7 h fun a29=>
  ABm fun a30=>
  WI t3 t6 t7 t8 t9 a29 a30 m4 h):=
 DV (by kernel_rfl)
def ABs (k:V→Rv):Rv:=
 (DR P 117 0 []).bind fun t268=>k t268
def ABt (k:V→Rv):Rv:=
 k (V.int .i64 0)
def PG (t7 t23 t24:V) (h:List V):Rv:=lp W 92 12 (cd 92 9727) (bk 12 (sk 92 0 2047 (lv 92 0))) ⟨[(7,t7),(23,t23),(24,t24)],h⟩
def WT (t24:V) (k:V→Rv):Rv:=
 (AL .lss t24 (V.int .i64 8)).bind fun t270=>k t270
def WU (t7 t23 t24:V) (h:List V) (k:V→Rv):Rv:=
 (AY P 181 (V.weak t7) t24).bind fun t276=>(AX h 75 t276).bind fun t277=>(AL .quo t277 (V.int .u64 16777216)).bind fun t278=>(conv P h 75 5 t278).bind fun t279=>(AY P 181 (V.weak t7) t24).bind fun t282=>(AX h 75 t282).bind fun t283=>(AL .quo t283 (V.int .u64 65536)).bind fun t284=>(AL .rem t284 (V.int .u64 256)).bind fun t285=>(conv P h 75 5 t285).bind fun t286=>(AY P 181 (V.weak t7) t24).bind fun t289=>(AX h 75 t289).bind fun t290=>(AL .quo t290 (V.int .u64 256)).bind fun t291=>(AL .rem t291 (V.int .u64 256)).bind fun t292=>(conv P h 75 5 t292).bind fun t293=>(AY P 181 (V.weak t7) t24).bind fun t296=>(AX h 75 t296).bind fun t297=>(AL .rem t297 (V.int .u64 256)).bind fun t298=>(conv P h 75 5 t298).bind fun t299=>(DR P 117 4 [(0,t279),(1,t286),(2,t293),(3,t299)]).bind fun t300=>(EP P 117 h t23 t300).bind fun t301=>k t301
def ABu (t24:V) (k:V→Rv):Rv:=
 (AL .add t24 (V.int .i64 1)).bind fun t272=>k t272
def ABv (t23:V) (h:List V) (k:V→Rv):Rv:=
 (conv P h 117 9 t23).bind fun t303=>k t303
theorem QZ (t7 t23 t24:V) (h:List V):PG t7 t23 t24 h=
 WT t24 fun a31=>
  V.ite a31
  (WU t7 t23 t24 h fun a32=>
  ABu t24 fun a33=>
  PG t7 a32 a33 h)
  (ABv t23 h fun a34=>
  AQ 0 h a34):=
 DV (by kernel_rfl)
theorem UL (t3 t6 t7 t8:V) (h:List V):IA t3 t6 t7 t8 h=
 V9 t3 t8 fun a35=>
  V.ite a35
  (ABj fun a36=>
  ABk fun a37=>
  Nj t3 t6 t7 t8 a36 a37 (List.length h) h)
  (ABs fun a38=>
  ABt fun a39=>
  PG t7 a38 a39 h):=
 DV (by kernel_rfl)
theorem UM (t3 t4 t5:V) (h:List V):V8 t3 t4 t5 h=
 AAS t5 fun a40=>
  V.ite a40
  (AHG t3 t4 t5 h fun a41=>
  AHH t5 fun a42=>
  V8 a41 t4 a42 h)
  (AHI h fun a43=>
  ABh h fun a44 a45=>
  ABi fun a46=>
  IA t3 a43 a44 a46 a45):=
 DV (by kernel_rfl)
theorem UN (t0 t3:V) (h:List V):V7 t0 t3 h=
 AAR t3 fun a47=>
  V.ite a47
  (AHD t3 h fun a48=>
  V7 t0 a48 h)
  (AHE t0 h fun a49=>
  AHF fun a50=>
  V8 t3 a49 a50 h):=
 DV (by kernel_rfl)
theorem APL (t0:V):Cl 92 [t0] []=
 AHB (AHC t0 [] fun a51=>
  V7 t0 a51 []):=
 Ar (by kernel_rfl)
theorem APM (t0 t1:V) (h:List V):Cl 94 [t0,t1] h=
 if((tyG 51) t0&&V.under (List.length h) t0)=true then jn (fun a1=>
 AQ (List.length h) (h++[t0]) a1) (fun(a2:V→Rv)=>(fA 52 3 0 (V.ref (List.length h) [] 52)).bind fun a3=>(AX (h++[t0]) 3 a3).bind fun a4=>(AL .lss a4 (V.int .i64 0)).bind fun a5=>V.ite a5 (a2 (V.bool true)) ((fA 52 3 0 (V.ref (List.length h) [] 52)).bind fun a6=>(AX (h++[t0]) 3 a6).bind fun a7=>(fA 24 3 0 t1).bind fun a8=>(AX (h++[t0]) 3 a8).bind fun a9=>(AL .geq a7 a9).bind fun a10=>V.ite a10 (a2 (V.bool true)) ((fA 52 3 1 (V.ref (List.length h) [] 52)).bind fun a11=>(AX (h++[t0]) 3 a11).bind fun a12=>(AL .lss a12 (V.int .i64 0)).bind fun a13=>V.ite a13 (a2 (V.bool true)) ((fA 52 3 1 (V.ref (List.length h) [] 52)).bind fun a14=>(AX (h++[t0]) 3 a14).bind fun a15=>(fA 24 3 0 t1).bind fun a16=>(AX (h++[t0]) 3 a16).bind fun a17=>(AL .geq a15 a17).bind fun a18=>V.ite a18 (a2 (V.bool true)) ((fA 52 2 2 (V.ref (List.length h) [] 52)).bind fun a19=>(AX (h++[t0]) 2 a19).bind fun a20=>(AL .lss a20 (V.int .i64 0)).bind fun a21=>V.ite a21 (a2 (V.bool true)) ((fA 52 2 2 (V.ref (List.length h) [] 52)).bind fun a22=>(AX (h++[t0]) 2 a22).bind fun a23=>(AL .gtr a23 (V.int .i64 1048576)).bind fun a24=>a2 a24))))))else none:=
 Ar (by kernel_rfl)
theorem APN (t0 t1:V) (h:List V):Cl 95 [t0,t1] h=
 (Cl 121 (AP [t0,t1]) h).bind fun a1=>(AL .geq a1.1 (V.int .i64 0)).bind fun a2=>AQ (List.length h) a1.2 a2:=
 Ar (by kernel_rfl)
theorem AHJ (t0 t1:V) (h:List V):Cl 96 [t0,t1] h=
 (Cl 122 (AP [t0]) h).bind fun a1=>(Z5 1000098 52 [(V.weak a1.1),t1] a1.2).bind fun a2=>AQ (List.length h) a2.2 a1.1:=
 Ar (by kernel_rfl)
theorem AHK (t0:V) (h:List V):Cl 97 [t0] h=
 if((tyL 52) (V.weak t0)&&V.under (List.length h) (V.weak t0))=true then(if(List.all [(V.ref (List.length h) [] 22)] V.capOk)=true then some (V.clo 124 [(V.ref (List.length h) [] 22)])else none).bind fun a1=>QL (h++[(V.weak t0)]) a1 else none:=
 Ar (by kernel_rfl)
theorem APO (t0 t1:V):Cl 98 [t0,t1] []=
 if((tyG 51) t0&&V.under 0 t0)=true then if((tyG 51) t1&&V.under 1 t1)=true then(fA 52 3 0 (V.ref 0 [] 52)).bind fun a1=>(AX [t0,t1] 3 a1).bind fun a2=>(fA 52 3 0 (V.ref 1 [] 52)).bind fun a3=>(AX [t0,t1] 3 a3).bind fun a4=>(AL .neq a2 a4).bind fun a5=>V.ite a5
  ((fA 52 3 0 (V.ref 0 [] 52)).bind fun a6=>(AX [t0,t1] 3 a6).bind fun a7=>(fA 52 3 0 (V.ref 1 [] 52)).bind fun a8=>(AX [t0,t1] 3 a8).bind fun a9=>(AL .sub a7 a9).bind fun a10=>AQ 0 [t0,t1] a10)
  ((fA 52 3 1 (V.ref 0 [] 52)).bind fun a11=>(AX [t0,t1] 3 a11).bind fun a12=>(fA 52 3 1 (V.ref 1 [] 52)).bind fun a13=>(AX [t0,t1] 3 a13).bind fun a14=>(AL .sub a12 a14).bind fun a15=>AQ 0 [t0,t1] a15)else none else none:=
 Ar (by kernel_rfl)
theorem APP (t0 t1:V):Cl 99 [t0,t1] []=
 (Cl 125 (AB [] [t0,t1]) []).bind fun a1=>(AL .geq a1.1 (V.int .i64 0)).bind fun a2=>AQ 0 [] a2:=
 Ar (by kernel_rfl)
theorem AKX (t0:V):Cl 100 [t0] []=
 (AL .mul t0 (V.int .u32 2654435761)).bind fun a1=>(AL .shr a1 (V.int .u64 15)).bind fun a2=>(AL .xor a1 a2).bind fun a3=>(AL .mul a3 (V.int .u32 2246822519)).bind fun a4=>(AL .shr a4 (V.int .u64 13)).bind fun a5=>(AL .xor a4 a5).bind fun a6=>AQ 0 [] a6:=
 Ar (by kernel_rfl)
theorem AKY (t0:V):Cl 101 [t0] []=
 jn (fun a1=>
 AQ 0 [] a1) (fun(a2:V→Rv)=>(AL .gtr t0 (V.int .i64 1125899906842624)).bind fun a3=>V.ite a3 (a2 (V.bool true)) ((AL .lss t0 (V.int .i64 (-1125899906842624))).bind fun a4=>a2 a4)):=
 Ar (by kernel_rfl)
theorem AKZ (t0 t1:V) (h:List V):Cl 102 [t0,t1] h=
 if((tyG 102) t0&&V.under (List.length h) t0)=true then(fA 103 3 1 (V.ref (List.length h) [] 103)).bind fun a1=>(AX (h++[t0]) 3 a1).bind fun a2=>(AX (h++[t0]) 3 t1).bind fun a3=>(AL .eql a2 a3).bind fun a4=>AQ (List.length h) (h++[t0]) a4 else none:=
 Ar (by kernel_rfl)
def MG (t1 t7 t16 t17 t18:V) (n:Nat) (h:List V):Rv:=lp W 103 0 (cd 103 151) (bk 0 (sk 103 0 31 (lv 103 n))) ⟨[(1,t1),(7,t7),(16,t16),(17,t17),(18,t18)],h⟩
theorem LY (t1 t7 t16 t17 t18:V) (n:Nat) (h:List V):MG t1 t7 t16 t17 t18 n h=
 (AL .lss t18 t17).bind fun a1=>V.ite a1
  ((D9 52 t16 t18).bind fun a2=>(AX h 52 a2).bind fun a3=>(DJ (tyG 51) 52 (h++[(V.agg 51 [(V.int .i64 0),(V.int .i64 0),(V.int .i64 0)])]) (V.ref (List.length h) [] 52) a3).bind fun a4=>(AX a4 52 (V.ref (List.length h) [] 52)).bind fun a5=>BH P CX W t1 [a5] a4 fun a6 a7=>if V.noOwn a6=true then V.ite a6
  ((AX a7 52 (V.ref (List.length h) [] 52)).bind fun a8=>(NU 52 false (ck [(tyG 51) a8] [a8])).bind fun a9=>(FU 52 (tyG 51) false a7 t7 a9).bind fun a10=>(AL .add t18 (V.int .i64 1)).bind fun a11=>if Aa (List.length h) [t1,a10,t16,t17,a11]=true then MG t1 a10 t16 t17 a11 n (List.take (List.length h) a7)else none)
  ((AL .add t18 (V.int .i64 1)).bind fun a12=>if Aa (List.length h) [t1,t7,t16,t17,a12]=true then MG t1 t7 t16 t17 a12 n (List.take (List.length h) a7)else none)else none)
  (AQ n h t7):=
 DV (by kernel_rfl)
theorem AKa (t0 t1:V) (h:List V):Cl 103 [t0,t1] h=
 if((tyG 23) (V.weak t0)&&V.under (List.length h) (V.weak t0))=true then(CU (h++[(V.weak t0)]) 24 (V.ref (List.length h) [] 24)).bind fun a13=>(Cl 126 (AB (h++[(V.weak t0)]) [a13]) []).bind fun a14=>(QI a14.1 0).bind fun a15=>(ext a14.1 1).bind fun a16=>(DJ (tyG 23) 24 ((h++[(V.weak t0)])++[(V.agg 23 [(V.int .i64 0),(V.lst 52 .nil [])])]) (V.ref (List.length (h++[(V.weak t0)])) [] 24) a15).bind fun a17=>(fA 24 22 1 (V.ref (List.length (h++[(V.weak t0)])) [] 24)).bind fun a18=>(CU a17 22 a18).bind fun a19=>(EJ a19).bind fun a20=>MG t1 (V.weak (V.lst 52 .nil [])) a19 a20 (V.int .i64 0) (List.length h) a17 else none:=
 Ar (by kernel_rfl)
theorem AKb (t0 t1:V) (h:List V):Cl 104 [t0,t1] h=
 if((tyG 51) t0&&V.under (List.length h) t0)=true then(fA 52 3 0 (V.ref (List.length h) [] 52)).bind fun a1=>(AX (h++[t0]) 3 a1).bind fun a2=>(AX (h++[t0]) 3 t1).bind fun a3=>(AL .eql a2 a3).bind fun a4=>AQ (List.length h) (h++[t0]) a4 else none:=
 Ar (by kernel_rfl)
theorem AKc (t0 t1 t2 t3:V) (h:List V):Cl 105 [t0,t1,t2,t3] h=
 (AX h 3 t1).bind fun a1=>(AL .eql a1 (V.int .i64 0)).bind fun a2=>V.ite a2
  ((fA 70 2 1 t2).bind fun a3=>(AX h 2 a3).bind fun a4=>(fA 70 2 1 t2).bind fun a5=>(AX h 2 a5).bind fun a6=>if(List.all [a6,(V.bool true),(V.bool false),a4] V.okE)=true then AQ (List.length h) h (V.tup [a4,(V.bool false),(V.bool true),a6])else none)
  (jn (fun a7=>
 V.ite a7
  ((fA 70 2 4 t2).bind fun a8=>(AX h 2 a8).bind fun a9=>(fA 70 2 4 t2).bind fun a10=>(AX h 2 a10).bind fun a11=>if(List.all [a11,(V.bool true),(V.bool false),a9] V.okE)=true then AQ (List.length h) h (V.tup [a9,(V.bool false),(V.bool true),a11])else none)
  ((fA 70 2 1 t2).bind fun a12=>(AX h 2 a12).bind fun a13=>if(List.all [(V.int .i64 0),(V.bool false),(V.bool false),a13] V.okE)=true then AQ (List.length h) h (V.tup [a13,(V.bool false),(V.bool false),(V.int .i64 0)])else none)) (fun(a14:V→Rv)=>(AX h 4 t3).bind fun a15=>V.ite a15 (a14 t0) (a14 (V.bool false)))):=
 Ar (by kernel_rfl)
theorem AKd (t0 t1:V):Cl 106 [t0,t1] []=
 (AL .quo t0 t1).bind fun a1=>(AL .rem t0 t1).bind fun a2=>(AL .lss a2 (V.int .i64 0)).bind fun a3=>V.ite a3
  ((AL .sub a1 (V.int .i64 1)).bind fun a4=>AQ 0 [] a4)
  (AQ 0 [] a1):=
 Ar (by kernel_rfl)
def PI (t0 t1 t7 t8:V) (n:Nat) (h:List V):Rv:=lp W 107 0 (cd 107 37) (bk 0 (sk 107 0 7 (lv 107 n))) ⟨[(0,t0),(1,t1),(7,t7),(8,t8)],h⟩
theorem Qa (t0 t1 t7 t8:V) (n:Nat) (h:List V):PI t0 t1 t7 t8 n h=
 (AL .lss t8 t7).bind fun a1=>V.ite a1
  ((D9 103 (V.weak t0) t8).bind fun a2=>(AX h 103 a2).bind fun a3=>BH P CX W t1 [a3] h fun a4 a5=>if V.noOwn a4=true then V.ite a4
  (AQ n a5 t8)
  ((AL .add t8 (V.int .i64 1)).bind fun a6=>PI t0 t1 t7 a6 n a5)else none)
  (AQ n h (V.int .i64 (-1))):=
 DV (by kernel_rfl)
theorem AKe (t0 t1:V) (h:List V):Cl 107 [t0,t1] h=
 (EJ (V.weak t0)).bind fun a7=>PI t0 t1 a7 (V.int .i64 0) (List.length h) h:=
 Ar (by kernel_rfl)
theorem AKf (t0 t1 t2:V):Cl 110 [t0,t1,t2] []=
 jn (fun a1=>
 AQ 0 [] a1) (fun(a2:V→Rv)=>(AL .geq t0 t1).bind fun a3=>V.ite a3 ((AL .leq t0 t2).bind fun a4=>a2 a4) (a2 (V.bool false))):=
 Ar (by kernel_rfl)
def ABw (k:Rv):Rv:=
 k
def ABx (t0:V) (k:V→Rv):Rv:=
 (AL .geq t0 (V.int .i64 0)).bind fun t4=>V.ite t4 ((AL .lss t0 (V.int .i64 64)).bind fun t7=>k t7) (k (V.bool false))
theorem AKg (t0:V):Cl 111 [t0] []=
 ABw (ABx t0 fun a1=>
  AQ 0 [] a1):=
 Ar (by kernel_rfl)
def ABy (t0:V) (h:List V) (k:V→List V→Rv):Rv:=
 if(Bc P 103 t0&&V.under (List.length h) t0)=true then k (V.ref (List.length h) [] 103) (h++[t0])else none
def ABz (t1:V) (h:List V) (k:V→Rv):Rv:=
 (Af P 103 0 t1).bind fun t4=>(AX h 3 t4).bind fun t5=>(AL .lss t5 (V.int .i64 0)).bind fun t6=>V.ite t6 (k (V.bool true)) ((Af P 103 1 t1).bind fun t8=>(AX h 3 t8).bind fun t9=>(AL .lss t9 (V.int .i64 0)).bind fun t10=>k t10)
def WV (k:V→Rv):Rv:=
 k (V.str [])
def AB0 (h:List V) (k:V→List V→Rv):Rv:=
 (Cl 24 (AP []) h).bind fun r=>k r.1 r.2
def AB1 (t1 t3:V) (h:List V) (k:List V→Rv):Rv:=
 (Af P 103 0 t1).bind fun t14=>(AX h 3 t14).bind fun t15=>(conv P h 3 75 t15).bind fun t16=>(Cl 25 (AP [t3,t16]) h).bind fun r=>k r.2
def AB2 (t1 t3:V) (h:List V) (k:List V→Rv):Rv:=
 (Af P 103 1 t1).bind fun t19=>(AX h 3 t19).bind fun t20=>(conv P h 3 75 t20).bind fun t21=>(Cl 25 (AP [t3,t21]) h).bind fun r=>k r.2
def AB3 (t1 t3:V) (h:List V) (k:List V→Rv):Rv:=
 (Af P 103 2 t1).bind fun t24=>(AX h 2 t24).bind fun t25=>(Cl 83 (AP [t3,t25]) h).bind fun r=>k r.2
def AB4 (t3:V) (h:List V) (k:V→List V→Rv):Rv:=
 (Cl 28 (AP [t3]) h).bind fun r=>k r.1 r.2
theorem AKh (t0:V):Cl 112 [t0] []=
 ABy t0 [] fun a1 a2=>
  ABz a1 a2 fun a3=>
  V.ite a3
  (WV fun a4=>
  AQ 0 a2 a4)
  (AB0 a2 fun a5 a6=>
  AB1 a1 a5 a6 fun a7=>
  AB2 a1 a5 a7 fun a8=>
  AB3 a1 a5 a8 fun a9=>
  AB4 a5 a9 fun a10 a11=>
  AQ 0 a11 a10):=
 Ar (by kernel_rfl)
def AB5 (t1:V) (h:List V) (k:V→V→List V→Rv):Rv:=
 if(Bc P 45 t1&&V.under (List.length h) t1)=true then k (V.ref (List.length h) [] 45) (V.ref (List.length (h++[t1])) [] 45) ((h++[t1])++[zero P 45])else none
def AB6 (h:List V) (k:V→List V→Rv):Rv:=
 (Cl 24 (AP []) h).bind fun r=>k r.1 r.2
def AB7 (t0 t5:V) (h:List V) (k:List V→Rv):Rv:=
 (conv P h 3 75 t0).bind fun t9=>(Cl 25 (AP [t5,t9]) h).bind fun r=>k r.2
def AB8 (t3 t4 t5:V) (h:List V) (k:List V→Rv):Rv:=
 (DR P 117 1 [(0,(V.int .u8 3))]).bind fun t11=>(Cl 28 (AP [t5]) h).bind fun r=>(conv P r.2 9 117 r.1).bind fun t14=>(KZ P 45 t3 none none none).bind fun t15=>(DR P 195 3 [(0,t11),(1,t14),(2,t15)]).bind fun t16=>(Cl 114 (AB r.2 [t16]) []).bind fun a1=>(FW P r.2 45 t4 a1.1).bind fun a2=>k a2
theorem AKi (t0 t1:V):Cl 113 [t0,t1] []=
 AB5 t1 [] fun a3 a4 a5=>
  AB6 a5 fun a6 a7=>
  AB7 t0 a6 a7 fun a8=>
  AB8 a3 a4 a6 a8 fun a9=>
  (AX a9 45 a4).bind fun a10=>AQ 0 a9 a10:=
 Ar (by kernel_rfl)
def AB9 (h:List V) (k:V→List V→Rv):Rv:=
 k (V.ref (List.length h) [] 45) (h++[zero P 45])
def ACA (t0:V) (h:List V) (k:V→Rv):Rv:=
 (Cl 132 (AB h [t0,(V.lst 5 .nil [])]) []).bind fun r=>k r.1
def ACB (t3:V) (h:List V) (k:V→Rv):Rv:=
 (lenV P 117 (V.weak t3)).bind fun t12=>(conv P h 3 75 t12).bind fun t13=>(AL .mul t13 (V.int .u64 8)).bind fun t14=>k t14
def ACC (t3:V) (h:List V) (k:V→Rv):Rv:=
 (DR P 117 1 [(0,(V.int .u8 128))]).bind fun t16=>(EP P 117 h t3 t16).bind fun t17=>k t17
def PK (t2 t3 t4:V) (h:List V):Rv:=lp W 114 0 (cd 114 143) (bk 0 (sk 114 0 63 (lv 114 0))) ⟨[(2,t2),(3,t3),(4,t4)],h⟩
def WW (t3:V) (k:V→Rv):Rv:=
 (lenV P 117 (V.weak t3)).bind fun t19=>(AL .rem t19 (V.int .i64 64)).bind fun t20=>(AL .neq t20 (V.int .i64 56)).bind fun t21=>k t21
def ACD (t3:V) (h:List V) (k:V→Rv):Rv:=
 (DR P 117 1 [(0,(V.int .u8 0))]).bind fun t23=>(EP P 117 h t3 t23).bind fun t24=>k t24
def ACE (k:V→Rv):Rv:=
 k (V.int .i64 0)
def PL (t2 t3 t4 t25:V) (h:List V):Rv:=lp W 114 2 (cd 114 607) (bk 2 (sk 114 0 127 (lv 114 0))) ⟨[(2,t2),(3,t3),(4,t4),(25,t25)],h⟩
def WX (t25:V) (k:V→Rv):Rv:=
 (AL .lss t25 (V.int .i64 8)).bind fun t26=>k t26
def ACF (t25:V) (k:V→Rv):Rv:=
 k t25
def ACG (t3 t4 t5:V) (h:List V) (k:V→Rv):Rv:=
 (AL .mul (V.int .i64 8) t5).bind fun t31=>(AL .sub (V.int .i64 56) t31).bind fun t32=>(conv P h 3 120 t32).bind fun t33=>(AL .shr t4 t33).bind fun t34=>(conv P h 75 5 t34).bind fun t35=>(DR P 117 1 [(0,t35)]).bind fun t36=>(EP P 117 h t3 t36).bind fun t37=>k t37
def Xu (t25:V) (k:V→Rv):Rv:=
 (AL .add t25 (V.int .i64 1)).bind fun t38=>k t38
def Xv (h:List V) (k:V→List V→Rv):Rv:=
 (AX h 197 (V.rop 197 Tn)).bind fun t39=>(FW P (h++[zero P 197]) 197 (V.ref (List.length h) [] 197) t39).bind fun a1=>k (V.ref (List.length h) [] 197) a1
def PN (t2 t3 t6:V) (h:List V):Rv:=lp W 114 4 (cd 114 1151) (bk 4 (sk 114 0 511 (lv 114 0))) ⟨[(2,t2),(3,t3),(6,t6)],h⟩
def Qb (t3:V) (k:V→Rv):Rv:=
 (lenV P 117 (V.weak t3)).bind fun t41=>(AL .gtr t41 (V.int .i64 0)).bind fun t42=>k t42
def Xw (t3 t6:V) (h:List V) (k:List V→Rv):Rv:=
 (AX h 197 t6).bind fun t45=>(KZ P 117 (V.weak t3) none (some (V.int .i64 64)) none).bind fun t47=>(Cl 133 (AB h [t45,t47]) []).bind fun r=>(FW P h 197 t6 r.1).bind fun a1=>k a1
def Xx (t3:V) (k:V→Rv):Rv:=
 (KZ P 117 t3 (some (V.int .i64 64)) none none).bind fun t44=>k t44
def Xy (h:List V) (k:V→List V→Rv):Rv:=
 k (V.ref (List.length h) [] 45) (h++[zero P 45])
def Xz (k:V→Rv):Rv:=
 k (V.int .i64 0)
def PO (t2 t6 t7 t49:V) (h:List V):Rv:=lp W 114 6 (cd 114 9727) (bk 6 (sk 114 0 2047 (lv 114 0))) ⟨[(2,t2),(6,t6),(7,t7),(49,t49)],h⟩
def Qc (t49:V) (k:V→Rv):Rv:=
 (AL .lss t49 (V.int .i64 32)).bind fun t50=>k t50
def X0 (t49:V) (k:V→Rv):Rv:=
 k t49
def Qd (t6 t7 t8:V) (h:List V) (k:List V→Rv):Rv:=
 (AL .quo t8 (V.int .i64 4)).bind fun t54=>(AY P 197 t6 t54).bind fun t55=>(AX h 166 t55).bind fun t56=>(AL .rem t8 (V.int .i64 4)).bind fun t58=>(AL .mul (V.int .i64 8) t58).bind fun t59=>(AL .sub (V.int .i64 24) t59).bind fun t60=>(conv P h 3 120 t60).bind fun t61=>(AL .shr t56 t61).bind fun t62=>(conv P h 166 5 t62).bind fun t63=>(AY P 45 t7 t8).bind fun t64=>(FW P h 5 t64 t63).bind fun a1=>k a1
def X3 (t49:V) (k:V→Rv):Rv:=
 (AL .add t49 (V.int .i64 1)).bind fun t65=>k t65
def X4 (t2 t7:V) (h:List V) (k:List V→Rv):Rv:=
 (AX h 45 t7).bind fun t66=>(FW P h 45 t2 t66).bind fun a1=>k a1
theorem Qe (t2 t6 t7 t49:V) (h:List V):PO t2 t6 t7 t49 h=
 Qc t49 fun a2=>
  V.ite a2
  (X0 t49 fun a3=>
  Qd t6 t7 a3 h fun a4=>
  X3 t49 fun a5=>
  PO t2 t6 t7 a5 a4)
  (X4 t2 t7 h fun a6=>
  (AX a6 45 t2).bind fun a7=>AQ 0 a6 a7):=
 DV (by kernel_rfl)
theorem Qg (t2 t3 t6:V) (h:List V):PN t2 t3 t6 h=
 Qb t3 fun a8=>
  V.ite a8
  (Xw t3 t6 h fun a9=>
  Xx t3 fun a10=>
  PN t2 a10 t6 a9)
  (Xy h fun a11 a12=>
  Xz fun a13=>
  PO t2 t6 a11 a13 a12):=
 DV (by kernel_rfl)
theorem Qh (t2 t3 t4 t25:V) (h:List V):PL t2 t3 t4 t25 h=
 WX t25 fun a14=>
  V.ite a14
  (ACF t25 fun a15=>
  ACG t3 t4 a15 h fun a16=>
  Xu t25 fun a17=>
  PL t2 a16 t4 a17 h)
  (Xv h fun a18 a19=>
  PN t2 t3 a18 a19):=
 DV (by kernel_rfl)
theorem Qi (t2 t3 t4:V) (h:List V):PK t2 t3 t4 h=
 WW t3 fun a20=>
  V.ite a20
  (ACD t3 h fun a21=>
  PK t2 a21 t4 h)
  (ACE fun a22=>
  PL t2 t3 t4 a22 h):=
 DV (by kernel_rfl)
theorem AKj (t0:V):Cl 114 [t0] []=
 AB9 [] fun a23 a24=>
  ACA t0 a24 fun a25=>
  ACB a25 a24 fun a26=>
  ACC a25 a24 fun a27=>
  PK a23 a27 a26 a24:=
 Ar (by kernel_rfl)
def ACH (h:List V) (k:V→List V→Rv):Rv:=
 k (V.ref (List.length h) [] 45) (h++[zero P 45])
def ACI (t0 t2:V) (h:List V) (k:List V→Rv):Rv:=
 (DR P 117 1 [(0,(V.int .u8 0))]).bind fun t3=>(conv P h 9 117 t0).bind fun t5=>(DR P 195 2 [(0,t3),(1,t5)]).bind fun t6=>(Cl 114 (AB h [t6]) []).bind fun r=>(FW P h 45 t2 r.1).bind fun a1=>k a1
theorem AKk (t0:V):Cl 115 [t0] []=
 ACH [] fun a2 a3=>
  ACI t0 a2 a3 fun a4=>
  (AX a4 45 a2).bind fun a5=>AQ 0 a4 a5:=
 Ar (by kernel_rfl)
theorem AKl (t0 t1:V):Cl 116 [t0,t1] []=
 if((tyG 44) t0&&V.under 0 t0)=true then if((tyG 44) t1&&V.under 1 t1)=true then(NU 5 false (ck [(tyI .u8) (V.int .u8 1)] [(V.int .u8 1)])).bind fun a1=>(slA 45 44 32 5 (V.ref 0 [] 45) none none none).bind fun a2=>(slA 45 44 32 5 (V.ref 1 [] 45) none none none).bind fun a3=>(NU 117 true (ck [(tyL 5) a1,(tyL 5) a2,(tyL 5) a3] [(V.weak a1),(V.weak a2),(V.weak a3)])).bind fun a4=>(Cl 114 (AB [t0,t1,(V.agg 44 (List.replicate 32 (V.int .u8 0)))] [a4]) []).bind fun a5=>(DJ (tyG 44) 45 [t0,t1,(V.agg 44 (List.replicate 32 (V.int .u8 0)))] (V.ref 2 [] 45) a5.1).bind fun a6=>(AX a6 45 (V.ref 2 [] 45)).bind fun a7=>AQ 0 a6 a7 else none else none:=
 Ar (by kernel_rfl)
def ACJ (k:Rv):Rv:=
 k
def ACK (k:V→Rv):Rv:=
 k (V.int .u64 1)
def ACM (k:V→Rv):Rv:=
 k (V.int .i64 0)
def PS (t0 t3 t4:V):Rv:=lp W 117 0 (cd 117 75) (bk 0 (sk 117 0 15 (lv 117 0))) ⟨[(0,t0),(3,t3),(4,t4)],[]⟩
def WY (t0 t4:V) (k:V→Rv):Rv:=
 (AL .lss t4 t0).bind fun t7=>k t7
def ACN (t3:V) (k:V→Rv):Rv:=
 (AL .mul (V.int .u64 2) t3).bind fun t11=>k t11
def ACO (t4:V) (k:V→Rv):Rv:=
 (AL .add t4 (V.int .i64 1)).bind fun t9=>k t9
def ACP (t3:V) (k:V→Rv):Rv:=
 k t3
theorem Qj (t0 t3 t4:V):PS t0 t3 t4=
 WY t0 t4 fun a1=>
  V.ite a1
  (ACN t3 fun a2=>
  ACO t4 fun a3=>
  PS t0 a2 a3)
  (ACP t3 fun a4=>
  AQ 0 [] a4):=
 DV (by kernel_rfl)
theorem AKm (t0:V):Cl 117 [t0] []=
 ACJ (ACK fun a5=>
  ACM fun a6=>
  PS t0 a5 a6):=
 Ar (by kernel_rfl)
def ACQ (k:Rv):Rv:=
 k
def AKn (k:V→Rv):Rv:=
 (DR P 181 64 [(0,(V.int .u64 1116352408)),(1,(V.int .u64 1899447441)),(2,(V.int .u64 3049323471)),(3,(V.int .u64 3921009573)),(4,(V.int .u64 961987163)),(5,(V.int .u64 1508970993)),(6,(V.int .u64 2453635748)),(7,(V.int .u64 2870763221)),(8,(V.int .u64 3624381080)),(9,(V.int .u64 310598401)),(10,(V.int .u64 607225278)),(11,(V.int .u64 1426881987)),(12,(V.int .u64 1925078388)),(13,(V.int .u64 2162078206)),(14,(V.int .u64 2614888103)),(15,(V.int .u64 3248222580)),(16,(V.int .u64 3835390401)),(17,(V.int .u64 4022224774)),(18,(V.int .u64 264347078)),(19,(V.int .u64 604807628)),(20,(V.int .u64 770255983)),(21,(V.int .u64 1249150122)),(22,(V.int .u64 1555081692)),(23,(V.int .u64 1996064986)),(24,(V.int .u64 2554220882)),(25,(V.int .u64 2821834349)),(26,(V.int .u64 2952996808)),(27,(V.int .u64 3210313671)),(28,(V.int .u64 3336571891)),(29,(V.int .u64 3584528711)),(30,(V.int .u64 113926993)),(31,(V.int .u64 338241895)),(32,(V.int .u64 666307205)),(33,(V.int .u64 773529912)),(34,(V.int .u64 1294757372)),(35,(V.int .u64 1396182291)),(36,(V.int .u64 1695183700)),(37,(V.int .u64 1986661051)),(38,(V.int .u64 2177026350)),(39,(V.int .u64 2456956037)),(40,(V.int .u64 2730485921)),(41,(V.int .u64 2820302411)),(42,(V.int .u64 3259730800)),(43,(V.int .u64 3345764771)),(44,(V.int .u64 3516065817)),(45,(V.int .u64 3600352804)),(46,(V.int .u64 4094571909)),(47,(V.int .u64 275423344)),(48,(V.int .u64 430227734)),(49,(V.int .u64 506948616)),(50,(V.int .u64 659060556)),(51,(V.int .u64 883997877)),(52,(V.int .u64 958139571)),(53,(V.int .u64 1322822218)),(54,(V.int .u64 1537002063)),(55,(V.int .u64 1747873779)),(56,(V.int .u64 1955562222)),(57,(V.int .u64 2024104815)),(58,(V.int .u64 2227730452)),(59,(V.int .u64 2361852424)),(60,(V.int .u64 2428436474)),(61,(V.int .u64 2756734187)),(62,(V.int .u64 3204031479)),(63,(V.int .u64 3329325298))]).bind fun t1=>k t1
theorem AKo:Cl 118 [] []=
 ACQ (AKn fun a1=>
  AQ 0 [] a1):=
 Ar (by kernel_rfl)
def ACR (k:Rv):Rv:=
 k
def ACS (t0:V) (k:V→Rv):Rv:=
 (AL .rem t0 (V.int .u64 4294967296)).bind fun t4=>k t4
theorem AKp (t0:V):Cl 119 [t0] []=
 ACR (ACS t0 fun a1=>
  AQ 0 [] a1):=
 Ar (by kernel_rfl)
def ACT (k:Rv):Rv:=
 k
def ACU (t0 t1:V) (k:V→Rv):Rv:=
 (Cl 117 (AB [] [t1]) []).bind fun r=>(AL .quo t0 r.1).bind fun t8=>(Cl 117 (AB [] [t1]) []).bind fun a1=>(AL .rem t0 a1.1).bind fun t12=>(AL .sub (V.int .i64 32) t1).bind fun t14=>(Cl 117 (AB [] [t14]) []).bind fun a2=>(AL .mul t12 a2.1).bind fun t16=>(AL .add t8 t16).bind fun t17=>k t17
theorem AKq (t0 t1:V):Cl 120 [t0,t1] []=
 ACT (ACU t0 t1 fun a3=>
  AQ 0 [] a3):=
 Ar (by kernel_rfl)
def PU (t0 t1 t7 t8:V) (n:Nat) (h:List V):Rv:=lp W 121 0 (cd 121 37) (bk 0 (sk 121 0 7 (lv 121 n))) ⟨[(0,t0),(1,t1),(7,t7),(8,t8)],h⟩
theorem Qk (t0 t1 t7 t8:V) (n:Nat) (h:List V):PU t0 t1 t7 t8 n h=
 (AL .lss t8 t7).bind fun a1=>V.ite a1
  ((D9 52 (V.weak t0) t8).bind fun a2=>(AX h 52 a2).bind fun a3=>BH P CX W t1 [a3] h fun a4 a5=>if V.noOwn a4=true then V.ite a4
  (AQ n a5 t8)
  ((AL .add t8 (V.int .i64 1)).bind fun a6=>PU t0 t1 t7 a6 n a5)else none)
  (AQ n h (V.int .i64 (-1))):=
 DV (by kernel_rfl)
theorem AKr (t0 t1:V) (h:List V):Cl 121 [t0,t1] h=
 (EJ (V.weak t0)).bind fun a7=>PU t0 t1 a7 (V.int .i64 0) (List.length h) h:=
 Ar (by kernel_rfl)
theorem ACV (t0:V) (h:List V):Cl 122 [t0] h=
 (Z5 124 52 [(V.lst 52 .nil []),t0] h).bind fun a1=>QL a1.2 a1.1:=
 Ar (by kernel_rfl)
def PV (t0 t1 t7 t8:V):Rv:=lp W 125 0 (cd 125 37) (bk 0 (sk 125 0 7 (lv 125 0))) ⟨[(0,t0),(1,t1),(7,t7),(8,t8)],[]⟩
theorem Ql (t0 t1 t7 t8:V):PV t0 t1 t7 t8=
 (AL .lss t8 t7).bind fun a1=>V.ite a1
  ((D9 9 (V.weak t0) t8).bind fun a2=>(AX [] 9 a2).bind fun a3=>(AL .eql t1 a3).bind fun a4=>V.ite a4
  (AQ 0 [] t8)
  ((AL .add t8 (V.int .i64 1)).bind fun a5=>PV t0 t1 t7 a5))
  (AQ 0 [] (V.int .i64 (-1))):=
 DV (by kernel_rfl)
theorem AKs (t0 t1:V):Cl 125 [t0,t1] []=
 (EJ (V.weak t0)).bind fun a6=>PV t0 t1 a6 (V.int .i64 0):=
 Ar (by kernel_rfl)
theorem ACW (t0:V):Cl 126 [t0] []=
 if((tyG 23) (V.weak t0)&&V.under 0 (V.weak t0))=true then(CU [(V.weak t0),(V.agg 23 [(V.int .i64 0),(V.lst 52 .nil [])])] 24 (V.ref 0 [] 24)).bind fun a1=>(Cl 53 (AB [(V.weak t0),(V.agg 23 [(V.int .i64 0),(V.lst 52 .nil [])])] [a1]) []).bind fun a2=>(AL .neq a2.1 (V.int .i64 0)).bind fun a3=>V.ite a3
  (((ck [] [(V.int .i64 0),(V.lst 52 .nil [])]).map (.agg 23)).bind fun a4=>(DJ (tyG 23) 24 [(V.weak t0),(V.agg 23 [(V.int .i64 0),(V.lst 52 .nil [])])] (V.ref 1 [] 24) a4).bind fun a5=>(CU a5 24 (V.ref 1 [] 24)).bind fun a6=>if(List.all [a2.1,a6] V.okE)=true then AQ 0 a5 (V.tup [a6,a2.1])else none)
  ((fA 24 3 0 (V.ref 0 [] 24)).bind fun a7=>if Du (V.ref 0 [] 24) a7=true then(AX [(V.weak t0),(V.agg 23 [(V.int .i64 0),(V.lst 52 .nil [])])] 3 a7).bind fun a8=>(fA 24 22 1 (V.ref 0 [] 24)).bind fun a9=>(CU [(V.weak t0),(V.agg 23 [(V.int .i64 0),(V.lst 52 .nil [])])] 22 a9).bind fun a10=>Dt P CX W (some (V.ref 0 [] 24)) (V.clo 97 []) [a10] [(V.weak t0),(V.agg 23 [(V.int .i64 0),(V.lst 52 .nil [])])] fun a11 a12=>Dt P CX W (some (V.ref 0 [] 24)) (V.clo 96 []) [a11,(V.clo 98 [])] a12 fun a13 a14=>((ck [(tyI .i64) a8,(tyL 52) a13] [a8,(V.weak a13)]).map (.agg 23)).bind fun a15=>(DJ (tyG 23) 24 a14 (V.ref 1 [] 24) a15).bind fun a16=>(CU a16 24 (V.ref 1 [] 24)).bind fun a17=>if(List.all [(V.int .i64 0),a17] V.okE)=true then AQ 0 a16 (V.tup [a17,(V.int .i64 0)])else none else none)else none:=
 Ar (by kernel_rfl)
def ACX (k:Rv):Rv:=
 k
def ACY (t0:V) (k:V→Rv):Rv:=
 (lenV P 195 (V.weak t0)).bind fun t13=>(AL .eql t13 (V.int .i64 0)).bind fun t14=>k t14
def AKt (h:List V) (k:V→List V→Rv):Rv:=
 (DR P 117 0 []).bind fun v=>(Dp h v).bind fun r=>k r.1 r.2
def ACZ (t0:V) (k:V→Rv):Rv:=
 (lenV P 195 (V.weak t0)).bind fun t17=>(AL .eql t17 (V.int .i64 1)).bind fun t18=>k t18
def ACa (t0:V) (h:List V) (k:V→List V→Rv):Rv:=
 (AY P 195 t0 (V.int .i64 0)).bind fun t20=>(CU h 117 t20).bind fun t21=>(EP P 117 h (V.lst 5 .nil []) t21).bind fun v=>(Dp h v).bind fun r=>k r.1 r.2
def ACb (k:V→Rv):Rv:=
 k (V.int .i64 0)
def ACc (t1:V) (k:V→Rv):Rv:=
 (lenV P 117 (V.weak t1)).bind fun t24=>(AL .gtr t24 (V.int .i64 0)).bind fun t25=>k t25
def X5 (t0:V) (k:V→V→V→Rv):Rv:=
 (lenV P 195 (V.weak t0)).bind fun t43=>k (V.weak t0) t43 (V.int .i64 0)
def PW (t0 t1 t5 t42 t43 t44:V) (h:List V):Rv:=lp W 132 0 (cd 132 607) (bk 0 (sk 132 0 127 (lv 132 0))) ⟨[(0,t0),(1,t1),(5,t5),(42,t42),(43,t43),(44,t44)],h⟩
def Qm (t43 t44:V) (k:V→Rv):Rv:=
 (AL .lss t44 t43).bind fun t45=>k t45
def X6 (t42 t44:V) (h:List V) (k:V→Rv):Rv:=
 (AY P 195 t42 t44).bind fun t46=>(CU h 117 t46).bind fun t47=>k t47
def X7 (t5 t7:V) (k:V→Rv):Rv:=
 (lenV P 117 (V.weak t7)).bind fun t49=>(AL .sub (V.int .i64 9223372036854775807) t5).bind fun t51=>(AL .gtr t49 t51).bind fun t52=>k t52
def X8 (t5 t7:V) (k:V→Rv):Rv:=
 (lenV P 117 t7).bind fun t56=>(AL .add t5 t56).bind fun t57=>k t57
def X9 (t44:V) (k:V→Rv):Rv:=
 (AL .add t44 (V.int .i64 1)).bind fun t58=>k t58
def YA (t5:V) (h:List V) (k:V→List V→Rv):Rv:=
 mnz P 0 148 [t5] h fun t60 a1=>(KZ P 117 t60 none (some t5) (some t5)).bind fun t63=>k t63 a1
def YB (t0 t8:V) (h:List V) (k:V→List V→Rv):Rv:=
 (AY P 195 (V.weak t0) (V.int .i64 0)).bind fun t66=>(CU h 117 t66).bind fun t67=>(cpy P 117 h (V.weak t8) t67).bind fun r=>k r.1 r.2
def YC (t0:V) (k:V→V→V→Rv):Rv:=
 (KZ P 195 t0 (some (V.int .i64 1)) none none).bind fun t70=>(lenV P 195 t70).bind fun t71=>k t70 t71 (V.int .i64 0)
def PX (t1 t8 t9 t70 t71 t72:V) (h:List V):Rv:=lp W 132 2 (cd 132 4863) (bk 2 (sk 132 0 1023 (lv 132 0))) ⟨[(1,t1),(8,t8),(9,t9),(70,t70),(71,t71),(72,t72)],h⟩
def Qn (t71 t72:V) (k:V→Rv):Rv:=
 (AL .lss t72 t71).bind fun t73=>k t73
def YD (t70 t72:V) (h:List V) (k:V→Rv):Rv:=
 (AY P 195 t70 t72).bind fun t74=>(CU h 117 t74).bind fun t75=>k t75
def YE (t1 t8 t9:V) (h:List V) (k:V→List V→Rv):Rv:=
 (KZ P 117 (V.weak t8) (some t9) none none).bind fun t79=>(cpy P 117 h t79 (V.weak t1)).bind fun r=>(AL .add t9 r.1).bind fun t82=>k t82 r.2
def YF (t8 t9 t11:V) (h:List V) (k:V→List V→Rv):Rv:=
 (KZ P 117 (V.weak t8) (some t9) none none).bind fun t86=>(cpy P 117 h t86 t11).bind fun r=>(AL .add t9 r.1).bind fun t89=>k t89 r.2
def YG (t72:V) (k:V→Rv):Rv:=
 (AL .add t72 (V.int .i64 1)).bind fun t90=>k t90
def YH (t8:V) (k:V→Rv):Rv:=
 k t8
theorem Qo (t1 t8 t9 t70 t71 t72:V) (h:List V):PX t1 t8 t9 t70 t71 t72 h=
 Qn t71 t72 fun a2=>
  V.ite a2
  (YD t70 t72 h fun a3=>
  YE t1 t8 t9 h fun a4 a5=>
  YF t8 a4 a3 a5 fun a6 a7=>
  YG t72 fun a8=>
  PX t1 t8 a6 t70 t71 a8 a7)
  (YH t8 fun a9=>
  TP 0 h a9):=
 DV (by kernel_rfl)
theorem Qp (t0 t1 t5 t42 t43 t44:V) (h:List V):PW t0 t1 t5 t42 t43 t44 h=
 Qm t43 t44 fun a10=>
  V.ite a10
  (X6 t42 t44 h fun a11=>
  X7 t5 a11 fun a12=>
  V.ite a12
  (none)
  (X8 t5 a11 fun a13=>
  X9 t44 fun a14=>
  PW t0 t1 a13 t42 t43 a14 h))
  (YA t5 h fun a15 a16=>
  YB t0 a15 a16 fun a17 a18=>
  YC t0 fun a19 a20 a21=>
  PX t1 a15 a17 a19 a20 a21 a18):=
 DV (by kernel_rfl)
def AKu (t0 t1:V) (k:V→Rv):Rv:=
 (lenV P 117 (V.weak t1)).bind fun t27=>(lenV P 195 (V.weak t0)).bind fun t29=>(AL .sub t29 (V.int .i64 1)).bind fun t30=>(AL .quo (V.int .i64 9223372036854775807) t30).bind fun t31=>(AL .geq t27 t31).bind fun t32=>k t32
def AKv (t0 t1 t5:V) (k:V→Rv):Rv:=
 (lenV P 117 (V.weak t1)).bind fun t36=>(lenV P 195 (V.weak t0)).bind fun t38=>(AL .sub t38 (V.int .i64 1)).bind fun t39=>(AL .mul t36 t39).bind fun t40=>(AL .add t5 t40).bind fun t41=>k t41
theorem AKw (t0 t1:V):Cl 132 [t0,t1] []=
 ACX (ACY t0 fun a22=>
  V.ite a22
  (AKt [] fun a23 a24=>
  TP 0 a24 a23)
  (ACZ t0 fun a25=>
  V.ite a25
  (ACa t0 [] fun a26 a27=>
  TP 0 a27 a26)
  (ACb fun a28=>
  ACc t1 fun a29=>
  jn (fun a30=>X5 t0 fun a31 a32 a33=>
  PW t0 t1 a30 a31 a32 a33 [])
  (fun(j0:V→Rv)=>V.ite a29
  (AKu t0 t1 fun a34=>
  V.ite a34
  (none)
  (AKv t0 t1 a28 fun a35=>
  j0 a35))
  (j0 a28))))):=
 Ar (Dv<|EQ (fun K=>K ⟨[(0,t0),(1,t1)],[]⟩) (Cm<|Dv<|Dv<|EQ (fun K u14=>K ⟨[(0,t0),(1,t1),(14,u14)],[]⟩) (funext fun a22=>Cm<|E8 (by kernel_rfl) (LV<|Cm<|Dv<|Dv<|EQ (fun K u18=>K ⟨[(0,t0),(1,t1),(18,u18)],[]⟩) (funext fun a25=>Cm<|E8 (by kernel_rfl) (LV<|Cm<|Dv<|EQ (fun K u5=>K ⟨[(0,t0),(1,t1),(5,u5)],[]⟩) (funext fun a28=>Cm<|Dv<|Dv<|EQ (fun K u25=>K ⟨[(0,t0),(1,t1),(5,a28),(25,u25)],[]⟩) (funext fun a29=>Cm<|AOO (fun K a30=>K ⟨[(0,t0),(1,t1),(5,a30)],[]⟩) (funext fun a30=>by kernel_rfl) (E8 (by kernel_rfl) (by kernel_rfl))))))))))
def ACd (t0:V) (h:List V) (k:V→V→List V→Rv):Rv:=
 if(Bc P 197 t0&&V.under (List.length h) t0)=true then k (V.ref (List.length h) [] 197) (V.ref (List.length (h++[t0])) [] 197) ((h++[t0])++[zero P 197])else none
def ACe (h:List V) (k:V→List V→Rv):Rv:=
 k (V.ref (List.length h) [] 211) (h++[zero P 211])
def ACf (k:V→Rv):Rv:=
 k (V.int .i64 0)
def PY (t1 t2 t4 t5 t23:V) (h:List V):Rv:=lp W 133 0 (cd 133 75) (bk 0 (sk 133 0 15 (lv 133 0))) ⟨[(1,t1),(2,t2),(4,t4),(5,t5),(23,t23)],h⟩
def WZ (t23:V) (k:V→Rv):Rv:=
 (AL .lss t23 (V.int .i64 16)).bind fun t24=>k t24
def ACg (t23:V) (k:V→Rv):Rv:=
 k t23
def ACh (t1 t6:V) (k:V→Rv):Rv:=
 (AL .mul (V.int .i64 4) t6).bind fun t28=>(AL .mul (V.int .i64 4) t6).bind fun t30=>(AL .add t30 (V.int .i64 4)).bind fun t31=>(KZ P 117 (V.weak t1) (some t28) (some t31) none).bind fun t32=>k t32
def Wh (t5 t6 t7:V) (h:List V) (k:List V→Rv):Rv:=
 (AY P 117 (V.weak t7) (V.int .i64 0)).bind fun t35=>(AX h 5 t35).bind fun t36=>(conv P h 5 166 t36).bind fun t37=>(AL .shl t37 (V.int .u64 24)).bind fun t38=>(AY P 117 (V.weak t7) (V.int .i64 1)).bind fun t40=>(AX h 5 t40).bind fun t41=>(conv P h 5 166 t41).bind fun t42=>(AL .shl t42 (V.int .u64 16)).bind fun t43=>(AL .or t38 t43).bind fun t44=>(AY P 117 (V.weak t7) (V.int .i64 2)).bind fun t46=>(AX h 5 t46).bind fun t47=>(conv P h 5 166 t47).bind fun t48=>(AL .shl t48 (V.int .u64 8)).bind fun t49=>(AL .or t44 t49).bind fun t50=>(AY P 117 (V.weak t7) (V.int .i64 3)).bind fun t52=>(AX h 5 t52).bind fun t53=>(conv P h 5 166 t53).bind fun t54=>(AL .or t50 t54).bind fun t55=>(AY P 211 t5 t6).bind fun t56=>(FW P h 166 t56 t55).bind fun a1=>k a1
def ACi (t23:V) (k:V→Rv):Rv:=
 (AL .add t23 (V.int .i64 1)).bind fun t57=>k t57
def ACj (k:V→Rv):Rv:=
 k (V.int .i64 16)
def PZ (t2 t4 t5 t8:V) (h:List V):Rv:=lp W 133 2 (cd 133 151) (bk 2 (sk 133 0 31 (lv 133 0))) ⟨[(2,t2),(4,t4),(5,t5),(8,t8)],h⟩
def Wi (t8:V) (k:V→Rv):Rv:=
 (AL .lss t8 (V.int .i64 64)).bind fun t59=>k t59
def Qq (t5 t8:V) (h:List V) (k:V→Rv):Rv:=
 (AL .sub t8 (V.int .i64 15)).bind fun t63=>(AY P 211 t5 t63).bind fun t64=>(AX h 166 t64).bind fun t65=>(Cl 149 (AB h [t65,(V.int .i64 7)]) []).bind fun r=>(AL .sub t8 (V.int .i64 15)).bind fun t68=>(AY P 211 t5 t68).bind fun t69=>(AX h 166 t69).bind fun t70=>(Cl 149 (AB h [t70,(V.int .i64 18)]) []).bind fun a2=>(AL .xor r.1 a2.1).bind fun t72=>(AL .sub t8 (V.int .i64 15)).bind fun t74=>(AY P 211 t5 t74).bind fun t75=>(AX h 166 t75).bind fun t76=>(AL .shr t76 (V.int .u64 3)).bind fun t77=>(AL .xor t72 t77).bind fun t78=>k t78
def Qr (t5 t8:V) (h:List V) (k:V→Rv):Rv:=
 (AL .sub t8 (V.int .i64 2)).bind fun t80=>(AY P 211 t5 t80).bind fun t81=>(AX h 166 t81).bind fun t82=>(Cl 149 (AB h [t82,(V.int .i64 17)]) []).bind fun r=>(AL .sub t8 (V.int .i64 2)).bind fun t85=>(AY P 211 t5 t85).bind fun t86=>(AX h 166 t86).bind fun t87=>(Cl 149 (AB h [t87,(V.int .i64 19)]) []).bind fun a2=>(AL .xor r.1 a2.1).bind fun t89=>(AL .sub t8 (V.int .i64 2)).bind fun t91=>(AY P 211 t5 t91).bind fun t92=>(AX h 166 t92).bind fun t93=>(AL .shr t93 (V.int .u64 10)).bind fun t94=>(AL .xor t89 t94).bind fun t95=>k t95
def Qs (t5 t8 t9 t10:V) (h:List V) (k:List V→Rv):Rv:=
 (AL .sub t8 (V.int .i64 16)).bind fun t98=>(AY P 211 t5 t98).bind fun t99=>(AX h 166 t99).bind fun t100=>(AL .sub t8 (V.int .i64 7)).bind fun t102=>(AY P 211 t5 t102).bind fun t103=>(AX h 166 t103).bind fun t104=>(AL .add t100 t104).bind fun t105=>(AL .add t105 t9).bind fun t107=>(AL .add t107 t10).bind fun t109=>(AY P 211 t5 t8).bind fun t110=>(FW P h 166 t110 t109).bind fun a1=>k a1
def YI (t8:V) (k:V→Rv):Rv:=
 (AL .add t8 (V.int .i64 1)).bind fun t61=>k t61
def YJ (t2:V) (h:List V) (k:V→List V→Rv):Rv:=
 (AX h 197 t2).bind fun t111=>(FW P (h++[zero P 197]) 197 (V.ref (List.length h) [] 197) t111).bind fun a1=>k (V.ref (List.length h) [] 197) a1
def AHL (k:V→Rv):Rv:=
 k (V.int .i64 0)
def Pe (t2 t4 t5 t11 t112:V) (h:List V):Rv:=lp W 133 4 (cd 133 607) (bk 4 (sk 133 0 127 (lv 133 0))) ⟨[(2,t2),(4,t4),(5,t5),(11,t11),(112,t112)],h⟩
def Qu (t112:V) (k:V→Rv):Rv:=
 (AL .lss t112 (V.int .i64 64)).bind fun t113=>k t113
def YK (t112:V) (k:V→Rv):Rv:=
 k t112
def Qv (t11:V) (h:List V) (k:V→V→V→V→V→V→Rv):Rv:=
 (AY P 197 t11 (V.int .i64 0)).bind fun t115=>(AX h 166 t115).bind fun t116=>(AY P 197 t11 (V.int .i64 1)).bind fun t117=>(AX h 166 t117).bind fun t118=>(AY P 197 t11 (V.int .i64 2)).bind fun t119=>(AX h 166 t119).bind fun t120=>(AY P 197 t11 (V.int .i64 4)).bind fun t121=>(AX h 166 t121).bind fun t122=>(AY P 197 t11 (V.int .i64 5)).bind fun t123=>(AX h 166 t123).bind fun t124=>(AY P 197 t11 (V.int .i64 6)).bind fun t125=>(AX h 166 t125).bind fun t126=>k t116 t118 t120 t122 t124 t126
def Qw (t5 t11 t12 t16 t17 t18:V) (h:List V) (k:V→Rv):Rv:=
 (AY P 197 t11 (V.int .i64 7)).bind fun t127=>(AX h 166 t127).bind fun t128=>(Cl 149 (AB h [t16,(V.int .i64 6)]) []).bind fun r=>(Cl 149 (AB h [t16,(V.int .i64 11)]) []).bind fun a2=>(AL .xor r.1 a2.1).bind fun t133=>(Cl 149 (AB h [t16,(V.int .i64 25)]) []).bind fun a3=>(AL .xor t133 a3.1).bind fun t136=>(AL .add t128 t136).bind fun t137=>(AL .xor t17 t18).bind fun t142=>(AL .and t16 t142).bind fun t143=>(AL .xor t18 t143).bind fun t144=>(AL .add t137 t144).bind fun t145=>(AY P 211 (V.rop 211 QO) t12).bind fun t147=>(AX h 166 t147).bind fun t148=>(AL .add t145 t148).bind fun t149=>(AY P 211 t5 t12).bind fun t151=>(AX h 166 t151).bind fun t152=>(AL .add t149 t152).bind fun t153=>k t153
def Qx (t13 t14 t15:V) (h:List V) (k:V→Rv):Rv:=
 (Cl 149 (AB h [t13,(V.int .i64 2)]) []).bind fun r=>(Cl 149 (AB h [t13,(V.int .i64 13)]) []).bind fun a2=>(AL .xor r.1 a2.1).bind fun t158=>(Cl 149 (AB h [t13,(V.int .i64 22)]) []).bind fun a3=>(AL .xor t158 a3.1).bind fun t161=>(AL .and t13 t14).bind fun t164=>(AL .or t13 t14).bind fun t168=>(AL .and t15 t168).bind fun t169=>(AL .or t164 t169).bind fun t170=>(AL .add t161 t170).bind fun t171=>k t171
def Qy (t11 t13 t14 t15 t16 t17 t18 t19 t20:V) (h:List V) (k:List V→Rv):Rv:=
 (AL .add t19 t20).bind fun t174=>(AY P 197 t11 (V.int .i64 3)).bind fun t178=>(AX h 166 t178).bind fun t179=>(AL .add t179 t19).bind fun t181=>(bld P 197 [(0,t174),(1,t13),(2,t14),(3,t15),(4,t181),(5,t16),(6,t17),(7,t18)]).bind fun t185=>(FW P h 197 t11 t185).bind fun a1=>k a1
def YL (t112:V) (k:V→Rv):Rv:=
 (AL .add t112 (V.int .i64 1)).bind fun t186=>k t186
def YM (t11:V) (h:List V) (k:V→V→Rv):Rv:=
 (AX h 197 t11).bind fun t187=>k t187 (V.int .i64 0)
def Pg (t2 t4 t187 t188:V) (h:List V):Rv:=lp W 133 6 (cd 133 1215) (bk 6 (sk 133 0 255 (lv 133 0))) ⟨[(2,t2),(4,t4),(187,t187),(188,t188)],h⟩
def Qz (t188:V) (k:V→Rv):Rv:=
 (AL .lss t188 (V.int .i64 8)).bind fun t189=>k t189
def YN (t187 t188:V) (k:V→V→Rv):Rv:=
 (Il P 197 t187 t188).bind fun t191=>k t188 t191
def YO (t2 t21 t22:V) (h:List V) (k:List V→Rv):Rv:=
 (AY P 197 t2 t21).bind fun t193=>(AX h 166 t193).bind fun t194=>(AL .add t194 t22).bind fun t196=>(AY P 197 t2 t21).bind fun t197=>(FW P h 166 t197 t196).bind fun a1=>k a1
def YP (t188:V) (k:V→Rv):Rv:=
 (AL .add t188 (V.int .i64 1)).bind fun t198=>k t198
def YQ (t2 t4:V) (h:List V) (k:List V→Rv):Rv:=
 (AX h 197 t2).bind fun t199=>(FW P h 197 t4 t199).bind fun a1=>k a1
theorem Q7 (t2 t4 t187 t188:V) (h:List V):Pg t2 t4 t187 t188 h=
 Qz t188 fun a4=>
  V.ite a4
  (YN t187 t188 fun a5 a6=>
  YO t2 a5 a6 h fun a7=>
  YP t188 fun a8=>
  Pg t2 t4 t187 a8 a7)
  (YQ t2 t4 h fun a9=>
  (AX a9 197 t4).bind fun a10=>AQ 0 a9 a10):=
 DV (by kernel_rfl)
theorem Q8 (t2 t4 t5 t11 t112:V) (h:List V):Pe t2 t4 t5 t11 t112 h=
 Qu t112 fun a11=>
  V.ite a11
  (YK t112 fun a12=>
  Qv t11 h fun a13 a14 a15 a16 a17 a18=>
  Qw t5 t11 a12 a16 a17 a18 h fun a19=>
  Qx a13 a14 a15 h fun a20=>
  Qy t11 a13 a14 a15 a16 a17 a18 a19 a20 h fun a21=>
  YL t112 fun a22=>
  Pe t2 t4 t5 t11 a22 a21)
  (YM t11 h fun a23 a24=>
  Pg t2 t4 a23 a24 h):=
 DV (by kernel_rfl)
theorem Q9 (t2 t4 t5 t8:V) (h:List V):PZ t2 t4 t5 t8 h=
 Wi t8 fun a25=>
  V.ite a25
  (Qq t5 t8 h fun a26=>
  Qr t5 t8 h fun a27=>
  Qs t5 t8 a26 a27 h fun a28=>
  YI t8 fun a29=>
  PZ t2 t4 t5 a29 a28)
  (YJ t2 h fun a30 a31=>
  AHL fun a32=>
  Pe t2 t4 t5 a30 a32 a31):=
 DV (by kernel_rfl)
theorem RD (t1 t2 t4 t5 t23:V) (h:List V):PY t1 t2 t4 t5 t23 h=
 WZ t23 fun a33=>
  V.ite a33
  (ACg t23 fun a34=>
  ACh t1 a34 fun a35=>
  Wh t5 a34 a35 h fun a36=>
  ACi t23 fun a37=>
  PY t1 t2 t4 t5 a37 a36)
  (ACj fun a38=>
  PZ t2 t4 t5 a38 h):=
 DV (by kernel_rfl)
theorem AKx (t0 t1:V):Cl 133 [t0,t1] []=
 ACd t0 [] fun a39 a40 a41=>
  ACe a41 fun a42 a43=>
  ACf fun a44=>
  PY t1 a39 a40 a42 a44 a43:=
 Ar (by kernel_rfl)
def ACk (k:Rv):Rv:=
 k
def ACl (t0 t1:V) (k:V→Rv):Rv:=
 (un .neg t1).bind fun t7=>(Cl 163 (AB [] [t0,t7]) []).bind fun r=>k r.1
theorem AKy (t0 t1:V):Cl 149 [t0,t1] []=
 ACk (ACl t0 t1 fun a1=>
  AQ 0 [] a1):=
 Ar (by kernel_rfl)
def ACm (k:Rv):Rv:=
 k
def ACn (t1:V) (k:V→Rv):Rv:=
 (conv P [] 3 120 t1).bind fun t7=>(AL .and t7 (V.int .u64 31)).bind fun t8=>k t8
def ACo (t0 t5:V) (k:V→Rv):Rv:=
 (AL .shl t0 t5).bind fun t11=>(AL .sub (V.int .u64 32) t5).bind fun t14=>(AL .shr t0 t14).bind fun t15=>(AL .or t11 t15).bind fun t16=>k t16
theorem AKz (t0 t1:V):Cl 163 [t0,t1] []=
 ACm (ACn t1 fun a1=>
  ACo t0 a1 fun a2=>
  AQ 0 [] a2):=
 Ar (by kernel_rfl)
end
end Go.Proofs.YtphoocnlpnnkdaaGreatDoor
