/-
  Part of the proof of a statement about the given program: an abstract machine over its code, the simulation, its functions' equations, what they compute.
-/
import Derived.Test.YtiegkempfolgcaaGreatDoorMg4
set_option linter.unusedVariables false
set_option linter.unusedSimpArgs false
set_option linter.unusedSectionVars false
set_option maxRecDepth 100000
noncomputable section
namespace Go.Proofs.YtiegkempfolgcaaGreatDoor
section
open Go AM
def VJ (t2 t3 t4 t7 t9 t10:V) (h:List V):Rv:=lp W 8 0 (cd 8 607) (bk 0 (sk 8 0 127 (lv 8 0))) ⟨[(2,t2),(3,t3),(4,t4),(7,t7),(9,t9),(10,t10)],h⟩
theorem Qn (t2 t3 t4 t7 t9 t10:V) (h:List V):VJ t2 t3 t4 t7 t9 t10 h=
 (AO .lss t10 t2).bind fun a11=>V.ite a11
  ((A7 h 24 t3).bind fun a12=>(Cl 11 (AA h [a12]) []).bind fun a13=>(AZ h 26 t4).bind fun a14=>(Cl 29 (AU [a13.1,a14,t2,t10]) h).bind fun a15=>(ext a15.1 0).bind fun a16=>(ext a15.1 1).bind fun a17=>jn (fun a18 a19=>
 V.ite a18
  (AV 0 a19 (V.bool false))
  ((fA 33 30 3 t7).bind fun a20=>(A7 a19 30 a20).bind fun a21=>(E8 58 a21 t10).bind fun a22=>(A7 a19 58 a22).bind fun a23=>(FC a23).bind fun a24=>(AO .add t9 a24).bind fun a25=>(AO .add t10 (V.int .i64 1)).bind fun a26=>if Ac (List.length h) [t2,t3,t4,t7,a25,a26]=true then VJ t2 t3 t4 t7 a25 a26 (List.take (List.length h) a19)else none)) (fun(a27:V→List V→Rv)=>(AO .neq a17 (V.int .i64 0)).bind fun a28=>V.ite a28 (a27 (V.bool true) a15.2) ((YO .eql a16).bind fun a29=>V.ite a29 (a27 (V.bool true) a15.2) (BO P CZ W (some t7) (V.clo 30 []) [a16] a15.2 fun a30 a31=>(fA 33 29 2 t7).bind fun a32=>if Es t7 a32=true then(A7 a31 29 a32).bind fun a33=>(E8 55 a33 t10).bind fun a34=>if Gu true [a34]=true then(AZ a31 55 a34).bind fun a35=>(YL (BA 54) .neq a30 a35).bind fun a36=>V.ite a36 (a27 (V.bool true) a31) ((fA 33 28 1 t7).bind fun a37=>(A7 a31 28 a37).bind fun a38=>(E8 4 a38 t10).bind fun a39=>(AZ a31 4 a39).bind fun a40=>V.ite a40 (a27 (V.bool true) a31) (BO P CZ W (some t7) (V.clo 31 []) [a16] a31 fun a41 a42=>(FC a41).bind fun a43=>(fA 33 30 3 t7).bind fun a44=>if Es t7 a44=true then(A7 a42 30 a44).bind fun a45=>(E8 58 a45 t10).bind fun a46=>if Gu true [a46]=true then(A7 a42 58 a46).bind fun a47=>(FC a47).bind fun a48=>(AO .neq a43 a48).bind fun a49=>a27 a49 a42 else none else none))else none else none))))
  ((fA 24 3 0 t3).bind fun a50=>(AZ h 3 a50).bind fun a51=>(AO .eql t9 a51).bind fun a52=>AV 0 h a52):=
 D5 (by kernel_rfl)
theorem VK (t0 t1 t2:V):Cl 8 [t0,t1,t2] []=
 if((BA 23) (V.weak t0)&&V.under 0 (V.weak t0))=true then if((BA 25) t1&&V.under 1 t1)=true then jn (fun a1=>
 V.ite a1
  ((Cl 9 (AA [(V.weak t0),t1] []) []).bind fun a2=>AV 0 [(V.weak t0),t1] a2.1)
  ((A7 [(V.weak t0),t1] 24 (V.ref 0 [] 24)).bind fun a3=>if Gu true [a3]=true then(Cl 11 (AA [(V.weak t0),t1] [a3]) []).bind fun a4=>(AZ [(V.weak t0),t1] 26 (V.ref 1 [] 26)).bind fun a5=>if Gu true [a4.1,a5,t2]=true then(Cl 10 (AA [(V.weak t0),t1] [a4.1,a5,t2]) []).bind fun a6=>(FB a6.1 0).bind fun a7=>(ext a6.1 1).bind fun a8=>(DC (BA 32) 33 [(V.weak t0),t1,(V.agg 32 [(V.int .i64 0),(V.lst 4 .nil []),(V.lst 55 .nil []),(V.lst 58 .nil []),(V.lst 108 .nil [])])] (V.ref 2 [] 33) a7).bind fun a9=>jn (fun a10=>
 V.ite a10
  (AV 0 a9 (V.bool false))
  (VJ t2 (V.ref 0 [] 24) (V.ref 1 [] 26) (V.ref 2 [] 33) (V.int .i64 0) (V.int .i64 0) a9)) (fun(a53:V→Rv)=>(AO .neq a8 (V.int .i64 0)).bind fun a54=>V.ite a54 (a53 (V.bool true)) ((fA 33 28 1 (V.ref 2 [] 33)).bind fun a55=>(A7 a9 28 a55).bind fun a56=>(FC a56).bind fun a57=>(AO .neq a57 t2).bind fun a58=>V.ite a58 (a53 (V.bool true)) ((fA 33 29 2 (V.ref 2 [] 33)).bind fun a59=>(A7 a9 29 a59).bind fun a60=>(FC a60).bind fun a61=>(AO .neq a61 t2).bind fun a62=>V.ite a62 (a53 (V.bool true)) ((fA 33 30 3 (V.ref 2 [] 33)).bind fun a63=>(A7 a9 30 a63).bind fun a64=>(FC a64).bind fun a65=>(AO .neq a65 t2).bind fun a66=>V.ite a66 (a53 (V.bool true)) ((fA 33 3 0 (V.ref 2 [] 33)).bind fun a67=>(AZ a9 3 a67).bind fun a68=>(AO .neq a68 (V.int .i64 0)).bind fun a69=>V.ite a69 (a53 (V.bool true)) ((fA 33 31 4 (V.ref 2 [] 33)).bind fun a70=>(A7 a9 31 a70).bind fun a71=>(FC a71).bind fun a72=>(AO .neq a72 (V.int .i64 0)).bind fun a73=>a53 a73))))))else none else none)) (fun(a74:V→Rv)=>(Cl 9 (AA [(V.weak t0),t1] []) []).bind fun a75=>(un .not a75.1).bind fun a76=>V.ite a76 (a74 (V.bool true)) ((fA 24 22 1 (V.ref 0 [] 24)).bind fun a77=>(A7 [(V.weak t0),t1] 22 a77).bind fun a78=>(FC a78).bind fun a79=>(AO .gtr a79 (V.int .i64 40)).bind fun a80=>V.ite a80 (a74 (V.bool true)) ((fA 24 3 0 (V.ref 0 [] 24)).bind fun a81=>(AZ [(V.weak t0),t1] 3 a81).bind fun a82=>(AO .gtr a82 (V.int .i64 12)).bind fun a83=>V.ite a83 (a74 (V.bool true)) ((A7 [(V.weak t0),t1] 24 (V.ref 0 [] 24)).bind fun a84=>(AZ [(V.weak t0),t1] 26 (V.ref 1 [] 26)).bind fun a85=>(Cl 12 (AA [(V.weak t0),t1] [a84,a85,t2]) []).bind fun a86=>(un .not a86.1).bind fun a87=>a74 a87))))else none else none:=
 BB (by kernel_rfl)
theorem AFJ:Cl 9 [] []=
 ((ck [(Nh .i64) (V.int .i64 2)] [(V.int .i64 2),(V.lst 112 .nil [])]).map (.agg 23)).bind fun a1=>((ck [VH (V.str [109,97,120]),(Nh .i64) (V.int .i64 2)] [(V.str [109,97,120]),(V.int .i64 0),(V.int .i64 2)]).map (.agg 25)).bind fun a2=>(DC (BA 23) 24 [(V.agg 23 [(V.int .i64 0),(V.lst 112 .nil [])]),(V.agg 25 [(V.str []),(V.int .i64 0),(V.int .i64 0)])] (V.ref 0 [] 24) a1).bind fun a3=>(DC (BA 25) 26 a3 (V.ref 1 [] 26) a2).bind fun a4=>(A7 a4 24 (V.ref 0 [] 24)).bind fun a5=>(AZ a4 26 (V.ref 1 [] 26)).bind fun a6=>(Cl 10 (AA a4 [a5,a6,(V.int .i64 2)]) []).bind fun a7=>(FB a7.1 0).bind fun a8=>(ext a7.1 1).bind fun a9=>(DC (BA 32) 33 (a4++[(V.agg 32 [(V.int .i64 0),(V.lst 4 .nil []),(V.lst 55 .nil []),(V.lst 58 .nil []),(V.lst 108 .nil [])])]) (V.ref (List.length a4) [] 33) a8).bind fun a10=>(A7 a10 33 (V.ref (List.length a4) [] 33)).bind fun a11=>(Cl 20 (AA a10 [a11,(V.int .i64 1)]) []).bind fun a12=>(ext a12.1 0).bind fun a13=>(ext a12.1 1).bind fun a14=>(A7 a10 24 (V.ref 0 [] 24)).bind fun a15=>(AZ a10 26 (V.ref 1 [] 26)).bind fun a16=>(A7 a10 33 (V.ref (List.length a4) [] 33)).bind fun a17=>(Cl 23 (AA a10 [a15,a16,a17,a13]) []).bind fun a18=>(FB a18.1 0).bind fun a19=>(ext a18.1 1).bind fun a20=>(DC (BA 32) 33 (a10++[(V.agg 32 [(V.int .i64 0),(V.lst 4 .nil []),(V.lst 55 .nil []),(V.lst 58 .nil []),(V.lst 108 .nil [])])]) (V.ref (List.length a10) [] 33) a19).bind fun a21=>(A7 a21 33 (V.ref (List.length a4) [] 33)).bind fun a22=>(mkL 60 (V.agg 59 [(V.int .i64 0),(V.int .i64 0),(V.agg 56 [(V.int .i64 0),(V.int .i64 0),(V.agg 54 (List.replicate 32 (V.int .u8 0))),(V.lst 55 .nil [])]),(V.lst 108 .nil []),(V.lst 9 .nil [])]) (V.int .i64 2) (V.int .i64 2)).bind fun a23=>(Cl 17 (AA a21 [a22,a23]) []).bind fun a24=>(ext a24.1 0).bind fun a25=>(ext a24.1 1).bind fun a26=>(A7 a21 24 (V.ref 0 [] 24)).bind fun a27=>(AZ a21 26 (V.ref 1 [] 26)).bind fun a28=>(A7 a21 33 (V.ref (List.length a4) [] 33)).bind fun a29=>(Cl 23 (AA a21 [a27,a28,a29,a25]) []).bind fun a30=>(FB a30.1 0).bind fun a31=>(ext a30.1 1).bind fun a32=>(DC (BA 32) 33 (a21++[(V.agg 32 [(V.int .i64 0),(V.lst 4 .nil []),(V.lst 55 .nil []),(V.lst 58 .nil []),(V.lst 108 .nil [])])]) (V.ref (List.length a21) [] 33) a31).bind fun a33=>(A7 a33 24 (V.ref 0 [] 24)).bind fun a34=>(AZ a33 26 (V.ref 1 [] 26)).bind fun a35=>(Ql 9 false (ck [VH a13,VH a25,VH (V.str [120])] [a13,a25,(V.str [120])])).bind fun a36=>(Cl 28 (AA a33 [a34,a35,(V.int .i64 2),a36]) []).bind fun a37=>(FB a37.1 0).bind fun a38=>(ext a37.1 1).bind fun a39=>(ext a37.1 2).bind fun a40=>(DC (BA 32) 33 (a33++[(V.agg 32 [(V.int .i64 0),(V.lst 4 .nil []),(V.lst 55 .nil []),(V.lst 58 .nil []),(V.lst 108 .nil [])])]) (V.ref (List.length a33) [] 33) a38).bind fun a41=>jn (fun a42=>
 AV 0 a41 a42) (fun(a43:V→Rv)=>(AO .eql a9 (V.int .i64 0)).bind fun a44=>V.ite a44 ((fA 33 28 1 (V.ref (List.length a4) [] 33)).bind fun a45=>(A7 a41 28 a45).bind fun a46=>(FC a46).bind fun a47=>(AO .eql a47 (V.int .i64 2)).bind fun a48=>V.ite a48 ((AO .eql a13 (V.str [69,1])).bind fun a49=>V.ite a49 ((AO .eql a14 (V.int .i64 0)).bind fun a50=>V.ite a50 ((AO .eql a20 (V.int .i64 0)).bind fun a51=>V.ite a51 ((fA 33 28 1 (V.ref (List.length a10) [] 33)).bind fun a52=>(A7 a41 28 a52).bind fun a53=>(E8 4 a53 (V.int .i64 1)).bind fun a54=>(AZ a41 4 a54).bind fun a55=>V.ite a55 ((fA 33 28 1 (V.ref (List.length a10) [] 33)).bind fun a56=>(A7 a41 28 a56).bind fun a57=>(E8 4 a57 (V.int .i64 0)).bind fun a58=>(AZ a41 4 a58).bind fun a59=>(un .not a59).bind fun a60=>V.ite a60 ((fA 33 3 0 (V.ref (List.length a10) [] 33)).bind fun a61=>(AZ a41 3 a61).bind fun a62=>(AO .eql a62 (V.int .i64 0)).bind fun a63=>V.ite a63 ((AO .eql a26 (V.int .i64 0)).bind fun a64=>V.ite a64 ((AO .eql a32 (V.int .i64 0)).bind fun a65=>V.ite a65 ((fA 33 3 0 (V.ref (List.length a21) [] 33)).bind fun a66=>(AZ a41 3 a66).bind fun a67=>(AO .eql a67 (V.int .i64 1)).bind fun a68=>V.ite a68 ((AO .eql a39 (V.int .i64 2)).bind fun a69=>V.ite a69 ((AO .eql a40 (V.int .i64 0)).bind fun a70=>V.ite a70 ((fA 33 3 0 (V.ref (List.length a33) [] 33)).bind fun a71=>(AZ a41 3 a71).bind fun a72=>(AO .eql a72 (V.int .i64 1)).bind fun a73=>V.ite a73 ((fA 33 28 1 (V.ref (List.length a33) [] 33)).bind fun a74=>(A7 a41 28 a74).bind fun a75=>(E8 4 a75 (V.int .i64 1)).bind fun a76=>(AZ a41 4 a76).bind fun a77=>a43 a77) (a43 (V.bool false))) (a43 (V.bool false))) (a43 (V.bool false))) (a43 (V.bool false))) (a43 (V.bool false))) (a43 (V.bool false))) (a43 (V.bool false))) (a43 (V.bool false))) (a43 (V.bool false))) (a43 (V.bool false))) (a43 (V.bool false))) (a43 (V.bool false))) (a43 (V.bool false))) (a43 (V.bool false))):=
 BB (by kernel_rfl)
def JC (t2 t3 t4 t6 t8 t31 t32:V) (h:List V):Rv:=lp W 10 0 (cd 10 151) (bk 0 (sk 10 0 31 (lv 10 0))) ⟨[(2,t2),(3,t3),(4,t4),(6,t6),(8,t8),(31,t31),(32,t32)],h⟩
def KY (t2 t3 t4 t6 t8 t12 t31 t32 t43 t44 t45:V) (m0:Nat) (h:List V):Rv:=lp W 10 2 (cd 10 309655) (bk 2 (sk 10 1 63895 (bk 1 (sk 10 0 1943 (lk 10 0 m0 151 (bk 0 (sk 10 0 31 (lv 10 0)))))))) ⟨[(2,t2),(3,t3),(4,t4),(6,t6),(8,t8),(12,t12),(31,t31),(32,t32),(43,t43),(44,t44),(45,t45)],h⟩
theorem OG (t2 t3 t4 t6 t8 t12 t31 t32 t43 t44 t45:V) (m0:Nat) (h:List V):KY t2 t3 t4 t6 t8 t12 t31 t32 t43 t44 t45 m0 h=
 (AO .lss t45 t44).bind fun a15=>V.ite a15
  ((E8 3 t43 t45).bind fun a16=>(AZ h 3 a16).bind fun a17=>(AZ h 26 t4).bind fun a18=>(Cl 34 (AA h [a18,a17]) []).bind fun a19=>(Ql 81 false (ck [(BA 80) a19.1] [a19.1])).bind fun a20=>(PO 81 (BA 80) false h t12 a20).bind fun a21=>(AO .add t45 (V.int .i64 1)).bind fun a22=>KY t2 t3 t4 t6 t8 a21 t31 t32 t43 t44 a22 m0 h)
  ((fA 33 29 2 t8).bind fun a23=>if(Wu t8 2 a23&&Es t8 a23)=true then(BI h 29 a23).bind fun a24=>BO P CZ W (some t8) (V.clo 35 []) [(V.weak t12)] a24.2 fun a25 a26=>(Ql 55 false (ck [(BA 54) a25] [a25])).bind fun a27=>if Gu true [a24.1,a27]=true then(PO 55 (BA 54) false a26 a24.1 a27).bind fun a28=>(fA 33 30 3 t8).bind fun a29=>if(Wu t8 3 a29&&Es t8 a29)=true then(BI a26 30 a29).bind fun a30=>BO P CZ W (some t8) (V.clo 36 []) [(V.weak t12)] a30.2 fun a31 a32=>(Ql 58 true (ck [(Qk 9) a31] [(V.weak a31)])).bind fun a33=>(PO 58 (Qk 9) true a32 a30.1 a33).bind fun a34=>(fA 33 29 2 t8).bind fun a35=>(DC (Qk 55) 29 a32 a35 a28).bind fun a36=>(fA 33 30 3 t8).bind fun a37=>(DC (Qk 58) 30 a36 a37 a34).bind fun a38=>(AO .add t32 (V.int .i64 1)).bind fun a39=>JC t2 t3 t4 t6 t8 t31 a39 a38 else none else none else none):=
 D5 (by kernel_rfl)
theorem OH (t2 t3 t4 t6 t8 t31 t32:V) (h:List V):JC t2 t3 t4 t6 t8 t31 t32 h=
 (AO .lss t32 t31).bind fun a8=>V.ite a8
  ((fA 24 3 0 t3).bind fun a9=>(AZ h 3 a9).bind fun a10=>(Cl 33 (AA h [a10,t2,t32]) []).bind fun a11=>(FB a11.1 0).bind fun a12=>(ext a11.1 1).bind fun a13=>(FC a12).bind fun a14=>KY t2 t3 t4 t6 t8 (V.weak (V.lst 81 .nil [])) t31 t32 a12 a14 (V.int .i64 0) (List.length h) h)
  ((A7 h 33 t8).bind fun a40=>(DC (BA 32) 33 h t6 a40).bind fun a41=>(A7 a41 33 t6).bind fun a42=>if(List.all [(V.int .i64 0),a42] V.okE)=true then AV 0 a41 (V.tup [a42,(V.int .i64 0)])else none):=
 D5 (by kernel_rfl)
theorem Yb (t0 t1 t2:V):Cl 10 [t0,t1,t2] []=
 if((BA 23) (V.weak t0)&&V.under 0 (V.weak t0))=true then if((BA 25) t1&&V.under 1 t1)=true then jn (fun a1=>
 V.ite a1
  (((ck [] [(V.int .i64 0),(V.lst 4 .nil []),(V.lst 55 .nil []),(V.lst 58 .nil []),(V.lst 108 .nil [])]).map (.agg 32)).bind fun a2=>(DC (BA 32) 33 [(V.weak t0),t1,(V.agg 32 [(V.int .i64 0),(V.lst 4 .nil []),(V.lst 55 .nil []),(V.lst 58 .nil []),(V.lst 108 .nil [])])] (V.ref 2 [] 33) a2).bind fun a3=>(A7 a3 33 (V.ref 2 [] 33)).bind fun a4=>if(List.all [(V.int .i64 170),a4] V.okE)=true then AV 0 a3 (V.tup [a4,(V.int .i64 170)])else none)
  ((mkL 4 (V.bool false) t2 t2).bind fun a5=>((ck [(Qk 4) a5] [(V.int .i64 0),(V.weak a5),(V.lst 55 .nil []),(V.lst 58 .nil []),(V.lst 108 .nil [])]).map (.agg 32)).bind fun a6=>(DC (BA 32) 33 [(V.weak t0),t1,(V.agg 32 [(V.int .i64 0),(V.lst 4 .nil []),(V.lst 55 .nil []),(V.lst 58 .nil []),(V.lst 108 .nil [])]),(V.agg 32 [(V.int .i64 0),(V.lst 4 .nil []),(V.lst 55 .nil []),(V.lst 58 .nil []),(V.lst 108 .nil [])])] (V.ref 3 [] 33) a6).bind fun a7=>JC t2 (V.ref 0 [] 24) (V.ref 1 [] 26) (V.ref 2 [] 33) (V.ref 3 [] 33) t2 (V.int .i64 0) a7)) (fun(a43:V→Rv)=>(A7 [(V.weak t0),t1,(V.agg 32 [(V.int .i64 0),(V.lst 4 .nil []),(V.lst 55 .nil []),(V.lst 58 .nil []),(V.lst 108 .nil [])])] 24 (V.ref 0 [] 24)).bind fun a44=>(AZ [(V.weak t0),t1,(V.agg 32 [(V.int .i64 0),(V.lst 4 .nil []),(V.lst 55 .nil []),(V.lst 58 .nil []),(V.lst 108 .nil [])])] 26 (V.ref 1 [] 26)).bind fun a45=>(Cl 32 (AA [(V.weak t0),t1,(V.agg 32 [(V.int .i64 0),(V.lst 4 .nil []),(V.lst 55 .nil []),(V.lst 58 .nil []),(V.lst 108 .nil [])])] [a44,a45]) []).bind fun a46=>(AO .neq a46.1 (V.int .i64 0)).bind fun a47=>V.ite a47 (a43 (V.bool true)) ((AO .lss t2 (V.int .i64 1)).bind fun a48=>V.ite a48 (a43 (V.bool true)) ((AO .gtr t2 (V.int .i64 64)).bind fun a49=>a43 a49)))else none else none:=
 BB (by kernel_rfl)
theorem ADO (t0:V):Cl 11 [t0] []=
 if((BA 23) (V.weak t0)&&V.under 0 (V.weak t0))=true then(fA 24 3 0 (V.ref 0 [] 24)).bind fun a1=>(AZ [(V.weak t0),(V.agg 23 [(V.int .i64 0),(V.lst 112 .nil [])])] 3 a1).bind fun a2=>(Ql 112 false (ck [] [])).bind fun a3=>(fA 24 22 1 (V.ref 0 [] 24)).bind fun a4=>(A7 [(V.weak t0),(V.agg 23 [(V.int .i64 0),(V.lst 112 .nil [])])] 22 a4).bind fun a5=>(PO 112 (BA 111) false [(V.weak t0),(V.agg 23 [(V.int .i64 0),(V.lst 112 .nil [])])] a3 a5).bind fun a6=>((ck [(Nh .i64) a2,(Qk 112) a6] [a2,(V.weak a6)]).map (.agg 23)).bind fun a7=>(DC (BA 23) 24 [(V.weak t0),(V.agg 23 [(V.int .i64 0),(V.lst 112 .nil [])])] (V.ref 1 [] 24) a7).bind fun a8=>(A7 a8 24 (V.ref 1 [] 24)).bind fun a9=>AV 0 a8 a9 else none:=
 BB (by kernel_rfl)
theorem ADP (t0 t1 t2:V):Cl 12 [t0,t1,t2] []=
 if((BA 23) (V.weak t0)&&V.under 0 (V.weak t0))=true then if((BA 25) t1&&V.under 1 t1)=true then jn (fun a1=>
 AV 0 [(V.weak t0),t1] a1) (fun(a2:V→Rv)=>(A7 [(V.weak t0),t1] 24 (V.ref 0 [] 24)).bind fun a3=>(AZ [(V.weak t0),t1] 26 (V.ref 1 [] 26)).bind fun a4=>(Cl 37 (AA [(V.weak t0),t1] [a3,a4]) []).bind fun a5=>V.ite a5.1 ((AO .geq t2 (V.int .i64 1)).bind fun a6=>V.ite a6 ((AO .leq t2 (V.int .i64 64)).bind fun a7=>a2 a7) (a2 (V.bool false))) (a2 (V.bool false)))else none else none:=
 BB (by kernel_rfl)
theorem UL (t0 t1 t2 t3:V):Cl 23 [t0,t1,t2,t3] []=
 if((BA 23) (V.weak t0)&&V.under 0 (V.weak t0))=true then if((BA 25) t1&&V.under 1 t1)=true then if((BA 32) (V.weak t2)&&V.under 2 (V.weak t2))=true then(A7 [(V.weak t0),t1,(V.weak t2),(V.agg 32 [(V.int .i64 0),(V.lst 4 .nil []),(V.lst 55 .nil []),(V.lst 58 .nil []),(V.lst 108 .nil [])])] 24 (V.ref 0 [] 24)).bind fun a1=>(AZ [(V.weak t0),t1,(V.weak t2),(V.agg 32 [(V.int .i64 0),(V.lst 4 .nil []),(V.lst 55 .nil []),(V.lst 58 .nil []),(V.lst 108 .nil [])])] 26 (V.ref 1 [] 26)).bind fun a2=>(fA 33 28 1 (V.ref 2 [] 33)).bind fun a3=>(A7 [(V.weak t0),t1,(V.weak t2),(V.agg 32 [(V.int .i64 0),(V.lst 4 .nil []),(V.lst 55 .nil []),(V.lst 58 .nil []),(V.lst 108 .nil [])])] 28 a3).bind fun a4=>(FC a4).bind fun a5=>(Cl 10 (AA [(V.weak t0),t1,(V.weak t2),(V.agg 32 [(V.int .i64 0),(V.lst 4 .nil []),(V.lst 55 .nil []),(V.lst 58 .nil []),(V.lst 108 .nil [])])] [a1,a2,a5]) []).bind fun a6=>(FB a6.1 0).bind fun a7=>(ext a6.1 1).bind fun a8=>(DC (BA 32) 33 [(V.weak t0),t1,(V.weak t2),(V.agg 32 [(V.int .i64 0),(V.lst 4 .nil []),(V.lst 55 .nil []),(V.lst 58 .nil []),(V.lst 108 .nil [])]),(V.agg 32 [(V.int .i64 0),(V.lst 4 .nil []),(V.lst 55 .nil []),(V.lst 58 .nil []),(V.lst 108 .nil [])])] (V.ref 4 [] 33) a7).bind fun a9=>jn (fun a10=>
 V.ite a10
  (((ck [] [(V.int .i64 0),(V.lst 4 .nil []),(V.lst 55 .nil []),(V.lst 58 .nil []),(V.lst 108 .nil [])]).map (.agg 32)).bind fun a11=>(DC (BA 32) 33 a9 (V.ref 3 [] 33) a11).bind fun a12=>(A7 a12 33 (V.ref 3 [] 33)).bind fun a13=>if(List.all [(V.int .i64 171),a13] V.okE)=true then AV 0 a12 (V.tup [a13,(V.int .i64 171)])else none)
  ((Cl 54 (AU [t3]) a9).bind fun a14=>((ck [] [(V.int .i64 0),(V.lst 4 .nil []),(V.lst 55 .nil []),(V.lst 58 .nil []),(V.lst 108 .nil [])]).map (.agg 32)).bind fun a15=>(DC (BA 32) 33 (a14.2++[(V.agg 32 [(V.int .i64 0),(V.lst 4 .nil []),(V.lst 55 .nil []),(V.lst 58 .nil []),(V.lst 108 .nil [])])]) (V.ref (List.length a14.2) [] 33) a15).bind fun a16=>(Cl 55 (AU [a14.1]) a16).bind fun a17=>(AO .eql a17.1 (V.int .u64 65)).bind fun a18=>V.ite a18
  ((AZ a17.2 26 (V.ref 1 [] 26)).bind fun a19=>(A7 a17.2 33 (V.ref 2 [] 33)).bind fun a20=>(Cl 56 (AU [a19,a20,a14.1]) a17.2).bind fun a21=>(FB a21.1 0).bind fun a22=>(ext a21.1 1).bind fun a23=>(DC (BA 32) 33 a21.2 (V.ref (List.length a14.2) [] 33) a22).bind fun a24=>(un .not a23).bind fun a25=>V.ite a25
  (((ck [] [(V.int .i64 0),(V.lst 4 .nil []),(V.lst 55 .nil []),(V.lst 58 .nil []),(V.lst 108 .nil [])]).map (.agg 32)).bind fun a26=>(DC (BA 32) 33 a24 (V.ref 3 [] 33) a26).bind fun a27=>(A7 a27 33 (V.ref 3 [] 33)).bind fun a28=>if(List.all [(V.int .i64 171),a28] V.okE)=true then AV 0 a27 (V.tup [a28,(V.int .i64 171)])else none)
  ((A7 a24 33 (V.ref (List.length a14.2) [] 33)).bind fun a29=>(DC (BA 32) 33 a24 (V.ref 3 [] 33) a29).bind fun a30=>(A7 a30 33 (V.ref 3 [] 33)).bind fun a31=>if(List.all [(V.int .i64 0),a31] V.okE)=true then AV 0 a30 (V.tup [a31,(V.int .i64 0)])else none))
  ((AO .eql a17.1 (V.int .u64 69)).bind fun a32=>V.ite a32
  ((A7 a17.2 24 (V.ref 0 [] 24)).bind fun a33=>(AZ a17.2 26 (V.ref 1 [] 26)).bind fun a34=>(A7 a17.2 33 (V.ref 2 [] 33)).bind fun a35=>(Cl 57 (AU [a33,a34,a35,a14.1]) a17.2).bind fun a36=>(FB a36.1 0).bind fun a37=>(ext a36.1 1).bind fun a38=>(DC (BA 32) 33 a36.2 (V.ref (List.length a14.2) [] 33) a37).bind fun a39=>(un .not a38).bind fun a40=>V.ite a40
  (((ck [] [(V.int .i64 0),(V.lst 4 .nil []),(V.lst 55 .nil []),(V.lst 58 .nil []),(V.lst 108 .nil [])]).map (.agg 32)).bind fun a41=>(DC (BA 32) 33 a39 (V.ref 3 [] 33) a41).bind fun a42=>(A7 a42 33 (V.ref 3 [] 33)).bind fun a43=>if(List.all [(V.int .i64 171),a43] V.okE)=true then AV 0 a42 (V.tup [a43,(V.int .i64 171)])else none)
  ((A7 a39 33 (V.ref (List.length a14.2) [] 33)).bind fun a44=>(DC (BA 32) 33 a39 (V.ref 3 [] 33) a44).bind fun a45=>(A7 a45 33 (V.ref 3 [] 33)).bind fun a46=>if(List.all [(V.int .i64 0),a46] V.okE)=true then AV 0 a45 (V.tup [a46,(V.int .i64 0)])else none))
  ((un .not (V.bool false)).bind fun a47=>V.ite a47
  (((ck [] [(V.int .i64 0),(V.lst 4 .nil []),(V.lst 55 .nil []),(V.lst 58 .nil []),(V.lst 108 .nil [])]).map (.agg 32)).bind fun a48=>(DC (BA 32) 33 a17.2 (V.ref 3 [] 33) a48).bind fun a49=>(A7 a49 33 (V.ref 3 [] 33)).bind fun a50=>if(List.all [(V.int .i64 171),a50] V.okE)=true then AV 0 a49 (V.tup [a50,(V.int .i64 171)])else none)
  ((A7 a17.2 33 (V.ref (List.length a14.2) [] 33)).bind fun a51=>(DC (BA 32) 33 a17.2 (V.ref 3 [] 33) a51).bind fun a52=>(A7 a52 33 (V.ref 3 [] 33)).bind fun a53=>if(List.all [(V.int .i64 0),a53] V.okE)=true then AV 0 a52 (V.tup [a53,(V.int .i64 0)])else none))))) (fun(a54:V→Rv)=>(AO .neq a8 (V.int .i64 0)).bind fun a55=>V.ite a55 (a54 (V.bool true)) ((fA 33 29 2 (V.ref 2 [] 33)).bind fun a56=>(A7 a9 29 a56).bind fun a57=>(FC a57).bind fun a58=>(fA 33 28 1 (V.ref 2 [] 33)).bind fun a59=>(A7 a9 28 a59).bind fun a60=>(FC a60).bind fun a61=>(AO .neq a58 a61).bind fun a62=>a54 a62))else none else none else none:=
 BB (by kernel_rfl)
def UM (t3 t4 t5 t8 t11 t28 t29 t30:V) (h:List V):Rv:=lp W 28 0 (cd 28 151) (bk 0 (sk 28 0 31 (lv 28 0))) ⟨[(3,t3),(4,t4),(5,t5),(8,t8),(11,t11),(28,t28),(29,t29),(30,t30)],h⟩
theorem JD (t3 t4 t5 t8 t11 t28 t29 t30:V) (h:List V):UM t3 t4 t5 t8 t11 t28 t29 t30 h=
 (AO .lss t30 t29).bind fun a12=>V.ite a12
  ((E8 9 t28 t30).bind fun a13=>(AZ h 9 a13).bind fun a14=>(A7 h 24 t4).bind fun a15=>(AZ h 26 t5).bind fun a16=>(A7 h 33 t11).bind fun a17=>(Cl 23 (AA h [a15,a16,a17,a14]) []).bind fun a18=>(FB a18.1 0).bind fun a19=>(ext a18.1 1).bind fun a20=>(DC (BA 32) 33 (h++[(V.agg 32 [(V.int .i64 0),(V.lst 4 .nil []),(V.lst 55 .nil []),(V.lst 58 .nil []),(V.lst 108 .nil [])])]) (V.ref (List.length h) [] 33) a19).bind fun a21=>(AO .neq a20 (V.int .i64 0)).bind fun a22=>V.ite a22
  ((A7 a21 33 t11).bind fun a23=>(DC (BA 32) 33 a21 t8 a23).bind fun a24=>(A7 a24 33 t8).bind fun a25=>if(List.all [(V.int .i64 0),t30,a25] V.okE)=true then AV 0 a24 (V.tup [a25,t30,(V.int .i64 0)])else none)
  ((A7 a21 33 (V.ref (List.length h) [] 33)).bind fun a26=>(DC (BA 32) 33 a21 t11 a26).bind fun a27=>(AO .add t30 (V.int .i64 1)).bind fun a28=>if Ac (List.length h) [t3,t4,t5,t8,t11,t28,t29,a28]=true then UM t3 t4 t5 t8 t11 t28 t29 a28 (List.take (List.length h) a27)else none))
  ((A7 h 33 t11).bind fun a29=>(FC t3).bind fun a30=>(DC (BA 32) 33 h t8 a29).bind fun a31=>(A7 a31 33 t8).bind fun a32=>if(List.all [(V.int .i64 0),a30,a32] V.okE)=true then AV 0 a31 (V.tup [a32,a30,(V.int .i64 0)])else none):=
 D5 (by kernel_rfl)
theorem ADQ (t0 t1 t2 t3:V):Cl 28 [t0,t1,t2,t3] []=
 if((BA 23) (V.weak t0)&&V.under 0 (V.weak t0))=true then if((BA 25) t1&&V.under 1 t1)=true then(A7 [(V.weak t0),t1,(V.agg 32 [(V.int .i64 0),(V.lst 4 .nil []),(V.lst 55 .nil []),(V.lst 58 .nil []),(V.lst 108 .nil [])])] 24 (V.ref 0 [] 24)).bind fun a1=>(AZ [(V.weak t0),t1,(V.agg 32 [(V.int .i64 0),(V.lst 4 .nil []),(V.lst 55 .nil []),(V.lst 58 .nil []),(V.lst 108 .nil [])])] 26 (V.ref 1 [] 26)).bind fun a2=>(Cl 10 (AA [(V.weak t0),t1,(V.agg 32 [(V.int .i64 0),(V.lst 4 .nil []),(V.lst 55 .nil []),(V.lst 58 .nil []),(V.lst 108 .nil [])])] [a1,a2,t2]) []).bind fun a3=>(FB a3.1 0).bind fun a4=>(ext a3.1 1).bind fun a5=>(DC (BA 32) 33 [(V.weak t0),t1,(V.agg 32 [(V.int .i64 0),(V.lst 4 .nil []),(V.lst 55 .nil []),(V.lst 58 .nil []),(V.lst 108 .nil [])]),(V.agg 32 [(V.int .i64 0),(V.lst 4 .nil []),(V.lst 55 .nil []),(V.lst 58 .nil []),(V.lst 108 .nil [])])] (V.ref 3 [] 33) a4).bind fun a6=>(AO .neq a5 (V.int .i64 0)).bind fun a7=>V.ite a7
  (((ck [] [(V.int .i64 0),(V.lst 4 .nil []),(V.lst 55 .nil []),(V.lst 58 .nil []),(V.lst 108 .nil [])]).map (.agg 32)).bind fun a8=>(DC (BA 32) 33 a6 (V.ref 2 [] 33) a8).bind fun a9=>(A7 a9 33 (V.ref 2 [] 33)).bind fun a10=>if(List.all [a5,(V.int .i64 0),a10] V.okE)=true then AV 0 a9 (V.tup [a10,(V.int .i64 0),a5])else none)
  ((FC (V.weak t3)).bind fun a11=>UM t3 (V.ref 0 [] 24) (V.ref 1 [] 26) (V.ref 2 [] 33) (V.ref 3 [] 33) (V.weak t3) a11 (V.int .i64 0) a6)else none else none:=
 BB (by kernel_rfl)
def PS (t5 t12 t40 t41 t42:V) (n:Nat) (h:List V):Rv:=lp W 29 0 (cd 29 607) (bk 0 (sk 29 0 127 (lv 29 n))) ⟨[(5,t5),(12,t12),(40,t40),(41,t41),(42,t42)],h⟩
theorem OI (t5 t12 t40 t41 t42:V) (n:Nat) (h:List V):PS t5 t12 t40 t41 t42 n h=
 (AO .lss t42 t41).bind fun a20=>V.ite a20
  ((E8 3 t40 t42).bind fun a21=>(AZ h 3 a21).bind fun a22=>if(Qc t12 t5&&true)=true then(Bz t12).bind fun a23=>(fA 114 74 6 a23).bind fun a24=>if Es t12 a24=true then(BI h 74 a24).bind fun a25=>if Es t5 t5=true then(AZ a25.2 26 t5).bind fun a26=>BO P CZ W (some t12) (V.clo 34 []) [a26,a22] a25.2 fun a27 a28=>(Ql 81 false (ck [(BA 80) a27] [a27])).bind fun a29=>(PO 81 (BA 80) false a28 a25.1 a29).bind fun a30=>(Bz t12).bind fun a31=>(fA 114 74 6 a31).bind fun a32=>(DC (Qk 81) 74 a28 a32 a30).bind fun a33=>(AO .add t42 (V.int .i64 1)).bind fun a34=>PS t5 t12 t40 t41 a34 n a33 else none else none else none)
  (if(List.all [(V.int .i64 0),t12] V.okE)=true then KT h (V.tup [t12,(V.int .i64 0)])else none):=
 D5 (by kernel_rfl)
theorem ADR (t0 t1 t2 t3:V) (h:List V):Cl 29 [t0,t1,t2,t3] h=
 if((BA 23) (V.weak t0)&&V.under (List.length h) (V.weak t0))=true then if((BA 25) t1&&V.under (List.length (h++[(V.weak t0)])) t1)=true then(A7 ((h++[(V.weak t0)])++[t1]) 24 (V.ref (List.length h) [] 24)).bind fun a1=>(AZ ((h++[(V.weak t0)])++[t1]) 26 (V.ref (List.length (h++[(V.weak t0)])) [] 26)).bind fun a2=>(Cl 32 (AA ((h++[(V.weak t0)])++[t1]) [a1,a2]) []).bind fun a3=>(AO .neq a3.1 (V.int .i64 0)).bind fun a4=>V.ite a4
  (if(List.all [(V.int .i64 130),V.nilp] V.okE)=true then KT ((h++[(V.weak t0)])++[t1]) (V.tup [V.nilp,(V.int .i64 130)])else none)
  ((fA 24 3 0 (V.ref (List.length h) [] 24)).bind fun a5=>(AZ ((h++[(V.weak t0)])++[t1]) 3 a5).bind fun a6=>(Cl 33 (AA ((h++[(V.weak t0)])++[t1]) [a6,t2,t3]) []).bind fun a7=>(FB a7.1 0).bind fun a8=>(ext a7.1 1).bind fun a9=>(AO .neq a9 (V.int .i64 0)).bind fun a10=>V.ite a10
  (if(List.all [(V.int .i64 130),V.nilp] V.okE)=true then KT ((h++[(V.weak t0)])++[t1]) (V.tup [V.nilp,(V.int .i64 130)])else none)
  ((fA 24 3 0 (V.ref (List.length h) [] 24)).bind fun a11=>(AZ ((h++[(V.weak t0)])++[t1]) 3 a11).bind fun a12=>(fA 24 22 1 (V.ref (List.length h) [] 24)).bind fun a13=>(A7 ((h++[(V.weak t0)])++[t1]) 22 a13).bind fun a14=>(CT 59 (AA ((h++[(V.weak t0)])++[t1]) [a14])).bind fun a15=>((ck [(Nh .i64) a12,(Qk 112) a15.1] [a12,(V.weak a15.1)]).map (.agg 23)).bind fun a16=>(AZ ((h++[(V.weak t0)])++[t1]) 26 (V.ref (List.length (h++[(V.weak t0)])) [] 26)).bind fun a17=>((ck [(BA 23) a16,(BA 25) a17,(Nh .i64) t2,(Nh .i64) t3] [(V.weak a16),a17,t2,t3,(V.int .i64 0),(V.lst 81 .nil []),(V.lst 81 .nil []),(V.bool false)]).map (.agg 113)).bind fun a18=>if((BA 113) (V.weak a18)&&V.under (List.length ((h++[(V.weak t0)])++[t1])) (V.weak a18))=true then(FC a8).bind fun a19=>PS (V.ref (List.length (h++[(V.weak t0)])) [] 26) (V.ref (List.length ((h++[(V.weak t0)])++[t1])) [] 114) a8 a19 (V.int .i64 0) (List.length h) (((h++[(V.weak t0)])++[t1])++[(V.weak a18)])else none))else none else none:=
 BB (by kernel_rfl)
theorem ADS (t0:V) (h:List V):Cl 30 [t0] h=
 (Bz t0).bind fun a1=>(fA 114 74 6 a1).bind fun a2=>(A7 (h++[(V.agg 54 (List.replicate 32 (V.int .u8 0)))]) 74 a2).bind fun a3=>(Cl 35 (AA (h++[(V.agg 54 (List.replicate 32 (V.int .u8 0)))]) [a3]) []).bind fun a4=>(DC (BA 54) 55 (h++[(V.agg 54 (List.replicate 32 (V.int .u8 0)))]) (V.ref (List.length h) [] 55) a4.1).bind fun a5=>(AZ a5 55 (V.ref (List.length h) [] 55)).bind fun a6=>AV (List.length h) a5 a6:=
 BB (by kernel_rfl)
theorem ADT (t0:V) (h:List V):Cl 31 [t0] h=
 (Bz t0).bind fun a1=>(fA 114 74 6 a1).bind fun a2=>(A7 h 74 a2).bind fun a3=>(CT 60 (AA h [a3])).bind fun a4=>AV (List.length h) h a4.1:=
 BB (by kernel_rfl)
theorem ADU (t0 t1:V):Cl 32 [t0,t1] []=
 if((BA 23) (V.weak t0)&&V.under 0 (V.weak t0))=true then if((BA 25) t1&&V.under 1 t1)=true then jn (fun a1=>
 V.ite a1
  (AV 0 [(V.weak t0),t1] (V.int .i64 70))
  (AV 0 [(V.weak t0),t1] (V.int .i64 0))) (fun(a2:V→Rv)=>(A7 [(V.weak t0),t1] 24 (V.ref 0 [] 24)).bind fun a3=>(Cl 61 (AA [(V.weak t0),t1] [a3]) []).bind fun a4=>(AO .neq a4.1 (V.int .i64 0)).bind fun a5=>V.ite a5 (a2 (V.bool true)) ((fA 26 9 0 (V.ref 1 [] 26)).bind fun a6=>(AZ [(V.weak t0),t1] 9 a6).bind fun a7=>(Cl 62 (AA [(V.weak t0),t1] [a7]) []).bind fun a8=>(un .not a8.1).bind fun a9=>V.ite a9 (a2 (V.bool true)) ((fA 26 3 1 (V.ref 1 [] 26)).bind fun a10=>(AZ [(V.weak t0),t1] 3 a10).bind fun a11=>(AO .lss a11 (V.int .i64 0)).bind fun a12=>V.ite a12 (a2 (V.bool true)) ((fA 26 3 1 (V.ref 1 [] 26)).bind fun a13=>(AZ [(V.weak t0),t1] 3 a13).bind fun a14=>(fA 24 3 0 (V.ref 0 [] 24)).bind fun a15=>(AZ [(V.weak t0),t1] 3 a15).bind fun a16=>(AO .geq a14 a16).bind fun a17=>V.ite a17 (a2 (V.bool true)) ((fA 26 3 2 (V.ref 1 [] 26)).bind fun a18=>(AZ [(V.weak t0),t1] 3 a18).bind fun a19=>(AO .lss a19 (V.int .i64 1)).bind fun a20=>V.ite a20 (a2 (V.bool true)) ((fA 26 3 2 (V.ref 1 [] 26)).bind fun a21=>(AZ [(V.weak t0),t1] 3 a21).bind fun a22=>(AO .gtr a22 (V.int .i64 64)).bind fun a23=>a2 a23))))))else none else none:=
 BB (by kernel_rfl)
def KZ (t8 t9 t25 t26:V) (h:List V):Rv:=lp W 33 0 (cd 33 303) (bk 0 (sk 33 0 63 (lv 33 0))) ⟨[(8,t8),(9,t9),(25,t25),(26,t26)],h⟩
theorem OJ (t8 t9 t25 t26:V) (h:List V):KZ t8 t9 t25 t26 h=
 (AO .lss t26 t25).bind fun a3=>V.ite a3
  (CP P CZ W t8 [t26] h fun a4 a5=>if V.noOwn a4=true then V.ite a4
  ((Ql 3 false (ck [(Nh .i64) t26] [t26])).bind fun a6=>(PO 3 (Nh .i64) false a5 t9 a6).bind fun a7=>(AO .add t26 (V.int .i64 1)).bind fun a8=>KZ t8 a7 t25 a8 a5)
  ((AO .add t26 (V.int .i64 1)).bind fun a9=>KZ t8 t9 t25 a9 a5)else none)
  (if(List.all [(V.int .i64 0),t9] V.okE)=true then AV 0 h (V.tup [t9,(V.int .i64 0)])else none):=
 D5 (by kernel_rfl)
theorem ADV (t0 t1 t2:V):Cl 33 [t0,t1,t2] []=
 if((Nh .i64) t1&&V.under 0 t1)=true then if((Nh .i64) t2&&V.under 1 t2)=true then jn (fun a1=>
 V.ite a1
  (if(List.all [(V.int .i64 60),(V.weak (V.lst 3 .nil []))] V.okE)=true then AV 0 [t1,t2] (V.tup [(V.weak (V.lst 3 .nil [])),(V.int .i64 60)])else none)
  ((if(List.all [(V.ref 0 [] 3),(V.ref 1 [] 3)] V.capOk)=true then some (V.clo 64 [(V.ref 0 [] 3),(V.ref 1 [] 3)])else none).bind fun a2=>KZ a2 (V.weak (V.lst 3 .nil [])) t0 (V.int .i64 0) [t1,t2])) (fun(a10:V→Rv)=>(AZ [t1,t2] 3 (V.ref 0 [] 3)).bind fun a11=>(Cl 63 (AA [t1,t2] [t0,a11]) []).bind fun a12=>(un .not a12.1).bind fun a13=>V.ite a13 (a10 (V.bool true)) ((AZ [t1,t2] 3 (V.ref 1 [] 3)).bind fun a14=>(AO .lss a14 (V.int .i64 0)).bind fun a15=>V.ite a15 (a10 (V.bool true)) ((AZ [t1,t2] 3 (V.ref 1 [] 3)).bind fun a16=>(AZ [t1,t2] 3 (V.ref 0 [] 3)).bind fun a17=>(AO .geq a16 a17).bind fun a18=>a10 a18)))else none else none:=
 BB (by kernel_rfl)
theorem ADW (t0 t1:V):Cl 34 [t0,t1] []=
 if((BA 25) t0&&V.under 0 t0)=true then(fA 26 9 0 (V.ref 0 [] 26)).bind fun a1=>(AZ [t0,(V.agg 80 [(V.int .i64 0),(V.int .i64 0),(V.bool false),(V.bool false),(V.int .i64 0)])] 9 a1).bind fun a2=>(Cl 62 (AA [t0,(V.agg 80 [(V.int .i64 0),(V.int .i64 0),(V.bool false),(V.bool false),(V.int .i64 0)])] [a2]) []).bind fun a3=>(un .not a3.1).bind fun a4=>V.ite a4
  (((ck [] [(V.int .i64 0),(V.int .i64 0),(V.bool false),(V.bool false),(V.int .i64 0)]).map (.agg 80)).bind fun a5=>(DC (BA 80) 81 [t0,(V.agg 80 [(V.int .i64 0),(V.int .i64 0),(V.bool false),(V.bool false),(V.int .i64 0)])] (V.ref 1 [] 81) a5).bind fun a6=>(AZ a6 81 (V.ref 1 [] 81)).bind fun a7=>AV 0 a6 a7)
  (((ck [(Nh .i64) t1,tyB (V.bool true)] [t1,(V.int .i64 0),(V.bool true),(V.bool false),(V.int .i64 0)]).map (.agg 80)).bind fun a8=>(DC (BA 80) 81 [t0,(V.agg 80 [(V.int .i64 0),(V.int .i64 0),(V.bool false),(V.bool false),(V.int .i64 0)]),(V.agg 80 [(V.int .i64 0),(V.int .i64 0),(V.bool false),(V.bool false),(V.int .i64 0)])] (V.ref 2 [] 81) a8).bind fun a9=>(fA 26 9 0 (V.ref 0 [] 26)).bind fun a10=>(AZ a9 9 a10).bind fun a11=>(AO .eql a11 (V.str [109,97,120])).bind fun a12=>V.ite a12
  ((AO .mul (V.int .i64 37) t1).bind fun a13=>(AO .add a13 (V.int .i64 11)).bind fun a14=>(AO .rem a14 (V.int .i64 64)).bind fun a15=>(fA 81 2 1 (V.ref 2 [] 81)).bind fun a16=>(DC (Nh .i64) 2 a9 a16 a15).bind fun a17=>(AZ a17 81 (V.ref 2 [] 81)).bind fun a18=>(DC (BA 80) 81 a17 (V.ref 1 [] 81) a18).bind fun a19=>(AZ a19 81 (V.ref 1 [] 81)).bind fun a20=>AV 0 a19 a20)
  ((AO .eql a11 (V.str [108,97,98,101,108])).bind fun a21=>V.ite a21
  ((fA 81 2 1 (V.ref 2 [] 81)).bind fun a22=>(DC (Nh .i64) 2 a9 a22 t1).bind fun a23=>(AZ a23 81 (V.ref 2 [] 81)).bind fun a24=>(DC (BA 80) 81 a23 (V.ref 1 [] 81) a24).bind fun a25=>(AZ a25 81 (V.ref 1 [] 81)).bind fun a26=>AV 0 a25 a26)
  ((AO .eql a11 (V.str [98,102,115])).bind fun a27=>V.ite a27
  ((fA 26 3 1 (V.ref 0 [] 26)).bind fun a28=>(AZ a9 3 a28).bind fun a29=>(AO .neq t1 a29).bind fun a30=>V.ite a30
  ((fA 81 2 1 (V.ref 2 [] 81)).bind fun a31=>(DC (Nh .i64) 2 a9 a31 (V.int .i64 (-1))).bind fun a32=>(AZ a32 81 (V.ref 2 [] 81)).bind fun a33=>(DC (BA 80) 81 a32 (V.ref 1 [] 81) a33).bind fun a34=>(AZ a34 81 (V.ref 1 [] 81)).bind fun a35=>AV 0 a34 a35)
  ((AZ a9 81 (V.ref 2 [] 81)).bind fun a36=>(DC (BA 80) 81 a9 (V.ref 1 [] 81) a36).bind fun a37=>(AZ a37 81 (V.ref 1 [] 81)).bind fun a38=>AV 0 a37 a38))
  ((AO .eql a11 (V.str [115,115,115,112])).bind fun a39=>V.ite a39
  ((fA 26 3 1 (V.ref 0 [] 26)).bind fun a40=>(AZ a9 3 a40).bind fun a41=>(AO .neq t1 a41).bind fun a42=>V.ite a42
  ((fA 81 2 1 (V.ref 2 [] 81)).bind fun a43=>(DC (Nh .i64) 2 a9 a43 (V.int .i64 (-1))).bind fun a44=>(AZ a44 81 (V.ref 2 [] 81)).bind fun a45=>(DC (BA 80) 81 a44 (V.ref 1 [] 81) a45).bind fun a46=>(AZ a46 81 (V.ref 1 [] 81)).bind fun a47=>AV 0 a46 a47)
  ((AZ a9 81 (V.ref 2 [] 81)).bind fun a48=>(DC (BA 80) 81 a9 (V.ref 1 [] 81) a48).bind fun a49=>(AZ a49 81 (V.ref 1 [] 81)).bind fun a50=>AV 0 a49 a50))
  ((AO .eql a11 (V.str [114,97,110,107])).bind fun a51=>V.ite a51
  ((fA 81 2 1 (V.ref 2 [] 81)).bind fun a52=>(DC (Nh .i64) 2 a9 a52 (V.int .i64 65536)).bind fun a53=>(AZ a53 81 (V.ref 2 [] 81)).bind fun a54=>(DC (BA 80) 81 a53 (V.ref 1 [] 81) a54).bind fun a55=>(AZ a55 81 (V.ref 1 [] 81)).bind fun a56=>AV 0 a55 a56)
  ((AO .eql a11 (V.str [119,97,108,107,115])).bind fun a57=>V.ite a57
  ((fA 81 2 1 (V.ref 2 [] 81)).bind fun a58=>(DC (Nh .i64) 2 a9 a58 (V.int .i64 1)).bind fun a59=>(AZ a59 81 (V.ref 2 [] 81)).bind fun a60=>(DC (BA 80) 81 a59 (V.ref 1 [] 81) a60).bind fun a61=>(AZ a61 81 (V.ref 1 [] 81)).bind fun a62=>AV 0 a61 a62)
  ((AZ a9 81 (V.ref 2 [] 81)).bind fun a63=>(DC (BA 80) 81 a9 (V.ref 1 [] 81) a63).bind fun a64=>(AZ a64 81 (V.ref 1 [] 81)).bind fun a65=>AV 0 a64 a65)))))))else none:=
 BB (by kernel_rfl)
theorem ADX (t0:V):Cl 35 [t0] []=
 (Cl 36 (AA [(V.agg 54 (List.replicate 32 (V.int .u8 0)))] [t0]) []).bind fun a1=>(Cl 66 (AA [(V.agg 54 (List.replicate 32 (V.int .u8 0)))] [a1.1]) []).bind fun a2=>(DC (BA 54) 55 [(V.agg 54 (List.replicate 32 (V.int .u8 0)))] (V.ref 0 [] 55) a2.1).bind fun a3=>(AZ a3 55 (V.ref 0 [] 55)).bind fun a4=>AV 0 a3 a4:=
 BB (by kernel_rfl)
def PU (t3 t9 t10 t11:V) (h:List V):Rv:=lp W 36 0 (cd 36 75) (bk 0 (sk 36 0 15 (lv 36 0))) ⟨[(3,t3),(9,t9),(10,t10),(11,t11)],h⟩
theorem OL (t3 t9 t10 t11:V) (h:List V):PU t3 t9 t10 t11 h=
 (AO .lss t11 t10).bind fun a5=>V.ite a5
  ((E8 81 t9 t11).bind fun a6=>(AZ h 81 a6).bind fun a7=>(DC (BA 80) 81 (h++[(V.agg 80 [(V.int .i64 0),(V.int .i64 0),(V.bool false),(V.bool false),(V.int .i64 0)])]) (V.ref (List.length h) [] 81) a7).bind fun a8=>(AZ a8 81 (V.ref (List.length h) [] 81)).bind fun a9=>(Cl 67 (AA a8 [a9]) []).bind fun a10=>(E8 9 (V.weak t3) t11).bind fun a11=>(DC VH 9 a8 a11 a10.1).bind fun a12=>(AO .add t11 (V.int .i64 1)).bind fun a13=>if Ac (List.length h) [t3,t9,t10,a13]=true then PU t3 t9 t10 a13 (List.take (List.length h) a12)else none)
  (AV 0 h t3):=
 D5 (by kernel_rfl)
theorem ADY (t0:V):Cl 36 [t0] []=
 (FC (V.weak t0)).bind fun a1=>(mkL 9 (V.str []) a1 a1).bind fun a2=>(DZ [] a2).bind fun a3=>(FC t0).bind fun a4=>PU a3.1 t0 a4 (V.int .i64 0) a3.2:=
 BB (by kernel_rfl)
theorem ADZ (t0 t1:V):Cl 37 [t0,t1] []=
 if((BA 23) (V.weak t0)&&V.under 0 (V.weak t0))=true then if((BA 25) t1&&V.under 1 t1)=true then jn (fun a1=>
 AV 0 [(V.weak t0),t1] a1) (fun(a2:V→Rv)=>(A7 [(V.weak t0),t1] 24 (V.ref 0 [] 24)).bind fun a3=>(Cl 68 (AA [(V.weak t0),t1] [a3]) []).bind fun a4=>(AO .eql a4.1 (V.int .i64 0)).bind fun a5=>V.ite a5 ((fA 26 9 0 (V.ref 1 [] 26)).bind fun a6=>(AZ [(V.weak t0),t1] 9 a6).bind fun a7=>(Cl 69 (AA [(V.weak t0),t1] [a7]) []).bind fun a8=>V.ite a8.1 ((fA 26 3 1 (V.ref 1 [] 26)).bind fun a9=>(AZ [(V.weak t0),t1] 3 a9).bind fun a10=>(AO .geq a10 (V.int .i64 0)).bind fun a11=>V.ite a11 ((fA 26 3 1 (V.ref 1 [] 26)).bind fun a12=>(AZ [(V.weak t0),t1] 3 a12).bind fun a13=>(fA 24 3 0 (V.ref 0 [] 24)).bind fun a14=>(AZ [(V.weak t0),t1] 3 a14).bind fun a15=>(AO .lss a13 a15).bind fun a16=>V.ite a16 ((fA 26 3 2 (V.ref 1 [] 26)).bind fun a17=>(AZ [(V.weak t0),t1] 3 a17).bind fun a18=>(AO .geq a18 (V.int .i64 1)).bind fun a19=>V.ite a19 ((fA 26 3 2 (V.ref 1 [] 26)).bind fun a20=>(AZ [(V.weak t0),t1] 3 a20).bind fun a21=>(AO .leq a21 (V.int .i64 64)).bind fun a22=>a2 a22) (a2 (V.bool false))) (a2 (V.bool false))) (a2 (V.bool false))) (a2 (V.bool false))) (a2 (V.bool false)))else none else none:=
 BB (by kernel_rfl)
def Yc (k:Rv):Rv:=
 k
def Yd (h:List V) (k:V→List V→Rv):Rv:=
 (YK P 125 []).bind fun t1=>if(BK P 125 (V.weak t1)&&V.under (List.length h) (V.weak t1))=true then k (V.ref (List.length h) [] 125) (h++[(V.weak t1)])else none
theorem ADa (h:List V):Cl 45 [] h=
 Yc (Yd h fun a1 a2=>
  KT a2 a1):=
 BB (by kernel_rfl)
def PV (t0 t1:V) (n:Nat) (h:List V):Rv:=lp W 46 0 (cd 46 8) (bk 0 (sk 46 0 3 (lv 46 n))) ⟨[(0,t0),(1,t1)],h⟩
def Ye (t1:V) (k:V→Rv):Rv:=
 (AO .geq t1 (V.int .u64 128)).bind fun t5=>k t5
def Yf (t0 t1:V) (h:List V) (k:List V→Rv):Rv:=
 (Bz t0).bind fun t10=>(Dh P 125 0 t10).bind fun t11=>(BI h 68 t11).bind fun r=>(conv P r.2 93 5 t1).bind fun t14=>(AO .or t14 (V.int .u8 128)).bind fun t15=>(EU P 68 1 [(0,t15)]).bind fun t16=>(Eh P 68 r.2 r.1 t16).bind fun t17=>(Bz t0).bind fun t18=>(Dh P 125 0 t18).bind fun t19=>(Hz P r.2 68 t19 t17).bind fun a1=>k a1
def Yg (t1:V) (k:V→Rv):Rv:=
 (AO .shr t1 (V.int .u64 7)).bind fun t7=>k t7
def Yh (t0 t1:V) (h:List V) (k:List V→Rv):Rv:=
 (Bz t0).bind fun t22=>(Dh P 125 0 t22).bind fun t23=>(BI h 68 t23).bind fun r=>(conv P r.2 93 5 t1).bind fun t26=>(EU P 68 1 [(0,t26)]).bind fun t27=>(Eh P 68 r.2 r.1 t27).bind fun t28=>(Bz t0).bind fun t29=>(Dh P 125 0 t29).bind fun t30=>(Hz P r.2 68 t30 t28).bind fun a1=>k a1
theorem XD (t0 t1:V) (n:Nat) (h:List V):PV t0 t1 n h=
 Ye t1 fun a1=>
  V.ite a1
  (Yf t0 t1 h fun a2=>
  Yg t1 fun a3=>
  PV t0 a3 n a2)
  (Yh t0 t1 h fun a4=>
  if(List.all [] V.okE)=true then AV n a4 (V.tup [])else none):=
 D5 (by kernel_rfl)
theorem ADb (t0 t1:V) (h:List V):Cl 46 [t0,t1] h=
 PV t0 t1 (List.length h) h:=
 BB (by kernel_rfl)
def Yi (k:Rv):Rv:=
 k
def Yj (t0:V) (h:List V) (k:V→Rv):Rv:=
 (Bz t0).bind fun t4=>(Dh P 125 0 t4).bind fun t5=>(A7 h 68 t5).bind fun t6=>(conv P h 68 9 t6).bind fun t7=>k t7
theorem ADc (t0:V) (h:List V):Cl 50 [t0] h=
 Yi (Yj t0 h fun a1=>
  AV (List.length h) h a1):=
 BB (by kernel_rfl)
def Yk (k:Rv):Rv:=
 k
def Yl (t0:V) (h:List V) (k:V→List V→Rv):Rv:=
 (YK P 130 [(0,t0)]).bind fun t4=>if(BK P 130 t4&&V.under (List.length h) t4)=true then k (V.ref (List.length h) [] 130) (h++[t4])else none
theorem ADd (t0:V) (h:List V):Cl 54 [t0] h=
 Yk (Yl t0 h fun a1 a2=>
  KT a2 a1):=
 BB (by kernel_rfl)
theorem UN (t0:V):Cl 59 [t0] []=
 (Gz .eql (V.weak t0) (V.lst 112 .nil [])).bind fun a1=>V.ite a1
  (AV 0 [] (V.weak (V.lst 112 .nil [])))
  ((Ql 112 false (ck [] [])).bind fun a2=>(PO 112 (BA 111) false [] a2 t0).bind fun a3=>AV 0 [] a3):=
 BB (by kernel_rfl)
theorem UO (t0:V):Cl 60 [t0] []=
 (Gz .eql (V.weak t0) (V.lst 81 .nil [])).bind fun a1=>V.ite a1
  (AV 0 [] (V.weak (V.lst 81 .nil [])))
  ((Ql 81 false (ck [] [])).bind fun a2=>(PO 81 (BA 80) false [] a2 t0).bind fun a3=>AV 0 [] a3):=
 BB (by kernel_rfl)
def Ko (t4 t5:V) (h:List V):Rv:=lp W 61 0 (cd 61 303) (bk 0 (sk 61 0 63 (lv 61 0))) ⟨[(4,t4),(5,t5)],h⟩
theorem JE (t4 t5:V) (h:List V):Ko t4 t5 h=
 (FC (V.weak t4)).bind fun a8=>(AO .lss t5 a8).bind fun a9=>V.ite a9
  ((AO .sub t5 (V.int .i64 1)).bind fun a10=>(E8 112 (V.weak t4) a10).bind fun a11=>(AZ h 112 a11).bind fun a12=>(E8 112 (V.weak t4) t5).bind fun a13=>(AZ h 112 a13).bind fun a14=>(Cl 91 (AA h [a12,a14]) []).bind fun a15=>(AO .eql a15.1 (V.int .i64 0)).bind fun a16=>V.ite a16
  (AV 0 h (V.int .i64 51))
  ((AO .add t5 (V.int .i64 1)).bind fun a17=>Ko t4 a17 h))
  (AV 0 h (V.int .i64 0)):=
 D5 (by kernel_rfl)
theorem Kq (t0:V):Cl 61 [t0] []=
 if((BA 23) (V.weak t0)&&V.under 0 (V.weak t0))=true then(if(List.all [(V.ref 0 [] 24)] V.capOk)=true then some (V.clo 87 [(V.ref 0 [] 24)])else none).bind fun a1=>jn (fun a2 a3=>
 V.ite a2
  (AV 0 a3 (V.int .i64 50))
  ((fA 24 22 1 (V.ref 0 [] 24)).bind fun a4=>(A7 a3 22 a4).bind fun a5=>(Cl 90 (AU [a5]) a3).bind fun a6=>(Cl 89 (AU [a6.1,(V.clo 91 [])]) a6.2).bind fun a7=>Ko a7.1 (V.int .i64 1) a7.2)) (fun(a18:V→List V→Rv)=>(fA 24 3 0 (V.ref 0 [] 24)).bind fun a19=>(AZ [(V.weak t0)] 3 a19).bind fun a20=>(AO .lss a20 (V.int .i64 1)).bind fun a21=>V.ite a21 (a18 (V.bool true) [(V.weak t0)]) ((fA 24 3 0 (V.ref 0 [] 24)).bind fun a22=>(AZ [(V.weak t0)] 3 a22).bind fun a23=>(AO .gtr a23 (V.int .i64 64)).bind fun a24=>V.ite a24 (a18 (V.bool true) [(V.weak t0)]) ((fA 24 22 1 (V.ref 0 [] 24)).bind fun a25=>(A7 [(V.weak t0)] 22 a25).bind fun a26=>(FC a26).bind fun a27=>(AO .gtr a27 (V.int .i64 512)).bind fun a28=>V.ite a28 (a18 (V.bool true) [(V.weak t0)]) ((fA 24 22 1 (V.ref 0 [] 24)).bind fun a29=>(A7 [(V.weak t0)] 22 a29).bind fun a30=>(Cl 88 (AU [a30,a1]) [(V.weak t0)]).bind fun a31=>a18 a31.1 a31.2))))else none:=
 BB (by kernel_rfl)
theorem ADe (t0:V):Cl 62 [t0] []=
 (Ql 9 false (ck [VH (V.str [109,97,120]),VH (V.str [108,97,98,101,108]),VH (V.str [115,115,115,112]),VH (V.str [98,102,115]),VH (V.str [100,101,103,114,101,101]),VH (V.str [114,97,110,107]),VH (V.str [119,97,108,107,115])] [(V.str [109,97,120]),(V.str [108,97,98,101,108]),(V.str [115,115,115,112]),(V.str [98,102,115]),(V.str [100,101,103,114,101,101]),(V.str [114,97,110,107]),(V.str [119,97,108,107,115])])).bind fun a1=>(Cl 92 (AA [] [a1,t0]) []).bind fun a2=>AV 0 [] a2.1:=
 BB (by kernel_rfl)
theorem ADf (t0 t1:V):Cl 63 [t0,t1] []=
 jn (fun a1=>
 AV 0 [] a1) (fun(a2:V→Rv)=>(AO .geq t0 (V.int .i64 1)).bind fun a3=>V.ite a3 ((AO .leq t0 (V.int .i64 64)).bind fun a4=>V.ite a4 ((AO .geq t1 (V.int .i64 1)).bind fun a5=>V.ite a5 ((AO .leq t1 (V.int .i64 64)).bind fun a6=>a2 a6) (a2 (V.bool false))) (a2 (V.bool false))) (a2 (V.bool false))):=
 BB (by kernel_rfl)
theorem ADg (t0 t1 t2:V) (h:List V):Cl 64 [t0,t1,t2] h=
 (AZ h 3 t1).bind fun a1=>(Cl 65 (AA h [t0,a1]) []).bind fun a2=>(AZ h 3 t2).bind fun a3=>(AO .eql a2.1 a3).bind fun a4=>AV (List.length h) h a4:=
 BB (by kernel_rfl)
theorem ADh (t0 t1:V):Cl 65 [t0,t1] []=
 jn (fun a1=>
 V.ite a1
  (AV 0 [] (V.int .i64 (-1)))
  ((UK .u32 t0).bind fun a2=>(Cl 93 (AA [] [a2]) []).bind fun a3=>(UK .u32 t1).bind fun a4=>(AO .rem a3.1 a4).bind fun a5=>(UK .i64 a5).bind fun a6=>AV 0 [] a6)) (fun(a7:V→Rv)=>(AO .lss t0 (V.int .i64 0)).bind fun a8=>V.ite a8 (a7 (V.bool true)) ((AO .lss t1 (V.int .i64 1)).bind fun a9=>V.ite a9 (a7 (V.bool true)) ((AO .gtr t1 (V.int .i64 64)).bind fun a10=>a7 a10))):=
 BB (by kernel_rfl)
theorem ADi (t0:V):Cl 66 [t0] []=
 (FC (V.weak t0)).bind fun a1=>(Cl 95 (AA [(V.agg 54 (List.replicate 32 (V.int .u8 0)))] [t0]) []).bind fun a2=>(Cl 94 (AA [(V.agg 54 (List.replicate 32 (V.int .u8 0)))] [a1,a2.1]) []).bind fun a3=>(DC (BA 54) 55 [(V.agg 54 (List.replicate 32 (V.int .u8 0)))] (V.ref 0 [] 55) a3.1).bind fun a4=>(AZ a4 55 (V.ref 0 [] 55)).bind fun a5=>AV 0 a4 a5:=
 BB (by kernel_rfl)
theorem Ym (t0:V):Cl 67 [t0] []=
 if((BA 80) t0&&V.under 0 t0)=true then(AZ [t0] 81 (V.ref 0 [] 81)).bind fun a1=>(Cl 96 (AA [t0] [a1]) []).bind fun a2=>(AO .neq a2.1 (V.int .i64 0)).bind fun a3=>V.ite a3
  (AV 0 [t0] (V.str []))
  ((Cl 45 (AU []) [t0]).bind fun a4=>(fA 81 3 0 (V.ref 0 [] 81)).bind fun a5=>(AZ a4.2 3 a5).bind fun a6=>(UK .u64 a6).bind fun a7=>(Cl 46 (AU [a4.1,a7]) a4.2).bind fun a8=>(fA 81 2 1 (V.ref 0 [] 81)).bind fun a9=>(AZ a8.2 2 a9).bind fun a10=>(Cl 97 (AU [a4.1,a10]) a8.2).bind fun a11=>(fA 81 4 2 (V.ref 0 [] 81)).bind fun a12=>(AZ a11.2 4 a12).bind fun a13=>(Cl 98 (AA a11.2 [a13]) []).bind fun a14=>(Cl 46 (AU [a4.1,a14.1]) a11.2).bind fun a15=>(fA 81 4 3 (V.ref 0 [] 81)).bind fun a16=>(AZ a15.2 4 a16).bind fun a17=>(Cl 98 (AA a15.2 [a17]) []).bind fun a18=>(Cl 46 (AU [a4.1,a18.1]) a15.2).bind fun a19=>(fA 81 2 4 (V.ref 0 [] 81)).bind fun a20=>(AZ a19.2 2 a20).bind fun a21=>(Cl 97 (AU [a4.1,a21]) a19.2).bind fun a22=>(Cl 50 (AU [a4.1]) a22.2).bind fun a23=>AV 0 a23.2 a23.1)else none:=
 BB (by kernel_rfl)
def Kr (t1 t3 t4:V) (h:List V):Rv:=lp W 68 0 (cd 68 151) (bk 0 (sk 68 0 31 (lv 68 0))) ⟨[(1,t1),(3,t3),(4,t4)],h⟩
def PW (t1 t3 t4 t5 t6:V) (m0:Nat) (h:List V):Rv:=lp W 68 2 (cd 68 40087) (bk 2 (bk 1 (sk 68 0 919 (lk 68 0 m0 151 (bk 0 (sk 68 0 31 (lv 68 0))))))) ⟨[(1,t1),(3,t3),(4,t4),(5,t5),(6,t6)],h⟩
theorem OM (t1 t3 t4 t5 t6:V) (m0:Nat) (h:List V):PW t1 t3 t4 t5 t6 m0 h=
 (AO .lss t6 t4).bind fun a12=>V.ite a12
  (jn (fun a13=>
 (AO .add t6 (V.int .i64 1)).bind fun a14=>PW t1 a13 t4 t5 a14 m0 h) (fun(a15:V→Rv)=>V.ite t3 (a15 (V.bool true)) ((fA 24 22 1 t1).bind fun a16=>(A7 h 22 a16).bind fun a17=>(E8 112 a17 t6).bind fun a18=>(fA 112 3 0 a18).bind fun a19=>(AZ h 3 a19).bind fun a20=>(fA 112 3 0 t5).bind fun a21=>(AZ h 3 a21).bind fun a22=>(AO .eql a20 a22).bind fun a23=>V.ite a23 ((fA 24 22 1 t1).bind fun a24=>(A7 h 22 a24).bind fun a25=>(E8 112 a25 t6).bind fun a26=>(fA 112 3 1 a26).bind fun a27=>(AZ h 3 a27).bind fun a28=>(fA 112 3 1 t5).bind fun a29=>(AZ h 3 a29).bind fun a30=>(AO .eql a28 a30).bind fun a31=>a15 a31) (a15 (V.bool false)))))
  ((AO .add t4 (V.int .i64 1)).bind fun a32=>if Ac m0 [t1,t3,a32]=true then Kr t1 t3 a32 (List.take m0 h)else none):=
 D5 (by kernel_rfl)
theorem OO (t1 t3 t4:V) (h:List V):Kr t1 t3 t4 h=
 (fA 24 22 1 t1).bind fun a2=>(A7 h 22 a2).bind fun a3=>(FC a3).bind fun a4=>(AO .lss t4 a4).bind fun a5=>V.ite a5
  ((fA 24 22 1 t1).bind fun a6=>(A7 h 22 a6).bind fun a7=>(E8 112 a7 t4).bind fun a8=>(AZ h 112 a8).bind fun a9=>(DC (BA 111) 112 (h++[(V.agg 111 [(V.int .i64 0),(V.int .i64 0),(V.int .i64 0)])]) (V.ref (List.length h) [] 112) a9).bind fun a10=>jn (fun a11=>
 V.ite a11
  (AV 0 a10 (V.int .i64 50))
  (PW t1 t3 t4 (V.ref (List.length h) [] 112) (V.int .i64 0) (List.length h) a10)) (fun(a33:V→Rv)=>(fA 112 3 0 (V.ref (List.length h) [] 112)).bind fun a34=>(AZ a10 3 a34).bind fun a35=>(AO .lss a35 (V.int .i64 0)).bind fun a36=>V.ite a36 (a33 (V.bool true)) ((fA 112 3 0 (V.ref (List.length h) [] 112)).bind fun a37=>(AZ a10 3 a37).bind fun a38=>(fA 24 3 0 t1).bind fun a39=>(AZ a10 3 a39).bind fun a40=>(AO .geq a38 a40).bind fun a41=>V.ite a41 (a33 (V.bool true)) ((fA 112 3 1 (V.ref (List.length h) [] 112)).bind fun a42=>(AZ a10 3 a42).bind fun a43=>(AO .lss a43 (V.int .i64 0)).bind fun a44=>V.ite a44 (a33 (V.bool true)) ((fA 112 3 1 (V.ref (List.length h) [] 112)).bind fun a45=>(AZ a10 3 a45).bind fun a46=>(fA 24 3 0 t1).bind fun a47=>(AZ a10 3 a47).bind fun a48=>(AO .geq a46 a48).bind fun a49=>V.ite a49 (a33 (V.bool true)) ((fA 112 2 2 (V.ref (List.length h) [] 112)).bind fun a50=>(AZ a10 2 a50).bind fun a51=>(AO .lss a51 (V.int .i64 0)).bind fun a52=>V.ite a52 (a33 (V.bool true)) ((fA 112 2 2 (V.ref (List.length h) [] 112)).bind fun a53=>(AZ a10 2 a53).bind fun a54=>(AO .gtr a54 (V.int .i64 1048576)).bind fun a55=>a33 a55)))))))
  (V.ite t3
  (AV 0 h (V.int .i64 51))
  (AV 0 h (V.int .i64 0))):=
 D5 (by kernel_rfl)
theorem PX (t0:V):Cl 68 [t0] []=
 if((BA 23) (V.weak t0)&&V.under 0 (V.weak t0))=true then jn (fun a1=>
 V.ite a1
  (AV 0 [(V.weak t0)] (V.int .i64 50))
  (Kr (V.ref 0 [] 24) (V.bool false) (V.int .i64 0) [(V.weak t0)])) (fun(a56:V→Rv)=>(fA 24 3 0 (V.ref 0 [] 24)).bind fun a57=>(AZ [(V.weak t0)] 3 a57).bind fun a58=>(AO .lss a58 (V.int .i64 1)).bind fun a59=>V.ite a59 (a56 (V.bool true)) ((fA 24 3 0 (V.ref 0 [] 24)).bind fun a60=>(AZ [(V.weak t0)] 3 a60).bind fun a61=>(AO .gtr a61 (V.int .i64 64)).bind fun a62=>V.ite a62 (a56 (V.bool true)) ((fA 24 22 1 (V.ref 0 [] 24)).bind fun a63=>(A7 [(V.weak t0)] 22 a63).bind fun a64=>(FC a64).bind fun a65=>(AO .gtr a65 (V.int .i64 512)).bind fun a66=>a56 a66)))else none:=
 BB (by kernel_rfl)
theorem ADj (t0:V):Cl 69 [t0] []=
 jn (fun a1=>
 AV 0 [] a1) (fun(a2:V→Rv)=>(AO .eql t0 (V.str [109,97,120])).bind fun a3=>V.ite a3 (a2 (V.bool true)) ((AO .eql t0 (V.str [108,97,98,101,108])).bind fun a4=>V.ite a4 (a2 (V.bool true)) ((AO .eql t0 (V.str [115,115,115,112])).bind fun a5=>V.ite a5 (a2 (V.bool true)) ((AO .eql t0 (V.str [98,102,115])).bind fun a6=>V.ite a6 (a2 (V.bool true)) ((AO .eql t0 (V.str [100,101,103,114,101,101])).bind fun a7=>V.ite a7 (a2 (V.bool true)) ((AO .eql t0 (V.str [114,97,110,107])).bind fun a8=>V.ite a8 (a2 (V.bool true)) ((AO .eql t0 (V.str [119,97,108,107,115])).bind fun a9=>a2 a9))))))):=
 BB (by kernel_rfl)
theorem ADk (t0 t1:V) (h:List V):Cl 87 [t0,t1] h=
 if((BA 111) t0&&V.under (List.length h) t0)=true then jn (fun a1=>
 AV (List.length h) (h++[t0]) a1) (fun(a2:V→Rv)=>(fA 112 3 0 (V.ref (List.length h) [] 112)).bind fun a3=>(AZ (h++[t0]) 3 a3).bind fun a4=>(AO .lss a4 (V.int .i64 0)).bind fun a5=>V.ite a5 (a2 (V.bool true)) ((fA 112 3 0 (V.ref (List.length h) [] 112)).bind fun a6=>(AZ (h++[t0]) 3 a6).bind fun a7=>(fA 24 3 0 t1).bind fun a8=>(AZ (h++[t0]) 3 a8).bind fun a9=>(AO .geq a7 a9).bind fun a10=>V.ite a10 (a2 (V.bool true)) ((fA 112 3 1 (V.ref (List.length h) [] 112)).bind fun a11=>(AZ (h++[t0]) 3 a11).bind fun a12=>(AO .lss a12 (V.int .i64 0)).bind fun a13=>V.ite a13 (a2 (V.bool true)) ((fA 112 3 1 (V.ref (List.length h) [] 112)).bind fun a14=>(AZ (h++[t0]) 3 a14).bind fun a15=>(fA 24 3 0 t1).bind fun a16=>(AZ (h++[t0]) 3 a16).bind fun a17=>(AO .geq a15 a17).bind fun a18=>V.ite a18 (a2 (V.bool true)) ((fA 112 2 2 (V.ref (List.length h) [] 112)).bind fun a19=>(AZ (h++[t0]) 2 a19).bind fun a20=>(AO .lss a20 (V.int .i64 0)).bind fun a21=>V.ite a21 (a2 (V.bool true)) ((fA 112 2 2 (V.ref (List.length h) [] 112)).bind fun a22=>(AZ (h++[t0]) 2 a22).bind fun a23=>(AO .gtr a23 (V.int .i64 1048576)).bind fun a24=>a2 a24))))))else none:=
 BB (by kernel_rfl)
theorem ADl (t0 t1:V) (h:List V):Cl 88 [t0,t1] h=
 (Cl 112 (AU [t0,t1]) h).bind fun a1=>(AO .geq a1.1 (V.int .i64 0)).bind fun a2=>AV (List.length h) a1.2 a2:=
 BB (by kernel_rfl)
theorem ADm (t0 t1:V) (h:List V):Cl 89 [t0,t1] h=
 (Cl 113 (AU [t0]) h).bind fun a1=>(aps 1000091 112 [(V.weak a1.1),t1] a1.2).bind fun a2=>AV (List.length h) a2.2 a1.1:=
 BB (by kernel_rfl)
theorem ADn (t0:V) (h:List V):Cl 90 [t0] h=
 if((Qk 112) (V.weak t0)&&V.under (List.length h) (V.weak t0))=true then(if(List.all [(V.ref (List.length h) [] 22)] V.capOk)=true then some (V.clo 115 [(V.ref (List.length h) [] 22)])else none).bind fun a1=>KT (h++[(V.weak t0)]) a1 else none:=
 BB (by kernel_rfl)
theorem ADo (t0 t1:V):Cl 91 [t0,t1] []=
 if((BA 111) t0&&V.under 0 t0)=true then if((BA 111) t1&&V.under 1 t1)=true then(fA 112 3 0 (V.ref 0 [] 112)).bind fun a1=>(AZ [t0,t1] 3 a1).bind fun a2=>(fA 112 3 0 (V.ref 1 [] 112)).bind fun a3=>(AZ [t0,t1] 3 a3).bind fun a4=>(AO .neq a2 a4).bind fun a5=>V.ite a5
  ((fA 112 3 0 (V.ref 0 [] 112)).bind fun a6=>(AZ [t0,t1] 3 a6).bind fun a7=>(fA 112 3 0 (V.ref 1 [] 112)).bind fun a8=>(AZ [t0,t1] 3 a8).bind fun a9=>(AO .sub a7 a9).bind fun a10=>AV 0 [t0,t1] a10)
  ((fA 112 3 1 (V.ref 0 [] 112)).bind fun a11=>(AZ [t0,t1] 3 a11).bind fun a12=>(fA 112 3 1 (V.ref 1 [] 112)).bind fun a13=>(AZ [t0,t1] 3 a13).bind fun a14=>(AO .sub a12 a14).bind fun a15=>AV 0 [t0,t1] a15)else none else none:=
 BB (by kernel_rfl)
theorem ADp (t0 t1:V):Cl 92 [t0,t1] []=
 (Cl 116 (AA [] [t0,t1]) []).bind fun a1=>(AO .geq a1.1 (V.int .i64 0)).bind fun a2=>AV 0 [] a2:=
 BB (by kernel_rfl)
theorem ADq (t0:V):Cl 93 [t0] []=
 (AO .mul t0 (V.int .u32 2654435761)).bind fun a1=>(AO .shr a1 (V.int .u64 15)).bind fun a2=>(AO .xor a1 a2).bind fun a3=>(AO .mul a3 (V.int .u32 2246822519)).bind fun a4=>(AO .shr a4 (V.int .u64 13)).bind fun a5=>(AO .xor a4 a5).bind fun a6=>AV 0 [] a6:=
 BB (by kernel_rfl)
def Yn (t1:V) (h:List V) (k:V→V→List V→Rv):Rv:=
 if(BK P 55 t1&&V.under (List.length h) t1)=true then k (V.ref (List.length h) [] 55) (V.ref (List.length (h++[t1])) [] 55) ((h++[t1])++[zero P 55])else none
def Yo (h:List V) (k:V→List V→Rv):Rv:=
 (Cl 45 (AU []) h).bind fun r=>k r.1 r.2
def Yp (t0 t5:V) (h:List V) (k:List V→Rv):Rv:=
 (conv P h 3 93 t0).bind fun t9=>(Cl 46 (AU [t5,t9]) h).bind fun r=>k r.2
def Yq (t3 t4 t5:V) (h:List V) (k:List V→Rv):Rv:=
 (EU P 68 1 [(0,(V.int .u8 3))]).bind fun t11=>(Cl 50 (AU [t5]) h).bind fun r=>(conv P r.2 9 68 r.1).bind fun t14=>(Js P 55 t3 none none none).bind fun t15=>(EU P 182 3 [(0,t11),(1,t14),(2,t15)]).bind fun t16=>(Cl 117 (AA r.2 [t16]) []).bind fun a1=>(Hz P r.2 55 t4 a1.1).bind fun a1=>k a1
theorem ADr (t0 t1:V):Cl 94 [t0,t1] []=
 Yn t1 [] fun a1 a2 a3=>
  Yo a3 fun a4 a5=>
  Yp t0 a4 a5 fun a6=>
  Yq a1 a2 a4 a6 fun a7=>
  (AZ a7 55 a2).bind fun a8=>AV 0 a7 a8:=
 BB (by kernel_rfl)
theorem Yr (t0:V):Cl 95 [t0] []=
 (FC (V.weak t0)).bind fun a1=>(AO .eql a1 (V.int .i64 0)).bind fun a2=>V.ite a2
  ((Ql 5 false (ck [(Nh .u8) (V.int .u8 2)] [(V.int .u8 2)])).bind fun a3=>(Ql 68 true (ck [(Qk 5) a3] [(V.weak a3)])).bind fun a4=>(Cl 117 (AA [(V.agg 54 (List.replicate 32 (V.int .u8 0)))] [a4]) []).bind fun a5=>(DC (BA 54) 55 [(V.agg 54 (List.replicate 32 (V.int .u8 0)))] (V.ref 0 [] 55) a5.1).bind fun a6=>(AZ a6 55 (V.ref 0 [] 55)).bind fun a7=>AV 0 a6 a7)
  ((AO .eql a1 (V.int .i64 1)).bind fun a8=>V.ite a8
  ((E8 9 t0 (V.int .i64 0)).bind fun a9=>(AZ [(V.agg 54 (List.replicate 32 (V.int .u8 0)))] 9 a9).bind fun a10=>(Cl 118 (AA [(V.agg 54 (List.replicate 32 (V.int .u8 0)))] [a10]) []).bind fun a11=>(DC (BA 54) 55 [(V.agg 54 (List.replicate 32 (V.int .u8 0)))] (V.ref 0 [] 55) a11.1).bind fun a12=>(AZ a12 55 (V.ref 0 [] 55)).bind fun a13=>AV 0 a12 a13)
  ((FC (V.weak t0)).bind fun a14=>(Cl 119 (AA [(V.agg 54 (List.replicate 32 (V.int .u8 0)))] [a14]) []).bind fun a15=>(slL 9 (V.weak t0) none (some a15.1) (some a15.1)).bind fun a16=>(Cl 95 (AA [(V.agg 54 (List.replicate 32 (V.int .u8 0)))] [a16]) []).bind fun a17=>(slL 9 (V.weak t0) (some a15.1) none none).bind fun a18=>(Cl 95 (AA [(V.agg 54 (List.replicate 32 (V.int .u8 0)))] [a18]) []).bind fun a19=>(Cl 120 (AA [(V.agg 54 (List.replicate 32 (V.int .u8 0)))] [a17.1,a19.1]) []).bind fun a20=>(DC (BA 54) 55 [(V.agg 54 (List.replicate 32 (V.int .u8 0)))] (V.ref 0 [] 55) a20.1).bind fun a21=>(AZ a21 55 (V.ref 0 [] 55)).bind fun a22=>AV 0 a21 a22)):=
 BB (by kernel_rfl)
theorem H7 (t0:V):Cl 96 [t0] []=
 if((BA 80) t0&&V.under 0 t0)=true then jn (fun a1=>
 V.ite a1
  (AV 0 [t0] (V.int .i64 100))
  (AV 0 [t0] (V.int .i64 0))) (fun(a2:V→Rv)=>(fA 81 3 0 (V.ref 0 [] 81)).bind fun a3=>(AZ [t0] 3 a3).bind fun a4=>(AO .lss a4 (V.int .i64 0)).bind fun a5=>V.ite a5 (a2 (V.bool true)) ((fA 81 3 0 (V.ref 0 [] 81)).bind fun a6=>(AZ [t0] 3 a6).bind fun a7=>(AO .geq a7 (V.int .i64 64)).bind fun a8=>V.ite a8 (a2 (V.bool true)) ((fA 81 2 1 (V.ref 0 [] 81)).bind fun a9=>(AZ [t0] 2 a9).bind fun a10=>(Cl 121 (AA [t0] [a10]) []).bind fun a11=>V.ite a11.1 (a2 (V.bool true)) ((fA 81 2 4 (V.ref 0 [] 81)).bind fun a12=>(AZ [t0] 2 a12).bind fun a13=>(Cl 121 (AA [t0] [a13]) []).bind fun a14=>V.ite a14.1 (a2 (V.bool true)) ((fA 81 4 3 (V.ref 0 [] 81)).bind fun a15=>(AZ [t0] 4 a15).bind fun a16=>(un .not a16).bind fun a17=>V.ite a17 ((fA 81 2 4 (V.ref 0 [] 81)).bind fun a18=>(AZ [t0] 2 a18).bind fun a19=>(AO .neq a19 (V.int .i64 0)).bind fun a20=>a2 a20) (a2 (V.bool false)))))))else none:=
 BB (by kernel_rfl)
def Yt (t0 t1:V) (h:List V) (k:List V→Rv):Rv:=
 (conv P h 2 93 t1).bind fun t6=>(AO .shl t6 (V.int .u64 1)).bind fun t7=>(AO .shr t1 (V.int .u64 63)).bind fun t9=>(conv P h 2 93 t9).bind fun t10=>(AO .xor t7 t10).bind fun t11=>(Cl 46 (AU [t0,t11]) h).bind fun r=>k r.2
theorem ADs (t0 t1:V) (h:List V):Cl 97 [t0,t1] h=
 Yt t0 t1 h fun a1=>
  if(List.all [] V.okE)=true then AV (List.length h) a1 (V.tup [])else none:=
 BB (by kernel_rfl)
theorem ADt (t0:V):Cl 98 [t0] []=
 V.ite t0
  (AV 0 [] (V.int .u64 1))
  (AV 0 [] (V.int .u64 0)):=
 BB (by kernel_rfl)
def Jv (t0 t1 t7 t8:V) (n:Nat) (h:List V):Rv:=lp W 112 0 (cd 112 37) (bk 0 (sk 112 0 7 (lv 112 n))) ⟨[(0,t0),(1,t1),(7,t7),(8,t8)],h⟩
theorem Ku (t0 t1 t7 t8:V) (n:Nat) (h:List V):Jv t0 t1 t7 t8 n h=
 (AO .lss t8 t7).bind fun a2=>V.ite a2
  ((E8 112 (V.weak t0) t8).bind fun a3=>(AZ h 112 a3).bind fun a4=>CP P CZ W t1 [a4] h fun a5 a6=>if V.noOwn a5=true then V.ite a5
  (AV n a6 t8)
  ((AO .add t8 (V.int .i64 1)).bind fun a7=>Jv t0 t1 t7 a7 n a6)else none)
  (AV n h (V.int .i64 (-1))):=
 D5 (by kernel_rfl)
theorem AAs (t0 t1:V) (h:List V):Cl 112 [t0,t1] h=
 (FC (V.weak t0)).bind fun a1=>Jv t0 t1 a1 (V.int .i64 0) (List.length h) h:=
 BB (by kernel_rfl)
theorem AAt (t0:V) (h:List V):Cl 113 [t0] h=
 (aps 115 112 [(V.lst 112 .nil []),t0] h).bind fun a1=>KT a1.2 a1.1:=
 BB (by kernel_rfl)
def Jw (t0 t1 t7 t8:V):Rv:=lp W 116 0 (cd 116 37) (bk 0 (sk 116 0 7 (lv 116 0))) ⟨[(0,t0),(1,t1),(7,t7),(8,t8)],[]⟩
theorem Kv (t0 t1 t7 t8:V):Jw t0 t1 t7 t8=
 (AO .lss t8 t7).bind fun a2=>V.ite a2
  ((E8 9 (V.weak t0) t8).bind fun a3=>(AZ [] 9 a3).bind fun a4=>(AO .eql t1 a4).bind fun a5=>V.ite a5
  (AV 0 [] t8)
  ((AO .add t8 (V.int .i64 1)).bind fun a6=>Jw t0 t1 t7 a6))
  (AV 0 [] (V.int .i64 (-1))):=
 D5 (by kernel_rfl)
theorem AAu (t0 t1:V):Cl 116 [t0,t1] []=
 (FC (V.weak t0)).bind fun a1=>Jw t0 t1 a1 (V.int .i64 0):=
 BB (by kernel_rfl)
def VL (h:List V) (k:V→List V→Rv):Rv:=
 k (V.ref (List.length h) [] 55) (h++[zero P 55])
def VN (t0:V) (h:List V) (k:V→Rv):Rv:=
 (Cl 135 (AA h [t0,(V.lst 5 .nil [])]) []).bind fun r=>k r.1
def VO (t3:V) (h:List V) (k:V→Rv):Rv:=
 (lenV P 68 (V.weak t3)).bind fun t12=>(conv P h 3 93 t12).bind fun t13=>(AO .mul t13 (V.int .u64 8)).bind fun t14=>k t14
def VP (t3:V) (h:List V) (k:V→Rv):Rv:=
 (EU P 68 1 [(0,(V.int .u8 128))]).bind fun t16=>(Eh P 68 h t3 t16).bind fun t17=>k t17
def Jy (t2 t3 t4:V) (h:List V):Rv:=lp W 117 0 (cd 117 143) (bk 0 (sk 117 0 63 (lv 117 0))) ⟨[(2,t2),(3,t3),(4,t4)],h⟩
def PY (t3:V) (k:V→Rv):Rv:=
 (lenV P 68 (V.weak t3)).bind fun t19=>(AO .rem t19 (V.int .i64 64)).bind fun t20=>(AO .neq t20 (V.int .i64 56)).bind fun t21=>k t21
def VQ (t3:V) (h:List V) (k:V→Rv):Rv:=
 (EU P 68 1 [(0,(V.int .u8 0))]).bind fun t23=>(Eh P 68 h t3 t23).bind fun t24=>k t24
def VS (k:V→Rv):Rv:=
 k (V.int .i64 0)
def Jz (t2 t3 t4 t25:V) (h:List V):Rv:=lp W 117 2 (cd 117 607) (bk 2 (sk 117 0 127 (lv 117 0))) ⟨[(2,t2),(3,t3),(4,t4),(25,t25)],h⟩
def PZ (t25:V) (k:V→Rv):Rv:=
 (AO .lss t25 (V.int .i64 8)).bind fun t26=>k t26
def VT (t25:V) (k:V→Rv):Rv:=
 k t25
def VU (t3 t4 t5:V) (h:List V) (k:V→Rv):Rv:=
 (AO .mul (V.int .i64 8) t5).bind fun t31=>(AO .sub (V.int .i64 56) t31).bind fun t32=>(conv P h 3 126 t32).bind fun t33=>(AO .shr t4 t33).bind fun t34=>(conv P h 93 5 t34).bind fun t35=>(EU P 68 1 [(0,t35)]).bind fun t36=>(Eh P 68 h t3 t36).bind fun t37=>k t37
def Qo (t25:V) (k:V→Rv):Rv:=
 (AO .add t25 (V.int .i64 1)).bind fun t38=>k t38
def Qp (h:List V) (k:V→List V→Rv):Rv:=
 (AZ h 184 (V.rop 184 OE)).bind fun t39=>(Hz P (h++[zero P 184]) 184 (V.ref (List.length h) [] 184) t39).bind fun a1=>k (V.ref (List.length h) [] 184) a1
def J3 (t2 t3 t6:V) (h:List V):Rv:=lp W 117 4 (cd 117 1151) (bk 4 (sk 117 0 511 (lv 117 0))) ⟨[(2,t2),(3,t3),(6,t6)],h⟩
def Kw (t3:V) (k:V→Rv):Rv:=
 (lenV P 68 (V.weak t3)).bind fun t41=>(AO .gtr t41 (V.int .i64 0)).bind fun t42=>k t42
def Qq (t3 t6:V) (h:List V) (k:List V→Rv):Rv:=
 (AZ h 184 t6).bind fun t45=>(Js P 68 (V.weak t3) none (some (V.int .i64 64)) none).bind fun t47=>(Cl 136 (AA h [t45,t47]) []).bind fun r=>(Hz P h 184 t6 r.1).bind fun a1=>k a1
def Qr (t3:V) (k:V→Rv):Rv:=
 (Js P 68 t3 (some (V.int .i64 64)) none none).bind fun t44=>k t44
def Qs (h:List V) (k:V→List V→Rv):Rv:=
 k (V.ref (List.length h) [] 55) (h++[zero P 55])
def Qu (k:V→Rv):Rv:=
 k (V.int .i64 0)
def J4 (t2 t6 t7 t49:V) (h:List V):Rv:=lp W 117 6 (cd 117 9727) (bk 6 (sk 117 0 2047 (lv 117 0))) ⟨[(2,t2),(6,t6),(7,t7),(49,t49)],h⟩
def Ky (t49:V) (k:V→Rv):Rv:=
 (AO .lss t49 (V.int .i64 32)).bind fun t50=>k t50
def Qv (t49:V) (k:V→Rv):Rv:=
 k t49
def Kz (t6 t7 t8:V) (h:List V) (k:List V→Rv):Rv:=
 (AO .quo t8 (V.int .i64 4)).bind fun t54=>(Aa P 184 t6 t54).bind fun t55=>(AZ h 149 t55).bind fun t56=>(AO .rem t8 (V.int .i64 4)).bind fun t58=>(AO .mul (V.int .i64 8) t58).bind fun t59=>(AO .sub (V.int .i64 24) t59).bind fun t60=>(conv P h 3 126 t60).bind fun t61=>(AO .shr t56 t61).bind fun t62=>(conv P h 149 5 t62).bind fun t63=>(Aa P 55 t7 t8).bind fun t64=>(Hz P h 5 t64 t63).bind fun a1=>k a1
def Qw (t49:V) (k:V→Rv):Rv:=
 (AO .add t49 (V.int .i64 1)).bind fun t65=>k t65
def Qx (t2 t7:V) (h:List V) (k:List V→Rv):Rv:=
 (AZ h 55 t7).bind fun t66=>(Hz P h 55 t2 t66).bind fun a1=>k a1
theorem LC (t2 t6 t7 t49:V) (h:List V):J4 t2 t6 t7 t49 h=
 Ky t49 fun a21=>
  V.ite a21
  (Qv t49 fun a22=>
  Kz t6 t7 a22 h fun a23=>
  Qw t49 fun a24=>
  J4 t2 t6 t7 a24 a23)
  (Qx t2 t7 h fun a25=>
  (AZ a25 55 t2).bind fun a26=>AV 0 a25 a26):=
 D5 (by kernel_rfl)
theorem LD (t2 t3 t6:V) (h:List V):J3 t2 t3 t6 h=
 Kw t3 fun a15=>
  V.ite a15
  (Qq t3 t6 h fun a16=>
  Qr t3 fun a17=>
  J3 t2 a17 t6 a16)
  (Qs h fun a18 a19=>
  Qu fun a20=>
  J4 t2 t6 a18 a20 a19):=
 D5 (by kernel_rfl)
theorem LG (t2 t3 t4 t25:V) (h:List V):Jz t2 t3 t4 t25 h=
 PZ t25 fun a9=>
  V.ite a9
  (VT t25 fun a10=>
  VU t3 t4 a10 h fun a11=>
  Qo t25 fun a12=>
  Jz t2 a11 t4 a12 h)
  (Qp h fun a13 a14=>
  J3 t2 t3 a13 a14):=
 D5 (by kernel_rfl)
theorem LH (t2 t3 t4:V) (h:List V):Jy t2 t3 t4 h=
 PY t3 fun a6=>
  V.ite a6
  (VQ t3 h fun a7=>
  Jy t2 a7 t4 h)
  (VS fun a8=>
  Jz t2 t3 t4 a8 h):=
 D5 (by kernel_rfl)
theorem AAv (t0:V):Cl 117 [t0] []=
 VL [] fun a1 a2=>
  VN t0 a2 fun a3=>
  VO a3 a2 fun a4=>
  VP a3 a2 fun a5=>
  Jy a1 a5 a4 a2:=
 BB (by kernel_rfl)
def VW (h:List V) (k:V→List V→Rv):Rv:=
 k (V.ref (List.length h) [] 55) (h++[zero P 55])
def VX (t0 t2:V) (h:List V) (k:List V→Rv):Rv:=
 (EU P 68 1 [(0,(V.int .u8 0))]).bind fun t3=>(conv P h 9 68 t0).bind fun t5=>(EU P 182 2 [(0,t3),(1,t5)]).bind fun t6=>(Cl 117 (AA h [t6]) []).bind fun r=>(Hz P h 55 t2 r.1).bind fun a1=>k a1
theorem AAw (t0:V):Cl 118 [t0] []=
 VW [] fun a1 a2=>
  VX t0 a1 a2 fun a3=>
  (AZ a3 55 a1).bind fun a4=>AV 0 a3 a4:=
 BB (by kernel_rfl)
def J5 (t0 t3:V):Rv:=lp W 119 0 (cd 119 71) (bk 0 (sk 119 0 31 (lv 119 0))) ⟨[(0,t0),(3,t3)],[]⟩
theorem UQ (t0 t3:V):J5 t0 t3=
 (AO .sub t0 t3).bind fun a2=>(AO .lss t3 a2).bind fun a3=>V.ite a3
  ((AO .mul t3 (V.int .i64 2)).bind fun a4=>J5 t0 a4)
  (AV 0 [] t3):=
 D5 (by kernel_rfl)
theorem AAx (t0:V):Cl 119 [t0] []=
 (AO .lss t0 (V.int .i64 2)).bind fun a1=>V.ite a1
  (AV 0 [] (V.int .i64 0))
  (J5 t0 (V.int .i64 1)):=
 BB (by kernel_rfl)
theorem AAy (t0 t1:V):Cl 120 [t0,t1] []=
 if((BA 54) t0&&V.under 0 t0)=true then if((BA 54) t1&&V.under 1 t1)=true then(Ql 5 false (ck [(Nh .u8) (V.int .u8 1)] [(V.int .u8 1)])).bind fun a1=>(slA 55 54 32 5 (V.ref 0 [] 55) none none none).bind fun a2=>(slA 55 54 32 5 (V.ref 1 [] 55) none none none).bind fun a3=>(Ql 68 true (ck [(Qk 5) a1,(Qk 5) a2,(Qk 5) a3] [(V.weak a1),(V.weak a2),(V.weak a3)])).bind fun a4=>(Cl 117 (AA [t0,t1,(V.agg 54 (List.replicate 32 (V.int .u8 0)))] [a4]) []).bind fun a5=>(DC (BA 54) 55 [t0,t1,(V.agg 54 (List.replicate 32 (V.int .u8 0)))] (V.ref 2 [] 55) a5.1).bind fun a6=>(AZ a6 55 (V.ref 2 [] 55)).bind fun a7=>AV 0 a6 a7 else none else none:=
 BB (by kernel_rfl)
theorem AAz (t0:V):Cl 121 [t0] []=
 jn (fun a1=>
 AV 0 [] a1) (fun(a2:V→Rv)=>(AO .gtr t0 (V.int .i64 1125899906842624)).bind fun a3=>V.ite a3 (a2 (V.bool true)) ((AO .lss t0 (V.int .i64 (-1125899906842624))).bind fun a4=>a2 a4)):=
 BB (by kernel_rfl)
def VY (k:Rv):Rv:=
 k
def VZ (t0:V) (k:V→Rv):Rv:=
 (lenV P 182 (V.weak t0)).bind fun t13=>(AO .eql t13 (V.int .i64 0)).bind fun t14=>k t14
def AA0 (h:List V) (k:V→List V→Rv):Rv:=
 (EU P 68 0 []).bind fun v=>(DZ h v).bind fun r=>k r.1 r.2
def Va (t0:V) (k:V→Rv):Rv:=
 (lenV P 182 (V.weak t0)).bind fun t17=>(AO .eql t17 (V.int .i64 1)).bind fun t18=>k t18
def Vb (t0:V) (h:List V) (k:V→List V→Rv):Rv:=
 (Aa P 182 t0 (V.int .i64 0)).bind fun t20=>(A7 h 68 t20).bind fun t21=>(Eh P 68 h (V.lst 5 .nil []) t21).bind fun v=>(DZ h v).bind fun r=>k r.1 r.2
def Vd (k:V→Rv):Rv:=
 k (V.int .i64 0)
def Ve (t1:V) (k:V→Rv):Rv:=
 (lenV P 68 (V.weak t1)).bind fun t24=>(AO .gtr t24 (V.int .i64 0)).bind fun t25=>k t25
def Qy (t0:V) (k:V→V→V→Rv):Rv:=
 (lenV P 182 (V.weak t0)).bind fun t43=>k (V.weak t0) t43 (V.int .i64 0)
def J6 (t0 t1 t5 t42 t43 t44:V) (h:List V):Rv:=lp W 135 0 (cd 135 607) (bk 0 (sk 135 0 127 (lv 135 0))) ⟨[(0,t0),(1,t1),(5,t5),(42,t42),(43,t43),(44,t44)],h⟩
def LJ (t43 t44:V) (k:V→Rv):Rv:=
 (AO .lss t44 t43).bind fun t45=>k t45
def Qz (t42 t44:V) (h:List V) (k:V→Rv):Rv:=
 (Aa P 182 t42 t44).bind fun t46=>(A7 h 68 t46).bind fun t47=>k t47
def Q7 (t5 t7:V) (k:V→Rv):Rv:=
 (lenV P 68 (V.weak t7)).bind fun t49=>(AO .sub (V.int .i64 9223372036854775807) t5).bind fun t51=>(AO .gtr t49 t51).bind fun t52=>k t52
def Q8 (t5 t7:V) (k:V→Rv):Rv:=
 (lenV P 68 t7).bind fun t56=>(AO .add t5 t56).bind fun t57=>k t57
def Q9 (t44:V) (k:V→Rv):Rv:=
 (AO .add t44 (V.int .i64 1)).bind fun t58=>k t58
def RD (t5:V) (h:List V) (k:V→List V→Rv):Rv:=
 mnz P 0 155 [t5] h fun t60 a1=>(Js P 68 t60 none (some t5) (some t5)).bind fun t63=>k t63 a1
def RF (t0 t8:V) (h:List V) (k:V→List V→Rv):Rv:=
 (Aa P 182 (V.weak t0) (V.int .i64 0)).bind fun t66=>(A7 h 68 t66).bind fun t67=>(cpy P 68 h (V.weak t8) t67).bind fun r=>k r.1 r.2
def RG (t0:V) (k:V→V→V→Rv):Rv:=
 (Js P 182 t0 (some (V.int .i64 1)) none none).bind fun t70=>(lenV P 182 t70).bind fun t71=>k t70 t71 (V.int .i64 0)
def J7 (t1 t8 t9 t70 t71 t72:V) (h:List V):Rv:=lp W 135 2 (cd 135 4863) (bk 2 (sk 135 0 1023 (lv 135 0))) ⟨[(1,t1),(8,t8),(9,t9),(70,t70),(71,t71),(72,t72)],h⟩
def LK (t71 t72:V) (k:V→Rv):Rv:=
 (AO .lss t72 t71).bind fun t73=>k t73
def RH (t70 t72:V) (h:List V) (k:V→Rv):Rv:=
 (Aa P 182 t70 t72).bind fun t74=>(A7 h 68 t74).bind fun t75=>k t75
def RI (t1 t8 t9:V) (h:List V) (k:V→List V→Rv):Rv:=
 (Js P 68 (V.weak t8) (some t9) none none).bind fun t79=>(cpy P 68 h t79 (V.weak t1)).bind fun r=>(AO .add t9 r.1).bind fun t82=>k t82 r.2
def RJ (t8 t9 t11:V) (h:List V) (k:V→List V→Rv):Rv:=
 (Js P 68 (V.weak t8) (some t9) none none).bind fun t86=>(cpy P 68 h t86 t11).bind fun r=>(AO .add t9 r.1).bind fun t89=>k t89 r.2
def RN (t72:V) (k:V→Rv):Rv:=
 (AO .add t72 (V.int .i64 1)).bind fun t90=>k t90
def RP (t8:V) (k:V→Rv):Rv:=
 k t8
theorem LM (t1 t8 t9 t70 t71 t72:V) (h:List V):J7 t1 t8 t9 t70 t71 t72 h=
 LK t71 t72 fun a25=>
  V.ite a25
  (RH t70 t72 h fun a26=>
  RI t1 t8 t9 h fun a27 a28=>
  RJ t8 a27 a26 a28 fun a29 a30=>
  RN t72 fun a31=>
  J7 t1 t8 a29 t70 t71 a31 a30)
  (RP t8 fun a32=>
  Nl 0 h a32):=
 D5 (by kernel_rfl)
theorem LP (t0 t1 t5 t42 t43 t44:V) (h:List V):J6 t0 t1 t5 t42 t43 t44 h=
 LJ t43 t44 fun a13=>
  V.ite a13
  (Qz t42 t44 h fun a14=>
  Q7 t5 a14 fun a15=>
  V.ite a15
  (none)
  (Q8 t5 a14 fun a16=>
  Q9 t44 fun a17=>
  J6 t0 t1 a16 t42 t43 a17 h))
  (RD t5 h fun a18 a19=>
  RF t0 a18 a19 fun a20 a21=>
  RG t0 fun a22 a23 a24=>
  J7 t1 a18 a20 a22 a23 a24 a21):=
 D5 (by kernel_rfl)
def AA1 (t0 t1:V) (k:V→Rv):Rv:=
 (lenV P 68 (V.weak t1)).bind fun t27=>(lenV P 182 (V.weak t0)).bind fun t29=>(AO .sub t29 (V.int .i64 1)).bind fun t30=>(AO .quo (V.int .i64 9223372036854775807) t30).bind fun t31=>(AO .geq t27 t31).bind fun t32=>k t32
def AA2 (t0 t1 t5:V) (k:V→Rv):Rv:=
 (lenV P 68 (V.weak t1)).bind fun t36=>(lenV P 182 (V.weak t0)).bind fun t38=>(AO .sub t38 (V.int .i64 1)).bind fun t39=>(AO .mul t36 t39).bind fun t40=>(AO .add t5 t40).bind fun t41=>k t41
theorem AA3 (t0 t1:V):Cl 135 [t0,t1] []=
 VY (VZ t0 fun a1=>
  V.ite a1
  (AA0 [] fun a2 a3=>
  Nl 0 a3 a2)
  (Va t0 fun a4=>
  V.ite a4
  (Vb t0 [] fun a5 a6=>
  Nl 0 a6 a5)
  (Vd fun a7=>
  Ve t1 fun a8=>
  jn (fun a9=>Qy t0 fun a10 a11 a12=>
  J6 t0 t1 a9 a10 a11 a12 [])
  (fun(j0:V→Rv)=>V.ite a8
  (AA1 t0 t1 fun a33=>
  V.ite a33
  (none)
  (AA2 t0 t1 a7 fun a34=>
  j0 a34))
  (j0 a7))))):=
 BB (JW<|Qj (fun K=>K ⟨[(0,t0),(1,t1)],[]⟩) (H6<|JW<|JW<|Qj (fun K u14=>K ⟨[(0,t0),(1,t1),(14,u14)],[]⟩) (funext fun a1=>H6<|UI (by kernel_rfl) (YZ<|H6<|JW<|JW<|Qj (fun K u18=>K ⟨[(0,t0),(1,t1),(18,u18)],[]⟩) (funext fun a4=>H6<|UI (by kernel_rfl) (YZ<|H6<|JW<|Qj (fun K u5=>K ⟨[(0,t0),(1,t1),(5,u5)],[]⟩) (funext fun a7=>H6<|JW<|JW<|Qj (fun K u25=>K ⟨[(0,t0),(1,t1),(5,a7),(25,u25)],[]⟩) (funext fun a8=>H6<|AHb (fun K a9=>K ⟨[(0,t0),(1,t1),(5,a9)],[]⟩) (funext fun a9=>by kernel_rfl) (UI (by kernel_rfl) (by kernel_rfl))))))))))
def Vf (t0:V) (h:List V) (k:V→V→List V→Rv):Rv:=
 if(BK P 184 t0&&V.under (List.length h) t0)=true then k (V.ref (List.length h) [] 184) (V.ref (List.length (h++[t0])) [] 184) ((h++[t0])++[zero P 184])else none
def Vg (h:List V) (k:V→List V→Rv):Rv:=
 k (V.ref (List.length h) [] 204) (h++[zero P 204])
def Vh (k:V→Rv):Rv:=
 k (V.int .i64 0)
def J8 (t1 t2 t4 t5 t23:V) (h:List V):Rv:=lp W 136 0 (cd 136 75) (bk 0 (sk 136 0 15 (lv 136 0))) ⟨[(1,t1),(2,t2),(4,t4),(5,t5),(23,t23)],h⟩
def Pe (t23:V) (k:V→Rv):Rv:=
 (AO .lss t23 (V.int .i64 16)).bind fun t24=>k t24
def Vj (t23:V) (k:V→Rv):Rv:=
 k t23
def Vk (t1 t6:V) (k:V→Rv):Rv:=
 (AO .mul (V.int .i64 4) t6).bind fun t28=>(AO .mul (V.int .i64 4) t6).bind fun t30=>(AO .add t30 (V.int .i64 4)).bind fun t31=>(Js P 68 (V.weak t1) (some t28) (some t31) none).bind fun t32=>k t32
def Pg (t5 t6 t7:V) (h:List V) (k:List V→Rv):Rv:=
 (Aa P 68 (V.weak t7) (V.int .i64 0)).bind fun t35=>(AZ h 5 t35).bind fun t36=>(conv P h 5 149 t36).bind fun t37=>(AO .shl t37 (V.int .u64 24)).bind fun t38=>(Aa P 68 (V.weak t7) (V.int .i64 1)).bind fun t40=>(AZ h 5 t40).bind fun t41=>(conv P h 5 149 t41).bind fun t42=>(AO .shl t42 (V.int .u64 16)).bind fun t43=>(AO .or t38 t43).bind fun t44=>(Aa P 68 (V.weak t7) (V.int .i64 2)).bind fun t46=>(AZ h 5 t46).bind fun t47=>(conv P h 5 149 t47).bind fun t48=>(AO .shl t48 (V.int .u64 8)).bind fun t49=>(AO .or t44 t49).bind fun t50=>(Aa P 68 (V.weak t7) (V.int .i64 3)).bind fun t52=>(AZ h 5 t52).bind fun t53=>(conv P h 5 149 t53).bind fun t54=>(AO .or t50 t54).bind fun t55=>(Aa P 204 t5 t6).bind fun t56=>(Hz P h 149 t56 t55).bind fun a1=>k a1
def Vl (t23:V) (k:V→Rv):Rv:=
 (AO .add t23 (V.int .i64 1)).bind fun t57=>k t57
def Vm (k:V→Rv):Rv:=
 k (V.int .i64 16)
def J9 (t2 t4 t5 t8:V) (h:List V):Rv:=lp W 136 2 (cd 136 151) (bk 2 (sk 136 0 31 (lv 136 0))) ⟨[(2,t2),(4,t4),(5,t5),(8,t8)],h⟩
def Ph (t8:V) (k:V→Rv):Rv:=
 (AO .lss t8 (V.int .i64 64)).bind fun t59=>k t59
def LQ (t5 t8:V) (h:List V) (k:V→Rv):Rv:=
 (AO .sub t8 (V.int .i64 15)).bind fun t63=>(Aa P 204 t5 t63).bind fun t64=>(AZ h 149 t64).bind fun t65=>(Cl 156 (AA h [t65,(V.int .i64 7)]) []).bind fun r=>(AO .sub t8 (V.int .i64 15)).bind fun t68=>(Aa P 204 t5 t68).bind fun t69=>(AZ h 149 t69).bind fun t70=>(Cl 156 (AA h [t70,(V.int .i64 18)]) []).bind fun a1=>(AO .xor r.1 a1.1).bind fun t72=>(AO .sub t8 (V.int .i64 15)).bind fun t74=>(Aa P 204 t5 t74).bind fun t75=>(AZ h 149 t75).bind fun t76=>(AO .shr t76 (V.int .u64 3)).bind fun t77=>(AO .xor t72 t77).bind fun t78=>k t78
def LU (t5 t8:V) (h:List V) (k:V→Rv):Rv:=
 (AO .sub t8 (V.int .i64 2)).bind fun t80=>(Aa P 204 t5 t80).bind fun t81=>(AZ h 149 t81).bind fun t82=>(Cl 156 (AA h [t82,(V.int .i64 17)]) []).bind fun r=>(AO .sub t8 (V.int .i64 2)).bind fun t85=>(Aa P 204 t5 t85).bind fun t86=>(AZ h 149 t86).bind fun t87=>(Cl 156 (AA h [t87,(V.int .i64 19)]) []).bind fun a1=>(AO .xor r.1 a1.1).bind fun t89=>(AO .sub t8 (V.int .i64 2)).bind fun t91=>(Aa P 204 t5 t91).bind fun t92=>(AZ h 149 t92).bind fun t93=>(AO .shr t93 (V.int .u64 10)).bind fun t94=>(AO .xor t89 t94).bind fun t95=>k t95
def LV (t5 t8 t9 t10:V) (h:List V) (k:List V→Rv):Rv:=
 (AO .sub t8 (V.int .i64 16)).bind fun t98=>(Aa P 204 t5 t98).bind fun t99=>(AZ h 149 t99).bind fun t100=>(AO .sub t8 (V.int .i64 7)).bind fun t102=>(Aa P 204 t5 t102).bind fun t103=>(AZ h 149 t103).bind fun t104=>(AO .add t100 t104).bind fun t105=>(AO .add t105 t9).bind fun t107=>(AO .add t107 t10).bind fun t109=>(Aa P 204 t5 t8).bind fun t110=>(Hz P h 149 t110 t109).bind fun a1=>k a1
def RQ (t8:V) (k:V→Rv):Rv:=
 (AO .add t8 (V.int .i64 1)).bind fun t61=>k t61
def RS (t2:V) (h:List V) (k:V→List V→Rv):Rv:=
 (AZ h 184 t2).bind fun t111=>(Hz P (h++[zero P 184]) 184 (V.ref (List.length h) [] 184) t111).bind fun a1=>k (V.ref (List.length h) [] 184) a1
def Yu (k:V→Rv):Rv:=
 k (V.int .i64 0)
def KA (t2 t4 t5 t11 t112:V) (h:List V):Rv:=lp W 136 4 (cd 136 607) (bk 4 (sk 136 0 127 (lv 136 0))) ⟨[(2,t2),(4,t4),(5,t5),(11,t11),(112,t112)],h⟩
def LW (t112:V) (k:V→Rv):Rv:=
 (AO .lss t112 (V.int .i64 64)).bind fun t113=>k t113
def RU (t112:V) (k:V→Rv):Rv:=
 k t112
def LX (t11:V) (h:List V) (k:V→V→V→V→V→V→Rv):Rv:=
 (Aa P 184 t11 (V.int .i64 0)).bind fun t115=>(AZ h 149 t115).bind fun t116=>(Aa P 184 t11 (V.int .i64 1)).bind fun t117=>(AZ h 149 t117).bind fun t118=>(Aa P 184 t11 (V.int .i64 2)).bind fun t119=>(AZ h 149 t119).bind fun t120=>(Aa P 184 t11 (V.int .i64 4)).bind fun t121=>(AZ h 149 t121).bind fun t122=>(Aa P 184 t11 (V.int .i64 5)).bind fun t123=>(AZ h 149 t123).bind fun t124=>(Aa P 184 t11 (V.int .i64 6)).bind fun t125=>(AZ h 149 t125).bind fun t126=>k t116 t118 t120 t122 t124 t126
def LY (t5 t11 t12 t16 t17 t18:V) (h:List V) (k:V→Rv):Rv:=
 (Aa P 184 t11 (V.int .i64 7)).bind fun t127=>(AZ h 149 t127).bind fun t128=>(Cl 156 (AA h [t16,(V.int .i64 6)]) []).bind fun r=>(Cl 156 (AA h [t16,(V.int .i64 11)]) []).bind fun a1=>(AO .xor r.1 a1.1).bind fun t133=>(Cl 156 (AA h [t16,(V.int .i64 25)]) []).bind fun a2=>(AO .xor t133 a2.1).bind fun t136=>(AO .add t128 t136).bind fun t137=>(AO .xor t17 t18).bind fun t142=>(AO .and t16 t142).bind fun t143=>(AO .xor t18 t143).bind fun t144=>(AO .add t137 t144).bind fun t145=>(Aa P 204 (V.rop 204 KX) t12).bind fun t147=>(AZ h 149 t147).bind fun t148=>(AO .add t145 t148).bind fun t149=>(Aa P 204 t5 t12).bind fun t151=>(AZ h 149 t151).bind fun t152=>(AO .add t149 t152).bind fun t153=>k t153
def LZ (t13 t14 t15:V) (h:List V) (k:V→Rv):Rv:=
 (Cl 156 (AA h [t13,(V.int .i64 2)]) []).bind fun r=>(Cl 156 (AA h [t13,(V.int .i64 13)]) []).bind fun a1=>(AO .xor r.1 a1.1).bind fun t158=>(Cl 156 (AA h [t13,(V.int .i64 22)]) []).bind fun a2=>(AO .xor t158 a2.1).bind fun t161=>(AO .and t13 t14).bind fun t164=>(AO .or t13 t14).bind fun t168=>(AO .and t15 t168).bind fun t169=>(AO .or t164 t169).bind fun t170=>(AO .add t161 t170).bind fun t171=>k t171
def La (t11 t13 t14 t15 t16 t17 t18 t19 t20:V) (h:List V) (k:List V→Rv):Rv:=
 (AO .add t19 t20).bind fun t174=>(Aa P 184 t11 (V.int .i64 3)).bind fun t178=>(AZ h 149 t178).bind fun t179=>(AO .add t179 t19).bind fun t181=>(YK P 184 [(0,t174),(1,t13),(2,t14),(3,t15),(4,t181),(5,t16),(6,t17),(7,t18)]).bind fun t185=>(Hz P h 184 t11 t185).bind fun a1=>k a1
def RV (t112:V) (k:V→Rv):Rv:=
 (AO .add t112 (V.int .i64 1)).bind fun t186=>k t186
def RX (t11:V) (h:List V) (k:V→V→Rv):Rv:=
 (AZ h 184 t11).bind fun t187=>k t187 (V.int .i64 0)
def KC (t2 t4 t187 t188:V) (h:List V):Rv:=lp W 136 6 (cd 136 1215) (bk 6 (sk 136 0 255 (lv 136 0))) ⟨[(2,t2),(4,t4),(187,t187),(188,t188)],h⟩
def Lc (t188:V) (k:V→Rv):Rv:=
 (AO .lss t188 (V.int .i64 8)).bind fun t189=>k t189
def RY (t187 t188:V) (k:V→V→Rv):Rv:=
 (JB P 184 t187 t188).bind fun t191=>k t188 t191
def RZ (t2 t21 t22:V) (h:List V) (k:List V→Rv):Rv:=
 (Aa P 184 t2 t21).bind fun t193=>(AZ h 149 t193).bind fun t194=>(AO .add t194 t22).bind fun t196=>(Aa P 184 t2 t21).bind fun t197=>(Hz P h 149 t197 t196).bind fun a1=>k a1
def Rf (t188:V) (k:V→Rv):Rv:=
 (AO .add t188 (V.int .i64 1)).bind fun t198=>k t198
def Rh (t2 t4:V) (h:List V) (k:List V→Rv):Rv:=
 (AZ h 184 t2).bind fun t199=>(Hz P h 184 t4 t199).bind fun a1=>k a1
theorem Ld (t2 t4 t187 t188:V) (h:List V):KC t2 t4 t187 t188 h=
 Lc t188 fun a35=>
  V.ite a35
  (RY t187 t188 fun a36 a37=>
  RZ t2 a36 a37 h fun a38=>
  Rf t188 fun a39=>
  KC t2 t4 t187 a39 a38)
  (Rh t2 t4 h fun a40=>
  (AZ a40 184 t4).bind fun a41=>AV 0 a40 a41):=
 D5 (by kernel_rfl)
theorem Le (t2 t4 t5 t11 t112:V) (h:List V):KA t2 t4 t5 t11 t112 h=
 LW t112 fun a21=>
  V.ite a21
  (RU t112 fun a22=>
  LX t11 h fun a23 a24 a25 a26 a27 a28=>
  LY t5 t11 a22 a26 a27 a28 h fun a29=>
  LZ a23 a24 a25 h fun a30=>
  La t11 a23 a24 a25 a26 a27 a28 a29 a30 h fun a31=>
  RV t112 fun a32=>
  KA t2 t4 t5 t11 a32 a31)
  (RX t11 h fun a33 a34=>
  KC t2 t4 a33 a34 h):=
 D5 (by kernel_rfl)
theorem Lh (t2 t4 t5 t8:V) (h:List V):J9 t2 t4 t5 t8 h=
 Ph t8 fun a13=>
  V.ite a13
  (LQ t5 t8 h fun a14=>
  LU t5 t8 h fun a15=>
  LV t5 t8 a14 a15 h fun a16=>
  RQ t8 fun a17=>
  J9 t2 t4 t5 a17 a16)
  (RS t2 h fun a18 a19=>
  Yu fun a20=>
  KA t2 t4 t5 a18 a20 a19):=
 D5 (by kernel_rfl)
theorem Lj (t1 t2 t4 t5 t23:V) (h:List V):J8 t1 t2 t4 t5 t23 h=
 Pe t23 fun a7=>
  V.ite a7
  (Vj t23 fun a8=>
  Vk t1 a8 fun a9=>
  Pg t5 a8 a9 h fun a10=>
  Vl t23 fun a11=>
  J8 t1 t2 t4 t5 a11 a10)
  (Vm fun a12=>
  J9 t2 t4 t5 a12 h):=
 D5 (by kernel_rfl)
theorem AA4 (t0 t1:V):Cl 136 [t0,t1] []=
 Vf t0 [] fun a1 a2 a3=>
  Vg a3 fun a4 a5=>
  Vh fun a6=>
  J8 t1 a1 a2 a4 a6 a5:=
 BB (by kernel_rfl)
def Vo (k:Rv):Rv:=
 k
def Vp (t0 t1:V) (k:V→Rv):Rv:=
 (un .neg t1).bind fun t7=>(Cl 172 (AA [] [t0,t7]) []).bind fun r=>k r.1
theorem AA5 (t0 t1:V):Cl 156 [t0,t1] []=
 Vo (Vp t0 t1 fun a1=>
  AV 0 [] a1):=
 BB (by kernel_rfl)
def Vq (k:Rv):Rv:=
 k
def Vr (t1:V) (k:V→Rv):Rv:=
 (conv P [] 3 126 t1).bind fun t7=>(AO .and t7 (V.int .u64 31)).bind fun t8=>k t8
def Vs (t0 t5:V) (k:V→Rv):Rv:=
 (AO .shl t0 t5).bind fun t11=>(AO .sub (V.int .u64 32) t5).bind fun t14=>(AO .shr t0 t14).bind fun t15=>(AO .or t11 t15).bind fun t16=>k t16
theorem AA6 (t0 t1:V):Cl 172 [t0,t1] []=
 Vq (Vr t1 fun a1=>
  Vs t0 a1 fun a2=>
  AV 0 [] a2):=
 BB (by kernel_rfl)
end
end Go.Proofs.YtiegkempfolgcaaGreatDoor
