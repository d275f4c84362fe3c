/-
  Part of the proof of a statement about the given program: an abstract machine over its code, the simulation, its functions' equations, what they compute.
-/
import Derived.Test.YtoakaehjnbhgmaaGreatDoorMg4
set_option linter.unusedVariables false
set_option linter.unusedSimpArgs false
set_option linter.unusedSectionVars false
set_option maxRecDepth 100000
noncomputable section
namespace Go.Proofs.YtoakaehjnbhgmaaGreatDoor
section
open Go AM
def AAE (t4 t5 t7 t13 t15:V) (h:List V):Rv:=lp W 6 0 (cd 6 303) (bk 0 (sk 6 0 63 (lv 6 0))) ⟨[(4,t4),(5,t5),(7,t7),(13,t13),(15,t15)],h⟩
theorem WA (t4 t5 t7 t13 t15:V) (h:List V):AAE t4 t5 t7 t13 t15 h=
 jn (fun a1=>
 V.ite a1
  ((Eg 39 (V.weak t4) t15).bind fun a2=>(CW h 39 a2).bind fun a3=>(E5 a3).bind fun a4=>(AL .gtr a4 (V.int .i64 20)).bind fun a5=>V.ite a5
  (AP 0 h (V.bool true))
  ((AL .neq t5 t15).bind fun a6=>jn (fun a7=>(Nr 152 false (ck [] [])).bind fun a8=>(Eg 39 (V.weak t4) t15).bind fun a9=>(CW a7 39 a9).bind fun a10=>(Gv 152 (tyG 151) false a7 a8 a10).bind fun a11=>(Cl 17 (AQ [t13,t15,a11]) a7).bind fun a12=>(CY (tyG 43) 44 (a12.2++[(V.agg 43 [(V.int .i64 0),(V.str []),(V.lst 9 .nil [])])]) (V.ref (List.length a12.2) [] 44) a12.1).bind fun a13=>(fA 44 30 0 (V.ref (List.length a12.2) [] 44)).bind fun a14=>(AV a13 30 a14).bind fun a15=>(AL .neq a15 (V.int .i64 0)).bind fun a16=>V.ite a16
  (AP 0 a13 (V.bool true))
  ((AL .add t15 (V.int .i64 1)).bind fun a17=>if AZ (List.length h) [t4,t5,t7,t13,a17]=true then AAE t4 t5 t7 t13 a17 (List.take (List.length h) a13)else none))
  (fun(j0:List V→Rv)=>V.ite a6
  ((Cl 21 (AQ [t13]) h).bind fun a18=>(Nr 152 false (ck [] [])).bind fun a19=>(Eg 39 (V.weak t4) t15).bind fun a20=>(CW a18.2 39 a20).bind fun a21=>(Gv 152 (tyG 151) false a18.2 a19 a21).bind fun a22=>(Cl 17 (AQ [t13,t5,a22]) a18.2).bind fun a23=>(CY (tyG 43) 44 (a23.2++[(V.agg 43 [(V.int .i64 0),(V.str []),(V.lst 9 .nil [])])]) (V.ref (List.length a23.2) [] 44) a23.1).bind fun a24=>jn (fun a25 a26=>
 V.ite a25
  (AP 0 a26 (V.bool false))
  (j0 a26)) (fun(a27:V→List V→Rv)=>(fA 44 30 0 (V.ref (List.length a23.2) [] 44)).bind fun a28=>(AV a24 30 a28).bind fun a29=>(AL .neq a29 (V.int .i64 131)).bind fun a30=>V.ite a30 (a27 (V.bool true) a24) ((fA 44 9 1 (V.ref (List.length a23.2) [] 44)).bind fun a31=>(AV a24 9 a31).bind fun a32=>(AL .neq a32 (V.str [])).bind fun a33=>V.ite a33 (a27 (V.bool true) a24) ((fA 44 42 2 (V.ref (List.length a23.2) [] 44)).bind fun a34=>(CW a24 42 a34).bind fun a35=>(E5 a35).bind fun a36=>(AL .neq a36 (V.int .i64 0)).bind fun a37=>V.ite a37 (a27 (V.bool true) a24) ((Cl 21 (AQ [t13]) a24).bind fun a38=>(AL .neq a38.1 a18.1).bind fun a39=>V.ite a39 (a27 (V.bool true) a38.2) ((Cl 25 (AQ [t13]) a38.2).bind fun a40=>(AL .neq a40.1 t15).bind fun a41=>a27 a41 a40.2))))))
  (j0 h))))
  (AP 0 h (V.bool true))) (fun(a42:V→Rv)=>(E5 (V.weak t4)).bind fun a43=>(AL .lss t15 a43).bind fun a44=>V.ite a44 ((fA 26 3 2 t7).bind fun a45=>(AV h 3 a45).bind fun a46=>(AL .lss t15 a46).bind fun a47=>a42 a47) (a42 (V.bool false))):=
 DC (by kernel_rfl)
theorem AOP (t0 t1 t2 t3 t4 t5:V):Cl 6 [t0,t1,t2,t3,t4,t5] []=
 if((tyG 23) (V.weak t0)&&V.under 0 (V.weak t0))=true then if((tyG 25) t1&&V.under 1 t1)=true then jn (fun a48=>
 V.ite a48
  ((Cl 10 (AB [(V.weak t0),t1] []) []).bind fun a49=>AP 0 [(V.weak t0),t1] a49.1)
  ((CW [(V.weak t0),t1] 24 (V.ref 0 [] 24)).bind fun a50=>(Cl 12 (AB [(V.weak t0),t1] [a50]) []).bind fun a51=>(AV [(V.weak t0),t1] 26 (V.ref 1 [] 26)).bind fun a52=>(Cl 11 (AQ [a51.1,a52,t2,t3]) [(V.weak t0),t1]).bind fun a53=>(ext a53.1 0).bind fun a54=>(ext a53.1 1).bind fun a55=>jn (fun a56=>
 V.ite a56
  (AP 0 a53.2 (V.bool false))
  (AAE t4 t5 (V.ref 1 [] 26) a54 (V.int .i64 0) a53.2)) (fun(a57:V→Rv)=>(AL .neq a55 (V.int .i64 0)).bind fun a58=>V.ite a58 (a57 (V.bool true)) ((AD0 .eql a54).bind fun a59=>a57 a59)))) (fun(a60:V→Rv)=>(Cl 10 (AB [(V.weak t0),t1] []) []).bind fun a61=>(un .not a61.1).bind fun a62=>V.ite a62 (a60 (V.bool true)) ((fA 24 22 1 (V.ref 0 [] 24)).bind fun a63=>(CW [(V.weak t0),t1] 22 a63).bind fun a64=>(E5 a64).bind fun a65=>(AL .gtr a65 (V.int .i64 40)).bind fun a66=>V.ite a66 (a60 (V.bool true)) ((fA 24 3 0 (V.ref 0 [] 24)).bind fun a67=>(AV [(V.weak t0),t1] 3 a67).bind fun a68=>(AL .gtr a68 (V.int .i64 12)).bind fun a69=>V.ite a69 (a60 (V.bool true)) ((E5 (V.weak t4)).bind fun a70=>(AL .gtr a70 (V.int .i64 8)).bind fun a71=>V.ite a71 (a60 (V.bool true)) ((CW [(V.weak t0),t1] 24 (V.ref 0 [] 24)).bind fun a72=>(AV [(V.weak t0),t1] 26 (V.ref 1 [] 26)).bind fun a73=>(Cl 13 (AB [(V.weak t0),t1] [a72,a73,t2,t3]) []).bind fun a74=>(un .not a74.1).bind fun a75=>a60 a75)))))else none else none:=
 Au (by kernel_rfl)
def Uh (t5 t12 t40 t41 t42:V) (n:Nat) (h:List V):Rv:=lp W 11 0 (cd 11 607) (bk 0 (sk 11 0 127 (lv 11 n))) ⟨[(5,t5),(12,t12),(40,t40),(41,t41),(42,t42)],h⟩
theorem Sr (t5 t12 t40 t41 t42:V) (n:Nat) (h:List V):Uh t5 t12 t40 t41 t42 n h=
 (AL .lss t42 t41).bind fun a1=>V.ite a1
  ((Eg 3 t40 t42).bind fun a2=>(AV h 3 a2).bind fun a3=>if(KH t12 t5&&true)=true then(BD t12).bind fun a4=>(fA 103 35 6 a4).bind fun a5=>if Dv t12 a5=true then(BN h 35 a5).bind fun a6=>if Dv t5 t5=true then(AV a6.2 26 t5).bind fun a7=>Dk P CJ W (some t12) (V.clo 44 []) [a7,a3] a6.2 fun a8 a9=>(Nr 86 false (ck [(tyG 85) a8] [a8])).bind fun a10=>(Gv 86 (tyG 85) false a9 a6.1 a10).bind fun a11=>(BD t12).bind fun a12=>(fA 103 35 6 a12).bind fun a13=>(CY (tyL 86) 35 a9 a13 a11).bind fun a14=>(AL .add t42 (V.int .i64 1)).bind fun a15=>Uh t5 t12 t40 t41 a15 n a14 else none else none else none)
  (if(List.all [(V.int .i64 0),t12] V.okE)=true then Uf h (V.tup [t12,(V.int .i64 0)])else none):=
 DC (by kernel_rfl)
theorem ALU (t0 t1 t2 t3:V) (h:List V):Cl 11 [t0,t1,t2,t3] h=
 if((tyG 23) (V.weak t0)&&V.under (List.length h) (V.weak t0))=true then if((tyG 25) t1&&V.under (List.length (h++[(V.weak t0)])) t1)=true then(CW ((h++[(V.weak t0)])++[t1]) 24 (V.ref (List.length h) [] 24)).bind fun a16=>(AV ((h++[(V.weak t0)])++[t1]) 26 (V.ref (List.length (h++[(V.weak t0)])) [] 26)).bind fun a17=>(Cl 41 (AB ((h++[(V.weak t0)])++[t1]) [a16,a17]) []).bind fun a18=>(AL .neq a18.1 (V.int .i64 0)).bind fun a19=>V.ite a19
  (if(List.all [(V.int .i64 130),V.nilp] V.okE)=true then Uf ((h++[(V.weak t0)])++[t1]) (V.tup [V.nilp,(V.int .i64 130)])else none)
  ((fA 24 3 0 (V.ref (List.length h) [] 24)).bind fun a20=>(AV ((h++[(V.weak t0)])++[t1]) 3 a20).bind fun a21=>(Cl 42 (AB ((h++[(V.weak t0)])++[t1]) [a21,t2,t3]) []).bind fun a22=>(Oi a22.1 0).bind fun a23=>(ext a22.1 1).bind fun a24=>(AL .neq a24 (V.int .i64 0)).bind fun a25=>V.ite a25
  (if(List.all [(V.int .i64 130),V.nilp] V.okE)=true then Uf ((h++[(V.weak t0)])++[t1]) (V.tup [V.nilp,(V.int .i64 130)])else none)
  ((fA 24 3 0 (V.ref (List.length h) [] 24)).bind fun a26=>(AV ((h++[(V.weak t0)])++[t1]) 3 a26).bind fun a27=>(fA 24 22 1 (V.ref (List.length h) [] 24)).bind fun a28=>(CW ((h++[(V.weak t0)])++[t1]) 22 a28).bind fun a29=>(CT 43 (AB ((h++[(V.weak t0)])++[t1]) [a29])).bind fun a30=>((ck [(tyI .i64) a27,(tyL 96) a30.1] [a27,(V.weak a30.1)]).map (.agg 23)).bind fun a31=>(AV ((h++[(V.weak t0)])++[t1]) 26 (V.ref (List.length (h++[(V.weak t0)])) [] 26)).bind fun a32=>((ck [(tyG 23) a31,(tyG 25) a32,(tyI .i64) t2,(tyI .i64) t3] [(V.weak a31),a32,t2,t3,(V.int .i64 0),(V.lst 86 .nil []),(V.lst 86 .nil []),(V.bool false)]).map (.agg 102)).bind fun a33=>if((tyG 102) (V.weak a33)&&V.under (List.length ((h++[(V.weak t0)])++[t1])) (V.weak a33))=true then(E5 a23).bind fun a34=>Uh (V.ref (List.length (h++[(V.weak t0)])) [] 26) (V.ref (List.length ((h++[(V.weak t0)])++[t1])) [] 103) a23 a34 (V.int .i64 0) (List.length h) (((h++[(V.weak t0)])++[t1])++[(V.weak a33)])else none))else none else none:=
 Au (by kernel_rfl)
theorem ALV (t0:V):Cl 12 [t0] []=
 if((tyG 23) (V.weak t0)&&V.under 0 (V.weak t0))=true then(fA 24 3 0 (V.ref 0 [] 24)).bind fun a1=>(AV [(V.weak t0),(V.agg 23 [(V.int .i64 0),(V.lst 96 .nil [])])] 3 a1).bind fun a2=>(Nr 96 false (ck [] [])).bind fun a3=>(fA 24 22 1 (V.ref 0 [] 24)).bind fun a4=>(CW [(V.weak t0),(V.agg 23 [(V.int .i64 0),(V.lst 96 .nil [])])] 22 a4).bind fun a5=>(Gv 96 (tyG 95) false [(V.weak t0),(V.agg 23 [(V.int .i64 0),(V.lst 96 .nil [])])] a3 a5).bind fun a6=>((ck [(tyI .i64) a2,(tyL 96) a6] [a2,(V.weak a6)]).map (.agg 23)).bind fun a7=>(CY (tyG 23) 24 [(V.weak t0),(V.agg 23 [(V.int .i64 0),(V.lst 96 .nil [])])] (V.ref 1 [] 24) a7).bind fun a8=>(CW a8 24 (V.ref 1 [] 24)).bind fun a9=>AP 0 a8 a9 else none:=
 Au (by kernel_rfl)
theorem ALW (t0 t1 t2 t3:V):Cl 13 [t0,t1,t2,t3] []=
 if((tyG 23) (V.weak t0)&&V.under 0 (V.weak t0))=true then if((tyG 25) t1&&V.under 1 t1)=true then jn (fun a1=>
 AP 0 [(V.weak t0),t1] a1) (fun(a2:V→Rv)=>(CW [(V.weak t0),t1] 24 (V.ref 0 [] 24)).bind fun a3=>(AV [(V.weak t0),t1] 26 (V.ref 1 [] 26)).bind fun a4=>(Cl 37 (AB [(V.weak t0),t1] [a3,a4]) []).bind fun a5=>V.ite a5.1 ((AL .geq t2 (V.int .i64 1)).bind fun a6=>V.ite a6 ((AL .leq t2 (V.int .i64 64)).bind fun a7=>V.ite a7 ((AL .geq t3 (V.int .i64 0)).bind fun a8=>V.ite a8 ((AL .lss t3 t2).bind fun a9=>a2 a9) (a2 (V.bool false))) (a2 (V.bool false))) (a2 (V.bool false))) (a2 (V.bool false)))else none else none:=
 Au (by kernel_rfl)
def Ot (t3 t4 t6 t8 t15 t77 t78 t79:V) (n:Nat) (h:List V):Rv:=lp W 17 0 (cd 17 38911) (bk 0 (sk 17 0 8191 (lv 17 n))) ⟨[(3,t3),(4,t4),(6,t6),(8,t8),(15,t15),(77,t77),(78,t78),(79,t79)],h⟩
theorem JB (t3 t4 t6 t8 t15 t77 t78 t79:V) (n:Nat) (h:List V):Ot t3 t4 t6 t8 t15 t77 t78 t79 n h=
 (AL .lss t79 t78).bind fun a1=>V.ite a1
  ((Eg 39 t77 t79).bind fun a2=>(CW h 39 a2).bind fun a3=>(Cl 61 (AB h [a3]) []).bind fun a4=>(ext a4.1 0).bind fun a5=>(ext a4.1 1).bind fun a6=>(fA 44 42 2 t15).bind fun a7=>(BN h 42 a7).bind fun a8=>(Nr 9 false (ck [tyS a5] [a5])).bind fun a9=>(Gv 9 tyS false a8.2 a8.1 a9).bind fun a10=>(fA 44 42 2 t15).bind fun a11=>(CY (tyL 9) 42 a8.2 a11 a10).bind fun a12=>(AL .add t79 (V.int .i64 1)).bind fun a13=>Ot t3 t4 t6 t8 t15 t77 t78 a13 n a12)
  ((AV h 29 t3).bind fun a14=>if Dv t3 t3=true then(AV h 29 t3).bind fun a15=>if Dv t3 t3=true then(AV h 29 t3).bind fun a16=>if Dv t3 t3=true then(AV h 29 t3).bind fun a17=>(AV h 29 t3).bind fun a18=>(BD a18).bind fun a19=>(fA 103 35 6 a19).bind fun a20=>(CW h 35 a20).bind fun a21=>if Dv t8 t8=true then(CW h 35 t8).bind fun a22=>if Dv t4 t4=true then(AV h 3 t4).bind fun a23=>(AL .add a23 (V.int .i64 1)).bind fun a24=>(BD a14).bind fun a25=>(fA 103 35 5 a25).bind fun a26=>if avB h a26 [t3,t8,t4]=true then(CY (tyL 86) 35 h a26 a21).bind fun a27=>(BD a15).bind fun a28=>(fA 103 35 6 a28).bind fun a29=>if avB a27 a29 [t3,t4]=true then(CY (tyL 86) 35 a27 a29 a22).bind fun a30=>(BD a16).bind fun a31=>(fA 103 3 4 a31).bind fun a32=>if avB a30 a32 [t3]=true then(CY (tyI .i64) 3 a30 a32 a24).bind fun a33=>(BD a17).bind fun a34=>(fA 103 4 7 a34).bind fun a35=>(CY tyB 4 a33 a35 (V.bool true)).bind fun a36=>(CW a36 44 t15).bind fun a37=>(CY (tyG 43) 44 a36 t6 a37).bind fun a38=>(CW a38 44 t6).bind fun a39=>AP n a38 a39 else none else none else none else none else none else none else none else none):=
 DC (by kernel_rfl)
theorem Y3 (t0 t1 t2:V) (h:List V):Cl 17 [t0,t1,t2] h=
 if(tyP t0&&V.under (List.length h) t0)=true then if((tyI .i64) t1&&V.under (List.length (h++[t0])) t1)=true then if((tyL 152) (V.weak t2)&&V.under (List.length ((h++[t0])++[t1])) (V.weak t2))=true then jn (fun a40=>
 V.ite a40
  (((ck [(tyI .i64) (V.int .i64 131)] [(V.int .i64 131),(V.str []),(V.lst 9 .nil [])]).map (.agg 43)).bind fun a41=>(CY (tyG 43) 44 ((((h++[t0])++[t1])++[(V.weak t2)])++[(V.agg 43 [(V.int .i64 0),(V.str []),(V.lst 9 .nil [])])]) (V.ref (List.length (((h++[t0])++[t1])++[(V.weak t2)])) [] 44) a41).bind fun a42=>(CW a42 44 (V.ref (List.length (((h++[t0])++[t1])++[(V.weak t2)])) [] 44)).bind fun a43=>AP (List.length h) a42 a43)
  ((AV (((((((h++[t0])++[t1])++[(V.weak t2)])++[(V.agg 43 [(V.int .i64 0),(V.str []),(V.lst 9 .nil [])])])++[(V.lst 86 .nil [])])++[(V.lst 86 .nil [])])++[(V.lst 152 .nil [])]) 29 (V.ref (List.length h) [] 29)).bind fun a44=>(BD a44).bind fun a45=>(fA 103 35 6 a45).bind fun a46=>(CW (((((((h++[t0])++[t1])++[(V.weak t2)])++[(V.agg 43 [(V.int .i64 0),(V.str []),(V.lst 9 .nil [])])])++[(V.lst 86 .nil [])])++[(V.lst 86 .nil [])])++[(V.lst 152 .nil [])]) 35 a46).bind fun a47=>(if(List.all [(V.ref (List.length h) [] 29),(V.ref (List.length ((h++[t0])++[t1])) [] 39),(V.ref (List.length ((((h++[t0])++[t1])++[(V.weak t2)])++[(V.agg 43 [(V.int .i64 0),(V.str []),(V.lst 9 .nil [])])])) [] 35)] V.capOk)=true then some (V.clo 54 [(V.ref (List.length h) [] 29),(V.ref (List.length ((h++[t0])++[t1])) [] 39),(V.ref (List.length ((((h++[t0])++[t1])++[(V.weak t2)])++[(V.agg 43 [(V.int .i64 0),(V.str []),(V.lst 9 .nil [])])])) [] 35)])else none).bind fun a48=>(Cl 53 (AQ [a47,a48]) (((((((h++[t0])++[t1])++[(V.weak t2)])++[(V.agg 43 [(V.int .i64 0),(V.str []),(V.lst 9 .nil [])])])++[(V.lst 86 .nil [])])++[(V.lst 86 .nil [])])++[(V.lst 152 .nil [])])).bind fun a49=>(AL .eql a49.1 (V.int .i64 0)).bind fun a50=>jn (fun a51 a52=>(AL .neq a51 (V.int .i64 0)).bind fun a53=>V.ite a53
  (((ck [(tyI .i64) a51] [a51,(V.str []),(V.lst 9 .nil [])]).map (.agg 43)).bind fun a54=>(CY (tyG 43) 44 a52 (V.ref (List.length (((h++[t0])++[t1])++[(V.weak t2)])) [] 44) a54).bind fun a55=>(CW a55 44 (V.ref (List.length (((h++[t0])++[t1])++[(V.weak t2)])) [] 44)).bind fun a56=>AP (List.length h) a55 a56)
  ((AV a52 29 (V.ref (List.length h) [] 29)).bind fun a57=>(BD a57).bind fun a58=>(fA 103 3 2 a58).bind fun a59=>(AV a52 3 a59).bind fun a60=>(CW a52 39 (V.ref (List.length ((((((h++[t0])++[t1])++[(V.weak t2)])++[(V.agg 43 [(V.int .i64 0),(V.str []),(V.lst 9 .nil [])])])++[(V.lst 86 .nil [])])++[(V.lst 86 .nil [])])) [] 39)).bind fun a61=>(Cl 58 (AB a52 [a60,a61]) []).bind fun a62=>(Oi a62.1 0).bind fun a63=>(ext a62.1 1).bind fun a64=>(AV a52 29 (V.ref (List.length h) [] 29)).bind fun a65=>(BD a65).bind fun a66=>(fA 103 3 3 a66).bind fun a67=>(AV a52 3 a67).bind fun a68=>(AV a52 3 (V.ref (List.length (h++[t0])) [] 3)).bind fun a69=>(CW a52 35 (V.ref (List.length (((((h++[t0])++[t1])++[(V.weak t2)])++[(V.agg 43 [(V.int .i64 0),(V.str []),(V.lst 9 .nil [])])])++[(V.lst 86 .nil [])])) [] 35)).bind fun a70=>if SC true [a68,a69,a70,(V.weak a63)]=true then(Cl 59 (AB a52 [a68,a69,a70,(V.weak a63)]) []).bind fun a71=>(Oi a71.1 0).bind fun a72=>(ext a71.1 1).bind fun a73=>(CY (tyG 76) 77 (a52++[(V.agg 76 [(V.int .i64 0),(V.int .i64 0),(V.agg 65 (List.replicate 32 (V.int .u8 0))),(V.lst 66 .nil [])])]) (V.ref (List.length a52) [] 77) a72).bind fun a74=>(CW (a74++[(V.agg 43 [(V.int .i64 0),(V.str []),(V.lst 9 .nil [])])]) 77 (V.ref (List.length a52) [] 77)).bind fun a75=>(Cl 60 (AB (a74++[(V.agg 43 [(V.int .i64 0),(V.str []),(V.lst 9 .nil [])])]) [a75]) []).bind fun a76=>(ext a76.1 0).bind fun a77=>(ext a76.1 1).bind fun a78=>(fA 44 9 1 (V.ref (List.length a74) [] 44)).bind fun a79=>(CY tyS 9 (a74++[(V.agg 43 [(V.int .i64 0),(V.str []),(V.lst 9 .nil [])])]) a79 a77).bind fun a80=>(E5 a63).bind fun a81=>Ot (V.ref (List.length h) [] 29) (V.ref (List.length (h++[t0])) [] 3) (V.ref (List.length (((h++[t0])++[t1])++[(V.weak t2)])) [] 44) (V.ref (List.length (((((h++[t0])++[t1])++[(V.weak t2)])++[(V.agg 43 [(V.int .i64 0),(V.str []),(V.lst 9 .nil [])])])++[(V.lst 86 .nil [])])) [] 35) (V.ref (List.length a74) [] 44) a63 a81 (V.int .i64 0) (List.length h) a80 else none))
  (fun(j0:V→List V→Rv)=>V.ite a50
  ((CW a49.2 35 (V.ref (List.length ((((h++[t0])++[t1])++[(V.weak t2)])++[(V.agg 43 [(V.int .i64 0),(V.str []),(V.lst 9 .nil [])])])) [] 35)).bind fun a82=>(if(List.all [(V.ref (List.length h) [] 29),(V.ref (List.length (h++[t0])) [] 3),(V.ref (List.length (((((h++[t0])++[t1])++[(V.weak t2)])++[(V.agg 43 [(V.int .i64 0),(V.str []),(V.lst 9 .nil [])])])++[(V.lst 86 .nil [])])) [] 35),(V.ref (List.length ((((((h++[t0])++[t1])++[(V.weak t2)])++[(V.agg 43 [(V.int .i64 0),(V.str []),(V.lst 9 .nil [])])])++[(V.lst 86 .nil [])])++[(V.lst 86 .nil [])])) [] 39)] V.capOk)=true then some (V.clo 56 [(V.ref (List.length h) [] 29),(V.ref (List.length (h++[t0])) [] 3),(V.ref (List.length (((((h++[t0])++[t1])++[(V.weak t2)])++[(V.agg 43 [(V.int .i64 0),(V.str []),(V.lst 9 .nil [])])])++[(V.lst 86 .nil [])])) [] 35),(V.ref (List.length ((((((h++[t0])++[t1])++[(V.weak t2)])++[(V.agg 43 [(V.int .i64 0),(V.str []),(V.lst 9 .nil [])])])++[(V.lst 86 .nil [])])++[(V.lst 86 .nil [])])) [] 39)])else none).bind fun a83=>(Cl 53 (AQ [a82,a83]) a49.2).bind fun a84=>j0 a84.1 a84.2)
  (j0 a49.1 a49.2)))) (fun(a85:V→Rv)=>(AV ((((h++[t0])++[t1])++[(V.weak t2)])++[(V.agg 43 [(V.int .i64 0),(V.str []),(V.lst 9 .nil [])])]) 3 (V.ref (List.length (h++[t0])) [] 3)).bind fun a86=>(AV ((((h++[t0])++[t1])++[(V.weak t2)])++[(V.agg 43 [(V.int .i64 0),(V.str []),(V.lst 9 .nil [])])]) 29 (V.ref (List.length h) [] 29)).bind fun a87=>(BD a87).bind fun a88=>(fA 103 3 4 a88).bind fun a89=>(AV ((((h++[t0])++[t1])++[(V.weak t2)])++[(V.agg 43 [(V.int .i64 0),(V.str []),(V.lst 9 .nil [])])]) 3 a89).bind fun a90=>(AL .neq a86 a90).bind fun a91=>V.ite a91 (a85 (V.bool true)) ((AV ((((h++[t0])++[t1])++[(V.weak t2)])++[(V.agg 43 [(V.int .i64 0),(V.str []),(V.lst 9 .nil [])])]) 3 (V.ref (List.length (h++[t0])) [] 3)).bind fun a92=>(AV ((((h++[t0])++[t1])++[(V.weak t2)])++[(V.agg 43 [(V.int .i64 0),(V.str []),(V.lst 9 .nil [])])]) 29 (V.ref (List.length h) [] 29)).bind fun a93=>(BD a93).bind fun a94=>(fA 103 26 1 a94).bind fun a95=>(fA 26 3 2 a95).bind fun a96=>(AV ((((h++[t0])++[t1])++[(V.weak t2)])++[(V.agg 43 [(V.int .i64 0),(V.str []),(V.lst 9 .nil [])])]) 3 a96).bind fun a97=>(AL .geq a92 a97).bind fun a98=>a85 a98))else none else none else none:=
 Au (by kernel_rfl)
def Ui (t3 t28 t29 t30:V) (n:Nat) (h:List V):Rv:=lp W 21 0 (cd 21 607) (bk 0 (sk 21 0 127 (lv 21 n))) ⟨[(3,t3),(28,t28),(29,t29),(30,t30)],h⟩
theorem Sv (t3 t28 t29 t30:V) (n:Nat) (h:List V):Ui t3 t28 t29 t30 n h=
 (AL .lss t30 t29).bind fun a1=>V.ite a1
  ((Eg 9 t28 t30).bind fun a2=>(AV h 9 a2).bind fun a3=>(Cl 70 (AQ [t3,a3]) h).bind fun a4=>(AL .add t30 (V.int .i64 1)).bind fun a5=>Ui t3 t28 t29 a5 n a4.2)
  ((Cl 71 (AQ [t3]) h).bind fun a6=>AP n a6.2 a6.1):=
 DC (by kernel_rfl)
theorem ALX (t0:V) (h:List V):Cl 21 [t0] h=
 (Cl 68 (AQ []) h).bind fun a7=>(Cl 69 (AQ [a7.1,(V.int .u64 83)]) a7.2).bind fun a8=>(BD t0).bind fun a9=>(fA 103 3 4 a9).bind fun a10=>(AV a8.2 3 a10).bind fun a11=>(SG .u64 a11).bind fun a12=>(Cl 69 (AQ [a7.1,a12]) a8.2).bind fun a13=>(BD t0).bind fun a14=>(fA 103 35 6 a14).bind fun a15=>(CW a13.2 35 a15).bind fun a16=>(E5 a16).bind fun a17=>(SG .u64 a17).bind fun a18=>(Cl 69 (AQ [a7.1,a18]) a13.2).bind fun a19=>(BD t0).bind fun a20=>(fA 103 35 6 a20).bind fun a21=>(CW a19.2 35 a21).bind fun a22=>(Cl 64 (AB a19.2 [a22]) []).bind fun a23=>(E5 a23.1).bind fun a24=>Ui a7.1 a23.1 a24 (V.int .i64 0) (List.length h) a19.2:=
 Au (by kernel_rfl)
theorem ALY (t0:V) (h:List V):Cl 25 [t0] h=
 (BD t0).bind fun a1=>(fA 103 3 4 a1).bind fun a2=>(AV h 3 a2).bind fun a3=>AP (List.length h) h a3:=
 Au (by kernel_rfl)
theorem ALZ (t0:V):Cl 34 [t0] []=
 (Cl 89 (AB [(V.agg 65 (List.replicate 32 (V.int .u8 0)))] [t0]) []).bind fun a1=>(Cl 88 (AB [(V.agg 65 (List.replicate 32 (V.int .u8 0)))] [a1.1]) []).bind fun a2=>(CY (tyG 65) 66 [(V.agg 65 (List.replicate 32 (V.int .u8 0)))] (V.ref 0 [] 66) a2.1).bind fun a3=>(AV a3 66 (V.ref 0 [] 66)).bind fun a4=>AP 0 a3 a4:=
 Au (by kernel_rfl)
theorem ALa (t0 t1:V):Cl 37 [t0,t1] []=
 if((tyG 23) (V.weak t0)&&V.under 0 (V.weak t0))=true then if((tyG 25) t1&&V.under 1 t1)=true then jn (fun a1=>
 AP 0 [(V.weak t0),t1] a1) (fun(a2:V→Rv)=>(CW [(V.weak t0),t1] 24 (V.ref 0 [] 24)).bind fun a3=>(Cl 95 (AB [(V.weak t0),t1] [a3]) []).bind fun a4=>(AL .eql a4.1 (V.int .i64 0)).bind fun a5=>V.ite a5 ((fA 26 9 0 (V.ref 1 [] 26)).bind fun a6=>(AV [(V.weak t0),t1] 9 a6).bind fun a7=>(Cl 96 (AB [(V.weak t0),t1] [a7]) []).bind fun a8=>V.ite a8.1 ((fA 26 3 1 (V.ref 1 [] 26)).bind fun a9=>(AV [(V.weak t0),t1] 3 a9).bind fun a10=>(AL .geq a10 (V.int .i64 0)).bind fun a11=>V.ite a11 ((fA 26 3 1 (V.ref 1 [] 26)).bind fun a12=>(AV [(V.weak t0),t1] 3 a12).bind fun a13=>(fA 24 3 0 (V.ref 0 [] 24)).bind fun a14=>(AV [(V.weak t0),t1] 3 a14).bind fun a15=>(AL .lss a13 a15).bind fun a16=>V.ite a16 ((fA 26 3 2 (V.ref 1 [] 26)).bind fun a17=>(AV [(V.weak t0),t1] 3 a17).bind fun a18=>(AL .geq a18 (V.int .i64 1)).bind fun a19=>V.ite a19 ((fA 26 3 2 (V.ref 1 [] 26)).bind fun a20=>(AV [(V.weak t0),t1] 3 a20).bind fun a21=>(AL .leq a21 (V.int .i64 64)).bind fun a22=>a2 a22) (a2 (V.bool false))) (a2 (V.bool false))) (a2 (V.bool false))) (a2 (V.bool false))) (a2 (V.bool false)))else none else none:=
 Au (by kernel_rfl)
theorem ALb (t0 t1:V):Cl 41 [t0,t1] []=
 if((tyG 23) (V.weak t0)&&V.under 0 (V.weak t0))=true then if((tyG 25) t1&&V.under 1 t1)=true then jn (fun a1=>
 V.ite a1
  (AP 0 [(V.weak t0),t1] (V.int .i64 70))
  (AP 0 [(V.weak t0),t1] (V.int .i64 0))) (fun(a2:V→Rv)=>(CW [(V.weak t0),t1] 24 (V.ref 0 [] 24)).bind fun a3=>(Cl 102 (AB [(V.weak t0),t1] [a3]) []).bind fun a4=>(AL .neq a4.1 (V.int .i64 0)).bind fun a5=>V.ite a5 (a2 (V.bool true)) ((fA 26 9 0 (V.ref 1 [] 26)).bind fun a6=>(AV [(V.weak t0),t1] 9 a6).bind fun a7=>(Cl 103 (AB [(V.weak t0),t1] [a7]) []).bind fun a8=>(un .not a8.1).bind fun a9=>V.ite a9 (a2 (V.bool true)) ((fA 26 3 1 (V.ref 1 [] 26)).bind fun a10=>(AV [(V.weak t0),t1] 3 a10).bind fun a11=>(AL .lss a11 (V.int .i64 0)).bind fun a12=>V.ite a12 (a2 (V.bool true)) ((fA 26 3 1 (V.ref 1 [] 26)).bind fun a13=>(AV [(V.weak t0),t1] 3 a13).bind fun a14=>(fA 24 3 0 (V.ref 0 [] 24)).bind fun a15=>(AV [(V.weak t0),t1] 3 a15).bind fun a16=>(AL .geq a14 a16).bind fun a17=>V.ite a17 (a2 (V.bool true)) ((fA 26 3 2 (V.ref 1 [] 26)).bind fun a18=>(AV [(V.weak t0),t1] 3 a18).bind fun a19=>(AL .lss a19 (V.int .i64 1)).bind fun a20=>V.ite a20 (a2 (V.bool true)) ((fA 26 3 2 (V.ref 1 [] 26)).bind fun a21=>(AV [(V.weak t0),t1] 3 a21).bind fun a22=>(AL .gtr a22 (V.int .i64 64)).bind fun a23=>a2 a23))))))else none else none:=
 Au (by kernel_rfl)
def Ou (t8 t9 t25 t26:V) (h:List V):Rv:=lp W 42 0 (cd 42 303) (bk 0 (sk 42 0 63 (lv 42 0))) ⟨[(8,t8),(9,t9),(25,t25),(26,t26)],h⟩
theorem Sz (t8 t9 t25 t26:V) (h:List V):Ou t8 t9 t25 t26 h=
 (AL .lss t26 t25).bind fun a1=>V.ite a1
  (BI P CJ W t8 [t26] h fun a2 a3=>if V.noOwn a2=true then V.ite a2
  ((Nr 3 false (ck [(tyI .i64) t26] [t26])).bind fun a4=>(Gv 3 (tyI .i64) false a3 t9 a4).bind fun a5=>(AL .add t26 (V.int .i64 1)).bind fun a6=>Ou t8 a5 t25 a6 a3)
  ((AL .add t26 (V.int .i64 1)).bind fun a7=>Ou t8 t9 t25 a7 a3)else none)
  (if(List.all [(V.int .i64 0),t9] V.okE)=true then AP 0 h (V.tup [t9,(V.int .i64 0)])else none):=
 DC (by kernel_rfl)
theorem ALc (t0 t1 t2:V):Cl 42 [t0,t1,t2] []=
 if((tyI .i64) t1&&V.under 0 t1)=true then if((tyI .i64) t2&&V.under 1 t2)=true then jn (fun a8=>
 V.ite a8
  (if(List.all [(V.int .i64 60),(V.weak (V.lst 3 .nil []))] V.okE)=true then AP 0 [t1,t2] (V.tup [(V.weak (V.lst 3 .nil [])),(V.int .i64 60)])else none)
  ((if(List.all [(V.ref 0 [] 3),(V.ref 1 [] 3)] V.capOk)=true then some (V.clo 105 [(V.ref 0 [] 3),(V.ref 1 [] 3)])else none).bind fun a9=>Ou a9 (V.weak (V.lst 3 .nil [])) t0 (V.int .i64 0) [t1,t2])) (fun(a10:V→Rv)=>(AV [t1,t2] 3 (V.ref 0 [] 3)).bind fun a11=>(Cl 104 (AB [t1,t2] [t0,a11]) []).bind fun a12=>(un .not a12.1).bind fun a13=>V.ite a13 (a10 (V.bool true)) ((AV [t1,t2] 3 (V.ref 1 [] 3)).bind fun a14=>(AL .lss a14 (V.int .i64 0)).bind fun a15=>V.ite a15 (a10 (V.bool true)) ((AV [t1,t2] 3 (V.ref 1 [] 3)).bind fun a16=>(AV [t1,t2] 3 (V.ref 0 [] 3)).bind fun a17=>(AL .geq a16 a17).bind fun a18=>a10 a18)))else none else none:=
 Au (by kernel_rfl)
theorem Y4 (t0:V):Cl 43 [t0] []=
 (ND .eql (V.weak t0) (V.lst 96 .nil [])).bind fun a1=>V.ite a1
  (AP 0 [] (V.weak (V.lst 96 .nil [])))
  ((Nr 96 false (ck [] [])).bind fun a2=>(Gv 96 (tyG 95) false [] a2 t0).bind fun a3=>AP 0 [] a3):=
 Au (by kernel_rfl)
theorem ALd (t0 t1:V):Cl 44 [t0,t1] []=
 if((tyG 25) t0&&V.under 0 t0)=true then(fA 26 9 0 (V.ref 0 [] 26)).bind fun a1=>(AV [t0,(V.agg 85 [(V.int .i64 0),(V.int .i64 0),(V.bool false),(V.bool false),(V.int .i64 0)])] 9 a1).bind fun a2=>(Cl 103 (AB [t0,(V.agg 85 [(V.int .i64 0),(V.int .i64 0),(V.bool false),(V.bool false),(V.int .i64 0)])] [a2]) []).bind fun a3=>(un .not a3.1).bind fun a4=>V.ite a4
  (((ck [] [(V.int .i64 0),(V.int .i64 0),(V.bool false),(V.bool false),(V.int .i64 0)]).map (.agg 85)).bind fun a5=>(CY (tyG 85) 86 [t0,(V.agg 85 [(V.int .i64 0),(V.int .i64 0),(V.bool false),(V.bool false),(V.int .i64 0)])] (V.ref 1 [] 86) a5).bind fun a6=>(AV a6 86 (V.ref 1 [] 86)).bind fun a7=>AP 0 a6 a7)
  (((ck [(tyI .i64) t1,tyB (V.bool true)] [t1,(V.int .i64 0),(V.bool true),(V.bool false),(V.int .i64 0)]).map (.agg 85)).bind fun a8=>(CY (tyG 85) 86 [t0,(V.agg 85 [(V.int .i64 0),(V.int .i64 0),(V.bool false),(V.bool false),(V.int .i64 0)]),(V.agg 85 [(V.int .i64 0),(V.int .i64 0),(V.bool false),(V.bool false),(V.int .i64 0)])] (V.ref 2 [] 86) a8).bind fun a9=>(fA 26 9 0 (V.ref 0 [] 26)).bind fun a10=>(AV a9 9 a10).bind fun a11=>(AL .eql a11 (V.str [109,97,120])).bind fun a12=>V.ite a12
  ((AL .mul (V.int .i64 37) t1).bind fun a13=>(AL .add a13 (V.int .i64 11)).bind fun a14=>(AL .rem a14 (V.int .i64 64)).bind fun a15=>(fA 86 2 1 (V.ref 2 [] 86)).bind fun a16=>(CY (tyI .i64) 2 a9 a16 a15).bind fun a17=>(AV a17 86 (V.ref 2 [] 86)).bind fun a18=>(CY (tyG 85) 86 a17 (V.ref 1 [] 86) a18).bind fun a19=>(AV a19 86 (V.ref 1 [] 86)).bind fun a20=>AP 0 a19 a20)
  ((AL .eql a11 (V.str [108,97,98,101,108])).bind fun a21=>V.ite a21
  ((fA 86 2 1 (V.ref 2 [] 86)).bind fun a22=>(CY (tyI .i64) 2 a9 a22 t1).bind fun a23=>(AV a23 86 (V.ref 2 [] 86)).bind fun a24=>(CY (tyG 85) 86 a23 (V.ref 1 [] 86) a24).bind fun a25=>(AV a25 86 (V.ref 1 [] 86)).bind fun a26=>AP 0 a25 a26)
  ((AL .eql a11 (V.str [98,102,115])).bind fun a27=>V.ite a27
  ((fA 26 3 1 (V.ref 0 [] 26)).bind fun a28=>(AV a9 3 a28).bind fun a29=>(AL .neq t1 a29).bind fun a30=>V.ite a30
  ((fA 86 2 1 (V.ref 2 [] 86)).bind fun a31=>(CY (tyI .i64) 2 a9 a31 (V.int .i64 (-1))).bind fun a32=>(AV a32 86 (V.ref 2 [] 86)).bind fun a33=>(CY (tyG 85) 86 a32 (V.ref 1 [] 86) a33).bind fun a34=>(AV a34 86 (V.ref 1 [] 86)).bind fun a35=>AP 0 a34 a35)
  ((AV a9 86 (V.ref 2 [] 86)).bind fun a36=>(CY (tyG 85) 86 a9 (V.ref 1 [] 86) a36).bind fun a37=>(AV a37 86 (V.ref 1 [] 86)).bind fun a38=>AP 0 a37 a38))
  ((AL .eql a11 (V.str [115,115,115,112])).bind fun a39=>V.ite a39
  ((fA 26 3 1 (V.ref 0 [] 26)).bind fun a40=>(AV a9 3 a40).bind fun a41=>(AL .neq t1 a41).bind fun a42=>V.ite a42
  ((fA 86 2 1 (V.ref 2 [] 86)).bind fun a43=>(CY (tyI .i64) 2 a9 a43 (V.int .i64 (-1))).bind fun a44=>(AV a44 86 (V.ref 2 [] 86)).bind fun a45=>(CY (tyG 85) 86 a44 (V.ref 1 [] 86) a45).bind fun a46=>(AV a46 86 (V.ref 1 [] 86)).bind fun a47=>AP 0 a46 a47)
  ((AV a9 86 (V.ref 2 [] 86)).bind fun a48=>(CY (tyG 85) 86 a9 (V.ref 1 [] 86) a48).bind fun a49=>(AV a49 86 (V.ref 1 [] 86)).bind fun a50=>AP 0 a49 a50))
  ((AL .eql a11 (V.str [114,97,110,107])).bind fun a51=>V.ite a51
  ((fA 86 2 1 (V.ref 2 [] 86)).bind fun a52=>(CY (tyI .i64) 2 a9 a52 (V.int .i64 65536)).bind fun a53=>(AV a53 86 (V.ref 2 [] 86)).bind fun a54=>(CY (tyG 85) 86 a53 (V.ref 1 [] 86) a54).bind fun a55=>(AV a55 86 (V.ref 1 [] 86)).bind fun a56=>AP 0 a55 a56)
  ((AL .eql a11 (V.str [119,97,108,107,115])).bind fun a57=>V.ite a57
  ((fA 86 2 1 (V.ref 2 [] 86)).bind fun a58=>(CY (tyI .i64) 2 a9 a58 (V.int .i64 1)).bind fun a59=>(AV a59 86 (V.ref 2 [] 86)).bind fun a60=>(CY (tyG 85) 86 a59 (V.ref 1 [] 86) a60).bind fun a61=>(AV a61 86 (V.ref 1 [] 86)).bind fun a62=>AP 0 a61 a62)
  ((AV a9 86 (V.ref 2 [] 86)).bind fun a63=>(CY (tyG 85) 86 a9 (V.ref 1 [] 86) a63).bind fun a64=>(AV a64 86 (V.ref 1 [] 86)).bind fun a65=>AP 0 a64 a65)))))))else none:=
 Au (by kernel_rfl)
def Jt (t1 t8 t9 t10:V) (n:Nat) (h:List V):Rv:=lp W 53 0 (cd 53 37) (bk 0 (sk 53 0 7 (lv 53 n))) ⟨[(1,t1),(8,t8),(9,t9),(10,t10)],h⟩
theorem Cb (t1 t8 t9 t10:V) (n:Nat) (h:List V):Jt t1 t8 t9 t10 n h=
 (AL .lss t10 t9).bind fun a1=>V.ite a1
  ((Eg 86 t8 t10).bind fun a2=>(AV h 86 a2).bind fun a3=>(CY (tyG 85) 86 (h++[(V.agg 85 [(V.int .i64 0),(V.int .i64 0),(V.bool false),(V.bool false),(V.int .i64 0)])]) (V.ref (List.length h) [] 86) a3).bind fun a4=>(AV a4 86 (V.ref (List.length h) [] 86)).bind fun a5=>BI P CJ W t1 [a5] a4 fun a6 a7=>if V.noOwn a6=true then(AL .neq a6 (V.int .i64 0)).bind fun a8=>V.ite a8
  (AP n a7 a6)
  ((AL .add t10 (V.int .i64 1)).bind fun a9=>if AZ (List.length h) [t1,t8,t9,a9]=true then Jt t1 t8 t9 a9 n (List.take (List.length h) a7)else none)else none)
  (AP n h (V.int .i64 0)):=
 DC (by kernel_rfl)
theorem Uj (t0 t1:V) (h:List V):Cl 53 [t0,t1] h=
 (E5 t0).bind fun a10=>Jt t1 t0 a10 (V.int .i64 0) (List.length h) h:=
 Au (by kernel_rfl)
theorem AED (t0 t1 t2 t3:V) (h:List V):Cl 54 [t0,t1,t2,t3] h=
 if((tyG 85) t0&&V.under (List.length h) t0)=true then(AV (h++[t0]) 29 t1).bind fun a1=>(BD a1).bind fun a2=>(fA 103 26 1 a2).bind fun a3=>(fA 26 9 0 a3).bind fun a4=>(AV (h++[t0]) 9 a4).bind fun a5=>(CW (h++[t0]) 39 t2).bind fun a6=>(fA 86 3 0 (V.ref (List.length h) [] 86)).bind fun a7=>(AV (h++[t0]) 3 a7).bind fun a8=>(Cl 55 (AB (h++[t0]) [a5,a6,a8]) []).bind fun a9=>(ext a9.1 0).bind fun a10=>(ext a9.1 1).bind fun a11=>(ext a9.1 2).bind fun a12=>(fA 86 4 3 (V.ref (List.length h) [] 86)).bind fun a13=>(CY tyB 4 (h++[t0]) a13 a11).bind fun a14=>(fA 86 2 4 (V.ref (List.length h) [] 86)).bind fun a15=>(CY (tyI .i64) 2 a14 a15 a10).bind fun a16=>(BN a16 35 t3).bind fun a17=>(AV a17.2 86 (V.ref (List.length h) [] 86)).bind fun a18=>(Nr 86 false (ck [(tyG 85) a18] [a18])).bind fun a19=>(Gv 86 (tyG 85) false a17.2 a17.1 a19).bind fun a20=>(CY (tyL 86) 35 a17.2 t3 a20).bind fun a21=>AP (List.length h) a21 a12 else none:=
 Au (by kernel_rfl)
def Uk (t0 t9 t10 t35 t36 t37:V) (h:List V):Rv:=lp W 55 0 (cd 55 607) (bk 0 (sk 55 0 127 (lv 55 0))) ⟨[(0,t0),(9,t9),(10,t10),(35,t35),(36,t36),(37,t37)],h⟩
theorem Lp (t0 t9 t10 t35 t36 t37:V) (h:List V):Uk t0 t9 t10 t35 t36 t37 h=
 (AL .lss t37 t36).bind fun a1=>V.ite a1
  ((Eg 152 t35 t37).bind fun a2=>(AV h 152 a2).bind fun a3=>(CY (tyG 151) 152 (h++[(V.agg 151 [(V.int .i64 0),(V.int .i64 0),(V.int .i64 0)])]) (V.ref (List.length h) [] 152) a3).bind fun a4=>(AL .neq t10 (V.int .i64 0)).bind fun a5=>V.ite a5
  ((AL .neq t10 (V.int .i64 0)).bind fun a6=>V.ite a6
  (if(List.all [t10,(V.bool false),(V.int .i64 0)] V.okE)=true then AP 0 a4 (V.tup [(V.int .i64 0),(V.bool false),t10])else none)
  (if(List.all [(V.int .i64 0),(V.bool true),t9] V.okE)=true then AP 0 a4 (V.tup [t9,(V.bool true),(V.int .i64 0)])else none))
  ((fA 152 2 2 (V.ref (List.length h) [] 152)).bind fun a7=>(AV a4 2 a7).bind fun a8=>(Cl 115 (AB a4 [t0,t9,a8]) []).bind fun a9=>(ext a9.1 0).bind fun a10=>(ext a9.1 1).bind fun a11=>(AL .add t37 (V.int .i64 1)).bind fun a12=>if AZ (List.length h) [t0,a10,a11,t35,t36,a12]=true then Uk t0 a10 a11 t35 t36 a12 (List.take (List.length h) a4)else none))
  ((AL .neq t10 (V.int .i64 0)).bind fun a13=>V.ite a13
  (if(List.all [t10,(V.bool false),(V.int .i64 0)] V.okE)=true then AP 0 h (V.tup [(V.int .i64 0),(V.bool false),t10])else none)
  (if(List.all [(V.int .i64 0),(V.bool true),t9] V.okE)=true then AP 0 h (V.tup [t9,(V.bool true),(V.int .i64 0)])else none)):=
 DC (by kernel_rfl)
theorem AEE (t0 t1 t2:V):Cl 55 [t0,t1,t2] []=
 (Cl 103 (AB [] [t0]) []).bind fun a14=>(un .not a14.1).bind fun a15=>V.ite a15
  (if(List.all [(V.int .i64 70),(V.bool false),(V.int .i64 0)] V.okE)=true then AP 0 [] (V.tup [(V.int .i64 0),(V.bool false),(V.int .i64 70)])else none)
  ((Cl 114 (AB [] [t1,t2]) []).bind fun a16=>(E5 (V.weak a16.1)).bind fun a17=>(AL .eql a17 (V.int .i64 0)).bind fun a18=>V.ite a18
  (if(List.all [(V.int .i64 0),(V.bool false),(V.int .i64 0)] V.okE)=true then AP 0 [] (V.tup [(V.int .i64 0),(V.bool false),(V.int .i64 0)])else none)
  ((Eg 152 (V.weak a16.1) (V.int .i64 0)).bind fun a19=>(fA 152 2 2 a19).bind fun a20=>(AV [] 2 a20).bind fun a21=>(Eg 152 (V.weak a16.1) (V.int .i64 0)).bind fun a22=>(fA 152 2 2 a22).bind fun a23=>(AV [] 2 a23).bind fun a24=>(Cl 115 (AB [] [(V.str [109,97,120]),a21,a24]) []).bind fun a25=>(ext a25.1 0).bind fun a26=>(ext a25.1 1).bind fun a27=>(slL 152 a16.1 (some (V.int .i64 1)) none none).bind fun a28=>(E5 a28).bind fun a29=>Uk t0 a26 a27 a28 a29 (V.int .i64 0) [])):=
 Au (by kernel_rfl)
theorem AEF (t0 t1 t2 t3 t4:V) (h:List V):Cl 56 [t0,t1,t2,t3,t4] h=
 if((tyG 85) t0&&V.under (List.length h) t0)=true then(AV (h++[t0]) 29 t1).bind fun a1=>(BD a1).bind fun a2=>(fA 103 24 0 a2).bind fun a3=>(CW (h++[t0]) 24 a3).bind fun a4=>(AV (h++[t0]) 29 t1).bind fun a5=>(BD a5).bind fun a6=>(fA 103 26 1 a6).bind fun a7=>(AV (h++[t0]) 26 a7).bind fun a8=>(AV (h++[t0]) 3 t2).bind fun a9=>(AV (h++[t0]) 86 (V.ref (List.length h) [] 86)).bind fun a10=>if SC true [a4,a8,a9,a10]=true then(Cl 57 (AB (h++[t0]) [a4,a8,a9,a10]) []).bind fun a11=>(ext a11.1 0).bind fun a12=>(Oi a11.1 1).bind fun a13=>(ext a11.1 2).bind fun a14=>(CY (tyG 85) 86 ((h++[t0])++[(V.agg 85 [(V.int .i64 0),(V.int .i64 0),(V.bool false),(V.bool false),(V.int .i64 0)])]) (V.ref (List.length (h++[t0])) [] 86) a12).bind fun a15=>if(KH t3 t4&&(KH t3 (V.ref (List.length (h++[t0])) [] 86)&&(KH t4 (V.ref (List.length (h++[t0])) [] 86)&&true)))=true then if Dv t3 t3=true then(BN a15 35 t3).bind fun a16=>if Dv (V.ref (List.length (h++[t0])) [] 86) (V.ref (List.length (h++[t0])) [] 86)=true then(AV a16.2 86 (V.ref (List.length (h++[t0])) [] 86)).bind fun a17=>(Nr 86 false (ck [(tyG 85) a17] [a17])).bind fun a18=>if SC true [a16.1,a18]=true then(Gv 86 (tyG 85) false a16.2 a16.1 a18).bind fun a19=>if Dv t4 t4=true then(BN a16.2 39 t4).bind fun a20=>(Gv 152 (tyG 151) false a20.2 a20.1 a13).bind fun a21=>(CY (tyL 86) 35 a20.2 t3 a19).bind fun a22=>(CY (tyL 152) 39 a22 t4 a21).bind fun a23=>AP (List.length h) a23 a14 else none else none else none else none else none else none else none:=
 Au (by kernel_rfl)
def Lr (t7 t8 t12 t13 t14 t16 t17 t18 t88 t89 t90:V) (h:List V):Rv:=lp W 57 0 (cd 57 19455) (bk 0 (sk 57 0 4095 (lv 57 0))) ⟨[(7,t7),(8,t8),(12,t12),(13,t13),(14,t14),(16,t16),(17,t17),(18,t18),(88,t88),(89,t89),(90,t90)],h⟩
theorem S9 (t7 t8 t12 t13 t14 t16 t17 t18 t88 t89 t90:V) (h:List V):Lr t7 t8 t12 t13 t14 t16 t17 t18 t88 t89 t90 h=
 (AL .lss t90 t89).bind fun a1=>V.ite a1
  ((Eg 96 t88 t90).bind fun a2=>(AV h 96 a2).bind fun a3=>(CY (tyG 95) 96 (h++[(V.agg 95 [(V.int .i64 0),(V.int .i64 0),(V.int .i64 0)])]) (V.ref (List.length h) [] 96) a3).bind fun a4=>V.ite t14
  ((AV a4 96 (V.ref (List.length h) [] 96)).bind fun a5=>BI P CJ W t18 [a5] a4 fun a6 a7=>if V.noOwn a6=true then(AL .add t90 (V.int .i64 1)).bind fun a8=>if AZ (List.length h) [t7,t8,t12,t13,t14,t16,t17,t18,t88,t89,a8]=true then Lr t7 t8 t12 t13 t14 t16 t17 t18 t88 t89 a8 (List.take (List.length h) a7)else none else none)
  ((AL .add t90 (V.int .i64 1)).bind fun a9=>if AZ (List.length h) [t7,t8,t12,t13,t14,t16,t17,t18,t88,t89,a9]=true then Lr t7 t8 t12 t13 t14 t16 t17 t18 t88 t89 a9 (List.take (List.length h) a4)else none))
  ((AV h 4 t17).bind fun a10=>V.ite a10
  (((ck [] [(V.int .i64 0),(V.int .i64 0),(V.bool false),(V.bool false),(V.int .i64 0)]).map (.agg 85)).bind fun a11=>(CY (tyG 85) 86 h t8 a11).bind fun a12=>(AV a12 86 t8).bind fun a13=>if(List.all [(V.int .i64 71),(V.weak (V.lst 152 .nil [])),a13] V.okE)=true then AP 0 a12 (V.tup [a13,(V.weak (V.lst 152 .nil [])),(V.int .i64 71)])else none)
  (if(KH t8 t16&&true)=true then(fA 86 3 0 t7).bind fun a14=>(AV h 3 a14).bind fun a15=>((ck [(tyI .i64) a15,(tyI .i64) t12,tyB t13] [a15,t12,t13,(V.bool false),(V.int .i64 0)]).map (.agg 85)).bind fun a16=>if Dv t16 t16=true then(CW h 39 t16).bind fun a17=>if Dv t8 t8=true then(CY (tyG 85) 86 h t8 a16).bind fun a18=>(AV a18 86 t8).bind fun a19=>if(List.all [(V.int .i64 0),a17,a19] V.okE)=true then AP 0 a18 (V.tup [a19,a17,(V.int .i64 0)])else none else none else none else none)):=
 DC (by kernel_rfl)
theorem ALe (t0 t1 t2 t3:V):Cl 57 [t0,t1,t2,t3] []=
 if((tyG 23) (V.weak t0)&&V.under 0 (V.weak t0))=true then if((tyG 25) t1&&V.under 1 t1)=true then if((tyG 85) t3&&V.under 2 t3)=true then jn (fun a20=>
 V.ite a20
  (((ck [] [(V.int .i64 0),(V.int .i64 0),(V.bool false),(V.bool false),(V.int .i64 0)]).map (.agg 85)).bind fun a21=>(CY (tyG 85) 86 [(V.weak t0),t1,t3,(V.agg 85 [(V.int .i64 0),(V.int .i64 0),(V.bool false),(V.bool false),(V.int .i64 0)])] (V.ref 3 [] 86) a21).bind fun a22=>(AV a22 86 (V.ref 3 [] 86)).bind fun a23=>if(List.all [(V.int .i64 70),(V.weak (V.lst 152 .nil [])),a23] V.okE)=true then AP 0 a22 (V.tup [a23,(V.weak (V.lst 152 .nil [])),(V.int .i64 70)])else none)
  (jn (fun a24=>
 V.ite a24
  (((ck [] [(V.int .i64 0),(V.int .i64 0),(V.bool false),(V.bool false),(V.int .i64 0)]).map (.agg 85)).bind fun a25=>(CY (tyG 85) 86 [(V.weak t0),t1,t3,(V.agg 85 [(V.int .i64 0),(V.int .i64 0),(V.bool false),(V.bool false),(V.int .i64 0)])] (V.ref 3 [] 86) a25).bind fun a26=>(AV a26 86 (V.ref 3 [] 86)).bind fun a27=>if(List.all [(V.int .i64 71),(V.weak (V.lst 152 .nil [])),a27] V.okE)=true then AP 0 a26 (V.tup [a27,(V.weak (V.lst 152 .nil [])),(V.int .i64 71)])else none)
  (jn (fun a28=>
 V.ite a28
  ((AV [(V.weak t0),t1,t3,(V.agg 85 [(V.int .i64 0),(V.int .i64 0),(V.bool false),(V.bool false),(V.int .i64 0)])] 86 (V.ref 2 [] 86)).bind fun a29=>(CY (tyG 85) 86 [(V.weak t0),t1,t3,(V.agg 85 [(V.int .i64 0),(V.int .i64 0),(V.bool false),(V.bool false),(V.int .i64 0)])] (V.ref 3 [] 86) a29).bind fun a30=>(AV a30 86 (V.ref 3 [] 86)).bind fun a31=>if(List.all [(V.int .i64 0),(V.weak (V.lst 152 .nil [])),a31] V.okE)=true then AP 0 a30 (V.tup [a31,(V.weak (V.lst 152 .nil [])),(V.int .i64 0)])else none)
  ((fA 86 4 3 (V.ref 2 [] 86)).bind fun a32=>(AV [(V.weak t0),t1,t3,(V.agg 85 [(V.int .i64 0),(V.int .i64 0),(V.bool false),(V.bool false),(V.int .i64 0)])] 4 a32).bind fun a33=>(un .not a33).bind fun a34=>jn (fun a35=>(CW a35 24 (V.ref 0 [] 24)).bind fun a36=>(fA 86 3 0 (V.ref 2 [] 86)).bind fun a37=>(AV a35 3 a37).bind fun a38=>(Cl 117 (AB a35 [a36,a38]) []).bind fun a39=>(AV a35 26 (V.ref 1 [] 26)).bind fun a40=>(AV a35 86 (V.ref 2 [] 86)).bind fun a41=>(E5 (V.weak a39.1)).bind fun a42=>(Cl 118 (AB a35 [a40,t2,a41,a42]) []).bind fun a43=>(ext a43.1 0).bind fun a44=>(ext a43.1 1).bind fun a45=>(ext a43.1 2).bind fun a46=>(ext a43.1 3).bind fun a47=>(CY (tyI .i64) 2 (a35++[(V.int .i64 0)]) (V.ref (List.length a35) [] 2) a47).bind fun a48=>(Cl 116 (AB (a48++[(V.lst 152 .nil [])]) [a44]) []).bind fun a49=>(CY tyB 4 ((a48++[(V.lst 152 .nil [])])++[(V.bool false)]) (V.ref (List.length (a48++[(V.lst 152 .nil [])])) [] 4) a49.1).bind fun a50=>(if(List.all [(V.ref 2 [] 86),(V.ref (List.length a35) [] 2),(V.ref 1 [] 26),(V.ref (List.length (a48++[(V.lst 152 .nil [])])) [] 4),(V.ref (List.length a48) [] 39)] V.capOk)=true then some (V.clo 119 [(V.ref 2 [] 86),(V.ref (List.length a35) [] 2),(V.ref 1 [] 26),(V.ref (List.length (a48++[(V.lst 152 .nil [])])) [] 4),(V.ref (List.length a48) [] 39)])else none).bind fun a51=>(E5 a39.1).bind fun a52=>Lr (V.ref 2 [] 86) (V.ref 3 [] 86) a44 a45 a46 (V.ref (List.length a48) [] 39) (V.ref (List.length (a48++[(V.lst 152 .nil [])])) [] 4) a51 a39.1 a52 (V.int .i64 0) a50)
  (fun(j0:List V→Rv)=>V.ite a34
  ((fA 86 2 4 (V.ref 2 [] 86)).bind fun a53=>(CY (tyI .i64) 2 [(V.weak t0),t1,t3,(V.agg 85 [(V.int .i64 0),(V.int .i64 0),(V.bool false),(V.bool false),(V.int .i64 0)])] a53 (V.int .i64 0)).bind fun a54=>j0 a54)
  (j0 [(V.weak t0),t1,t3,(V.agg 85 [(V.int .i64 0),(V.int .i64 0),(V.bool false),(V.bool false),(V.int .i64 0)])])))) (fun(a55:V→Rv)=>(fA 86 4 2 (V.ref 2 [] 86)).bind fun a56=>(AV [(V.weak t0),t1,t3,(V.agg 85 [(V.int .i64 0),(V.int .i64 0),(V.bool false),(V.bool false),(V.int .i64 0)])] 4 a56).bind fun a57=>(un .not a57).bind fun a58=>V.ite a58 ((fA 86 4 3 (V.ref 2 [] 86)).bind fun a59=>(AV [(V.weak t0),t1,t3,(V.agg 85 [(V.int .i64 0),(V.int .i64 0),(V.bool false),(V.bool false),(V.int .i64 0)])] 4 a59).bind fun a60=>(un .not a60).bind fun a61=>a55 a61) (a55 (V.bool false))))) (fun(a62:V→Rv)=>(fA 86 2 1 (V.ref 2 [] 86)).bind fun a63=>(AV [(V.weak t0),t1,t3,(V.agg 85 [(V.int .i64 0),(V.int .i64 0),(V.bool false),(V.bool false),(V.int .i64 0)])] 2 a63).bind fun a64=>(Cl 116 (AB [(V.weak t0),t1,t3,(V.agg 85 [(V.int .i64 0),(V.int .i64 0),(V.bool false),(V.bool false),(V.int .i64 0)])] [a64]) []).bind fun a65=>V.ite a65.1 (a62 (V.bool true)) ((fA 86 2 4 (V.ref 2 [] 86)).bind fun a66=>(AV [(V.weak t0),t1,t3,(V.agg 85 [(V.int .i64 0),(V.int .i64 0),(V.bool false),(V.bool false),(V.int .i64 0)])] 2 a66).bind fun a67=>(Cl 116 (AB [(V.weak t0),t1,t3,(V.agg 85 [(V.int .i64 0),(V.int .i64 0),(V.bool false),(V.bool false),(V.int .i64 0)])] [a67]) []).bind fun a68=>a62 a68.1)))) (fun(a69:V→Rv)=>(CW [(V.weak t0),t1,t3,(V.agg 85 [(V.int .i64 0),(V.int .i64 0),(V.bool false),(V.bool false),(V.int .i64 0)])] 24 (V.ref 0 [] 24)).bind fun a70=>(AV [(V.weak t0),t1,t3,(V.agg 85 [(V.int .i64 0),(V.int .i64 0),(V.bool false),(V.bool false),(V.int .i64 0)])] 26 (V.ref 1 [] 26)).bind fun a71=>(Cl 41 (AB [(V.weak t0),t1,t3,(V.agg 85 [(V.int .i64 0),(V.int .i64 0),(V.bool false),(V.bool false),(V.int .i64 0)])] [a70,a71]) []).bind fun a72=>(AL .neq a72.1 (V.int .i64 0)).bind fun a73=>V.ite a73 (a69 (V.bool true)) ((fA 86 3 0 (V.ref 2 [] 86)).bind fun a74=>(AV [(V.weak t0),t1,t3,(V.agg 85 [(V.int .i64 0),(V.int .i64 0),(V.bool false),(V.bool false),(V.int .i64 0)])] 3 a74).bind fun a75=>(AL .lss a75 (V.int .i64 0)).bind fun a76=>V.ite a76 (a69 (V.bool true)) ((fA 86 3 0 (V.ref 2 [] 86)).bind fun a77=>(AV [(V.weak t0),t1,t3,(V.agg 85 [(V.int .i64 0),(V.int .i64 0),(V.bool false),(V.bool false),(V.int .i64 0)])] 3 a77).bind fun a78=>(fA 24 3 0 (V.ref 0 [] 24)).bind fun a79=>(AV [(V.weak t0),t1,t3,(V.agg 85 [(V.int .i64 0),(V.int .i64 0),(V.bool false),(V.bool false),(V.int .i64 0)])] 3 a79).bind fun a80=>(AL .geq a78 a80).bind fun a81=>V.ite a81 (a69 (V.bool true)) ((AL .lss t2 (V.int .i64 0)).bind fun a82=>V.ite a82 (a69 (V.bool true)) ((fA 26 3 2 (V.ref 1 [] 26)).bind fun a83=>(AV [(V.weak t0),t1,t3,(V.agg 85 [(V.int .i64 0),(V.int .i64 0),(V.bool false),(V.bool false),(V.int .i64 0)])] 3 a83).bind fun a84=>(AL .geq t2 a84).bind fun a85=>a69 a85)))))else none else none else none:=
 Au (by kernel_rfl)
def Ul (t1 t2 t6 t21 t22:V) (h:List V):Rv:=lp W 58 0 (cd 58 151) (bk 0 (sk 58 0 31 (lv 58 0))) ⟨[(1,t1),(2,t2),(6,t6),(21,t21),(22,t22)],h⟩
theorem TA (t1 t2 t6 t21 t22:V) (h:List V):Ul t1 t2 t6 t21 t22 h=
 (AL .lss t22 t21).bind fun a1=>V.ite a1
  ((CY (tyI .i64) 3 (h++[(V.int .i64 0)]) (V.ref (List.length h) [] 3) t22).bind fun a2=>if Dv (V.ref (List.length h) [] 3) (V.ref (List.length h) [] 3)=true then(AV a2 3 (V.ref (List.length h) [] 3)).bind fun a3=>(if(List.all [t2,(V.ref (List.length h) [] 3)] V.capOk)=true then some (V.clo 124 [t2,(V.ref (List.length h) [] 3)])else none).bind fun a4=>EI P CJ W true none [(V.ref (List.length h) [] 3)] (V.clo 123 []) [(V.weak t1),a4] a2 fun a5 a6=>(Cl 101 (AB a6 [a5]) []).bind fun a7=>(Eg 39 (V.weak t6) a3).bind fun a8=>(CY (tyL 152) 39 a6 a8 a7.1).bind fun a9=>(AL .add t22 (V.int .i64 1)).bind fun a10=>if AZ (List.length h) [t1,t2,t6,t21,a10]=true then Ul t1 t2 t6 t21 a10 (List.take (List.length h) a9)else none else none)
  (if(List.all [(V.int .i64 0),t6] V.okE)=true then AP 0 h (V.tup [t6,(V.int .i64 0)])else none):=
 DC (by kernel_rfl)
theorem ALf (t0 t1:V):Cl 58 [t0,t1] []=
 if((tyI .i64) t0&&V.under 0 t0)=true then jn (fun a11 a12=>
 V.ite a11
  (if(List.all [(V.int .i64 80),(V.weak (V.lst 39 .nil []))] V.okE)=true then AP 0 a12 (V.tup [(V.weak (V.lst 39 .nil [])),(V.int .i64 80)])else none)
  ((AV a12 3 (V.ref 0 [] 3)).bind fun a13=>(mkL 39 (V.lst 152 .nil []) a13 a13).bind fun a14=>(DN a12 a14).bind fun a15=>(E5 (V.weak a15.1)).bind fun a16=>Ul t1 (V.ref 0 [] 3) a15.1 a16 (V.int .i64 0) a15.2)) (fun(a17:V→List V→Rv)=>(AV [t0] 3 (V.ref 0 [] 3)).bind fun a18=>(AL .lss a18 (V.int .i64 1)).bind fun a19=>V.ite a19 (a17 (V.bool true) [t0]) ((AV [t0] 3 (V.ref 0 [] 3)).bind fun a20=>(AL .gtr a20 (V.int .i64 64)).bind fun a21=>V.ite a21 (a17 (V.bool true) [t0]) ((Cl 121 (AQ [(V.weak t1),(V.clo 122 [])]) [t0]).bind fun a22=>a17 a22.1 a22.2)))else none:=
 Au (by kernel_rfl)
def Um (t8 t10 t18 t19 t20:V) (h:List V):Rv:=lp W 59 0 (cd 59 75) (bk 0 (sk 59 0 15 (lv 59 0))) ⟨[(8,t8),(10,t10),(18,t18),(19,t19),(20,t20)],h⟩
theorem Ls (t8 t10 t18 t19 t20:V) (h:List V):Um t8 t10 t18 t19 t20 h=
 (AL .lss t20 t19).bind fun a1=>V.ite a1
  ((Eg 39 t18 t20).bind fun a2=>(CW h 39 a2).bind fun a3=>(fA 77 49 3 t10).bind fun a4=>if Dv t10 a4=true then(BN h 49 a4).bind fun a5=>Dk P CJ W (some t10) (V.clo 34 []) [a3] a5.2 fun a6 a7=>(Nr 66 false (ck [(tyG 65) a6] [a6])).bind fun a8=>(Gv 66 (tyG 65) false a7 a5.1 a8).bind fun a9=>(fA 77 49 3 t10).bind fun a10=>(CY (tyL 66) 49 a7 a10 a9).bind fun a11=>(AL .add t20 (V.int .i64 1)).bind fun a12=>Um t8 t10 t18 t19 a12 a11 else none)
  ((CW h 77 t10).bind fun a13=>(Cl 125 (AB h [a13]) []).bind fun a14=>(un .not a14.1).bind fun a15=>V.ite a15
  (((ck [] [(V.int .i64 0),(V.int .i64 0),(V.agg 65 (List.replicate 32 (V.int .u8 0))),(V.lst 66 .nil [])]).map (.agg 76)).bind fun a16=>(CY (tyG 76) 77 h t8 a16).bind fun a17=>(CW a17 77 t8).bind fun a18=>if(List.all [(V.int .i64 120),a18] V.okE)=true then AP 0 a17 (V.tup [a18,(V.int .i64 120)])else none)
  ((CW h 77 t10).bind fun a19=>(CY (tyG 76) 77 h t8 a19).bind fun a20=>(CW a20 77 t8).bind fun a21=>if(List.all [(V.int .i64 0),a21] V.okE)=true then AP 0 a20 (V.tup [a21,(V.int .i64 0)])else none)):=
 DC (by kernel_rfl)
theorem ALg (t0 t1 t2 t3:V):Cl 59 [t0,t1,t2,t3] []=
 (Cl 83 (AB [(V.agg 76 [(V.int .i64 0),(V.int .i64 0),(V.agg 65 (List.replicate 32 (V.int .u8 0))),(V.lst 66 .nil [])])] [t2]) []).bind fun a22=>((ck [(tyI .i64) t0,(tyI .i64) t1,(tyG 65) a22.1] [t0,t1,a22.1,(V.lst 66 .nil [])]).map (.agg 76)).bind fun a23=>(CY (tyG 76) 77 [(V.agg 76 [(V.int .i64 0),(V.int .i64 0),(V.agg 65 (List.replicate 32 (V.int .u8 0))),(V.lst 66 .nil [])]),(V.agg 76 [(V.int .i64 0),(V.int .i64 0),(V.agg 65 (List.replicate 32 (V.int .u8 0))),(V.lst 66 .nil [])])] (V.ref 1 [] 77) a23).bind fun a24=>(E5 t3).bind fun a25=>Um (V.ref 0 [] 77) (V.ref 1 [] 77) t3 a25 (V.int .i64 0) a24:=
 Au (by kernel_rfl)
def Un (t4 t34 t35 t36:V) (h:List V):Rv:=lp W 60 0 (cd 60 4863) (bk 0 (sk 60 0 1023 (lv 60 0))) ⟨[(4,t4),(34,t34),(35,t35),(36,t36)],h⟩
theorem TB (t4 t34 t35 t36:V) (h:List V):Un t4 t34 t35 t36 h=
 (AL .lss t36 t35).bind fun a1=>V.ite a1
  ((Eg 66 t34 t36).bind fun a2=>(AV h 66 a2).bind fun a3=>(CY (tyG 65) 66 (h++[(V.agg 65 (List.replicate 32 (V.int .u8 0)))]) (V.ref (List.length h) [] 66) a3).bind fun a4=>(AV a4 66 (V.ref (List.length h) [] 66)).bind fun a5=>(Cl 126 (AQ [t4,a5]) a4).bind fun a6=>(AL .add t36 (V.int .i64 1)).bind fun a7=>if AZ (List.length h) [t4,t34,t35,a7]=true then Un t4 t34 t35 a7 (List.take (List.length h) a6.2)else none)
  ((Cl 71 (AQ [t4]) h).bind fun a8=>if(List.all [(V.int .i64 0),a8.1] V.okE)=true then AP 0 a8.2 (V.tup [a8.1,(V.int .i64 0)])else none):=
 DC (by kernel_rfl)
theorem AEG (t0:V):Cl 60 [t0] []=
 if((tyG 76) (V.weak t0)&&V.under 0 (V.weak t0))=true then(CW [(V.weak t0)] 77 (V.ref 0 [] 77)).bind fun a9=>(Cl 125 (AB [(V.weak t0)] [a9]) []).bind fun a10=>(un .not a10.1).bind fun a11=>V.ite a11
  (if(List.all [(V.int .i64 120),(V.str [])] V.okE)=true then AP 0 [(V.weak t0)] (V.tup [(V.str []),(V.int .i64 120)])else none)
  ((Cl 68 (AQ []) [(V.weak t0)]).bind fun a12=>(Cl 69 (AQ [a12.1,(V.int .u64 67)]) a12.2).bind fun a13=>(fA 77 3 0 (V.ref 0 [] 77)).bind fun a14=>(AV a13.2 3 a14).bind fun a15=>(SG .u64 a15).bind fun a16=>(Cl 69 (AQ [a12.1,a16]) a13.2).bind fun a17=>(fA 77 3 1 (V.ref 0 [] 77)).bind fun a18=>(AV a17.2 3 a18).bind fun a19=>(SG .u64 a19).bind fun a20=>(Cl 69 (AQ [a12.1,a20]) a17.2).bind fun a21=>(fA 77 66 2 (V.ref 0 [] 77)).bind fun a22=>(AV a21.2 66 a22).bind fun a23=>(Cl 126 (AQ [a12.1,a23]) a21.2).bind fun a24=>(fA 77 49 3 (V.ref 0 [] 77)).bind fun a25=>(CW a24.2 49 a25).bind fun a26=>(E5 a26).bind fun a27=>(SG .u64 a27).bind fun a28=>(Cl 69 (AQ [a12.1,a28]) a24.2).bind fun a29=>(fA 77 49 3 (V.ref 0 [] 77)).bind fun a30=>(CW a29.2 49 a30).bind fun a31=>(E5 a31).bind fun a32=>Un a12.1 a31 a32 (V.int .i64 0) a29.2)else none:=
 Au (by kernel_rfl)
def AEH (k:Rv):Rv:=
 k
def AEI (t0:V) (h:List V) (k:V→Rv):Rv:=
 (Cl 127 (AB h [(V.weak t0)]) []).bind fun r=>k r.1
def AEJ (t4:V) (k:V→Rv):Rv:=
 (AL .neq t4 (V.int .i64 0)).bind fun t11=>k t11
def AEK (t4:V) (k:V→V→Rv):Rv:=
 k (V.str []) t4
def AEL (h:List V) (k:V→List V→Rv):Rv:=
 (Cl 68 (AQ []) h).bind fun r=>k r.1 r.2
def AEM (t0 t5:V) (h:List V) (k:List V→Rv):Rv:=
 (lenV P 39 (V.weak t0)).bind fun t16=>(conv P h 3 132 t16).bind fun t17=>(Cl 69 (AQ [t5,t17]) h).bind fun r=>k r.2
def AEN (t0:V) (h:List V) (k:V→V→V→Rv):Rv:=
 (Cl 89 (AB h [t0]) []).bind fun r=>(lenV P 42 r.1).bind fun t21=>k r.1 t21 (V.int .i64 0)
def Uo (t5 t20 t21 t22:V) (h:List V):Rv:=lp W 61 0 (cd 61 303) (bk 0 (sk 61 0 63 (lv 61 0))) ⟨[(5,t5),(20,t20),(21,t21),(22,t22)],h⟩
def Y5 (t21 t22:V) (k:V→Rv):Rv:=
 (AL .lss t22 t21).bind fun t23=>k t23
def AEO (t20 t22:V) (h:List V) (k:V→Rv):Rv:=
 (AX P 42 t20 t22).bind fun t24=>(AV h 9 t24).bind fun t25=>k t25
def AEP (t5 t7:V) (h:List V) (k:List V→Rv):Rv:=
 (Cl 70 (AQ [t5,t7]) h).bind fun r=>k r.2
def AAF (t22:V) (k:V→Rv):Rv:=
 (AL .add t22 (V.int .i64 1)).bind fun t29=>k t29
def AAG (t5:V) (h:List V) (k:V→V→List V→Rv):Rv:=
 (Cl 71 (AQ [t5]) h).bind fun r=>k r.1 (V.int .i64 0) r.2
theorem TD (t5 t20 t21 t22:V) (h:List V):Uo t5 t20 t21 t22 h=
 Y5 t21 t22 fun a1=>
  V.ite a1
  (AEO t20 t22 h fun a2=>
  AEP t5 a2 h fun a3=>
  AAF t22 fun a4=>
  Uo t5 t20 t21 a4 a3)
  (AAG t5 h fun a5 a6 a7=>
  if(List.all [a6,a5] V.okE)=true then AP 0 a7 (V.tup [a5,a6])else none):=
 DC (by kernel_rfl)
theorem ALh (t0:V):Cl 61 [t0] []=
 AEH (AEI t0 [] fun a8=>
  AEJ a8 fun a9=>
  V.ite a9
  (AEK a8 fun a10 a11=>
  if(List.all [a11,a10] V.okE)=true then AP 0 [] (V.tup [a10,a11])else none)
  (AEL [] fun a12 a13=>
  AEM t0 a12 a13 fun a14=>
  AEN t0 a14 fun a15 a16 a17=>
  Uo a12 a15 a16 a17 a14)):=
 Au (by kernel_rfl)
theorem AEQ (t0:V):Cl 62 [t0] []=
 if((tyG 85) t0&&V.under 0 t0)=true then(AV [t0] 86 (V.ref 0 [] 86)).bind fun a1=>(Cl 128 (AB [t0] [a1]) []).bind fun a2=>(AL .neq a2.1 (V.int .i64 0)).bind fun a3=>V.ite a3
  (AP 0 [t0] (V.str []))
  ((Cl 68 (AQ []) [t0]).bind fun a4=>(fA 86 3 0 (V.ref 0 [] 86)).bind fun a5=>(AV a4.2 3 a5).bind fun a6=>(SG .u64 a6).bind fun a7=>(Cl 69 (AQ [a4.1,a7]) a4.2).bind fun a8=>(fA 86 2 1 (V.ref 0 [] 86)).bind fun a9=>(AV a8.2 2 a9).bind fun a10=>(Cl 129 (AQ [a4.1,a10]) a8.2).bind fun a11=>(fA 86 4 2 (V.ref 0 [] 86)).bind fun a12=>(AV a11.2 4 a12).bind fun a13=>(Cl 130 (AB a11.2 [a13]) []).bind fun a14=>(Cl 69 (AQ [a4.1,a14.1]) a11.2).bind fun a15=>(fA 86 4 3 (V.ref 0 [] 86)).bind fun a16=>(AV a15.2 4 a16).bind fun a17=>(Cl 130 (AB a15.2 [a17]) []).bind fun a18=>(Cl 69 (AQ [a4.1,a18.1]) a15.2).bind fun a19=>(fA 86 2 4 (V.ref 0 [] 86)).bind fun a20=>(AV a19.2 2 a20).bind fun a21=>(Cl 129 (AQ [a4.1,a21]) a19.2).bind fun a22=>(Cl 71 (AQ [a4.1]) a22.2).bind fun a23=>AP 0 a23.2 a23.1)else none:=
 Au (by kernel_rfl)
def Ur (t3 t9 t10 t11:V) (h:List V):Rv:=lp W 64 0 (cd 64 75) (bk 0 (sk 64 0 15 (lv 64 0))) ⟨[(3,t3),(9,t9),(10,t10),(11,t11)],h⟩
theorem TF (t3 t9 t10 t11:V) (h:List V):Ur t3 t9 t10 t11 h=
 (AL .lss t11 t10).bind fun a1=>V.ite a1
  ((Eg 86 t9 t11).bind fun a2=>(AV h 86 a2).bind fun a3=>(CY (tyG 85) 86 (h++[(V.agg 85 [(V.int .i64 0),(V.int .i64 0),(V.bool false),(V.bool false),(V.int .i64 0)])]) (V.ref (List.length h) [] 86) a3).bind fun a4=>(AV a4 86 (V.ref (List.length h) [] 86)).bind fun a5=>(Cl 62 (AB a4 [a5]) []).bind fun a6=>(Eg 9 (V.weak t3) t11).bind fun a7=>(CY tyS 9 a4 a7 a6.1).bind fun a8=>(AL .add t11 (V.int .i64 1)).bind fun a9=>if AZ (List.length h) [t3,t9,t10,a9]=true then Ur t3 t9 t10 a9 (List.take (List.length h) a8)else none)
  (AP 0 h t3):=
 DC (by kernel_rfl)
theorem ALi (t0:V):Cl 64 [t0] []=
 (E5 (V.weak t0)).bind fun a10=>(mkL 9 (V.str []) a10 a10).bind fun a11=>(DN [] a11).bind fun a12=>(E5 t0).bind fun a13=>Ur a12.1 t0 a13 (V.int .i64 0) a12.2:=
 Au (by kernel_rfl)
def AER (k:Rv):Rv:=
 k
def AES (h:List V) (k:V→List V→Rv):Rv:=
 (bld P 191 []).bind fun t1=>if(Bj P 191 (V.weak t1)&&V.under (List.length h) (V.weak t1))=true then k (V.ref (List.length h) [] 191) (h++[(V.weak t1)])else none
theorem ALj (h:List V):Cl 68 [] h=
 AER (AES h fun a1 a2=>
  Uf a2 a1):=
 Au (by kernel_rfl)
def Us (t0 t1:V) (n:Nat) (h:List V):Rv:=lp W 69 0 (cd 69 8) (bk 0 (sk 69 0 3 (lv 69 n))) ⟨[(0,t0),(1,t1)],h⟩
def AET (t1:V) (k:V→Rv):Rv:=
 (AL .geq t1 (V.int .u64 128)).bind fun t5=>k t5
def AEU (t0 t1:V) (h:List V) (k:List V→Rv):Rv:=
 (BD t0).bind fun t10=>(BH P 191 0 t10).bind fun t11=>(BN h 172 t11).bind fun r=>(conv P r.2 132 5 t1).bind fun t14=>(AL .or t14 (V.int .u8 128)).bind fun t15=>(CS P 172 1 [(0,t15)]).bind fun t16=>(Du P 172 r.2 r.1 t16).bind fun t17=>(BD t0).bind fun t18=>(BH P 191 0 t18).bind fun t19=>(Gu P r.2 172 t19 t17).bind fun a1=>k a1
def AEV (t1:V) (k:V→Rv):Rv:=
 (AL .shr t1 (V.int .u64 7)).bind fun t7=>k t7
def AEW (t0 t1:V) (h:List V) (k:List V→Rv):Rv:=
 (BD t0).bind fun t22=>(BH P 191 0 t22).bind fun t23=>(BN h 172 t23).bind fun r=>(conv P r.2 132 5 t1).bind fun t26=>(CS P 172 1 [(0,t26)]).bind fun t27=>(Du P 172 r.2 r.1 t27).bind fun t28=>(BD t0).bind fun t29=>(BH P 191 0 t29).bind fun t30=>(Gu P r.2 172 t30 t28).bind fun a1=>k a1
theorem ACs (t0 t1:V) (n:Nat) (h:List V):Us t0 t1 n h=
 AET t1 fun a2=>
  V.ite a2
  (AEU t0 t1 h fun a3=>
  AEV t1 fun a4=>
  Us t0 a4 n a3)
  (AEW t0 t1 h fun a5=>
  if(List.all [] V.okE)=true then AP n a5 (V.tup [])else none):=
 DC (by kernel_rfl)
theorem ALk (t0 t1:V) (h:List V):Cl 69 [t0,t1] h=
 Us t0 t1 (List.length h) h:=
 Au (by kernel_rfl)
def AEX (t0 t1:V) (h:List V) (k:List V→Rv):Rv:=
 (lenV P 9 t1).bind fun t6=>(conv P h 3 132 t6).bind fun t7=>(Cl 69 (AQ [t0,t7]) h).bind fun r=>k r.2
def AEY (t0 t1:V) (h:List V) (k:List V→Rv):Rv:=
 (BD t0).bind fun t11=>(BH P 191 0 t11).bind fun t12=>(BN h 172 t12).bind fun r=>(Du P 172 r.2 r.1 t1).bind fun t15=>(BD t0).bind fun t16=>(BH P 191 0 t16).bind fun t17=>(Gu P r.2 172 t17 t15).bind fun a1=>k a1
theorem ALl (t0 t1:V) (h:List V):Cl 70 [t0,t1] h=
 AEX t0 t1 h fun a1=>
  AEY t0 t1 a1 fun a2=>
  if(List.all [] V.okE)=true then AP (List.length h) a2 (V.tup [])else none:=
 Au (by kernel_rfl)
def AEZ (k:Rv):Rv:=
 k
def AEa (t0:V) (h:List V) (k:V→Rv):Rv:=
 (BD t0).bind fun t4=>(BH P 191 0 t4).bind fun t5=>(CW h 172 t5).bind fun t6=>(conv P h 172 9 t6).bind fun t7=>k t7
theorem ALm (t0:V) (h:List V):Cl 71 [t0] h=
 AEZ (AEa t0 h fun a1=>
  AP (List.length h) h a1):=
 Au (by kernel_rfl)
theorem ALn (t0:V):Cl 83 [t0] []=
 (Cl 64 (AB [(V.agg 65 (List.replicate 32 (V.int .u8 0)))] [t0]) []).bind fun a1=>(Cl 88 (AB [(V.agg 65 (List.replicate 32 (V.int .u8 0)))] [a1.1]) []).bind fun a2=>(CY (tyG 65) 66 [(V.agg 65 (List.replicate 32 (V.int .u8 0)))] (V.ref 0 [] 66) a2.1).bind fun a3=>(AV a3 66 (V.ref 0 [] 66)).bind fun a4=>AP 0 a3 a4:=
 Au (by kernel_rfl)
theorem ALo (t0:V):Cl 88 [t0] []=
 (E5 (V.weak t0)).bind fun a1=>(Cl 133 (AB [(V.agg 65 (List.replicate 32 (V.int .u8 0)))] [t0]) []).bind fun a2=>(Cl 146 (AB [(V.agg 65 (List.replicate 32 (V.int .u8 0)))] [a1,a2.1]) []).bind fun a3=>(CY (tyG 65) 66 [(V.agg 65 (List.replicate 32 (V.int .u8 0)))] (V.ref 0 [] 66) a3.1).bind fun a4=>(AV a4 66 (V.ref 0 [] 66)).bind fun a5=>AP 0 a4 a5:=
 Au (by kernel_rfl)
def AEb (k:Rv):Rv:=
 k
def AEc (k:V→Rv):Rv:=
 k (V.weak (V.lst 9 .nil []))
def AEd (t0:V) (h:List V) (k:V→V→V→Rv):Rv:=
 (Cl 101 (AB h [t0]) []).bind fun r=>(lenV P 39 r.1).bind fun t8=>k r.1 t8 (V.int .i64 0)
def Ut (t3 t7 t8 t9:V) (h:List V):Rv:=lp W 89 0 (cd 89 75) (bk 0 (sk 89 0 15 (lv 89 0))) ⟨[(3,t3),(7,t7),(8,t8),(9,t9)],h⟩
def Y6 (t8 t9:V) (k:V→Rv):Rv:=
 (AL .lss t9 t8).bind fun t10=>k t10
def AEe (t7 t9:V) (h:List V) (k:V→List V→Rv):Rv:=
 (AX P 39 t7 t9).bind fun t11=>(AV h 152 t11).bind fun t12=>(Gu P (h++[zero P 152]) 152 (V.ref (List.length h) [] 152) t12).bind fun a1=>k (V.ref (List.length h) [] 152) a1
def AEf (t3 t5:V) (h:List V) (k:V→Rv):Rv:=
 (AV h 152 t5).bind fun t14=>(Cl 147 (AB h [t14]) []).bind fun r=>(CS P 42 1 [(0,r.1)]).bind fun t16=>(Du P 42 h t3 t16).bind fun t17=>k t17
def AEg (t9:V) (k:V→Rv):Rv:=
 (AL .add t9 (V.int .i64 1)).bind fun t18=>k t18
def AEh (t3:V) (k:V→Rv):Rv:=
 k t3
theorem TG (t3 t7 t8 t9:V) (h:List V):Ut t3 t7 t8 t9 h=
 Y6 t8 t9 fun a2=>
  V.ite a2
  (AEe t7 t9 h fun a3 a4=>
  AEf t3 a3 a4 fun a5=>
  AEg t9 fun a6=>
  if AZ (List.length h) [a5,t7,t8,a6]=true then Ut a5 t7 t8 a6 (List.take (List.length h) a4)else none)
  (AEh t3 fun a7=>
  AP 0 h a7):=
 DC (by kernel_rfl)
theorem ALp (t0:V):Cl 89 [t0] []=
 AEb (AEc fun a8=>
  AEd t0 [] fun a9 a10 a11=>
  Ut a8 a9 a10 a11 []):=
 Au (by kernel_rfl)
def Ov (t1 t3 t4:V) (h:List V):Rv:=lp W 95 0 (cd 95 151) (bk 0 (sk 95 0 31 (lv 95 0))) ⟨[(1,t1),(3,t3),(4,t4)],h⟩
def Uu (t1 t3 t4 t5 t6:V) (m0:Nat) (h:List V):Rv:=lp W 95 2 (cd 95 40087) (bk 2 (bk 1 (sk 95 0 919 (lk 95 0 m0 151 (bk 0 (sk 95 0 31 (lv 95 0))))))) ⟨[(1,t1),(3,t3),(4,t4),(5,t5),(6,t6)],h⟩
theorem TI (t1 t3 t4 t5 t6:V) (m0:Nat) (h:List V):Uu t1 t3 t4 t5 t6 m0 h=
 (AL .lss t6 t4).bind fun a1=>V.ite a1
  (jn (fun a2=>
 (AL .add t6 (V.int .i64 1)).bind fun a3=>Uu t1 a2 t4 t5 a3 m0 h) (fun(a4:V→Rv)=>V.ite t3 (a4 (V.bool true)) ((fA 24 22 1 t1).bind fun a5=>(CW h 22 a5).bind fun a6=>(Eg 96 a6 t6).bind fun a7=>(fA 96 3 0 a7).bind fun a8=>(AV h 3 a8).bind fun a9=>(fA 96 3 0 t5).bind fun a10=>(AV h 3 a10).bind fun a11=>(AL .eql a9 a11).bind fun a12=>V.ite a12 ((fA 24 22 1 t1).bind fun a13=>(CW h 22 a13).bind fun a14=>(Eg 96 a14 t6).bind fun a15=>(fA 96 3 1 a15).bind fun a16=>(AV h 3 a16).bind fun a17=>(fA 96 3 1 t5).bind fun a18=>(AV h 3 a18).bind fun a19=>(AL .eql a17 a19).bind fun a20=>a4 a20) (a4 (V.bool false)))))
  ((AL .add t4 (V.int .i64 1)).bind fun a21=>if AZ m0 [t1,t3,a21]=true then Ov t1 t3 a21 (List.take m0 h)else none):=
 DC (by kernel_rfl)
theorem TJ (t1 t3 t4:V) (h:List V):Ov t1 t3 t4 h=
 (fA 24 22 1 t1).bind fun a22=>(CW h 22 a22).bind fun a23=>(E5 a23).bind fun a24=>(AL .lss t4 a24).bind fun a25=>V.ite a25
  ((fA 24 22 1 t1).bind fun a26=>(CW h 22 a26).bind fun a27=>(Eg 96 a27 t4).bind fun a28=>(AV h 96 a28).bind fun a29=>(CY (tyG 95) 96 (h++[(V.agg 95 [(V.int .i64 0),(V.int .i64 0),(V.int .i64 0)])]) (V.ref (List.length h) [] 96) a29).bind fun a30=>jn (fun a31=>
 V.ite a31
  (AP 0 a30 (V.int .i64 50))
  (Uu t1 t3 t4 (V.ref (List.length h) [] 96) (V.int .i64 0) (List.length h) a30)) (fun(a32:V→Rv)=>(fA 96 3 0 (V.ref (List.length h) [] 96)).bind fun a33=>(AV a30 3 a33).bind fun a34=>(AL .lss a34 (V.int .i64 0)).bind fun a35=>V.ite a35 (a32 (V.bool true)) ((fA 96 3 0 (V.ref (List.length h) [] 96)).bind fun a36=>(AV a30 3 a36).bind fun a37=>(fA 24 3 0 t1).bind fun a38=>(AV a30 3 a38).bind fun a39=>(AL .geq a37 a39).bind fun a40=>V.ite a40 (a32 (V.bool true)) ((fA 96 3 1 (V.ref (List.length h) [] 96)).bind fun a41=>(AV a30 3 a41).bind fun a42=>(AL .lss a42 (V.int .i64 0)).bind fun a43=>V.ite a43 (a32 (V.bool true)) ((fA 96 3 1 (V.ref (List.length h) [] 96)).bind fun a44=>(AV a30 3 a44).bind fun a45=>(fA 24 3 0 t1).bind fun a46=>(AV a30 3 a46).bind fun a47=>(AL .geq a45 a47).bind fun a48=>V.ite a48 (a32 (V.bool true)) ((fA 96 2 2 (V.ref (List.length h) [] 96)).bind fun a49=>(AV a30 2 a49).bind fun a50=>(AL .lss a50 (V.int .i64 0)).bind fun a51=>V.ite a51 (a32 (V.bool true)) ((fA 96 2 2 (V.ref (List.length h) [] 96)).bind fun a52=>(AV a30 2 a52).bind fun a53=>(AL .gtr a53 (V.int .i64 1048576)).bind fun a54=>a32 a54)))))))
  (V.ite t3
  (AP 0 h (V.int .i64 51))
  (AP 0 h (V.int .i64 0))):=
 DC (by kernel_rfl)
theorem Uw (t0:V):Cl 95 [t0] []=
 if((tyG 23) (V.weak t0)&&V.under 0 (V.weak t0))=true then jn (fun a55=>
 V.ite a55
  (AP 0 [(V.weak t0)] (V.int .i64 50))
  (Ov (V.ref 0 [] 24) (V.bool false) (V.int .i64 0) [(V.weak t0)])) (fun(a56:V→Rv)=>(fA 24 3 0 (V.ref 0 [] 24)).bind fun a57=>(AV [(V.weak t0)] 3 a57).bind fun a58=>(AL .lss a58 (V.int .i64 1)).bind fun a59=>V.ite a59 (a56 (V.bool true)) ((fA 24 3 0 (V.ref 0 [] 24)).bind fun a60=>(AV [(V.weak t0)] 3 a60).bind fun a61=>(AL .gtr a61 (V.int .i64 64)).bind fun a62=>V.ite a62 (a56 (V.bool true)) ((fA 24 22 1 (V.ref 0 [] 24)).bind fun a63=>(CW [(V.weak t0)] 22 a63).bind fun a64=>(E5 a64).bind fun a65=>(AL .gtr a65 (V.int .i64 512)).bind fun a66=>a56 a66)))else none:=
 Au (by kernel_rfl)
theorem ALq (t0:V):Cl 96 [t0] []=
 jn (fun a1=>
 AP 0 [] a1) (fun(a2:V→Rv)=>(AL .eql t0 (V.str [109,97,120])).bind fun a3=>V.ite a3 (a2 (V.bool true)) ((AL .eql t0 (V.str [108,97,98,101,108])).bind fun a4=>V.ite a4 (a2 (V.bool true)) ((AL .eql t0 (V.str [115,115,115,112])).bind fun a5=>V.ite a5 (a2 (V.bool true)) ((AL .eql t0 (V.str [98,102,115])).bind fun a6=>V.ite a6 (a2 (V.bool true)) ((AL .eql t0 (V.str [100,101,103,114,101,101])).bind fun a7=>V.ite a7 (a2 (V.bool true)) ((AL .eql t0 (V.str [114,97,110,107])).bind fun a8=>V.ite a8 (a2 (V.bool true)) ((AL .eql t0 (V.str [119,97,108,107,115])).bind fun a9=>a2 a9))))))):=
 Au (by kernel_rfl)
def AAH (k:Rv):Rv:=
 k
def AAI (t0:V) (h:List V) (k:V→List V→Rv):Rv:=
 (Du P 39 h (V.lst 152 .nil []) t0).bind fun v=>(DN h v).bind fun r=>k r.1 r.2
def AAJ (t3:V) (h:List V) (k:List V→Rv):Rv:=
 (Yt 2000153 152 [(V.weak t3),(V.clo 153 [])] h).bind fun r=>k r.2
def AAK (t3:V) (k:V→Rv):Rv:=
 k t3
theorem AHS (t0:V):Cl 101 [t0] []=
 AAH (AAI t0 [] fun a1 a2=>
  AAJ a1 a2 fun a3=>
  AAK a1 fun a4=>
  AP 0 a3 a4):=
 Au (by kernel_rfl)
def KL (t4 t5:V) (h:List V):Rv:=lp W 102 0 (cd 102 303) (bk 0 (sk 102 0 63 (lv 102 0))) ⟨[(4,t4),(5,t5)],h⟩
theorem Ju (t4 t5:V) (h:List V):KL t4 t5 h=
 (E5 (V.weak t4)).bind fun a1=>(AL .lss t5 a1).bind fun a2=>V.ite a2
  ((AL .sub t5 (V.int .i64 1)).bind fun a3=>(Eg 96 (V.weak t4) a3).bind fun a4=>(AV h 96 a4).bind fun a5=>(Eg 96 (V.weak t4) t5).bind fun a6=>(AV h 96 a6).bind fun a7=>(Cl 158 (AB h [a5,a7]) []).bind fun a8=>(AL .eql a8.1 (V.int .i64 0)).bind fun a9=>V.ite a9
  (AP 0 h (V.int .i64 51))
  ((AL .add t5 (V.int .i64 1)).bind fun a10=>KL t4 a10 h))
  (AP 0 h (V.int .i64 0)):=
 DC (by kernel_rfl)
theorem KN (t0:V):Cl 102 [t0] []=
 if((tyG 23) (V.weak t0)&&V.under 0 (V.weak t0))=true then(if(List.all [(V.ref 0 [] 24)] V.capOk)=true then some (V.clo 154 [(V.ref 0 [] 24)])else none).bind fun a11=>jn (fun a12 a13=>
 V.ite a12
  (AP 0 a13 (V.int .i64 50))
  ((fA 24 22 1 (V.ref 0 [] 24)).bind fun a14=>(CW a13 22 a14).bind fun a15=>(Cl 157 (AQ [a15]) a13).bind fun a16=>(Cl 156 (AQ [a16.1,(V.clo 158 [])]) a16.2).bind fun a17=>KL a17.1 (V.int .i64 1) a17.2)) (fun(a18:V→List V→Rv)=>(fA 24 3 0 (V.ref 0 [] 24)).bind fun a19=>(AV [(V.weak t0)] 3 a19).bind fun a20=>(AL .lss a20 (V.int .i64 1)).bind fun a21=>V.ite a21 (a18 (V.bool true) [(V.weak t0)]) ((fA 24 3 0 (V.ref 0 [] 24)).bind fun a22=>(AV [(V.weak t0)] 3 a22).bind fun a23=>(AL .gtr a23 (V.int .i64 64)).bind fun a24=>V.ite a24 (a18 (V.bool true) [(V.weak t0)]) ((fA 24 22 1 (V.ref 0 [] 24)).bind fun a25=>(CW [(V.weak t0)] 22 a25).bind fun a26=>(E5 a26).bind fun a27=>(AL .gtr a27 (V.int .i64 512)).bind fun a28=>V.ite a28 (a18 (V.bool true) [(V.weak t0)]) ((fA 24 22 1 (V.ref 0 [] 24)).bind fun a29=>(CW [(V.weak t0)] 22 a29).bind fun a30=>(Cl 155 (AQ [a30,a11]) [(V.weak t0)]).bind fun a31=>a18 a31.1 a31.2))))else none:=
 Au (by kernel_rfl)
theorem AHT (t0:V):Cl 103 [t0] []=
 (Nr 9 false (ck [tyS (V.str [109,97,120]),tyS (V.str [108,97,98,101,108]),tyS (V.str [115,115,115,112]),tyS (V.str [98,102,115]),tyS (V.str [100,101,103,114,101,101]),tyS (V.str [114,97,110,107]),tyS (V.str [119,97,108,107,115])] [(V.str [109,97,120]),(V.str [108,97,98,101,108]),(V.str [115,115,115,112]),(V.str [98,102,115]),(V.str [100,101,103,114,101,101]),(V.str [114,97,110,107]),(V.str [119,97,108,107,115])])).bind fun a1=>(Cl 159 (AB [] [a1,t0]) []).bind fun a2=>AP 0 [] a2.1:=
 Au (by kernel_rfl)
theorem AHU (t0 t1:V):Cl 104 [t0,t1] []=
 jn (fun a1=>
 AP 0 [] a1) (fun(a2:V→Rv)=>(AL .geq t0 (V.int .i64 1)).bind fun a3=>V.ite a3 ((AL .leq t0 (V.int .i64 64)).bind fun a4=>V.ite a4 ((AL .geq t1 (V.int .i64 1)).bind fun a5=>V.ite a5 ((AL .leq t1 (V.int .i64 64)).bind fun a6=>a2 a6) (a2 (V.bool false))) (a2 (V.bool false))) (a2 (V.bool false))):=
 Au (by kernel_rfl)
theorem AHV (t0 t1 t2:V) (h:List V):Cl 105 [t0,t1,t2] h=
 (AV h 3 t1).bind fun a1=>(Cl 106 (AB h [t0,a1]) []).bind fun a2=>(AV h 3 t2).bind fun a3=>(AL .eql a2.1 a3).bind fun a4=>AP (List.length h) h a4:=
 Au (by kernel_rfl)
theorem AHW (t0 t1:V):Cl 106 [t0,t1] []=
 jn (fun a1=>
 V.ite a1
  (AP 0 [] (V.int .i64 (-1)))
  ((SG .u32 t0).bind fun a2=>(Cl 160 (AB [] [a2]) []).bind fun a3=>(SG .u32 t1).bind fun a4=>(AL .rem a3.1 a4).bind fun a5=>(SG .i64 a5).bind fun a6=>AP 0 [] a6)) (fun(a7:V→Rv)=>(AL .lss t0 (V.int .i64 0)).bind fun a8=>V.ite a8 (a7 (V.bool true)) ((AL .lss t1 (V.int .i64 1)).bind fun a9=>V.ite a9 (a7 (V.bool true)) ((AL .gtr t1 (V.int .i64 64)).bind fun a10=>a7 a10))):=
 Au (by kernel_rfl)
theorem AHX (t0 t1:V):Cl 114 [t0,t1] []=
 if((tyI .i64) t1&&V.under 0 t1)=true then(if(List.all [(V.ref 0 [] 3)] V.capOk)=true then some (V.clo 167 [(V.ref 0 [] 3)])else none).bind fun a1=>(Cl 123 (AQ [t0,a1]) [t1]).bind fun a2=>(Cl 101 (AB a2.2 [a2.1]) []).bind fun a3=>AP 0 a2.2 a3.1 else none:=
 Au (by kernel_rfl)
theorem GR (t0 t1 t2:V):Cl 115 [t0,t1,t2] []=
 (Cl 103 (AB [] [t0]) []).bind fun a1=>(un .not a1.1).bind fun a2=>V.ite a2
  (if(List.all [(V.int .i64 70),(V.int .i64 0)] V.okE)=true then AP 0 [] (V.tup [(V.int .i64 0),(V.int .i64 70)])else none)
  (jn (fun a3=>
 V.ite a3
  (if(List.all [(V.int .i64 71),(V.int .i64 0)] V.okE)=true then AP 0 [] (V.tup [(V.int .i64 0),(V.int .i64 71)])else none)
  ((AL .add t1 t2).bind fun a4=>(AL .eql t0 (V.str [109,97,120])).bind fun a5=>V.ite a5
  ((Vx t1 t2).bind fun a6=>(Cl 116 (AB [] [a6]) []).bind fun a7=>V.ite a7.1
  (if(List.all [(V.int .i64 71),(V.int .i64 0)] V.okE)=true then AP 0 [] (V.tup [(V.int .i64 0),(V.int .i64 71)])else none)
  (if(List.all [(V.int .i64 0),a6] V.okE)=true then AP 0 [] (V.tup [a6,(V.int .i64 0)])else none))
  ((AL .eql t0 (V.str [108,97,98,101,108])).bind fun a8=>V.ite a8
  (V.ite a8
  ((Ud t1 t2).bind fun a9=>(Cl 116 (AB [] [a9]) []).bind fun a10=>V.ite a10.1
  (if(List.all [(V.int .i64 71),(V.int .i64 0)] V.okE)=true then AP 0 [] (V.tup [(V.int .i64 0),(V.int .i64 71)])else none)
  (if(List.all [(V.int .i64 0),a9] V.okE)=true then AP 0 [] (V.tup [a9,(V.int .i64 0)])else none))
  ((Cl 116 (AB [] [a4]) []).bind fun a11=>V.ite a11.1
  (if(List.all [(V.int .i64 71),(V.int .i64 0)] V.okE)=true then AP 0 [] (V.tup [(V.int .i64 0),(V.int .i64 71)])else none)
  (if(List.all [(V.int .i64 0),a4] V.okE)=true then AP 0 [] (V.tup [a4,(V.int .i64 0)])else none)))
  ((AL .eql t0 (V.str [115,115,115,112])).bind fun a12=>V.ite a12
  (V.ite a12
  ((Ud t1 t2).bind fun a13=>(Cl 116 (AB [] [a13]) []).bind fun a14=>V.ite a14.1
  (if(List.all [(V.int .i64 71),(V.int .i64 0)] V.okE)=true then AP 0 [] (V.tup [(V.int .i64 0),(V.int .i64 71)])else none)
  (if(List.all [(V.int .i64 0),a13] V.okE)=true then AP 0 [] (V.tup [a13,(V.int .i64 0)])else none))
  ((Cl 116 (AB [] [a4]) []).bind fun a15=>V.ite a15.1
  (if(List.all [(V.int .i64 71),(V.int .i64 0)] V.okE)=true then AP 0 [] (V.tup [(V.int .i64 0),(V.int .i64 71)])else none)
  (if(List.all [(V.int .i64 0),a4] V.okE)=true then AP 0 [] (V.tup [a4,(V.int .i64 0)])else none)))
  ((AL .eql t0 (V.str [98,102,115])).bind fun a16=>V.ite a16
  ((Ud t1 t2).bind fun a17=>(Cl 116 (AB [] [a17]) []).bind fun a18=>V.ite a18.1
  (if(List.all [(V.int .i64 71),(V.int .i64 0)] V.okE)=true then AP 0 [] (V.tup [(V.int .i64 0),(V.int .i64 71)])else none)
  (if(List.all [(V.int .i64 0),a17] V.okE)=true then AP 0 [] (V.tup [a17,(V.int .i64 0)])else none))
  ((Cl 116 (AB [] [a4]) []).bind fun a19=>V.ite a19.1
  (if(List.all [(V.int .i64 71),(V.int .i64 0)] V.okE)=true then AP 0 [] (V.tup [(V.int .i64 0),(V.int .i64 71)])else none)
  (if(List.all [(V.int .i64 0),a4] V.okE)=true then AP 0 [] (V.tup [a4,(V.int .i64 0)])else none))))))) (fun(a20:V→Rv)=>(Cl 116 (AB [] [t1]) []).bind fun a21=>V.ite a21.1 (a20 (V.bool true)) ((Cl 116 (AB [] [t2]) []).bind fun a22=>a20 a22.1))):=
 Au (by kernel_rfl)
theorem AHY (t0:V):Cl 116 [t0] []=
 jn (fun a1=>
 AP 0 [] a1) (fun(a2:V→Rv)=>(AL .gtr t0 (V.int .i64 1125899906842624)).bind fun a3=>V.ite a3 (a2 (V.bool true)) ((AL .lss t0 (V.int .i64 (-1125899906842624))).bind fun a4=>a2 a4)):=
 Au (by kernel_rfl)
theorem AHZ (t0 t1:V):Cl 117 [t0,t1] []=
 if((tyG 23) (V.weak t0)&&V.under 0 (V.weak t0))=true then if((tyI .i64) t1&&V.under 1 t1)=true then(CW [(V.weak t0),t1] 24 (V.ref 0 [] 24)).bind fun a1=>(if(List.all [(V.ref 1 [] 3)] V.capOk)=true then some (V.clo 169 [(V.ref 1 [] 3)])else none).bind fun a2=>(Cl 168 (AQ [a1,a2]) [(V.weak t0),t1]).bind fun a3=>AP 0 a3.2 a3.1 else none else none:=
 Au (by kernel_rfl)
def AAL (t0 t1 t2:V) (h:List V) (k:V→V→V→List V→Rv):Rv:=
 if((tyG 25) t0&&V.under (List.length h) t0)=true then if((tyI .i64) t1&&V.under (List.length (h++[t0])) t1)=true then if((tyG 85) t2&&V.under (List.length ((h++[t0])++[t1])) t2)=true then k (V.ref (List.length h) [] 26) (V.ref (List.length (h++[t0])) [] 3) (V.ref (List.length ((h++[t0])++[t1])) [] 86) (((h++[t0])++[t1])++[t2])else none else none else none
def AAM (t5 t6:V) (h:List V) (k:V→List V→Rv):Rv:=
 (AV h 3 t5).bind fun t15=>(AL .gtr t15 (V.int .i64 0)).bind fun t16=>V.ite t16 ((fA 86 4 3 t6).bind fun t18=>(AV h 4 t18).bind fun t19=>(CY tyB 4 (h++[(V.bool false)]) (V.ref (List.length h) [] 4) t19).bind fun a1=>k (V.ref (List.length h) [] 4) a1) ((CY tyB 4 (h++[(V.bool false)]) (V.ref (List.length h) [] 4) (V.bool false)).bind fun a2=>k (V.ref (List.length h) [] 4) a2)
def AAN (t5 t6 t12:V) (k:V→Rv):Rv:=
 (if(List.all [t5,t6,t12] V.capOk)=true then some (V.clo 170 [t5,t6,t12])else none).bind fun t21=>k t21
def AAO (t4:V) (h:List V) (k:V→Rv):Rv:=
 (fA 26 9 0 t4).bind fun t22=>(AV h 9 t22).bind fun t23=>k t23
def AAP (t23:V) (k:V→Rv):Rv:=
 (AL .eql t23 (V.str [109,97,120])).bind fun t25=>k t25
def AAQ (t6 t13:V) (h:List V) (k:V→V→V→V→List V→Rv):Rv:=
 (fA 86 2 4 t6).bind fun t27=>(AV h 2 t27).bind fun t28=>(fA 86 2 1 t6).bind fun t29=>(AV h 2 t29).bind fun t30=>(AL .gtr t28 t30).bind fun t31=>BI P CJ W t13 [t31] h fun t32 a1=>if V.noOwn t32=true then(ext t32 0).bind fun t33=>(ext t32 1).bind fun t34=>(ext t32 2).bind fun t35=>(ext t32 3).bind fun t36=>k t33 t34 t35 t36 a1 else none
def AAR (t23:V) (k:V→Rv):Rv:=
 (AL .eql t23 (V.str [108,97,98,101,108])).bind fun t38=>k t38
def AAS (t6 t13:V) (h:List V) (k:V→V→V→V→List V→Rv):Rv:=
 (fA 86 2 4 t6).bind fun t40=>(AV h 2 t40).bind fun t41=>(fA 86 2 1 t6).bind fun t42=>(AV h 2 t42).bind fun t43=>(AL .lss t41 t43).bind fun t44=>BI P CJ W t13 [t44] h fun t45 a1=>if V.noOwn t45=true then(ext t45 0).bind fun t46=>(ext t45 1).bind fun t47=>(ext t45 2).bind fun t48=>(ext t45 3).bind fun t49=>k t46 t47 t48 t49 a1 else none
def AAT (t23:V) (k:V→Rv):Rv:=
 (AL .eql t23 (V.str [115,115,115,112])).bind fun t51=>k t51
def Ox (t5:V) (h:List V) (k:V→Rv):Rv:=
 (AV h 3 t5).bind fun t53=>(AL .eql t53 (V.int .i64 0)).bind fun t54=>k t54
def Oy (t4 t6:V) (h:List V) (k:V→V→V→V→Rv):Rv:=
 (fA 86 2 1 t6).bind fun t55=>(AV h 2 t55).bind fun t56=>(fA 86 3 0 t6).bind fun t57=>(AV h 3 t57).bind fun t58=>(fA 26 3 1 t4).bind fun t59=>(AV h 3 t59).bind fun t60=>(AL .eql t58 t60).bind fun t61=>k t56 (V.bool false) t61 (V.int .i64 0)
def Oz (t6 t13:V) (h:List V) (k:V→V→V→V→List V→Rv):Rv:=
 (fA 86 2 1 t6).bind fun t63=>(AV h 2 t63).bind fun t64=>(AL .lss t64 (V.int .i64 0)).bind fun t65=>V.ite t65 (BI P CJ W t13 [(V.bool true)] h fun t73 a1=>if V.noOwn t73=true then(ext t73 0).bind fun t74=>(ext t73 1).bind fun t75=>(ext t73 2).bind fun t76=>(ext t73 3).bind fun t77=>k t74 t75 t76 t77 a1 else none) ((fA 86 2 4 t6).bind fun t67=>(AV h 2 t67).bind fun t68=>(fA 86 2 1 t6).bind fun t69=>(AV h 2 t69).bind fun t70=>(AL .lss t68 t70).bind fun t71=>BI P CJ W t13 [t71] h fun a3 a2=>if V.noOwn a3=true then(ext a3 0).bind fun a4=>(ext a3 1).bind fun a5=>(ext a3 2).bind fun a6=>(ext a3 3).bind fun a7=>k a4 a5 a6 a7 a2 else none)
def O0 (t23:V) (k:V→Rv):Rv:=
 (AL .eql t23 (V.str [100,101,103,114,101,101])).bind fun t79=>k t79
def O3 (t12:V) (h:List V) (k:V→Rv):Rv:=
 (AV h 4 t12).bind fun t80=>k t80
def O4 (t6:V) (h:List V) (k:V→V→V→V→Rv):Rv:=
 (fA 86 2 4 t6).bind fun t81=>(AV h 2 t81).bind fun t82=>k t82 (V.bool false) (V.bool false) (V.int .i64 0)
def O5 (t5 t6:V) (h:List V) (k:V→V→V→V→Rv):Rv:=
 (fA 86 2 1 t6).bind fun t83=>(AV h 2 t83).bind fun t84=>(AV h 3 t5).bind fun t85=>(AL .eql t85 (V.int .i64 0)).bind fun t86=>k t84 (V.bool false) t86 (V.int .i64 1)
def O6 (t23:V) (k:V→Rv):Rv:=
 (AL .eql t23 (V.str [119,97,108,107,115])).bind fun t88=>k t88
def O7 (t5:V) (h:List V) (k:V→Rv):Rv:=
 (AV h 3 t5).bind fun t89=>(AL .eql t89 (V.int .i64 0)).bind fun t90=>k t90
def O8 (t6:V) (h:List V) (k:V→V→V→V→Rv):Rv:=
 (fA 86 2 1 t6).bind fun t91=>(AV h 2 t91).bind fun t92=>k t92 (V.bool false) (V.bool true) (V.int .i64 1)
def O9 (t6 t12:V) (h:List V) (k:V→V→V→V→Rv):Rv:=
 (fA 86 2 1 t6).bind fun t93=>(AV h 2 t93).bind fun t94=>(fA 86 2 4 t6).bind fun t95=>(AV h 2 t95).bind fun t96=>(AL .add t94 t96).bind fun t97=>(AV h 4 t12).bind fun t98=>(fA 86 2 4 t6).bind fun t99=>(AV h 2 t99).bind fun t100=>k t97 (V.bool false) t98 t100
def PD (t6:V) (h:List V) (k:V→Rv):Rv:=
 (fA 86 2 1 t6).bind fun t101=>(AV h 2 t101).bind fun t102=>k t102
def PE (t5:V) (h:List V) (k:V→Rv):Rv:=
 (AV h 3 t5).bind fun t103=>(AL .gtr t103 (V.int .i64 0)).bind fun t104=>k t104
def PG (t4 t5:V) (h:List V) (k:V→Rv):Rv:=
 (AV h 3 t5).bind fun t110=>(fA 26 3 2 t4).bind fun t111=>(AV h 3 t111).bind fun t112=>(AL .sub t112 (V.int .i64 1)).bind fun t113=>(AL .eql t110 t113).bind fun t114=>k t114
def PI (t14:V) (k:V→V→V→V→Rv):Rv:=
 k t14 (V.bool false) (V.bool false) (V.int .i64 0)
def PK (t3 t14:V) (h:List V) (k:V→V→V→V→Rv):Rv:=
 (AL .gtr t3 (V.int .i64 0)).bind fun t118=>(Vx t3 (V.int .i64 1)).bind fun t121=>(Cl 171 (AB h [t14,t121]) []).bind fun r=>k t14 (V.bool true) t118 r.1
def PL (t6:V) (h:List V) (k:V→Rv):Rv:=
 (fA 86 2 4 t6).bind fun t105=>(AV h 2 t105).bind fun t106=>(AL .mul t106 (V.int .i64 85)).bind fun t107=>(Cl 171 (AB h [t107,(V.int .i64 100)]) []).bind fun r=>(AL .add (V.int .i64 9830) r.1).bind fun t109=>k t109
def AAU (t23:V) (k:V→Rv):Rv:=
 (AL .eql t23 (V.str [98,102,115])).bind fun t52=>k t52
theorem AHa (t0 t1 t2 t3:V):Cl 118 [t0,t1,t2,t3] []=
 AAL t0 t1 t2 [] fun a8 a9 a10 a11=>
  AAM a9 a10 a11 fun a12 a13=>
  AAN a9 a10 a12 fun a14=>
  AAO a8 a13 fun a15=>
  AAP a15 fun a16=>
  V.ite a16
  (AAQ a10 a14 a13 fun a17 a18 a19 a20 a21=>
  if(List.all [a20,a19,a18,a17] V.okE)=true then AP 0 a21 (V.tup [a17,a18,a19,a20])else none)
  (AAR a15 fun a22=>
  V.ite a22
  (AAS a10 a14 a13 fun a23 a24 a25 a26 a27=>
  if(List.all [a26,a25,a24,a23] V.okE)=true then AP 0 a27 (V.tup [a23,a24,a25,a26])else none)
  (AAT a15 fun a28=>
  V.ite a28
  (V.ite a28
  (Ox a9 a13 fun a29=>
  V.ite a29
  (Oy a8 a10 a13 fun a30 a31 a32 a33=>
  if(List.all [a33,a32,a31,a30] V.okE)=true then AP 0 a13 (V.tup [a30,a31,a32,a33])else none)
  (Oz a10 a14 a13 fun a34 a35 a36 a37 a38=>
  if(List.all [a37,a36,a35,a34] V.okE)=true then AP 0 a38 (V.tup [a34,a35,a36,a37])else none))
  (O0 a15 fun a39=>
  V.ite a39
  (O3 a12 a13 fun a40=>
  V.ite a40
  (O4 a10 a13 fun a41 a42 a43 a44=>
  if(List.all [a44,a43,a42,a41] V.okE)=true then AP 0 a13 (V.tup [a41,a42,a43,a44])else none)
  (O5 a9 a10 a13 fun a45 a46 a47 a48=>
  if(List.all [a48,a47,a46,a45] V.okE)=true then AP 0 a13 (V.tup [a45,a46,a47,a48])else none))
  (O6 a15 fun a49=>
  V.ite a49
  (O7 a9 a13 fun a50=>
  V.ite a50
  (O8 a10 a13 fun a51 a52 a53 a54=>
  if(List.all [a54,a53,a52,a51] V.okE)=true then AP 0 a13 (V.tup [a51,a52,a53,a54])else none)
  (O9 a10 a12 a13 fun a55 a56 a57 a58=>
  if(List.all [a58,a57,a56,a55] V.okE)=true then AP 0 a13 (V.tup [a55,a56,a57,a58])else none))
  (PD a10 a13 fun a59=>
  PE a9 a13 fun a60=>
  jn (fun a61=>PG a8 a9 a13 fun a62=>
  V.ite a62
  (PI a61 fun a63 a64 a65 a66=>
  if(List.all [a66,a65,a64,a63] V.okE)=true then AP 0 a13 (V.tup [a63,a64,a65,a66])else none)
  (PK t3 a61 a13 fun a67 a68 a69 a70=>
  if(List.all [a70,a69,a68,a67] V.okE)=true then AP 0 a13 (V.tup [a67,a68,a69,a70])else none))
  (fun(j0:V→Rv)=>V.ite a60
  (PL a10 a13 fun a71=>
  j0 a71)
  (j0 a59))))))
  (AAU a15 fun a72=>
  V.ite a72
  (Ox a9 a13 fun a73=>
  V.ite a73
  (Oy a8 a10 a13 fun a74 a75 a76 a77=>
  if(List.all [a77,a76,a75,a74] V.okE)=true then AP 0 a13 (V.tup [a74,a75,a76,a77])else none)
  (Oz a10 a14 a13 fun a78 a79 a80 a81 a82=>
  if(List.all [a81,a80,a79,a78] V.okE)=true then AP 0 a82 (V.tup [a78,a79,a80,a81])else none))
  (O0 a15 fun a83=>
  V.ite a83
  (O3 a12 a13 fun a84=>
  V.ite a84
  (O4 a10 a13 fun a85 a86 a87 a88=>
  if(List.all [a88,a87,a86,a85] V.okE)=true then AP 0 a13 (V.tup [a85,a86,a87,a88])else none)
  (O5 a9 a10 a13 fun a89 a90 a91 a92=>
  if(List.all [a92,a91,a90,a89] V.okE)=true then AP 0 a13 (V.tup [a89,a90,a91,a92])else none))
  (O6 a15 fun a93=>
  V.ite a93
  (O7 a9 a13 fun a94=>
  V.ite a94
  (O8 a10 a13 fun a95 a96 a97 a98=>
  if(List.all [a98,a97,a96,a95] V.okE)=true then AP 0 a13 (V.tup [a95,a96,a97,a98])else none)
  (O9 a10 a12 a13 fun a99 a100 a101 a102=>
  if(List.all [a102,a101,a100,a99] V.okE)=true then AP 0 a13 (V.tup [a99,a100,a101,a102])else none))
  (PD a10 a13 fun a103=>
  PE a9 a13 fun a104=>
  jn (fun a105=>PG a8 a9 a13 fun a106=>
  V.ite a106
  (PI a105 fun a107 a108 a109 a110=>
  if(List.all [a110,a109,a108,a107] V.okE)=true then AP 0 a13 (V.tup [a107,a108,a109,a110])else none)
  (PK t3 a105 a13 fun a111 a112 a113 a114=>
  if(List.all [a114,a113,a112,a111] V.okE)=true then AP 0 a13 (V.tup [a111,a112,a113,a114])else none))
  (fun(j1:V→Rv)=>V.ite a104
  (PL a10 a13 fun a115=>
  j1 a115)
  (j1 a103)))))))):=
 Au (DR<|Dw (fun K u4 u5 u6 h'=>K ⟨[(3,t3),(4,u4),(5,u5),(6,u6)],h'⟩) (funext fun a8=>funext fun a9=>funext fun a10=>funext fun a11=>CB<|DR<|Dw (fun K u12 h'=>K ⟨[(3,t3),(4,a8),(5,a9),(6,a10),(12,u12)],h'⟩) (funext fun a12=>funext fun a13=>CB<|DR<|Dw (fun K u13=>K ⟨[(3,t3),(4,a8),(5,a9),(6,a10),(12,a12),(13,u13)],a13⟩) (funext fun a14=>CB<|DR<|DR<|Dw (fun K u23=>K ⟨[(3,t3),(4,a8),(5,a9),(6,a10),(12,a12),(13,a14),(23,u23)],a13⟩) (funext fun a15=>CB<|AHQ<|DR<|Dw (fun K u24=>K ⟨[(3,t3),(4,a8),(5,a9),(6,a10),(12,a12),(13,a14),(23,a15),(24,u24)],a13⟩) (funext fun a16=>CB<|EP (by kernel_rfl) (DR<|Dw (fun K u37=>K ⟨[(3,t3),(4,a8),(5,a9),(6,a10),(12,a12),(13,a14),(23,a15),(37,u37)],a13⟩) (funext fun a22=>CB<|EP (by kernel_rfl) (DR<|DR<|Dw (fun K u50=>K ⟨[(3,t3),(4,a8),(5,a9),(6,a10),(12,a12),(13,a14),(23,a15),(50,u50)],a13⟩) (funext fun a28=>CB<|EP (Js<|CB<|EP (by kernel_rfl) (DR<|Dw (fun K u78=>K ⟨[(3,t3),(4,a8),(5,a9),(6,a10),(12,a12),(23,a15),(78,u78)],a13⟩) (funext fun a39=>CB<|EP (by kernel_rfl) (DR<|Dw (fun K u87=>K ⟨[(3,t3),(4,a8),(5,a9),(6,a10),(12,a12),(87,u87)],a13⟩) (funext fun a49=>CB<|EP (by kernel_rfl) (Js<|V8<|CB<|DR<|Dw (fun K u14=>K ⟨[(3,t3),(4,a8),(5,a9),(6,a10),(14,u14)],a13⟩) (funext fun a59=>CB<|DR<|DR<|Dw (fun K u104=>K ⟨[(3,t3),(4,a8),(5,a9),(6,a10),(14,a59),(104,u104)],a13⟩) (funext fun a60=>CB<|ALQ (fun K a61=>K ⟨[(3,t3),(4,a8),(5,a9),(14,a61)],a13⟩) (funext fun a61=>by kernel_rfl) (EP (Dw (fun K u14=>K ⟨[(3,t3),(4,a8),(5,a9),(14,u14)],a13⟩) (funext fun a71=>rfl)) (Js<|AOI)))))))))) (Dw (fun K u50=>K ⟨[(3,t3),(4,a8),(5,a9),(6,a10),(12,a12),(13,a14),(23,a15),(50,u50)],a13⟩) (funext fun a72=>CB<|EP (by kernel_rfl) (DR<|Dw (fun K u78=>K ⟨[(3,t3),(4,a8),(5,a9),(6,a10),(12,a12),(23,a15),(78,u78)],a13⟩) (funext fun a83=>CB<|EP (by kernel_rfl) (DR<|Dw (fun K u87=>K ⟨[(3,t3),(4,a8),(5,a9),(6,a10),(12,a12),(87,u87)],a13⟩) (funext fun a93=>CB<|EP (by kernel_rfl) (Js<|V8<|CB<|DR<|Dw (fun K u14=>K ⟨[(3,t3),(4,a8),(5,a9),(6,a10),(14,u14)],a13⟩) (funext fun a103=>CB<|DR<|DR<|Dw (fun K u104=>K ⟨[(3,t3),(4,a8),(5,a9),(6,a10),(14,a103),(104,u104)],a13⟩) (funext fun a104=>CB<|ALQ (fun K a105=>K ⟨[(3,t3),(4,a8),(5,a9),(14,a105)],a13⟩) (funext fun a105=>by kernel_rfl) (EP (Dw (fun K u14=>K ⟨[(3,t3),(4,a8),(5,a9),(14,u14)],a13⟩) (funext fun a115=>rfl)) (Js<|AOI)))))))))))))))))))))
theorem AHb (t0 t1 t2 t3 t4 t5:V) (h:List V):Cl 119 [t0,t1,t2,t3,t4,t5] h=
 if((tyG 95) t0&&V.under (List.length h) t0)=true then(fA 86 3 0 t1).bind fun a1=>(AV (h++[t0]) 3 a1).bind fun a2=>(fA 96 3 1 (V.ref (List.length h) [] 96)).bind fun a3=>(AV (h++[t0]) 3 a3).bind fun a4=>(AV (h++[t0]) 2 t2).bind fun a5=>(fA 26 9 0 t3).bind fun a6=>(AV (h++[t0]) 9 a6).bind fun a7=>(AV (h++[t0]) 96 (V.ref (List.length h) [] 96)).bind fun a8=>if SC true [a7,a8]=true then(Cl 120 (AB (h++[t0]) [a7,a8]) []).bind fun a9=>(AL .add a5 a9.1).bind fun a10=>((ck [(tyI .i64) a2,(tyI .i64) a4,(tyI .i64) a10] [a2,a4,a10]).map (.agg 151)).bind fun a11=>(CY (tyG 151) 152 ((h++[t0])++[(V.agg 151 [(V.int .i64 0),(V.int .i64 0),(V.int .i64 0)])]) (V.ref (List.length (h++[t0])) [] 152) a11).bind fun a12=>jn (fun a13=>
 (BN a13 39 t5).bind fun a14=>(AV a14.2 152 (V.ref (List.length (h++[t0])) [] 152)).bind fun a15=>(Nr 152 false (ck [(tyG 151) a15] [a15])).bind fun a16=>(Gv 152 (tyG 151) false a14.2 a14.1 a16).bind fun a17=>(CY (tyL 152) 39 a14.2 t5 a17).bind fun a18=>if(List.all [] V.okE)=true then AP (List.length h) a18 (V.tup [])else none) (fun(a19:List V→Rv)=>(AV a12 4 t4).bind fun a20=>V.ite a20 ((CY tyB 4 a12 t4 (V.bool true)).bind fun a21=>a19 a21) ((fA 152 2 2 (V.ref (List.length (h++[t0])) [] 152)).bind fun a22=>(AV a12 2 a22).bind fun a23=>(Cl 116 (AB a12 [a23]) []).bind fun a24=>(CY tyB 4 a12 t4 a24.1).bind fun a25=>a19 a25))else none else none:=
 Au (by kernel_rfl)
theorem AHc (t0 t1:V):Cl 120 [t0,t1] []=
 if((tyG 95) t1&&V.under 0 t1)=true then(AL .eql t0 (V.str [115,115,115,112])).bind fun a1=>V.ite a1
  ((fA 96 2 2 (V.ref 0 [] 96)).bind fun a2=>(AV [t1] 2 a2).bind fun a3=>AP 0 [t1] a3)
  ((AL .eql t0 (V.str [98,102,115])).bind fun a4=>V.ite a4
  (AP 0 [t1] (V.int .i64 1))
  (AP 0 [t1] (V.int .i64 0)))else none:=
 Au (by kernel_rfl)
theorem AHd (t0 t1:V) (h:List V):Cl 121 [t0,t1] h=
 (Cl 172 (AQ [t0,t1]) h).bind fun a1=>(AL .geq a1.1 (V.int .i64 0)).bind fun a2=>AP (List.length h) a1.2 a2:=
 Au (by kernel_rfl)
theorem AHe (t0:V):Cl 122 [t0] []=
 if((tyG 151) t0&&V.under 0 t0)=true then(fA 152 3 1 (V.ref 0 [] 152)).bind fun a1=>(AV [t0] 3 a1).bind fun a2=>(AL .lss a2 (V.int .i64 0)).bind fun a3=>AP 0 [t0] a3 else none:=
 Au (by kernel_rfl)
def KO (t1 t5 t8 t9 t10:V) (n:Nat) (h:List V):Rv:=lp W 123 0 (cd 123 75) (bk 0 (sk 123 0 15 (lv 123 n))) ⟨[(1,t1),(5,t5),(8,t8),(9,t9),(10,t10)],h⟩
theorem Jv (t1 t5 t8 t9 t10:V) (n:Nat) (h:List V):KO t1 t5 t8 t9 t10 n h=
 (AL .lss t10 t9).bind fun a1=>V.ite a1
  ((Eg 152 t8 t10).bind fun a2=>(AV h 152 a2).bind fun a3=>(CY (tyG 151) 152 (h++[(V.agg 151 [(V.int .i64 0),(V.int .i64 0),(V.int .i64 0)])]) (V.ref (List.length h) [] 152) a3).bind fun a4=>(AV a4 152 (V.ref (List.length h) [] 152)).bind fun a5=>BI P CJ W t1 [a5] a4 fun a6 a7=>if V.noOwn a6=true then V.ite a6
  ((AV a7 152 (V.ref (List.length h) [] 152)).bind fun a8=>(Nr 152 false (ck [(tyG 151) a8] [a8])).bind fun a9=>(Gv 152 (tyG 151) false a7 t5 a9).bind fun a10=>(AL .add t10 (V.int .i64 1)).bind fun a11=>if AZ (List.length h) [t1,a10,t8,t9,a11]=true then KO t1 a10 t8 t9 a11 n (List.take (List.length h) a7)else none)
  ((AL .add t10 (V.int .i64 1)).bind fun a12=>if AZ (List.length h) [t1,t5,t8,t9,a12]=true then KO t1 t5 t8 t9 a12 n (List.take (List.length h) a7)else none)else none)
  (AP n h t5):=
 DC (by kernel_rfl)
theorem AHf (t0 t1:V) (h:List V):Cl 123 [t0,t1] h=
 (E5 t0).bind fun a13=>KO t1 (V.weak (V.lst 152 .nil [])) t0 a13 (V.int .i64 0) (List.length h) h:=
 Au (by kernel_rfl)
theorem AHg (t0 t1 t2:V) (h:List V):Cl 124 [t0,t1,t2] h=
 if((tyG 151) t0&&V.under (List.length h) t0)=true then(fA 152 3 1 (V.ref (List.length h) [] 152)).bind fun a1=>(AV (h++[t0]) 3 a1).bind fun a2=>(AV (h++[t0]) 3 t1).bind fun a3=>(Cl 106 (AB (h++[t0]) [a2,a3]) []).bind fun a4=>(AV (h++[t0]) 3 t2).bind fun a5=>(AL .eql a4.1 a5).bind fun a6=>AP (List.length h) (h++[t0]) a6 else none:=
 Au (by kernel_rfl)
theorem AHh (t0:V):Cl 125 [t0] []=
 if((tyG 76) (V.weak t0)&&V.under 0 (V.weak t0))=true then jn (fun a1 a2=>
 AP 0 a2 a1) (fun(a3:V→List V→Rv)=>(fA 77 3 0 (V.ref 0 [] 77)).bind fun a4=>(AV [(V.weak t0)] 3 a4).bind fun a5=>BI P CJ W (V.clo 173 []) [a5,(V.int .i64 0),(V.int .i64 63)] [(V.weak t0)] fun a6 a7=>if V.noOwn a6=true then V.ite a6 ((fA 77 3 1 (V.ref 0 [] 77)).bind fun a8=>(AV a7 3 a8).bind fun a9=>BI P CJ W (V.clo 173 []) [a9,(V.int .i64 0),(V.int .i64 63)] a7 fun a10 a11=>if V.noOwn a10=true then V.ite a10 ((fA 77 49 3 (V.ref 0 [] 77)).bind fun a12=>(CW a11 49 a12).bind fun a13=>(E5 a13).bind fun a14=>BI P CJ W (V.clo 173 []) [a14,(V.int .i64 1),(V.int .i64 64)] a11 fun a15 a16=>if V.noOwn a15=true then a3 a15 a16 else none) (a3 (V.bool false) a11)else none) (a3 (V.bool false) a7)else none)else none:=
 Au (by kernel_rfl)
theorem AHi (t0 t1:V) (h:List V):Cl 126 [t0,t1] h=
 if((tyG 65) t1&&V.under (List.length h) t1)=true then(BD t0).bind fun a1=>(fA 191 172 0 a1).bind fun a2=>(BN (h++[t1]) 172 a2).bind fun a3=>(slA 66 65 32 5 (V.ref (List.length h) [] 66) none none none).bind fun a4=>(Gv 5 (tyI .u8) false a3.2 a3.1 a4).bind fun a5=>(BD t0).bind fun a6=>(fA 191 172 0 a6).bind fun a7=>(CY (tyL 5) 172 a3.2 a7 a5).bind fun a8=>if(List.all [] V.okE)=true then AP (List.length h) a8 (V.tup [])else none else none:=
 Au (by kernel_rfl)
def AAV (k:Rv):Rv:=
 k
def AAW (k:V→Rv):Rv:=
 k (V.clo 174 [])
def AAX (t0:V) (k:V→Rv):Rv:=
 (lenV P 39 (V.weak t0)).bind fun t9=>(AL .gtr t9 (V.int .i64 512)).bind fun t10=>k t10
def AAY (k:V→Rv):Rv:=
 k (V.int .i64 110)
def AAZ (t0:V) (h:List V) (k:V→Rv):Rv:=
 (Cl 101 (AB h [t0]) []).bind fun r=>k r.1
def AAa (t4:V) (k:V→V→V→Rv):Rv:=
 (lenV P 39 (V.weak t4)).bind fun t14=>k (V.weak t4) t14 (V.int .i64 0)
def Ns (t3 t4 t13 t14 t15:V) (h:List V):Rv:=lp W 127 0 (cd 127 303) (bk 0 (sk 127 0 63 (lv 127 0))) ⟨[(3,t3),(4,t4),(13,t13),(14,t14),(15,t15)],h⟩
def Ux (t14 t15:V) (k:V→Rv):Rv:=
 (AL .lss t15 t14).bind fun t16=>k t16
def AAb (t13 t15:V) (h:List V) (k:V→V→List V→Rv):Rv:=
 (AX P 39 t13 t15).bind fun t18=>(AV h 152 t18).bind fun t19=>(Gu P (h++[zero P 152]) 152 (V.ref (List.length h) [] 152) t19).bind fun a1=>k t15 (V.ref (List.length h) [] 152) a1
def Uy (t4 t5 t6:V) (h:List V) (k:V→Rv):Rv:=
 (AL .gtr t5 (V.int .i64 0)).bind fun t21=>V.ite t21 ((AL .sub t5 (V.int .i64 1)).bind fun t25=>(AX P 39 (V.weak t4) t25).bind fun t26=>(BH P 152 0 t26).bind fun t27=>(AV h 3 t27).bind fun t28=>(BH P 152 0 t6).bind fun t29=>(AV h 3 t29).bind fun t30=>(AL .eql t28 t30).bind fun t31=>V.ite t31 ((AL .sub t5 (V.int .i64 1)).bind fun t36=>(AX P 39 (V.weak t4) t36).bind fun t37=>(BH P 152 1 t37).bind fun t38=>(AV h 3 t38).bind fun t39=>(BH P 152 1 t6).bind fun t40=>(AV h 3 t40).bind fun t41=>(AL .eql t39 t41).bind fun t42=>k t42) (k (V.bool false))) (k (V.bool false))
def Uz (t3 t6 t7:V) (h:List V) (k:V→List V→Rv):Rv:=
 (BH P 152 0 t6).bind fun t45=>(AV h 3 t45).bind fun t46=>BI P CJ W t3 [t46] h fun t47 a1=>if V.noOwn t47=true then(un .not t47).bind fun t48=>V.ite t48 (k (V.bool true) a1) ((BH P 152 1 t6).bind fun t51=>(AV a1 3 t51).bind fun t52=>BI P CJ W t3 [t52] a1 fun t53 a2=>if V.noOwn t53=true then(un .not t53).bind fun t54=>V.ite t54 (k (V.bool true) a2) ((BH P 152 2 t6).bind fun t57=>(AV a2 2 t57).bind fun t58=>(AL .gtr t58 (V.int .i64 1125899906842624)).bind fun t59=>V.ite t59 (k (V.bool true) a2) ((BH P 152 2 t6).bind fun t62=>(AV a2 2 t62).bind fun t63=>(AL .lss t63 (V.int .i64 (-1125899906842624))).bind fun t64=>V.ite t64 (k (V.bool true) a2) (k t7 a2)))else none)else none
def WB (k:V→Rv):Rv:=
 k (V.int .i64 110)
def WC (t15:V) (k:V→Rv):Rv:=
 (AL .add t15 (V.int .i64 1)).bind fun t69=>k t69
def WE (k:V→Rv):Rv:=
 k (V.int .i64 0)
theorem PN (t3 t4 t13 t14 t15:V) (h:List V):Ns t3 t4 t13 t14 t15 h=
 Ux t14 t15 fun a3=>
  V.ite a3
  (AAb t13 t15 h fun a4 a5 a6=>
  Uy t4 a4 a5 a6 fun a7=>
  Uz t3 a5 a7 a6 fun a8 a9=>
  V.ite a8
  (WB fun a10=>
  AP 0 a9 a10)
  (WC t15 fun a11=>
  if AZ (List.length h) [t3,t4,t13,t14,a11]=true then Ns t3 t4 t13 t14 a11 (List.take (List.length h) a9)else none))
  (WE fun a12=>
  AP 0 h a12):=
 DC (by kernel_rfl)
theorem AHj (t0:V):Cl 127 [t0] []=
 AAV (AAW fun a13=>
  AAX t0 fun a14=>
  V.ite a14
  (AAY fun a15=>
  AP 0 [] a15)
  (AAZ t0 [] fun a16=>
  AAa a16 fun a17 a18 a19=>
  Ns a13 a16 a17 a18 a19 [])):=
 Au (by kernel_rfl)
theorem Hl (t0:V):Cl 128 [t0] []=
 if((tyG 85) t0&&V.under 0 t0)=true then jn (fun a1=>
 V.ite a1
  (AP 0 [t0] (V.int .i64 100))
  (AP 0 [t0] (V.int .i64 0))) (fun(a2:V→Rv)=>(fA 86 3 0 (V.ref 0 [] 86)).bind fun a3=>(AV [t0] 3 a3).bind fun a4=>(AL .lss a4 (V.int .i64 0)).bind fun a5=>V.ite a5 (a2 (V.bool true)) ((fA 86 3 0 (V.ref 0 [] 86)).bind fun a6=>(AV [t0] 3 a6).bind fun a7=>(AL .geq a7 (V.int .i64 64)).bind fun a8=>V.ite a8 (a2 (V.bool true)) ((fA 86 2 1 (V.ref 0 [] 86)).bind fun a9=>(AV [t0] 2 a9).bind fun a10=>(Cl 175 (AB [t0] [a10]) []).bind fun a11=>V.ite a11.1 (a2 (V.bool true)) ((fA 86 2 4 (V.ref 0 [] 86)).bind fun a12=>(AV [t0] 2 a12).bind fun a13=>(Cl 175 (AB [t0] [a13]) []).bind fun a14=>V.ite a14.1 (a2 (V.bool true)) ((fA 86 4 3 (V.ref 0 [] 86)).bind fun a15=>(AV [t0] 4 a15).bind fun a16=>(un .not a16).bind fun a17=>V.ite a17 ((fA 86 2 4 (V.ref 0 [] 86)).bind fun a18=>(AV [t0] 2 a18).bind fun a19=>(AL .neq a19 (V.int .i64 0)).bind fun a20=>a2 a20) (a2 (V.bool false)))))))else none:=
 Au (by kernel_rfl)
def AAc (t0 t1:V) (h:List V) (k:List V→Rv):Rv:=
 (conv P h 2 132 t1).bind fun t6=>(AL .shl t6 (V.int .u64 1)).bind fun t7=>(AL .shr t1 (V.int .u64 63)).bind fun t9=>(conv P h 2 132 t9).bind fun t10=>(AL .xor t7 t10).bind fun t11=>(Cl 69 (AQ [t0,t11]) h).bind fun r=>k r.2
theorem AHk (t0 t1:V) (h:List V):Cl 129 [t0,t1] h=
 AAc t0 t1 h fun a1=>
  if(List.all [] V.okE)=true then AP (List.length h) a1 (V.tup [])else none:=
 Au (by kernel_rfl)
theorem AHl (t0:V):Cl 130 [t0] []=
 V.ite t0
  (AP 0 [] (V.int .u64 1))
  (AP 0 [] (V.int .u64 0)):=
 Au (by kernel_rfl)
def Nu (t0 t3:V):Rv:=lp W 132 0 (cd 132 71) (bk 0 (sk 132 0 31 (lv 132 0))) ⟨[(0,t0),(3,t3)],[]⟩
theorem Y7 (t0 t3:V):Nu t0 t3=
 (AL .sub t0 t3).bind fun a1=>(AL .lss t3 a1).bind fun a2=>V.ite a2
  ((AL .mul t3 (V.int .i64 2)).bind fun a3=>Nu t0 a3)
  (AP 0 [] t3):=
 DC (by kernel_rfl)
theorem AHm (t0:V):Cl 132 [t0] []=
 (AL .lss t0 (V.int .i64 2)).bind fun a4=>V.ite a4
  (AP 0 [] (V.int .i64 0))
  (Nu t0 (V.int .i64 1)):=
 Au (by kernel_rfl)
theorem AAd (t0:V):Cl 133 [t0] []=
 (E5 (V.weak t0)).bind fun a1=>(AL .eql a1 (V.int .i64 0)).bind fun a2=>V.ite a2
  ((Nr 5 false (ck [(tyI .u8) (V.int .u8 2)] [(V.int .u8 2)])).bind fun a3=>(Nr 172 true (ck [(tyL 5) a3] [(V.weak a3)])).bind fun a4=>(Cl 176 (AB [(V.agg 65 (List.replicate 32 (V.int .u8 0)))] [a4]) []).bind fun a5=>(CY (tyG 65) 66 [(V.agg 65 (List.replicate 32 (V.int .u8 0)))] (V.ref 0 [] 66) a5.1).bind fun a6=>(AV a6 66 (V.ref 0 [] 66)).bind fun a7=>AP 0 a6 a7)
  ((AL .eql a1 (V.int .i64 1)).bind fun a8=>V.ite a8
  ((Eg 9 t0 (V.int .i64 0)).bind fun a9=>(AV [(V.agg 65 (List.replicate 32 (V.int .u8 0)))] 9 a9).bind fun a10=>(Cl 177 (AB [(V.agg 65 (List.replicate 32 (V.int .u8 0)))] [a10]) []).bind fun a11=>(CY (tyG 65) 66 [(V.agg 65 (List.replicate 32 (V.int .u8 0)))] (V.ref 0 [] 66) a11.1).bind fun a12=>(AV a12 66 (V.ref 0 [] 66)).bind fun a13=>AP 0 a12 a13)
  ((E5 (V.weak t0)).bind fun a14=>(Cl 132 (AB [(V.agg 65 (List.replicate 32 (V.int .u8 0)))] [a14]) []).bind fun a15=>(slL 9 (V.weak t0) none (some a15.1) (some a15.1)).bind fun a16=>(Cl 133 (AB [(V.agg 65 (List.replicate 32 (V.int .u8 0)))] [a16]) []).bind fun a17=>(slL 9 (V.weak t0) (some a15.1) none none).bind fun a18=>(Cl 133 (AB [(V.agg 65 (List.replicate 32 (V.int .u8 0)))] [a18]) []).bind fun a19=>(Cl 178 (AB [(V.agg 65 (List.replicate 32 (V.int .u8 0)))] [a17.1,a19.1]) []).bind fun a20=>(CY (tyG 65) 66 [(V.agg 65 (List.replicate 32 (V.int .u8 0)))] (V.ref 0 [] 66) a20.1).bind fun a21=>(AV a21 66 (V.ref 0 [] 66)).bind fun a22=>AP 0 a21 a22)):=
 Au (by kernel_rfl)
def AAe (t1:V) (h:List V) (k:V→V→List V→Rv):Rv:=
 if(Bj P 66 t1&&V.under (List.length h) t1)=true then k (V.ref (List.length h) [] 66) (V.ref (List.length (h++[t1])) [] 66) ((h++[t1])++[zero P 66])else none
def AAf (h:List V) (k:V→List V→Rv):Rv:=
 (Cl 68 (AQ []) h).bind fun r=>k r.1 r.2
def AAg (t0 t5:V) (h:List V) (k:List V→Rv):Rv:=
 (conv P h 3 132 t0).bind fun t9=>(Cl 69 (AQ [t5,t9]) h).bind fun r=>k r.2
def AAh (t3 t4 t5:V) (h:List V) (k:List V→Rv):Rv:=
 (CS P 172 1 [(0,(V.int .u8 3))]).bind fun t11=>(Cl 71 (AQ [t5]) h).bind fun r=>(conv P r.2 9 172 r.1).bind fun t14=>(NE P 66 t3 none none none).bind fun t15=>(CS P 245 3 [(0,t11),(1,t14),(2,t15)]).bind fun t16=>(Cl 176 (AB r.2 [t16]) []).bind fun a1=>(Gu P r.2 66 t4 a1.1).bind fun a2=>k a2
theorem AHn (t0 t1:V):Cl 146 [t0,t1] []=
 AAe t1 [] fun a3 a4 a5=>
  AAf a5 fun a6 a7=>
  AAg t0 a6 a7 fun a8=>
  AAh a3 a4 a6 a8 fun a9=>
  (AV a9 66 a4).bind fun a10=>AP 0 a9 a10:=
 Au (by kernel_rfl)
def AAi (t0:V) (h:List V) (k:V→List V→Rv):Rv:=
 if(Bj P 152 t0&&V.under (List.length h) t0)=true then k (V.ref (List.length h) [] 152) (h++[t0])else none
def AAj (t1:V) (h:List V) (k:V→Rv):Rv:=
 (BH P 152 0 t1).bind fun t4=>(AV h 3 t4).bind fun t5=>(AL .lss t5 (V.int .i64 0)).bind fun t6=>V.ite t6 (k (V.bool true)) ((BH P 152 1 t1).bind fun t8=>(AV h 3 t8).bind fun t9=>(AL .lss t9 (V.int .i64 0)).bind fun t10=>k t10)
def U0 (k:V→Rv):Rv:=
 k (V.str [])
def AAk (h:List V) (k:V→List V→Rv):Rv:=
 (Cl 68 (AQ []) h).bind fun r=>k r.1 r.2
def AAl (t1 t3:V) (h:List V) (k:List V→Rv):Rv:=
 (BH P 152 0 t1).bind fun t14=>(AV h 3 t14).bind fun t15=>(conv P h 3 132 t15).bind fun t16=>(Cl 69 (AQ [t3,t16]) h).bind fun r=>k r.2
def AAm (t1 t3:V) (h:List V) (k:List V→Rv):Rv:=
 (BH P 152 1 t1).bind fun t19=>(AV h 3 t19).bind fun t20=>(conv P h 3 132 t20).bind fun t21=>(Cl 69 (AQ [t3,t21]) h).bind fun r=>k r.2
def AAn (t1 t3:V) (h:List V) (k:List V→Rv):Rv:=
 (BH P 152 2 t1).bind fun t24=>(AV h 2 t24).bind fun t25=>(Cl 129 (AQ [t3,t25]) h).bind fun r=>k r.2
def AAo (t3:V) (h:List V) (k:V→List V→Rv):Rv:=
 (Cl 71 (AQ [t3]) h).bind fun r=>k r.1 r.2
theorem AHo (t0:V):Cl 147 [t0] []=
 AAi t0 [] fun a1 a2=>
  AAj a1 a2 fun a3=>
  V.ite a3
  (U0 fun a4=>
  AP 0 a2 a4)
  (AAk a2 fun a5 a6=>
  AAl a1 a5 a6 fun a7=>
  AAm a1 a5 a7 fun a8=>
  AAn a1 a5 a8 fun a9=>
  AAo a5 a9 fun a10 a11=>
  AP 0 a11 a10):=
 Au (by kernel_rfl)
def AAp (k:Rv):Rv:=
 k
def AAq (t0:V) (h:List V) (k:V→Rv):Rv:=
 (conv P h 9 172 t0).bind fun t26=>(CS P 172 1 [(0,(V.int .u8 128))]).bind fun t27=>(Du P 172 h t26 t27).bind fun t28=>k t28
def Nv (t0 t3:V) (h:List V):Rv:=lp W 151 0 (cd 151 35) (bk 0 (sk 151 0 15 (lv 151 0))) ⟨[(0,t0),(3,t3)],h⟩
def U1 (t3:V) (k:V→Rv):Rv:=
 (lenV P 172 (V.weak t3)).bind fun t30=>(AL .rem t30 (V.int .i64 64)).bind fun t31=>(AL .neq t31 (V.int .i64 56)).bind fun t32=>k t32
def AAr (t3:V) (h:List V) (k:V→Rv):Rv:=
 (CS P 172 1 [(0,(V.int .u8 0))]).bind fun t34=>(Du P 172 h t3 t34).bind fun t35=>k t35
def AAs (t0:V) (h:List V) (k:V→Rv):Rv:=
 (lenV P 9 t0).bind fun t37=>(AL .mul (V.int .i64 8) t37).bind fun t38=>(conv P h 3 132 t38).bind fun t39=>k t39
def AAt (k:V→Rv):Rv:=
 k (V.int .i64 7)
def Nw (t3 t4 t5:V) (h:List V):Rv:=lp W 151 2 (cd 151 303) (bk 2 (sk 151 0 63 (lv 151 0))) ⟨[(3,t3),(4,t4),(5,t5)],h⟩
def U2 (t5:V) (k:V→Rv):Rv:=
 (AL .geq t5 (V.int .i64 0)).bind fun t41=>k t41
def AAu (t3 t4 t5:V) (h:List V) (k:V→Rv):Rv:=
 (AL .mul (V.int .i64 8) t5).bind fun t47=>(Cl 179 (AB h [t47]) []).bind fun r=>(AL .quo t4 r.1).bind fun t49=>(AL .rem t49 (V.int .u64 256)).bind fun t50=>(conv P h 132 5 t50).bind fun t51=>(CS P 172 1 [(0,t51)]).bind fun t52=>(Du P 172 h t3 t52).bind fun t53=>k t53
def AAv (t5:V) (k:V→Rv):Rv:=
 (AL .sub t5 (V.int .i64 1)).bind fun t43=>k t43
def AAw (h:List V) (k:V→Rv):Rv:=
 (Cl 180 (AB h []) []).bind fun r=>k r.1
def WH (h:List V) (k:V→List V→Rv):Rv:=
 (CS P 231 8 [(0,(V.int .u64 1779033703)),(1,(V.int .u64 3144134277)),(2,(V.int .u64 1013904242)),(3,(V.int .u64 2773480762)),(4,(V.int .u64 1359893119)),(5,(V.int .u64 2600822924)),(6,(V.int .u64 528734635)),(7,(V.int .u64 1541459225))]).bind fun v=>(DN h v).bind fun r=>k r.1 r.2
def WI (k:V→Rv):Rv:=
 k (V.int .i64 0)
def Eh (t3 t6 t7 t8:V) (h:List V):Rv:=lp W 151 4 (cd 151 2431) (bk 4 (sk 151 0 511 (lv 151 0))) ⟨[(3,t3),(6,t6),(7,t7),(8,t8)],h⟩
def PO (t3 t8:V) (k:V→Rv):Rv:=
 (lenV P 172 (V.weak t3)).bind fun t58=>(AL .lss t8 t58).bind fun t59=>k t59
def WJ (k:V→Rv):Rv:=
 (CS P 231 0 []).bind fun t62=>k t62
def WL (k:V→Rv):Rv:=
 k (V.int .i64 0)
def JC (t3 t6 t7 t8 t9 t10:V) (m4:Nat) (h:List V):Rv:=lp W 151 6 (cd 151 608639) (bk 6 (sk 151 5 117119 (bk 5 (sk 151 4 14719 (lk 151 4 m4 2431 (bk 4 (sk 151 0 511 (lv 151 0)))))))) ⟨[(3,t3),(6,t6),(7,t7),(8,t8),(9,t9),(10,t10)],h⟩
def KP (t10:V) (k:V→Rv):Rv:=
 (AL .lss t10 (V.int .i64 64)).bind fun t64=>k t64
def PS (t10:V) (k:V→Rv):Rv:=
 (AL .lss t10 (V.int .i64 16)).bind fun t68=>k t68
def WM (t3 t8 t10:V) (k:V→Rv):Rv:=
 (AL .mul (V.int .i64 4) t10).bind fun t72=>(AL .add t8 t72).bind fun t73=>(AL .mul (V.int .i64 4) t10).bind fun t76=>(AL .add t8 t76).bind fun t77=>(AL .add t77 (V.int .i64 4)).bind fun t78=>(NE P 172 (V.weak t3) (some t73) (some t78) none).bind fun t79=>k t79
def PU (t9 t11:V) (h:List V) (k:V→Rv):Rv:=
 (AX P 172 (V.weak t11) (V.int .i64 0)).bind fun t82=>(AV h 5 t82).bind fun t83=>(conv P h 5 132 t83).bind fun t84=>(AL .mul t84 (V.int .u64 16777216)).bind fun t85=>(AX P 172 (V.weak t11) (V.int .i64 1)).bind fun t87=>(AV h 5 t87).bind fun t88=>(conv P h 5 132 t88).bind fun t89=>(AL .mul t89 (V.int .u64 65536)).bind fun t90=>(AL .add t85 t90).bind fun t91=>(AX P 172 (V.weak t11) (V.int .i64 2)).bind fun t93=>(AV h 5 t93).bind fun t94=>(conv P h 5 132 t94).bind fun t95=>(AL .mul t95 (V.int .u64 256)).bind fun t96=>(AL .add t91 t96).bind fun t97=>(AX P 172 (V.weak t11) (V.int .i64 3)).bind fun t99=>(AV h 5 t99).bind fun t100=>(conv P h 5 132 t100).bind fun t101=>(AL .add t97 t101).bind fun t102=>(CS P 231 1 [(0,t102)]).bind fun t103=>(Du P 231 h t9 t103).bind fun t104=>k t104
def KQ (t10:V) (k:V→Rv):Rv:=
 (AL .add t10 (V.int .i64 1)).bind fun t66=>k t66
def PV (t9 t10:V) (h:List V) (k:V→V→Rv):Rv:=
 (AL .sub t10 (V.int .i64 15)).bind fun t107=>(AX P 231 (V.weak t9) t107).bind fun t108=>(AV h 132 t108).bind fun t109=>(AL .sub t10 (V.int .i64 2)).bind fun t112=>(AX P 231 (V.weak t9) t112).bind fun t113=>(AV h 132 t113).bind fun t114=>k t109 t114
def PW (t9 t10 t12 t13:V) (h:List V) (k:V→Rv):Rv:=
 (AL .sub t10 (V.int .i64 16)).bind fun t118=>(AX P 231 (V.weak (V.weak t9)) t118).bind fun t119=>(AV h 132 t119).bind fun t120=>(AL .sub t10 (V.int .i64 7)).bind fun t123=>(AX P 231 (V.weak (V.weak t9)) t123).bind fun t124=>(AV h 132 t124).bind fun t125=>(AL .add t120 t125).bind fun t126=>(Cl 182 (AB h [t12,(V.int .i64 7)]) []).bind fun r=>(Cl 182 (AB h [t12,(V.int .i64 18)]) []).bind fun a1=>(AL .xor r.1 a1.1).bind fun t131=>(AL .quo t12 (V.int .u64 8)).bind fun t133=>(AL .xor t131 t133).bind fun t134=>(AL .add t126 t134).bind fun t135=>(Cl 182 (AB h [t13,(V.int .i64 17)]) []).bind fun a2=>(Cl 182 (AB h [t13,(V.int .i64 19)]) []).bind fun a3=>(AL .xor a2.1 a3.1).bind fun t140=>(AL .quo t13 (V.int .u64 1024)).bind fun t142=>(AL .xor t140 t142).bind fun t143=>(AL .add t135 t143).bind fun t144=>(Cl 181 (AB h [t144]) []).bind fun a4=>(CS P 231 1 [(0,a4.1)]).bind fun t146=>(Du P 231 h t9 t146).bind fun t147=>k t147
def PX (t7:V) (h:List V) (k:V→Rv):Rv:=
 (CS P 231 0 []).bind fun t148=>(Du P 231 h t148 (V.weak t7)).bind fun t150=>k t150
def WN (k:V→Rv):Rv:=
 k (V.int .i64 0)
def Ny (t3 t6 t7 t8 t9 t14 t15:V) (m4:Nat) (h:List V):Rv:=lp W 151 8 (cd 151 2476415) (bk 8 (sk 151 5 510335 (bk 5 (sk 151 4 14719 (lk 151 4 m4 2431 (bk 4 (sk 151 0 511 (lv 151 0)))))))) ⟨[(3,t3),(6,t6),(7,t7),(8,t8),(9,t9),(14,t14),(15,t15)],h⟩
def PY (t15:V) (k:V→Rv):Rv:=
 (AL .lss t15 (V.int .i64 64)).bind fun t152=>k t152
def PZ (t14:V) (h:List V) (k:V→V→Rv):Rv:=
 (AX P 231 (V.weak t14) (V.int .i64 0)).bind fun t156=>(AV h 132 t156).bind fun t157=>(AX P 231 (V.weak t14) (V.int .i64 4)).bind fun t159=>(AV h 132 t159).bind fun t160=>k t157 t160
def Pe (t14 t17:V) (h:List V) (k:V→Rv):Rv:=
 (AX P 231 (V.weak t14) (V.int .i64 5)).bind fun t163=>(AV h 132 t163).bind fun t164=>(AL .and t17 t164).bind fun t165=>(AL .sub (V.int .u64 4294967295) t17).bind fun t167=>(AX P 231 (V.weak t14) (V.int .i64 6)).bind fun t169=>(AV h 132 t169).bind fun t170=>(AL .and t167 t170).bind fun t171=>(AL .xor t165 t171).bind fun t172=>k t172
def Pg (t14 t16:V) (h:List V) (k:V→Rv):Rv:=
 (AX P 231 (V.weak t14) (V.int .i64 1)).bind fun t175=>(AV h 132 t175).bind fun t176=>(AL .and t16 t176).bind fun t177=>(AX P 231 (V.weak t14) (V.int .i64 2)).bind fun t180=>(AV h 132 t180).bind fun t181=>(AL .and t16 t181).bind fun t182=>(AL .xor t177 t182).bind fun t183=>(AX P 231 (V.weak t14) (V.int .i64 1)).bind fun t185=>(AV h 132 t185).bind fun t186=>(AX P 231 (V.weak t14) (V.int .i64 2)).bind fun t188=>(AV h 132 t188).bind fun t189=>(AL .and t186 t189).bind fun t190=>(AL .xor t183 t190).bind fun t191=>k t191
def Ph (t6 t9 t14 t15 t17 t18:V) (h:List V) (k:V→Rv):Rv:=
 (AX P 231 (V.weak t14) (V.int .i64 7)).bind fun t193=>(AV h 132 t193).bind fun t194=>(Cl 182 (AB h [t17,(V.int .i64 6)]) []).bind fun r=>(Cl 182 (AB h [t17,(V.int .i64 11)]) []).bind fun a1=>(AL .xor r.1 a1.1).bind fun t199=>(Cl 182 (AB h [t17,(V.int .i64 25)]) []).bind fun a2=>(AL .xor t199 a2.1).bind fun t202=>(AL .add t194 t202).bind fun t203=>(AL .add t203 t18).bind fun t205=>(AX P 231 (V.weak t6) t15).bind fun t208=>(AV h 132 t208).bind fun t209=>(AL .add t205 t209).bind fun t210=>(AX P 231 (V.weak t9) t15).bind fun t213=>(AV h 132 t213).bind fun t214=>(AL .add t210 t214).bind fun t215=>k t215
def Pj (t16 t19:V) (h:List V) (k:V→Rv):Rv:=
 (Cl 182 (AB h [t16,(V.int .i64 2)]) []).bind fun r=>(Cl 182 (AB h [t16,(V.int .i64 13)]) []).bind fun a1=>(AL .xor r.1 a1.1).bind fun t220=>(Cl 182 (AB h [t16,(V.int .i64 22)]) []).bind fun a2=>(AL .xor t220 a2.1).bind fun t223=>(AL .add t223 t19).bind fun t225=>k t225
def Pm (t14 t16 t17 t20 t21:V) (h:List V) (k:V→Rv):Rv:=
 (AL .add t20 t21).bind fun t228=>(Cl 181 (AB h [t228]) []).bind fun r=>(AX P 231 (V.weak t14) (V.int .i64 1)).bind fun t232=>(AV h 132 t232).bind fun t233=>(AX P 231 (V.weak t14) (V.int .i64 2)).bind fun t235=>(AV h 132 t235).bind fun t236=>(AX P 231 (V.weak t14) (V.int .i64 3)).bind fun t238=>(AV h 132 t238).bind fun t239=>(AL .add t239 t20).bind fun t241=>(Cl 181 (AB h [t241]) []).bind fun a1=>(AX P 231 (V.weak t14) (V.int .i64 5)).bind fun t245=>(AV h 132 t245).bind fun t246=>(AX P 231 (V.weak t14) (V.int .i64 6)).bind fun t248=>(AV h 132 t248).bind fun t249=>(CS P 231 8 [(0,r.1),(1,t16),(2,t233),(3,t236),(4,a1.1),(5,t17),(6,t246),(7,t249)]).bind fun t250=>k t250
def WO (t15:V) (k:V→Rv):Rv:=
 (AL .add t15 (V.int .i64 1)).bind fun t154=>k t154
def WQ (k:V→Rv):Rv:=
 k (V.int .i64 0)
def KR (t3 t6 t7 t8 t14 t22:V) (m4:Nat) (h:List V):Rv:=lp W 151 10 (cd 151 2607487) (bk 10 (bk 5 (sk 151 4 14719 (lk 151 4 m4 2431 (bk 4 (sk 151 0 511 (lv 151 0))))))) ⟨[(3,t3),(6,t6),(7,t7),(8,t8),(14,t14),(22,t22)],h⟩
def Pn (t22:V) (k:V→Rv):Rv:=
 (AL .lss t22 (V.int .i64 8)).bind fun t252=>k t252
def WR (t7 t14 t22:V) (h:List V) (k:List V→Rv):Rv:=
 (AX P 231 (V.weak t7) t22).bind fun t259=>(AV h 132 t259).bind fun t260=>(AX P 231 (V.weak t14) t22).bind fun t263=>(AV h 132 t263).bind fun t264=>(AL .add t260 t264).bind fun t265=>(Cl 181 (AB h [t265]) []).bind fun r=>(AX P 231 (V.weak t7) t22).bind fun t267=>(Gu P h 132 t267 r.1).bind fun a5=>k a5
def WS (t22:V) (k:V→Rv):Rv:=
 (AL .add t22 (V.int .i64 1)).bind fun t254=>k t254
def WT (t8:V) (k:V→Rv):Rv:=
 (AL .add t8 (V.int .i64 64)).bind fun t61=>k t61
theorem NG (t3 t6 t7 t8 t14 t22:V) (m4:Nat) (h:List V):KR t3 t6 t7 t8 t14 t22 m4 h=
 Pn t22 fun a6=>
  V.ite a6
  (WR t7 t14 t22 h fun a7=>
  WS t22 fun a8=>
  KR t3 t6 t7 t8 t14 a8 m4 a7)
  (WT t8 fun a9=>
  Eh t3 t6 t7 a9 h):=
 DC (by kernel_rfl)
theorem Po (t3 t6 t7 t8 t9 t14 t15:V) (m4:Nat) (h:List V):Ny t3 t6 t7 t8 t9 t14 t15 m4 h=
 PY t15 fun a10=>
  V.ite a10
  (PZ t14 h fun a11 a12=>
  Pe t14 a12 h fun a13=>
  Pg t14 a11 h fun a14=>
  Ph t6 t9 t14 t15 a12 a13 h fun a15=>
  Pj a11 a14 h fun a16=>
  Pm t14 a11 a12 a15 a16 h fun a17=>
  WO t15 fun a18=>
  Ny t3 t6 t7 t8 t9 a17 a18 m4 h)
  (WQ fun a19=>
  KR t3 t6 t7 t8 t14 a19 m4 h):=
 DC (by kernel_rfl)
theorem Jw (t3 t6 t7 t8 t9 t10:V) (m4:Nat) (h:List V):JC t3 t6 t7 t8 t9 t10 m4 h=
 KP t10 fun a20=>
  V.ite a20
  (PS t10 fun a21=>
  V.ite a21
  (WM t3 t8 t10 fun a22=>
  PU t9 a22 h fun a23=>
  KQ t10 fun a24=>
  JC t3 t6 t7 t8 a23 a24 m4 h)
  (PV t9 t10 h fun a25 a26=>
  PW t9 t10 a25 a26 h fun a27=>
  KQ t10 fun a28=>
  JC t3 t6 t7 t8 a27 a28 m4 h))
  (PX t7 h fun a29=>
  WN fun a30=>
  Ny t3 t6 t7 t8 t9 a29 a30 m4 h):=
 DC (by kernel_rfl)
def WU (k:V→Rv):Rv:=
 (CS P 172 0 []).bind fun t268=>k t268
def WV (k:V→Rv):Rv:=
 k (V.int .i64 0)
def KT (t7 t23 t24:V) (h:List V):Rv:=lp W 151 12 (cd 151 9727) (bk 12 (sk 151 0 2047 (lv 151 0))) ⟨[(7,t7),(23,t23),(24,t24)],h⟩
def Pq (t24:V) (k:V→Rv):Rv:=
 (AL .lss t24 (V.int .i64 8)).bind fun t270=>k t270
def Pv (t7 t23 t24:V) (h:List V) (k:V→Rv):Rv:=
 (AX P 231 (V.weak t7) t24).bind fun t276=>(AV h 132 t276).bind fun t277=>(AL .quo t277 (V.int .u64 16777216)).bind fun t278=>(conv P h 132 5 t278).bind fun t279=>(AX P 231 (V.weak t7) t24).bind fun t282=>(AV h 132 t282).bind fun t283=>(AL .quo t283 (V.int .u64 65536)).bind fun t284=>(AL .rem t284 (V.int .u64 256)).bind fun t285=>(conv P h 132 5 t285).bind fun t286=>(AX P 231 (V.weak t7) t24).bind fun t289=>(AV h 132 t289).bind fun t290=>(AL .quo t290 (V.int .u64 256)).bind fun t291=>(AL .rem t291 (V.int .u64 256)).bind fun t292=>(conv P h 132 5 t292).bind fun t293=>(AX P 231 (V.weak t7) t24).bind fun t296=>(AV h 132 t296).bind fun t297=>(AL .rem t297 (V.int .u64 256)).bind fun t298=>(conv P h 132 5 t298).bind fun t299=>(CS P 172 4 [(0,t279),(1,t286),(2,t293),(3,t299)]).bind fun t300=>(Du P 172 h t23 t300).bind fun t301=>k t301
def WW (t24:V) (k:V→Rv):Rv:=
 (AL .add t24 (V.int .i64 1)).bind fun t272=>k t272
def WX (t23:V) (h:List V) (k:V→Rv):Rv:=
 (conv P h 172 9 t23).bind fun t303=>k t303
theorem NH (t7 t23 t24:V) (h:List V):KT t7 t23 t24 h=
 Pq t24 fun a31=>
  V.ite a31
  (Pv t7 t23 t24 h fun a32=>
  WW t24 fun a33=>
  KT t7 a32 a33 h)
  (WX t23 h fun a34=>
  AP 0 h a34):=
 DC (by kernel_rfl)
theorem Px (t3 t6 t7 t8:V) (h:List V):Eh t3 t6 t7 t8 h=
 PO t3 t8 fun a35=>
  V.ite a35
  (WJ fun a36=>
  WL fun a37=>
  JC t3 t6 t7 t8 a36 a37 (List.length h) h)
  (WU fun a38=>
  WV fun a39=>
  KT t7 a38 a39 h):=
 DC (by kernel_rfl)
theorem Py (t3 t4 t5:V) (h:List V):Nw t3 t4 t5 h=
 U2 t5 fun a40=>
  V.ite a40
  (AAu t3 t4 t5 h fun a41=>
  AAv t5 fun a42=>
  Nw a41 t4 a42 h)
  (AAw h fun a43=>
  WH h fun a44 a45=>
  WI fun a46=>
  Eh t3 a43 a44 a46 a45):=
 DC (by kernel_rfl)
theorem Pz (t0 t3:V) (h:List V):Nv t0 t3 h=
 U1 t3 fun a47=>
  V.ite a47
  (AAr t3 h fun a48=>
  Nv t0 a48 h)
  (AAs t0 h fun a49=>
  AAt fun a50=>
  Nw t3 a49 a50 h):=
 DC (by kernel_rfl)
theorem AHp (t0:V):Cl 151 [t0] []=
 AAp (AAq t0 [] fun a51=>
  Nv t0 a51 []):=
 Au (by kernel_rfl)
theorem AHq (t0 t1:V) (h:List V):Cl 154 [t0,t1] h=
 if((tyG 95) t0&&V.under (List.length h) t0)=true then jn (fun a1=>
 AP (List.length h) (h++[t0]) a1) (fun(a2:V→Rv)=>(fA 96 3 0 (V.ref (List.length h) [] 96)).bind fun a3=>(AV (h++[t0]) 3 a3).bind fun a4=>(AL .lss a4 (V.int .i64 0)).bind fun a5=>V.ite a5 (a2 (V.bool true)) ((fA 96 3 0 (V.ref (List.length h) [] 96)).bind fun a6=>(AV (h++[t0]) 3 a6).bind fun a7=>(fA 24 3 0 t1).bind fun a8=>(AV (h++[t0]) 3 a8).bind fun a9=>(AL .geq a7 a9).bind fun a10=>V.ite a10 (a2 (V.bool true)) ((fA 96 3 1 (V.ref (List.length h) [] 96)).bind fun a11=>(AV (h++[t0]) 3 a11).bind fun a12=>(AL .lss a12 (V.int .i64 0)).bind fun a13=>V.ite a13 (a2 (V.bool true)) ((fA 96 3 1 (V.ref (List.length h) [] 96)).bind fun a14=>(AV (h++[t0]) 3 a14).bind fun a15=>(fA 24 3 0 t1).bind fun a16=>(AV (h++[t0]) 3 a16).bind fun a17=>(AL .geq a15 a17).bind fun a18=>V.ite a18 (a2 (V.bool true)) ((fA 96 2 2 (V.ref (List.length h) [] 96)).bind fun a19=>(AV (h++[t0]) 2 a19).bind fun a20=>(AL .lss a20 (V.int .i64 0)).bind fun a21=>V.ite a21 (a2 (V.bool true)) ((fA 96 2 2 (V.ref (List.length h) [] 96)).bind fun a22=>(AV (h++[t0]) 2 a22).bind fun a23=>(AL .gtr a23 (V.int .i64 1048576)).bind fun a24=>a2 a24))))))else none:=
 Au (by kernel_rfl)
theorem AHr (t0 t1:V) (h:List V):Cl 155 [t0,t1] h=
 (Cl 188 (AQ [t0,t1]) h).bind fun a1=>(AL .geq a1.1 (V.int .i64 0)).bind fun a2=>AP (List.length h) a1.2 a2:=
 Au (by kernel_rfl)
theorem AAx (t0 t1:V) (h:List V):Cl 156 [t0,t1] h=
 (Cl 189 (AQ [t0]) h).bind fun a1=>(Yt 1000158 96 [(V.weak a1.1),t1] a1.2).bind fun a2=>AP (List.length h) a2.2 a1.1:=
 Au (by kernel_rfl)
theorem AAy (t0:V) (h:List V):Cl 157 [t0] h=
 if((tyL 96) (V.weak t0)&&V.under (List.length h) (V.weak t0))=true then(if(List.all [(V.ref (List.length h) [] 22)] V.capOk)=true then some (V.clo 191 [(V.ref (List.length h) [] 22)])else none).bind fun a1=>Uf (h++[(V.weak t0)]) a1 else none:=
 Au (by kernel_rfl)
theorem AHs (t0 t1:V):Cl 158 [t0,t1] []=
 if((tyG 95) t0&&V.under 0 t0)=true then if((tyG 95) t1&&V.under 1 t1)=true then(fA 96 3 0 (V.ref 0 [] 96)).bind fun a1=>(AV [t0,t1] 3 a1).bind fun a2=>(fA 96 3 0 (V.ref 1 [] 96)).bind fun a3=>(AV [t0,t1] 3 a3).bind fun a4=>(AL .neq a2 a4).bind fun a5=>V.ite a5
  ((fA 96 3 0 (V.ref 0 [] 96)).bind fun a6=>(AV [t0,t1] 3 a6).bind fun a7=>(fA 96 3 0 (V.ref 1 [] 96)).bind fun a8=>(AV [t0,t1] 3 a8).bind fun a9=>(AL .sub a7 a9).bind fun a10=>AP 0 [t0,t1] a10)
  ((fA 96 3 1 (V.ref 0 [] 96)).bind fun a11=>(AV [t0,t1] 3 a11).bind fun a12=>(fA 96 3 1 (V.ref 1 [] 96)).bind fun a13=>(AV [t0,t1] 3 a13).bind fun a14=>(AL .sub a12 a14).bind fun a15=>AP 0 [t0,t1] a15)else none else none:=
 Au (by kernel_rfl)
theorem AHt (t0 t1:V):Cl 159 [t0,t1] []=
 (Cl 192 (AB [] [t0,t1]) []).bind fun a1=>(AL .geq a1.1 (V.int .i64 0)).bind fun a2=>AP 0 [] a2:=
 Au (by kernel_rfl)
theorem AHu (t0:V):Cl 160 [t0] []=
 (AL .mul t0 (V.int .u32 2654435761)).bind fun a1=>(AL .shr a1 (V.int .u64 15)).bind fun a2=>(AL .xor a1 a2).bind fun a3=>(AL .mul a3 (V.int .u32 2246822519)).bind fun a4=>(AL .shr a4 (V.int .u64 13)).bind fun a5=>(AL .xor a4 a5).bind fun a6=>AP 0 [] a6:=
 Au (by kernel_rfl)
theorem AHv (t0 t1:V) (h:List V):Cl 167 [t0,t1] h=
 if((tyG 151) t0&&V.under (List.length h) t0)=true then(fA 152 3 1 (V.ref (List.length h) [] 152)).bind fun a1=>(AV (h++[t0]) 3 a1).bind fun a2=>(AV (h++[t0]) 3 t1).bind fun a3=>(AL .eql a2 a3).bind fun a4=>AP (List.length h) (h++[t0]) a4 else none:=
 Au (by kernel_rfl)
def KU (t1 t7 t16 t17 t18:V) (n:Nat) (h:List V):Rv:=lp W 168 0 (cd 168 151) (bk 0 (sk 168 0 31 (lv 168 n))) ⟨[(1,t1),(7,t7),(16,t16),(17,t17),(18,t18)],h⟩
theorem Jy (t1 t7 t16 t17 t18:V) (n:Nat) (h:List V):KU t1 t7 t16 t17 t18 n h=
 (AL .lss t18 t17).bind fun a1=>V.ite a1
  ((Eg 96 t16 t18).bind fun a2=>(AV h 96 a2).bind fun a3=>(CY (tyG 95) 96 (h++[(V.agg 95 [(V.int .i64 0),(V.int .i64 0),(V.int .i64 0)])]) (V.ref (List.length h) [] 96) a3).bind fun a4=>(AV a4 96 (V.ref (List.length h) [] 96)).bind fun a5=>BI P CJ W t1 [a5] a4 fun a6 a7=>if V.noOwn a6=true then V.ite a6
  ((AV a7 96 (V.ref (List.length h) [] 96)).bind fun a8=>(Nr 96 false (ck [(tyG 95) a8] [a8])).bind fun a9=>(Gv 96 (tyG 95) false a7 t7 a9).bind fun a10=>(AL .add t18 (V.int .i64 1)).bind fun a11=>if AZ (List.length h) [t1,a10,t16,t17,a11]=true then KU t1 a10 t16 t17 a11 n (List.take (List.length h) a7)else none)
  ((AL .add t18 (V.int .i64 1)).bind fun a12=>if AZ (List.length h) [t1,t7,t16,t17,a12]=true then KU t1 t7 t16 t17 a12 n (List.take (List.length h) a7)else none)else none)
  (AP n h t7):=
 DC (by kernel_rfl)
theorem AHw (t0 t1:V) (h:List V):Cl 168 [t0,t1] h=
 if((tyG 23) (V.weak t0)&&V.under (List.length h) (V.weak t0))=true then(CW (h++[(V.weak t0)]) 24 (V.ref (List.length h) [] 24)).bind fun a13=>(Cl 193 (AB (h++[(V.weak t0)]) [a13]) []).bind fun a14=>(Oi a14.1 0).bind fun a15=>(ext a14.1 1).bind fun a16=>(CY (tyG 23) 24 ((h++[(V.weak t0)])++[(V.agg 23 [(V.int .i64 0),(V.lst 96 .nil [])])]) (V.ref (List.length (h++[(V.weak t0)])) [] 24) a15).bind fun a17=>(fA 24 22 1 (V.ref (List.length (h++[(V.weak t0)])) [] 24)).bind fun a18=>(CW a17 22 a18).bind fun a19=>(E5 a19).bind fun a20=>KU t1 (V.weak (V.lst 96 .nil [])) a19 a20 (V.int .i64 0) (List.length h) a17 else none:=
 Au (by kernel_rfl)
theorem AHx (t0 t1:V) (h:List V):Cl 169 [t0,t1] h=
 if((tyG 95) t0&&V.under (List.length h) t0)=true then(fA 96 3 0 (V.ref (List.length h) [] 96)).bind fun a1=>(AV (h++[t0]) 3 a1).bind fun a2=>(AV (h++[t0]) 3 t1).bind fun a3=>(AL .eql a2 a3).bind fun a4=>AP (List.length h) (h++[t0]) a4 else none:=
 Au (by kernel_rfl)
theorem AHy (t0 t1 t2 t3:V) (h:List V):Cl 170 [t0,t1,t2,t3] h=
 (AV h 3 t1).bind fun a1=>(AL .eql a1 (V.int .i64 0)).bind fun a2=>V.ite a2
  ((fA 86 2 1 t2).bind fun a3=>(AV h 2 a3).bind fun a4=>(fA 86 2 1 t2).bind fun a5=>(AV h 2 a5).bind fun a6=>if(List.all [a6,(V.bool true),(V.bool false),a4] V.okE)=true then AP (List.length h) h (V.tup [a4,(V.bool false),(V.bool true),a6])else none)
  (jn (fun a7=>
 V.ite a7
  ((fA 86 2 4 t2).bind fun a8=>(AV h 2 a8).bind fun a9=>(fA 86 2 4 t2).bind fun a10=>(AV h 2 a10).bind fun a11=>if(List.all [a11,(V.bool true),(V.bool false),a9] V.okE)=true then AP (List.length h) h (V.tup [a9,(V.bool false),(V.bool true),a11])else none)
  ((fA 86 2 1 t2).bind fun a12=>(AV h 2 a12).bind fun a13=>if(List.all [(V.int .i64 0),(V.bool false),(V.bool false),a13] V.okE)=true then AP (List.length h) h (V.tup [a13,(V.bool false),(V.bool false),(V.int .i64 0)])else none)) (fun(a14:V→Rv)=>(AV h 4 t3).bind fun a15=>V.ite a15 (a14 t0) (a14 (V.bool false)))):=
 Au (by kernel_rfl)
theorem AHz (t0 t1:V):Cl 171 [t0,t1] []=
 (AL .quo t0 t1).bind fun a1=>(AL .rem t0 t1).bind fun a2=>(AL .lss a2 (V.int .i64 0)).bind fun a3=>V.ite a3
  ((AL .sub a1 (V.int .i64 1)).bind fun a4=>AP 0 [] a4)
  (AP 0 [] a1):=
 Au (by kernel_rfl)
def Nz (t0 t1 t7 t8:V) (n:Nat) (h:List V):Rv:=lp W 172 0 (cd 172 37) (bk 0 (sk 172 0 7 (lv 172 n))) ⟨[(0,t0),(1,t1),(7,t7),(8,t8)],h⟩
theorem P5 (t0 t1 t7 t8:V) (n:Nat) (h:List V):Nz t0 t1 t7 t8 n h=
 (AL .lss t8 t7).bind fun a1=>V.ite a1
  ((Eg 152 (V.weak t0) t8).bind fun a2=>(AV h 152 a2).bind fun a3=>BI P CJ W t1 [a3] h fun a4 a5=>if V.noOwn a4=true then V.ite a4
  (AP n a5 t8)
  ((AL .add t8 (V.int .i64 1)).bind fun a6=>Nz t0 t1 t7 a6 n a5)else none)
  (AP n h (V.int .i64 (-1))):=
 DC (by kernel_rfl)
theorem AH0 (t0 t1:V) (h:List V):Cl 172 [t0,t1] h=
 (E5 (V.weak t0)).bind fun a7=>Nz t0 t1 a7 (V.int .i64 0) (List.length h) h:=
 Au (by kernel_rfl)
theorem AH1 (t0 t1 t2:V):Cl 173 [t0,t1,t2] []=
 jn (fun a1=>
 AP 0 [] a1) (fun(a2:V→Rv)=>(AL .geq t0 t1).bind fun a3=>V.ite a3 ((AL .leq t0 t2).bind fun a4=>a2 a4) (a2 (V.bool false))):=
 Au (by kernel_rfl)
def AAz (k:Rv):Rv:=
 k
def AA0 (t0:V) (k:V→Rv):Rv:=
 (AL .geq t0 (V.int .i64 0)).bind fun t4=>V.ite t4 ((AL .lss t0 (V.int .i64 64)).bind fun t7=>k t7) (k (V.bool false))
theorem AH2 (t0:V):Cl 174 [t0] []=
 AAz (AA0 t0 fun a1=>
  AP 0 [] a1):=
 Au (by kernel_rfl)
theorem AH3 (t0:V):Cl 175 [t0] []=
 jn (fun a1=>
 AP 0 [] a1) (fun(a2:V→Rv)=>(AL .gtr t0 (V.int .i64 1125899906842624)).bind fun a3=>V.ite a3 (a2 (V.bool true)) ((AL .lss t0 (V.int .i64 (-1125899906842624))).bind fun a4=>a2 a4)):=
 Au (by kernel_rfl)
def AA1 (h:List V) (k:V→List V→Rv):Rv:=
 k (V.ref (List.length h) [] 66) (h++[zero P 66])
def AA2 (t0:V) (h:List V) (k:V→Rv):Rv:=
 (Cl 194 (AB h [t0,(V.lst 5 .nil [])]) []).bind fun r=>k r.1
def AA3 (t3:V) (h:List V) (k:V→Rv):Rv:=
 (lenV P 172 (V.weak t3)).bind fun t12=>(conv P h 3 132 t12).bind fun t13=>(AL .mul t13 (V.int .u64 8)).bind fun t14=>k t14
def AA4 (t3:V) (h:List V) (k:V→Rv):Rv:=
 (CS P 172 1 [(0,(V.int .u8 128))]).bind fun t16=>(Du P 172 h t3 t16).bind fun t17=>k t17
def N7 (t2 t3 t4:V) (h:List V):Rv:=lp W 176 0 (cd 176 143) (bk 0 (sk 176 0 63 (lv 176 0))) ⟨[(2,t2),(3,t3),(4,t4)],h⟩
def U3 (t3:V) (k:V→Rv):Rv:=
 (lenV P 172 (V.weak t3)).bind fun t19=>(AL .rem t19 (V.int .i64 64)).bind fun t20=>(AL .neq t20 (V.int .i64 56)).bind fun t21=>k t21
def AA5 (t3:V) (h:List V) (k:V→Rv):Rv:=
 (CS P 172 1 [(0,(V.int .u8 0))]).bind fun t23=>(Du P 172 h t3 t23).bind fun t24=>k t24
def AA6 (k:V→Rv):Rv:=
 k (V.int .i64 0)
def N8 (t2 t3 t4 t25:V) (h:List V):Rv:=lp W 176 2 (cd 176 607) (bk 2 (sk 176 0 127 (lv 176 0))) ⟨[(2,t2),(3,t3),(4,t4),(25,t25)],h⟩
def U4 (t25:V) (k:V→Rv):Rv:=
 (AL .lss t25 (V.int .i64 8)).bind fun t26=>k t26
def AA7 (t25:V) (k:V→Rv):Rv:=
 k t25
def AA8 (t3 t4 t5:V) (h:List V) (k:V→Rv):Rv:=
 (AL .mul (V.int .i64 8) t5).bind fun t31=>(AL .sub (V.int .i64 56) t31).bind fun t32=>(conv P h 3 192 t32).bind fun t33=>(AL .shr t4 t33).bind fun t34=>(conv P h 132 5 t34).bind fun t35=>(CS P 172 1 [(0,t35)]).bind fun t36=>(Du P 172 h t3 t36).bind fun t37=>k t37
def WY (t25:V) (k:V→Rv):Rv:=
 (AL .add t25 (V.int .i64 1)).bind fun t38=>k t38
def WZ (h:List V) (k:V→List V→Rv):Rv:=
 (AV h 247 (V.rop 247 Sm)).bind fun t39=>(Gu P (h++[zero P 247]) 247 (V.ref (List.length h) [] 247) t39).bind fun a1=>k (V.ref (List.length h) [] 247) a1
def N9 (t2 t3 t6:V) (h:List V):Rv:=lp W 176 4 (cd 176 1151) (bk 4 (sk 176 0 511 (lv 176 0))) ⟨[(2,t2),(3,t3),(6,t6)],h⟩
def P6 (t3:V) (k:V→Rv):Rv:=
 (lenV P 172 (V.weak t3)).bind fun t41=>(AL .gtr t41 (V.int .i64 0)).bind fun t42=>k t42
def Wh (t3 t6:V) (h:List V) (k:List V→Rv):Rv:=
 (AV h 247 t6).bind fun t45=>(NE P 172 (V.weak t3) none (some (V.int .i64 64)) none).bind fun t47=>(Cl 195 (AB h [t45,t47]) []).bind fun r=>(Gu P h 247 t6 r.1).bind fun a1=>k a1
def Wi (t3:V) (k:V→Rv):Rv:=
 (NE P 172 t3 (some (V.int .i64 64)) none none).bind fun t44=>k t44
def Wj (h:List V) (k:V→List V→Rv):Rv:=
 k (V.ref (List.length h) [] 66) (h++[zero P 66])
def Wl (k:V→Rv):Rv:=
 k (V.int .i64 0)
def OA (t2 t6 t7 t49:V) (h:List V):Rv:=lp W 176 6 (cd 176 9727) (bk 6 (sk 176 0 2047 (lv 176 0))) ⟨[(2,t2),(6,t6),(7,t7),(49,t49)],h⟩
def P7 (t49:V) (k:V→Rv):Rv:=
 (AL .lss t49 (V.int .i64 32)).bind fun t50=>k t50
def Wn (t49:V) (k:V→Rv):Rv:=
 k t49
def P8 (t6 t7 t8:V) (h:List V) (k:List V→Rv):Rv:=
 (AL .quo t8 (V.int .i64 4)).bind fun t54=>(AX P 247 t6 t54).bind fun t55=>(AV h 203 t55).bind fun t56=>(AL .rem t8 (V.int .i64 4)).bind fun t58=>(AL .mul (V.int .i64 8) t58).bind fun t59=>(AL .sub (V.int .i64 24) t59).bind fun t60=>(conv P h 3 192 t60).bind fun t61=>(AL .shr t56 t61).bind fun t62=>(conv P h 203 5 t62).bind fun t63=>(AX P 66 t7 t8).bind fun t64=>(Gu P h 5 t64 t63).bind fun a1=>k a1
def Wp (t49:V) (k:V→Rv):Rv:=
 (AL .add t49 (V.int .i64 1)).bind fun t65=>k t65
def Wq (t2 t7:V) (h:List V) (k:List V→Rv):Rv:=
 (AV h 66 t7).bind fun t66=>(Gu P h 66 t2 t66).bind fun a1=>k a1
theorem P9 (t2 t6 t7 t49:V) (h:List V):OA t2 t6 t7 t49 h=
 P7 t49 fun a2=>
  V.ite a2
  (Wn t49 fun a3=>
  P8 t6 t7 a3 h fun a4=>
  Wp t49 fun a5=>
  OA t2 t6 t7 a5 a4)
  (Wq t2 t7 h fun a6=>
  (AV a6 66 t2).bind fun a7=>AP 0 a6 a7):=
 DC (by kernel_rfl)
theorem QA (t2 t3 t6:V) (h:List V):N9 t2 t3 t6 h=
 P6 t3 fun a8=>
  V.ite a8
  (Wh t3 t6 h fun a9=>
  Wi t3 fun a10=>
  N9 t2 a10 t6 a9)
  (Wj h fun a11 a12=>
  Wl fun a13=>
  OA t2 t6 a11 a13 a12):=
 DC (by kernel_rfl)
theorem QB (t2 t3 t4 t25:V) (h:List V):N8 t2 t3 t4 t25 h=
 U4 t25 fun a14=>
  V.ite a14
  (AA7 t25 fun a15=>
  AA8 t3 t4 a15 h fun a16=>
  WY t25 fun a17=>
  N8 t2 a16 t4 a17 h)
  (WZ h fun a18 a19=>
  N9 t2 t3 a18 a19):=
 DC (by kernel_rfl)
theorem QC (t2 t3 t4:V) (h:List V):N7 t2 t3 t4 h=
 U3 t3 fun a20=>
  V.ite a20
  (AA5 t3 h fun a21=>
  N7 t2 a21 t4 h)
  (AA6 fun a22=>
  N8 t2 t3 t4 a22 h):=
 DC (by kernel_rfl)
theorem AH4 (t0:V):Cl 176 [t0] []=
 AA1 [] fun a23 a24=>
  AA2 t0 a24 fun a25=>
  AA3 a25 a24 fun a26=>
  AA4 a25 a24 fun a27=>
  N7 a23 a27 a26 a24:=
 Au (by kernel_rfl)
def AA9 (h:List V) (k:V→List V→Rv):Rv:=
 k (V.ref (List.length h) [] 66) (h++[zero P 66])
def ABA (t0 t2:V) (h:List V) (k:List V→Rv):Rv:=
 (CS P 172 1 [(0,(V.int .u8 0))]).bind fun t3=>(conv P h 9 172 t0).bind fun t5=>(CS P 245 2 [(0,t3),(1,t5)]).bind fun t6=>(Cl 176 (AB h [t6]) []).bind fun r=>(Gu P h 66 t2 r.1).bind fun a1=>k a1
theorem AH5 (t0:V):Cl 177 [t0] []=
 AA9 [] fun a2 a3=>
  ABA t0 a2 a3 fun a4=>
  (AV a4 66 a2).bind fun a5=>AP 0 a4 a5:=
 Au (by kernel_rfl)
theorem AH6 (t0 t1:V):Cl 178 [t0,t1] []=
 if((tyG 65) t0&&V.under 0 t0)=true then if((tyG 65) t1&&V.under 1 t1)=true then(Nr 5 false (ck [(tyI .u8) (V.int .u8 1)] [(V.int .u8 1)])).bind fun a1=>(slA 66 65 32 5 (V.ref 0 [] 66) none none none).bind fun a2=>(slA 66 65 32 5 (V.ref 1 [] 66) none none none).bind fun a3=>(Nr 172 true (ck [(tyL 5) a1,(tyL 5) a2,(tyL 5) a3] [(V.weak a1),(V.weak a2),(V.weak a3)])).bind fun a4=>(Cl 176 (AB [t0,t1,(V.agg 65 (List.replicate 32 (V.int .u8 0)))] [a4]) []).bind fun a5=>(CY (tyG 65) 66 [t0,t1,(V.agg 65 (List.replicate 32 (V.int .u8 0)))] (V.ref 2 [] 66) a5.1).bind fun a6=>(AV a6 66 (V.ref 2 [] 66)).bind fun a7=>AP 0 a6 a7 else none else none:=
 Au (by kernel_rfl)
def ABB (k:Rv):Rv:=
 k
def ABC (k:V→Rv):Rv:=
 k (V.int .u64 1)
def ABD (k:V→Rv):Rv:=
 k (V.int .i64 0)
def OB (t0 t3 t4:V):Rv:=lp W 179 0 (cd 179 75) (bk 0 (sk 179 0 15 (lv 179 0))) ⟨[(0,t0),(3,t3),(4,t4)],[]⟩
def U5 (t0 t4:V) (k:V→Rv):Rv:=
 (AL .lss t4 t0).bind fun t7=>k t7
def ABE (t3:V) (k:V→Rv):Rv:=
 (AL .mul (V.int .u64 2) t3).bind fun t11=>k t11
def ABF (t4:V) (k:V→Rv):Rv:=
 (AL .add t4 (V.int .i64 1)).bind fun t9=>k t9
def ABG (t3:V) (k:V→Rv):Rv:=
 k t3
theorem QD (t0 t3 t4:V):OB t0 t3 t4=
 U5 t0 t4 fun a1=>
  V.ite a1
  (ABE t3 fun a2=>
  ABF t4 fun a3=>
  OB t0 a2 a3)
  (ABG t3 fun a4=>
  AP 0 [] a4):=
 DC (by kernel_rfl)
theorem AH7 (t0:V):Cl 179 [t0] []=
 ABB (ABC fun a5=>
  ABD fun a6=>
  OB t0 a5 a6):=
 Au (by kernel_rfl)
def ABH (k:Rv):Rv:=
 k
def AH8 (k:V→Rv):Rv:=
 (CS P 231 64 [(0,(V.int .u64 1116352408)),(1,(V.int .u64 1899447441)),(2,(V.int .u64 3049323471)),(3,(V.int .u64 3921009573)),(4,(V.int .u64 961987163)),(5,(V.int .u64 1508970993)),(6,(V.int .u64 2453635748)),(7,(V.int .u64 2870763221)),(8,(V.int .u64 3624381080)),(9,(V.int .u64 310598401)),(10,(V.int .u64 607225278)),(11,(V.int .u64 1426881987)),(12,(V.int .u64 1925078388)),(13,(V.int .u64 2162078206)),(14,(V.int .u64 2614888103)),(15,(V.int .u64 3248222580)),(16,(V.int .u64 3835390401)),(17,(V.int .u64 4022224774)),(18,(V.int .u64 264347078)),(19,(V.int .u64 604807628)),(20,(V.int .u64 770255983)),(21,(V.int .u64 1249150122)),(22,(V.int .u64 1555081692)),(23,(V.int .u64 1996064986)),(24,(V.int .u64 2554220882)),(25,(V.int .u64 2821834349)),(26,(V.int .u64 2952996808)),(27,(V.int .u64 3210313671)),(28,(V.int .u64 3336571891)),(29,(V.int .u64 3584528711)),(30,(V.int .u64 113926993)),(31,(V.int .u64 338241895)),(32,(V.int .u64 666307205)),(33,(V.int .u64 773529912)),(34,(V.int .u64 1294757372)),(35,(V.int .u64 1396182291)),(36,(V.int .u64 1695183700)),(37,(V.int .u64 1986661051)),(38,(V.int .u64 2177026350)),(39,(V.int .u64 2456956037)),(40,(V.int .u64 2730485921)),(41,(V.int .u64 2820302411)),(42,(V.int .u64 3259730800)),(43,(V.int .u64 3345764771)),(44,(V.int .u64 3516065817)),(45,(V.int .u64 3600352804)),(46,(V.int .u64 4094571909)),(47,(V.int .u64 275423344)),(48,(V.int .u64 430227734)),(49,(V.int .u64 506948616)),(50,(V.int .u64 659060556)),(51,(V.int .u64 883997877)),(52,(V.int .u64 958139571)),(53,(V.int .u64 1322822218)),(54,(V.int .u64 1537002063)),(55,(V.int .u64 1747873779)),(56,(V.int .u64 1955562222)),(57,(V.int .u64 2024104815)),(58,(V.int .u64 2227730452)),(59,(V.int .u64 2361852424)),(60,(V.int .u64 2428436474)),(61,(V.int .u64 2756734187)),(62,(V.int .u64 3204031479)),(63,(V.int .u64 3329325298))]).bind fun t1=>k t1
theorem AH9:Cl 180 [] []=
 ABH (AH8 fun a1=>
  AP 0 [] a1):=
 Au (by kernel_rfl)
def ABJ (k:Rv):Rv:=
 k
def ABK (t0:V) (k:V→Rv):Rv:=
 (AL .rem t0 (V.int .u64 4294967296)).bind fun t4=>k t4
theorem AIA (t0:V):Cl 181 [t0] []=
 ABJ (ABK t0 fun a1=>
  AP 0 [] a1):=
 Au (by kernel_rfl)
def ABL (k:Rv):Rv:=
 k
def ABM (t0 t1:V) (k:V→Rv):Rv:=
 (Cl 179 (AB [] [t1]) []).bind fun r=>(AL .quo t0 r.1).bind fun t8=>(Cl 179 (AB [] [t1]) []).bind fun a1=>(AL .rem t0 a1.1).bind fun t12=>(AL .sub (V.int .i64 32) t1).bind fun t14=>(Cl 179 (AB [] [t14]) []).bind fun a2=>(AL .mul t12 a2.1).bind fun t16=>(AL .add t8 t16).bind fun t17=>k t17
theorem AIB (t0 t1:V):Cl 182 [t0,t1] []=
 ABL (ABM t0 t1 fun a3=>
  AP 0 [] a3):=
 Au (by kernel_rfl)
def OC (t0 t1 t7 t8:V) (n:Nat) (h:List V):Rv:=lp W 188 0 (cd 188 37) (bk 0 (sk 188 0 7 (lv 188 n))) ⟨[(0,t0),(1,t1),(7,t7),(8,t8)],h⟩
theorem QE (t0 t1 t7 t8:V) (n:Nat) (h:List V):OC t0 t1 t7 t8 n h=
 (AL .lss t8 t7).bind fun a1=>V.ite a1
  ((Eg 96 (V.weak t0) t8).bind fun a2=>(AV h 96 a2).bind fun a3=>BI P CJ W t1 [a3] h fun a4 a5=>if V.noOwn a4=true then V.ite a4
  (AP n a5 t8)
  ((AL .add t8 (V.int .i64 1)).bind fun a6=>OC t0 t1 t7 a6 n a5)else none)
  (AP n h (V.int .i64 (-1))):=
 DC (by kernel_rfl)
theorem AIC (t0 t1:V) (h:List V):Cl 188 [t0,t1] h=
 (E5 (V.weak t0)).bind fun a7=>OC t0 t1 a7 (V.int .i64 0) (List.length h) h:=
 Au (by kernel_rfl)
theorem ABN (t0:V) (h:List V):Cl 189 [t0] h=
 (Yt 191 96 [(V.lst 96 .nil []),t0] h).bind fun a1=>Uf a1.2 a1.1:=
 Au (by kernel_rfl)
def OD (t0 t1 t7 t8:V):Rv:=lp W 192 0 (cd 192 37) (bk 0 (sk 192 0 7 (lv 192 0))) ⟨[(0,t0),(1,t1),(7,t7),(8,t8)],[]⟩
theorem QF (t0 t1 t7 t8:V):OD t0 t1 t7 t8=
 (AL .lss t8 t7).bind fun a1=>V.ite a1
  ((Eg 9 (V.weak t0) t8).bind fun a2=>(AV [] 9 a2).bind fun a3=>(AL .eql t1 a3).bind fun a4=>V.ite a4
  (AP 0 [] t8)
  ((AL .add t8 (V.int .i64 1)).bind fun a5=>OD t0 t1 t7 a5))
  (AP 0 [] (V.int .i64 (-1))):=
 DC (by kernel_rfl)
theorem AID (t0 t1:V):Cl 192 [t0,t1] []=
 (E5 (V.weak t0)).bind fun a6=>OD t0 t1 a6 (V.int .i64 0):=
 Au (by kernel_rfl)
theorem ABO (t0:V):Cl 193 [t0] []=
 if((tyG 23) (V.weak t0)&&V.under 0 (V.weak t0))=true then(CW [(V.weak t0),(V.agg 23 [(V.int .i64 0),(V.lst 96 .nil [])])] 24 (V.ref 0 [] 24)).bind fun a1=>(Cl 102 (AB [(V.weak t0),(V.agg 23 [(V.int .i64 0),(V.lst 96 .nil [])])] [a1]) []).bind fun a2=>(AL .neq a2.1 (V.int .i64 0)).bind fun a3=>V.ite a3
  (((ck [] [(V.int .i64 0),(V.lst 96 .nil [])]).map (.agg 23)).bind fun a4=>(CY (tyG 23) 24 [(V.weak t0),(V.agg 23 [(V.int .i64 0),(V.lst 96 .nil [])])] (V.ref 1 [] 24) a4).bind fun a5=>(CW a5 24 (V.ref 1 [] 24)).bind fun a6=>if(List.all [a2.1,a6] V.okE)=true then AP 0 a5 (V.tup [a6,a2.1])else none)
  ((fA 24 3 0 (V.ref 0 [] 24)).bind fun a7=>if Dv (V.ref 0 [] 24) a7=true then(AV [(V.weak t0),(V.agg 23 [(V.int .i64 0),(V.lst 96 .nil [])])] 3 a7).bind fun a8=>(fA 24 22 1 (V.ref 0 [] 24)).bind fun a9=>(CW [(V.weak t0),(V.agg 23 [(V.int .i64 0),(V.lst 96 .nil [])])] 22 a9).bind fun a10=>Dk P CJ W (some (V.ref 0 [] 24)) (V.clo 157 []) [a10] [(V.weak t0),(V.agg 23 [(V.int .i64 0),(V.lst 96 .nil [])])] fun a11 a12=>Dk P CJ W (some (V.ref 0 [] 24)) (V.clo 156 []) [a11,(V.clo 158 [])] a12 fun a13 a14=>((ck [(tyI .i64) a8,(tyL 96) a13] [a8,(V.weak a13)]).map (.agg 23)).bind fun a15=>(CY (tyG 23) 24 a14 (V.ref 1 [] 24) a15).bind fun a16=>(CW a16 24 (V.ref 1 [] 24)).bind fun a17=>if(List.all [(V.int .i64 0),a17] V.okE)=true then AP 0 a16 (V.tup [a17,(V.int .i64 0)])else none else none)else none:=
 Au (by kernel_rfl)
def ABP (k:Rv):Rv:=
 k
def ABQ (t0:V) (k:V→Rv):Rv:=
 (lenV P 245 (V.weak t0)).bind fun t13=>(AL .eql t13 (V.int .i64 0)).bind fun t14=>k t14
def AIE (h:List V) (k:V→List V→Rv):Rv:=
 (CS P 172 0 []).bind fun v=>(DN h v).bind fun r=>k r.1 r.2
def ABR (t0:V) (k:V→Rv):Rv:=
 (lenV P 245 (V.weak t0)).bind fun t17=>(AL .eql t17 (V.int .i64 1)).bind fun t18=>k t18
def ABS (t0:V) (h:List V) (k:V→List V→Rv):Rv:=
 (AX P 245 t0 (V.int .i64 0)).bind fun t20=>(CW h 172 t20).bind fun t21=>(Du P 172 h (V.lst 5 .nil []) t21).bind fun v=>(DN h v).bind fun r=>k r.1 r.2
def ABT (k:V→Rv):Rv:=
 k (V.int .i64 0)
def ABU (t1:V) (k:V→Rv):Rv:=
 (lenV P 172 (V.weak t1)).bind fun t24=>(AL .gtr t24 (V.int .i64 0)).bind fun t25=>k t25
def Ws (t0:V) (k:V→V→V→Rv):Rv:=
 (lenV P 245 (V.weak t0)).bind fun t43=>k (V.weak t0) t43 (V.int .i64 0)
def OE (t0 t1 t5 t42 t43 t44:V) (h:List V):Rv:=lp W 194 0 (cd 194 607) (bk 0 (sk 194 0 127 (lv 194 0))) ⟨[(0,t0),(1,t1),(5,t5),(42,t42),(43,t43),(44,t44)],h⟩
def QG (t43 t44:V) (k:V→Rv):Rv:=
 (AL .lss t44 t43).bind fun t45=>k t45
def Wu (t42 t44:V) (h:List V) (k:V→Rv):Rv:=
 (AX P 245 t42 t44).bind fun t46=>(CW h 172 t46).bind fun t47=>k t47
def Wv (t5 t7:V) (k:V→Rv):Rv:=
 (lenV P 172 (V.weak t7)).bind fun t49=>(AL .sub (V.int .i64 9223372036854775807) t5).bind fun t51=>(AL .gtr t49 t51).bind fun t52=>k t52
def Wx (t5 t7:V) (k:V→Rv):Rv:=
 (lenV P 172 t7).bind fun t56=>(AL .add t5 t56).bind fun t57=>k t57
def Wy (t44:V) (k:V→Rv):Rv:=
 (AL .add t44 (V.int .i64 1)).bind fun t58=>k t58
def W9 (t5:V) (h:List V) (k:V→List V→Rv):Rv:=
 mnz P 0 210 [t5] h fun t60 a1=>(NE P 172 t60 none (some t5) (some t5)).bind fun t63=>k t63 a1
def XA (t0 t8:V) (h:List V) (k:V→List V→Rv):Rv:=
 (AX P 245 (V.weak t0) (V.int .i64 0)).bind fun t66=>(CW h 172 t66).bind fun t67=>(cpy P 172 h (V.weak t8) t67).bind fun r=>k r.1 r.2
def XB (t0:V) (k:V→V→V→Rv):Rv:=
 (NE P 245 t0 (some (V.int .i64 1)) none none).bind fun t70=>(lenV P 245 t70).bind fun t71=>k t70 t71 (V.int .i64 0)
def OG (t1 t8 t9 t70 t71 t72:V) (h:List V):Rv:=lp W 194 2 (cd 194 4863) (bk 2 (sk 194 0 1023 (lv 194 0))) ⟨[(1,t1),(8,t8),(9,t9),(70,t70),(71,t71),(72,t72)],h⟩
def QH (t71 t72:V) (k:V→Rv):Rv:=
 (AL .lss t72 t71).bind fun t73=>k t73
def XC (t70 t72:V) (h:List V) (k:V→Rv):Rv:=
 (AX P 245 t70 t72).bind fun t74=>(CW h 172 t74).bind fun t75=>k t75
def XD (t1 t8 t9:V) (h:List V) (k:V→List V→Rv):Rv:=
 (NE P 172 (V.weak t8) (some t9) none none).bind fun t79=>(cpy P 172 h t79 (V.weak t1)).bind fun r=>(AL .add t9 r.1).bind fun t82=>k t82 r.2
def XE (t8 t9 t11:V) (h:List V) (k:V→List V→Rv):Rv:=
 (NE P 172 (V.weak t8) (some t9) none none).bind fun t86=>(cpy P 172 h t86 t11).bind fun r=>(AL .add t9 r.1).bind fun t89=>k t89 r.2
def XF (t72:V) (k:V→Rv):Rv:=
 (AL .add t72 (V.int .i64 1)).bind fun t90=>k t90
def XG (t8:V) (k:V→Rv):Rv:=
 k t8
theorem QI (t1 t8 t9 t70 t71 t72:V) (h:List V):OG t1 t8 t9 t70 t71 t72 h=
 QH t71 t72 fun a2=>
  V.ite a2
  (XC t70 t72 h fun a3=>
  XD t1 t8 t9 h fun a4 a5=>
  XE t8 a4 a3 a5 fun a6 a7=>
  XF t72 fun a8=>
  OG t1 t8 a6 t70 t71 a8 a7)
  (XG t8 fun a9=>
  SE 0 h a9):=
 DC (by kernel_rfl)
theorem QJ (t0 t1 t5 t42 t43 t44:V) (h:List V):OE t0 t1 t5 t42 t43 t44 h=
 QG t43 t44 fun a10=>
  V.ite a10
  (Wu t42 t44 h fun a11=>
  Wv t5 a11 fun a12=>
  V.ite a12
  (none)
  (Wx t5 a11 fun a13=>
  Wy t44 fun a14=>
  OE t0 t1 a13 t42 t43 a14 h))
  (W9 t5 h fun a15 a16=>
  XA t0 a15 a16 fun a17 a18=>
  XB t0 fun a19 a20 a21=>
  OG t1 a15 a17 a19 a20 a21 a18):=
 DC (by kernel_rfl)
def AIF (t0 t1:V) (k:V→Rv):Rv:=
 (lenV P 172 (V.weak t1)).bind fun t27=>(lenV P 245 (V.weak t0)).bind fun t29=>(AL .sub t29 (V.int .i64 1)).bind fun t30=>(AL .quo (V.int .i64 9223372036854775807) t30).bind fun t31=>(AL .geq t27 t31).bind fun t32=>k t32
def AIH (t0 t1 t5:V) (k:V→Rv):Rv:=
 (lenV P 172 (V.weak t1)).bind fun t36=>(lenV P 245 (V.weak t0)).bind fun t38=>(AL .sub t38 (V.int .i64 1)).bind fun t39=>(AL .mul t36 t39).bind fun t40=>(AL .add t5 t40).bind fun t41=>k t41
theorem AII (t0 t1:V):Cl 194 [t0,t1] []=
 ABP (ABQ t0 fun a22=>
  V.ite a22
  (AIE [] fun a23 a24=>
  SE 0 a24 a23)
  (ABR t0 fun a25=>
  V.ite a25
  (ABS t0 [] fun a26 a27=>
  SE 0 a27 a26)
  (ABT fun a28=>
  ABU t1 fun a29=>
  jn (fun a30=>Ws t0 fun a31 a32 a33=>
  OE t0 t1 a30 a31 a32 a33 [])
  (fun(j0:V→Rv)=>V.ite a29
  (AIF t0 t1 fun a34=>
  V.ite a34
  (none)
  (AIH t0 t1 a28 fun a35=>
  j0 a35))
  (j0 a28))))):=
 Au (DR<|Dw (fun K=>K ⟨[(0,t0),(1,t1)],[]⟩) (CB<|DR<|DR<|Dw (fun K u14=>K ⟨[(0,t0),(1,t1),(14,u14)],[]⟩) (funext fun a22=>CB<|EP (by kernel_rfl) (Js<|CB<|DR<|DR<|Dw (fun K u18=>K ⟨[(0,t0),(1,t1),(18,u18)],[]⟩) (funext fun a25=>CB<|EP (by kernel_rfl) (Js<|CB<|DR<|Dw (fun K u5=>K ⟨[(0,t0),(1,t1),(5,u5)],[]⟩) (funext fun a28=>CB<|DR<|DR<|Dw (fun K u25=>K ⟨[(0,t0),(1,t1),(5,a28),(25,u25)],[]⟩) (funext fun a29=>CB<|ALQ (fun K a30=>K ⟨[(0,t0),(1,t1),(5,a30)],[]⟩) (funext fun a30=>by kernel_rfl) (EP (by kernel_rfl) (by kernel_rfl))))))))))
def ABV (t0:V) (h:List V) (k:V→V→List V→Rv):Rv:=
 if(Bj P 247 t0&&V.under (List.length h) t0)=true then k (V.ref (List.length h) [] 247) (V.ref (List.length (h++[t0])) [] 247) ((h++[t0])++[zero P 247])else none
def ABW (h:List V) (k:V→List V→Rv):Rv:=
 k (V.ref (List.length h) [] 261) (h++[zero P 261])
def ABX (k:V→Rv):Rv:=
 k (V.int .i64 0)
def OH (t1 t2 t4 t5 t23:V) (h:List V):Rv:=lp W 195 0 (cd 195 75) (bk 0 (sk 195 0 15 (lv 195 0))) ⟨[(1,t1),(2,t2),(4,t4),(5,t5),(23,t23)],h⟩
def U6 (t23:V) (k:V→Rv):Rv:=
 (AL .lss t23 (V.int .i64 16)).bind fun t24=>k t24
def ABY (t23:V) (k:V→Rv):Rv:=
 k t23
def ABZ (t1 t6:V) (k:V→Rv):Rv:=
 (AL .mul (V.int .i64 4) t6).bind fun t28=>(AL .mul (V.int .i64 4) t6).bind fun t30=>(AL .add t30 (V.int .i64 4)).bind fun t31=>(NE P 172 (V.weak t1) (some t28) (some t31) none).bind fun t32=>k t32
def U7 (t5 t6 t7:V) (h:List V) (k:List V→Rv):Rv:=
 (AX P 172 (V.weak t7) (V.int .i64 0)).bind fun t35=>(AV h 5 t35).bind fun t36=>(conv P h 5 203 t36).bind fun t37=>(AL .shl t37 (V.int .u64 24)).bind fun t38=>(AX P 172 (V.weak t7) (V.int .i64 1)).bind fun t40=>(AV h 5 t40).bind fun t41=>(conv P h 5 203 t41).bind fun t42=>(AL .shl t42 (V.int .u64 16)).bind fun t43=>(AL .or t38 t43).bind fun t44=>(AX P 172 (V.weak t7) (V.int .i64 2)).bind fun t46=>(AV h 5 t46).bind fun t47=>(conv P h 5 203 t47).bind fun t48=>(AL .shl t48 (V.int .u64 8)).bind fun t49=>(AL .or t44 t49).bind fun t50=>(AX P 172 (V.weak t7) (V.int .i64 3)).bind fun t52=>(AV h 5 t52).bind fun t53=>(conv P h 5 203 t53).bind fun t54=>(AL .or t50 t54).bind fun t55=>(AX P 261 t5 t6).bind fun t56=>(Gu P h 203 t56 t55).bind fun a1=>k a1
def ABa (t23:V) (k:V→Rv):Rv:=
 (AL .add t23 (V.int .i64 1)).bind fun t57=>k t57
def ABb (k:V→Rv):Rv:=
 k (V.int .i64 16)
def OI (t2 t4 t5 t8:V) (h:List V):Rv:=lp W 195 2 (cd 195 151) (bk 2 (sk 195 0 31 (lv 195 0))) ⟨[(2,t2),(4,t4),(5,t5),(8,t8)],h⟩
def U8 (t8:V) (k:V→Rv):Rv:=
 (AL .lss t8 (V.int .i64 64)).bind fun t59=>k t59
def QK (t5 t8:V) (h:List V) (k:V→Rv):Rv:=
 (AL .sub t8 (V.int .i64 15)).bind fun t63=>(AX P 261 t5 t63).bind fun t64=>(AV h 203 t64).bind fun t65=>(Cl 211 (AB h [t65,(V.int .i64 7)]) []).bind fun r=>(AL .sub t8 (V.int .i64 15)).bind fun t68=>(AX P 261 t5 t68).bind fun t69=>(AV h 203 t69).bind fun t70=>(Cl 211 (AB h [t70,(V.int .i64 18)]) []).bind fun a2=>(AL .xor r.1 a2.1).bind fun t72=>(AL .sub t8 (V.int .i64 15)).bind fun t74=>(AX P 261 t5 t74).bind fun t75=>(AV h 203 t75).bind fun t76=>(AL .shr t76 (V.int .u64 3)).bind fun t77=>(AL .xor t72 t77).bind fun t78=>k t78
def QL (t5 t8:V) (h:List V) (k:V→Rv):Rv:=
 (AL .sub t8 (V.int .i64 2)).bind fun t80=>(AX P 261 t5 t80).bind fun t81=>(AV h 203 t81).bind fun t82=>(Cl 211 (AB h [t82,(V.int .i64 17)]) []).bind fun r=>(AL .sub t8 (V.int .i64 2)).bind fun t85=>(AX P 261 t5 t85).bind fun t86=>(AV h 203 t86).bind fun t87=>(Cl 211 (AB h [t87,(V.int .i64 19)]) []).bind fun a2=>(AL .xor r.1 a2.1).bind fun t89=>(AL .sub t8 (V.int .i64 2)).bind fun t91=>(AX P 261 t5 t91).bind fun t92=>(AV h 203 t92).bind fun t93=>(AL .shr t93 (V.int .u64 10)).bind fun t94=>(AL .xor t89 t94).bind fun t95=>k t95
def QM (t5 t8 t9 t10:V) (h:List V) (k:List V→Rv):Rv:=
 (AL .sub t8 (V.int .i64 16)).bind fun t98=>(AX P 261 t5 t98).bind fun t99=>(AV h 203 t99).bind fun t100=>(AL .sub t8 (V.int .i64 7)).bind fun t102=>(AX P 261 t5 t102).bind fun t103=>(AV h 203 t103).bind fun t104=>(AL .add t100 t104).bind fun t105=>(AL .add t105 t9).bind fun t107=>(AL .add t107 t10).bind fun t109=>(AX P 261 t5 t8).bind fun t110=>(Gu P h 203 t110 t109).bind fun a1=>k a1
def XH (t8:V) (k:V→Rv):Rv:=
 (AL .add t8 (V.int .i64 1)).bind fun t61=>k t61
def XI (t2:V) (h:List V) (k:V→List V→Rv):Rv:=
 (AV h 247 t2).bind fun t111=>(Gu P (h++[zero P 247]) 247 (V.ref (List.length h) [] 247) t111).bind fun a1=>k (V.ref (List.length h) [] 247) a1
def AEi (k:V→Rv):Rv:=
 k (V.int .i64 0)
def OJ (t2 t4 t5 t11 t112:V) (h:List V):Rv:=lp W 195 4 (cd 195 607) (bk 4 (sk 195 0 127 (lv 195 0))) ⟨[(2,t2),(4,t4),(5,t5),(11,t11),(112,t112)],h⟩
def QN (t112:V) (k:V→Rv):Rv:=
 (AL .lss t112 (V.int .i64 64)).bind fun t113=>k t113
def XJ (t112:V) (k:V→Rv):Rv:=
 k t112
def QO (t11:V) (h:List V) (k:V→V→V→V→V→V→Rv):Rv:=
 (AX P 247 t11 (V.int .i64 0)).bind fun t115=>(AV h 203 t115).bind fun t116=>(AX P 247 t11 (V.int .i64 1)).bind fun t117=>(AV h 203 t117).bind fun t118=>(AX P 247 t11 (V.int .i64 2)).bind fun t119=>(AV h 203 t119).bind fun t120=>(AX P 247 t11 (V.int .i64 4)).bind fun t121=>(AV h 203 t121).bind fun t122=>(AX P 247 t11 (V.int .i64 5)).bind fun t123=>(AV h 203 t123).bind fun t124=>(AX P 247 t11 (V.int .i64 6)).bind fun t125=>(AV h 203 t125).bind fun t126=>k t116 t118 t120 t122 t124 t126
def QR (t5 t11 t12 t16 t17 t18:V) (h:List V) (k:V→Rv):Rv:=
 (AX P 247 t11 (V.int .i64 7)).bind fun t127=>(AV h 203 t127).bind fun t128=>(Cl 211 (AB h [t16,(V.int .i64 6)]) []).bind fun r=>(Cl 211 (AB h [t16,(V.int .i64 11)]) []).bind fun a2=>(AL .xor r.1 a2.1).bind fun t133=>(Cl 211 (AB h [t16,(V.int .i64 25)]) []).bind fun a3=>(AL .xor t133 a3.1).bind fun t136=>(AL .add t128 t136).bind fun t137=>(AL .xor t17 t18).bind fun t142=>(AL .and t16 t142).bind fun t143=>(AL .xor t18 t143).bind fun t144=>(AL .add t137 t144).bind fun t145=>(AX P 261 (V.rop 261 Oq) t12).bind fun t147=>(AV h 203 t147).bind fun t148=>(AL .add t145 t148).bind fun t149=>(AX P 261 t5 t12).bind fun t151=>(AV h 203 t151).bind fun t152=>(AL .add t149 t152).bind fun t153=>k t153
def QT (t13 t14 t15:V) (h:List V) (k:V→Rv):Rv:=
 (Cl 211 (AB h [t13,(V.int .i64 2)]) []).bind fun r=>(Cl 211 (AB h [t13,(V.int .i64 13)]) []).bind fun a2=>(AL .xor r.1 a2.1).bind fun t158=>(Cl 211 (AB h [t13,(V.int .i64 22)]) []).bind fun a3=>(AL .xor t158 a3.1).bind fun t161=>(AL .and t13 t14).bind fun t164=>(AL .or t13 t14).bind fun t168=>(AL .and t15 t168).bind fun t169=>(AL .or t164 t169).bind fun t170=>(AL .add t161 t170).bind fun t171=>k t171
def QU (t11 t13 t14 t15 t16 t17 t18 t19 t20:V) (h:List V) (k:List V→Rv):Rv:=
 (AL .add t19 t20).bind fun t174=>(AX P 247 t11 (V.int .i64 3)).bind fun t178=>(AV h 203 t178).bind fun t179=>(AL .add t179 t19).bind fun t181=>(bld P 247 [(0,t174),(1,t13),(2,t14),(3,t15),(4,t181),(5,t16),(6,t17),(7,t18)]).bind fun t185=>(Gu P h 247 t11 t185).bind fun a1=>k a1
def XK (t112:V) (k:V→Rv):Rv:=
 (AL .add t112 (V.int .i64 1)).bind fun t186=>k t186
def XL (t11:V) (h:List V) (k:V→V→Rv):Rv:=
 (AV h 247 t11).bind fun t187=>k t187 (V.int .i64 0)
def OM (t2 t4 t187 t188:V) (h:List V):Rv:=lp W 195 6 (cd 195 1215) (bk 6 (sk 195 0 255 (lv 195 0))) ⟨[(2,t2),(4,t4),(187,t187),(188,t188)],h⟩
def QV (t188:V) (k:V→Rv):Rv:=
 (AL .lss t188 (V.int .i64 8)).bind fun t189=>k t189
def XM (t187 t188:V) (k:V→V→Rv):Rv:=
 (Lh P 247 t187 t188).bind fun t191=>k t188 t191
def XO (t2 t21 t22:V) (h:List V) (k:List V→Rv):Rv:=
 (AX P 247 t2 t21).bind fun t193=>(AV h 203 t193).bind fun t194=>(AL .add t194 t22).bind fun t196=>(AX P 247 t2 t21).bind fun t197=>(Gu P h 203 t197 t196).bind fun a1=>k a1
def XP (t188:V) (k:V→Rv):Rv:=
 (AL .add t188 (V.int .i64 1)).bind fun t198=>k t198
def XQ (t2 t4:V) (h:List V) (k:List V→Rv):Rv:=
 (AV h 247 t2).bind fun t199=>(Gu P h 247 t4 t199).bind fun a1=>k a1
theorem QW (t2 t4 t187 t188:V) (h:List V):OM t2 t4 t187 t188 h=
 QV t188 fun a4=>
  V.ite a4
  (XM t187 t188 fun a5 a6=>
  XO t2 a5 a6 h fun a7=>
  XP t188 fun a8=>
  OM t2 t4 t187 a8 a7)
  (XQ t2 t4 h fun a9=>
  (AV a9 247 t4).bind fun a10=>AP 0 a9 a10):=
 DC (by kernel_rfl)
theorem QX (t2 t4 t5 t11 t112:V) (h:List V):OJ t2 t4 t5 t11 t112 h=
 QN t112 fun a11=>
  V.ite a11
  (XJ t112 fun a12=>
  QO t11 h fun a13 a14 a15 a16 a17 a18=>
  QR t5 t11 a12 a16 a17 a18 h fun a19=>
  QT a13 a14 a15 h fun a20=>
  QU t11 a13 a14 a15 a16 a17 a18 a19 a20 h fun a21=>
  XK t112 fun a22=>
  OJ t2 t4 t5 t11 a22 a21)
  (XL t11 h fun a23 a24=>
  OM t2 t4 a23 a24 h):=
 DC (by kernel_rfl)
theorem QY (t2 t4 t5 t8:V) (h:List V):OI t2 t4 t5 t8 h=
 U8 t8 fun a25=>
  V.ite a25
  (QK t5 t8 h fun a26=>
  QL t5 t8 h fun a27=>
  QM t5 t8 a26 a27 h fun a28=>
  XH t8 fun a29=>
  OI t2 t4 t5 a29 a28)
  (XI t2 h fun a30 a31=>
  AEi fun a32=>
  OJ t2 t4 t5 a30 a32 a31):=
 DC (by kernel_rfl)
theorem QZ (t1 t2 t4 t5 t23:V) (h:List V):OH t1 t2 t4 t5 t23 h=
 U6 t23 fun a33=>
  V.ite a33
  (ABY t23 fun a34=>
  ABZ t1 a34 fun a35=>
  U7 t5 a34 a35 h fun a36=>
  ABa t23 fun a37=>
  OH t1 t2 t4 t5 a37 a36)
  (ABb fun a38=>
  OI t2 t4 t5 a38 h):=
 DC (by kernel_rfl)
theorem AIJ (t0 t1:V):Cl 195 [t0,t1] []=
 ABV t0 [] fun a39 a40 a41=>
  ABW a41 fun a42 a43=>
  ABX fun a44=>
  OH t1 a39 a40 a42 a44 a43:=
 Au (by kernel_rfl)
def ABc (k:Rv):Rv:=
 k
def ABd (t0 t1:V) (k:V→Rv):Rv:=
 (un .neg t1).bind fun t7=>(Cl 225 (AB [] [t0,t7]) []).bind fun r=>k r.1
theorem AIK (t0 t1:V):Cl 211 [t0,t1] []=
 ABc (ABd t0 t1 fun a1=>
  AP 0 [] a1):=
 Au (by kernel_rfl)
def ABe (k:Rv):Rv:=
 k
def ABf (t1:V) (k:V→Rv):Rv:=
 (conv P [] 3 192 t1).bind fun t7=>(AL .and t7 (V.int .u64 31)).bind fun t8=>k t8
def ABg (t0 t5:V) (k:V→Rv):Rv:=
 (AL .shl t0 t5).bind fun t11=>(AL .sub (V.int .u64 32) t5).bind fun t14=>(AL .shr t0 t14).bind fun t15=>(AL .or t11 t15).bind fun t16=>k t16
theorem AIL (t0 t1:V):Cl 225 [t0,t1] []=
 ABe (ABf t1 fun a1=>
  ABg t0 a1 fun a2=>
  AP 0 [] a2):=
 Au (by kernel_rfl)
end
end Go.Proofs.YtoakaehjnbhgmaaGreatDoor
