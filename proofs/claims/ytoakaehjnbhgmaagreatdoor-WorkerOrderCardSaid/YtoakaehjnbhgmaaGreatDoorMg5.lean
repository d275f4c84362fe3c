/-
  Part of the proof of a statement about the given program: an abstract machine over its code, the simulation, its functions' equations, what they compute.
-/
import Derived.Test.YtoakaehjnbhgmaaGreatDoorMg4
set_option linter.unusedVariables false
set_option linter.unusedSimpArgs false
set_option linter.unusedSectionVars false
set_option maxRecDepth 100000
noncomputable section
namespace Go.Proofs.YtoakaehjnbhgmaaGreatDoor
section
open Go AM
def AAT (t4 t5 t13 t15 t17:V) (h:List V):Rv:=lp W 5 0 (cd 5 607) (bk 0 (sk 5 0 127 (lv 5 0))) ⟨[(4,t4),(5,t5),(13,t13),(15,t15),(17,t17)],h⟩
theorem WN (t4 t5 t13 t15 t17:V) (h:List V):AAT t4 t5 t13 t15 t17 h=
 (EZ (V.weak t4)).bind fun a1=>(AL .lss t17 a1).bind fun a2=>V.ite a2
  ((EQ 39 (V.weak t4) t17).bind fun a3=>(CP h 39 a3).bind fun a4=>(EZ a4).bind fun a5=>(AL .gtr a5 (V.int .i64 20)).bind fun a6=>V.ite a6
  (AP 0 h (V.bool true))
  ((Un .i64 t5).bind fun a7=>(EQ 39 (V.weak t4) t17).bind fun a8=>(CP h 39 a8).bind fun a9=>(EZ a9).bind fun a10=>(AL .add a10 (V.int .i64 1)).bind fun a11=>(AL .rem a7 a11).bind fun a12=>(Ny 152 false (ck [] [])).bind fun a13=>(EQ 39 (V.weak t4) t17).bind fun a14=>(CP h 39 a14).bind fun a15=>(WL 152 a15 (some a12) none none).bind fun a16=>(GK 152 (tyG 151) false h a13 a16).bind fun a17=>(EQ 39 (V.weak t4) t17).bind fun a18=>(CP h 39 a18).bind fun a19=>(WL 152 a19 none (some a12) none).bind fun a20=>(GK 152 (tyG 151) false h a17 a20).bind fun a21=>jn (fun a22 a23=>
 V.ite a22
  (AP 0 a23 (V.bool false))
  ((AL .add t17 (V.int .i64 1)).bind fun a24=>AAT t4 t5 t13 t15 a24 a23)) (fun(a25:V→List V→Rv)=>(Ny 152 false (ck [] [])).bind fun a26=>(EQ 39 (V.weak t4) t17).bind fun a27=>(CP h 39 a27).bind fun a28=>(GK 152 (tyG 151) false h a26 a28).bind fun a29=>(Cl 17 (AV [t13,t17,a29]) h).bind fun a30=>(Cl 17 (AV [t15,t17,a21]) a30.2).bind fun a31=>(Cl 16 (AB a31.2 [a30.1,a31.1]) []).bind fun a32=>(un .not a32.1).bind fun a33=>V.ite a33 (a25 (V.bool true) a31.2) ((Cl 28 (AV [t13]) a31.2).bind fun a34=>(Cl 28 (AV [t15]) a34.2).bind fun a35=>(Y8 (tyG 65) .neq a34.1 a35.1).bind fun a36=>a25 a36 a35.2))))
  (AP 0 h (V.bool true)):=
 DF (by kernel_rfl)
theorem AOl (t0 t1 t2 t3 t4 t5:V):Cl 5 [t0,t1,t2,t3,t4,t5] []=
 if((tyG 23) (V.weak t0)&&V.under 0 (V.weak t0))=true then if((tyG 25) t1&&V.under 1 t1)=true then jn (fun a37=>
 V.ite a37
  ((Cl 10 (AB [(V.weak t0),t1] []) []).bind fun a38=>AP 0 [(V.weak t0),t1] a38.1)
  ((CP [(V.weak t0),t1] 24 (V.ref 0 [] 24)).bind fun a39=>(Cl 12 (AB [(V.weak t0),t1] [a39]) []).bind fun a40=>(AU [(V.weak t0),t1] 26 (V.ref 1 [] 26)).bind fun a41=>(Cl 11 (AV [a40.1,a41,t2,t3]) [(V.weak t0),t1]).bind fun a42=>(ext a42.1 0).bind fun a43=>(ext a42.1 1).bind fun a44=>(CP a42.2 24 (V.ref 0 [] 24)).bind fun a45=>(Cl 12 (AB a42.2 [a45]) []).bind fun a46=>(AU a42.2 26 (V.ref 1 [] 26)).bind fun a47=>(Cl 11 (AV [a46.1,a47,t2,t3]) a42.2).bind fun a48=>(ext a48.1 0).bind fun a49=>(ext a48.1 1).bind fun a50=>jn (fun a51=>
 V.ite a51
  (AP 0 a48.2 (V.bool false))
  (AAT t4 t5 a43 a49 (V.int .i64 0) a48.2)) (fun(a52:V→Rv)=>(AL .neq a44 (V.int .i64 0)).bind fun a53=>V.ite a53 (a52 (V.bool true)) ((AL .neq a50 (V.int .i64 0)).bind fun a54=>V.ite a54 (a52 (V.bool true)) ((ZF .eql a43).bind fun a55=>V.ite a55 (a52 (V.bool true)) ((ZF .eql a49).bind fun a56=>a52 a56)))))) (fun(a57:V→Rv)=>(Cl 10 (AB [(V.weak t0),t1] []) []).bind fun a58=>(un .not a58.1).bind fun a59=>V.ite a59 (a57 (V.bool true)) ((fA 24 22 1 (V.ref 0 [] 24)).bind fun a60=>(CP [(V.weak t0),t1] 22 a60).bind fun a61=>(EZ a61).bind fun a62=>(AL .gtr a62 (V.int .i64 40)).bind fun a63=>V.ite a63 (a57 (V.bool true)) ((fA 24 3 0 (V.ref 0 [] 24)).bind fun a64=>(AU [(V.weak t0),t1] 3 a64).bind fun a65=>(AL .gtr a65 (V.int .i64 12)).bind fun a66=>V.ite a66 (a57 (V.bool true)) ((EZ (V.weak t4)).bind fun a67=>(AL .gtr a67 (V.int .i64 8)).bind fun a68=>V.ite a68 (a57 (V.bool true)) ((CP [(V.weak t0),t1] 24 (V.ref 0 [] 24)).bind fun a69=>(AU [(V.weak t0),t1] 26 (V.ref 1 [] 26)).bind fun a70=>(Cl 13 (AB [(V.weak t0),t1] [a69,a70,t2,t3]) []).bind fun a71=>(un .not a71.1).bind fun a72=>a57 a72)))))else none else none:=
 Ar (by kernel_rfl)
def O3 (t5 t12 t40 t41 t42:V) (n:Nat) (h:List V):Rv:=lp W 11 0 (cd 11 607) (bk 0 (sk 11 0 127 (lv 11 n))) ⟨[(5,t5),(12,t12),(40,t40),(41,t41),(42,t42)],h⟩
theorem JC (t5 t12 t40 t41 t42:V) (n:Nat) (h:List V):O3 t5 t12 t40 t41 t42 n h=
 (AL .lss t42 t41).bind fun a1=>V.ite a1
  ((EQ 3 t40 t42).bind fun a2=>(AU h 3 a2).bind fun a3=>if(Jd t12 t5&&true)=true then(BI t12).bind fun a4=>(fA 103 35 6 a4).bind fun a5=>if Dl t12 a5=true then(BM h 35 a5).bind fun a6=>if Dl t5 t5=true then(AU a6.2 26 t5).bind fun a7=>DX P CO W (some t12) (V.clo 44 []) [a7,a3] a6.2 fun a8 a9=>(Ny 86 false (ck [(tyG 85) a8] [a8])).bind fun a10=>(GK 86 (tyG 85) false a9 a6.1 a10).bind fun a11=>(BI t12).bind fun a12=>(fA 103 35 6 a12).bind fun a13=>(Cb (tyL 86) 35 a9 a13 a11).bind fun a14=>(AL .add t42 (V.int .i64 1)).bind fun a15=>O3 t5 t12 t40 t41 a15 n a14 else none else none else none)
  (if(List.all [(V.int .i64 0),t12] V.okE)=true then Ul h (V.tup [t12,(V.int .i64 0)])else none):=
 DF (by kernel_rfl)
theorem AEO (t0 t1 t2 t3:V) (h:List V):Cl 11 [t0,t1,t2,t3] h=
 if((tyG 23) (V.weak t0)&&V.under (List.length h) (V.weak t0))=true then if((tyG 25) t1&&V.under (List.length (h++[(V.weak t0)])) t1)=true then(CP ((h++[(V.weak t0)])++[t1]) 24 (V.ref (List.length h) [] 24)).bind fun a16=>(AU ((h++[(V.weak t0)])++[t1]) 26 (V.ref (List.length (h++[(V.weak t0)])) [] 26)).bind fun a17=>(Cl 41 (AB ((h++[(V.weak t0)])++[t1]) [a16,a17]) []).bind fun a18=>(AL .neq a18.1 (V.int .i64 0)).bind fun a19=>V.ite a19
  (if(List.all [(V.int .i64 130),V.nilp] V.okE)=true then Ul ((h++[(V.weak t0)])++[t1]) (V.tup [V.nilp,(V.int .i64 130)])else none)
  ((fA 24 3 0 (V.ref (List.length h) [] 24)).bind fun a20=>(AU ((h++[(V.weak t0)])++[t1]) 3 a20).bind fun a21=>(Cl 42 (AB ((h++[(V.weak t0)])++[t1]) [a21,t2,t3]) []).bind fun a22=>(Ou a22.1 0).bind fun a23=>(ext a22.1 1).bind fun a24=>(AL .neq a24 (V.int .i64 0)).bind fun a25=>V.ite a25
  (if(List.all [(V.int .i64 130),V.nilp] V.okE)=true then Ul ((h++[(V.weak t0)])++[t1]) (V.tup [V.nilp,(V.int .i64 130)])else none)
  ((fA 24 3 0 (V.ref (List.length h) [] 24)).bind fun a26=>(AU ((h++[(V.weak t0)])++[t1]) 3 a26).bind fun a27=>(fA 24 22 1 (V.ref (List.length h) [] 24)).bind fun a28=>(CP ((h++[(V.weak t0)])++[t1]) 22 a28).bind fun a29=>(CT 43 (AB ((h++[(V.weak t0)])++[t1]) [a29])).bind fun a30=>((ck [(tyI .i64) a27,(tyL 96) a30.1] [a27,(V.weak a30.1)]).map (.agg 23)).bind fun a31=>(AU ((h++[(V.weak t0)])++[t1]) 26 (V.ref (List.length (h++[(V.weak t0)])) [] 26)).bind fun a32=>((ck [(tyG 23) a31,(tyG 25) a32,(tyI .i64) t2,(tyI .i64) t3] [(V.weak a31),a32,t2,t3,(V.int .i64 0),(V.lst 86 .nil []),(V.lst 86 .nil []),(V.bool false)]).map (.agg 102)).bind fun a33=>if((tyG 102) (V.weak a33)&&V.under (List.length ((h++[(V.weak t0)])++[t1])) (V.weak a33))=true then(EZ a23).bind fun a34=>O3 (V.ref (List.length (h++[(V.weak t0)])) [] 26) (V.ref (List.length ((h++[(V.weak t0)])++[t1])) [] 103) a23 a34 (V.int .i64 0) (List.length h) (((h++[(V.weak t0)])++[t1])++[(V.weak a33)])else none))else none else none:=
 Ar (by kernel_rfl)
theorem ALu (t0:V):Cl 12 [t0] []=
 if((tyG 23) (V.weak t0)&&V.under 0 (V.weak t0))=true then(fA 24 3 0 (V.ref 0 [] 24)).bind fun a1=>(AU [(V.weak t0),(V.agg 23 [(V.int .i64 0),(V.lst 96 .nil [])])] 3 a1).bind fun a2=>(Ny 96 false (ck [] [])).bind fun a3=>(fA 24 22 1 (V.ref 0 [] 24)).bind fun a4=>(CP [(V.weak t0),(V.agg 23 [(V.int .i64 0),(V.lst 96 .nil [])])] 22 a4).bind fun a5=>(GK 96 (tyG 95) false [(V.weak t0),(V.agg 23 [(V.int .i64 0),(V.lst 96 .nil [])])] a3 a5).bind fun a6=>((ck [(tyI .i64) a2,(tyL 96) a6] [a2,(V.weak a6)]).map (.agg 23)).bind fun a7=>(Cb (tyG 23) 24 [(V.weak t0),(V.agg 23 [(V.int .i64 0),(V.lst 96 .nil [])])] (V.ref 1 [] 24) a7).bind fun a8=>(CP a8 24 (V.ref 1 [] 24)).bind fun a9=>AP 0 a8 a9 else none:=
 Ar (by kernel_rfl)
theorem ALv (t0 t1 t2 t3:V):Cl 13 [t0,t1,t2,t3] []=
 if((tyG 23) (V.weak t0)&&V.under 0 (V.weak t0))=true then if((tyG 25) t1&&V.under 1 t1)=true then jn (fun a1=>
 AP 0 [(V.weak t0),t1] a1) (fun(a2:V→Rv)=>(CP [(V.weak t0),t1] 24 (V.ref 0 [] 24)).bind fun a3=>(AU [(V.weak t0),t1] 26 (V.ref 1 [] 26)).bind fun a4=>(Cl 37 (AB [(V.weak t0),t1] [a3,a4]) []).bind fun a5=>V.ite a5.1 ((AL .geq t2 (V.int .i64 1)).bind fun a6=>V.ite a6 ((AL .leq t2 (V.int .i64 64)).bind fun a7=>V.ite a7 ((AL .geq t3 (V.int .i64 0)).bind fun a8=>V.ite a8 ((AL .lss t3 t2).bind fun a9=>a2 a9) (a2 (V.bool false))) (a2 (V.bool false))) (a2 (V.bool false))) (a2 (V.bool false)))else none else none:=
 Ar (by kernel_rfl)
def Uo (t2 t3 t5:V) (h:List V):Rv:=lp W 16 0 (cd 16 75) (bk 0 (sk 16 0 15 (lv 16 0))) ⟨[(2,t2),(3,t3),(5,t5)],h⟩
theorem TF (t2 t3 t5:V) (h:List V):Uo t2 t3 t5 h=
 (fA 44 42 2 t2).bind fun a1=>(CP h 42 a1).bind fun a2=>(EZ a2).bind fun a3=>(AL .lss t5 a3).bind fun a4=>V.ite a4
  ((fA 44 42 2 t2).bind fun a5=>(CP h 42 a5).bind fun a6=>(EQ 9 a6 t5).bind fun a7=>(AU h 9 a7).bind fun a8=>(fA 44 42 2 t3).bind fun a9=>(CP h 42 a9).bind fun a10=>(EQ 9 a10 t5).bind fun a11=>(AU h 9 a11).bind fun a12=>(AL .neq a8 a12).bind fun a13=>V.ite a13
  (AP 0 h (V.bool false))
  ((AL .add t5 (V.int .i64 1)).bind fun a14=>Uo t2 t3 a14 h))
  (AP 0 h (V.bool true)):=
 DF (by kernel_rfl)
theorem ALw (t0 t1:V):Cl 16 [t0,t1] []=
 if((tyG 43) (V.weak t0)&&V.under 0 (V.weak t0))=true then if((tyG 43) (V.weak t1)&&V.under 1 (V.weak t1))=true then jn (fun a15=>
 V.ite a15
  (AP 0 [(V.weak t0),(V.weak t1)] (V.bool false))
  (Uo (V.ref 0 [] 44) (V.ref 1 [] 44) (V.int .i64 0) [(V.weak t0),(V.weak t1)])) (fun(a16:V→Rv)=>(fA 44 30 0 (V.ref 0 [] 44)).bind fun a17=>(AU [(V.weak t0),(V.weak t1)] 30 a17).bind fun a18=>(fA 44 30 0 (V.ref 1 [] 44)).bind fun a19=>(AU [(V.weak t0),(V.weak t1)] 30 a19).bind fun a20=>(AL .neq a18 a20).bind fun a21=>V.ite a21 (a16 (V.bool true)) ((fA 44 9 1 (V.ref 0 [] 44)).bind fun a22=>(AU [(V.weak t0),(V.weak t1)] 9 a22).bind fun a23=>(fA 44 9 1 (V.ref 1 [] 44)).bind fun a24=>(AU [(V.weak t0),(V.weak t1)] 9 a24).bind fun a25=>(AL .neq a23 a25).bind fun a26=>V.ite a26 (a16 (V.bool true)) ((fA 44 42 2 (V.ref 0 [] 44)).bind fun a27=>(CP [(V.weak t0),(V.weak t1)] 42 a27).bind fun a28=>(EZ a28).bind fun a29=>(fA 44 42 2 (V.ref 1 [] 44)).bind fun a30=>(CP [(V.weak t0),(V.weak t1)] 42 a30).bind fun a31=>(EZ a31).bind fun a32=>(AL .neq a29 a32).bind fun a33=>a16 a33)))else none else none:=
 Ar (by kernel_rfl)
def O4 (t3 t4 t6 t8 t15 t77 t78 t79:V) (n:Nat) (h:List V):Rv:=lp W 17 0 (cd 17 38911) (bk 0 (sk 17 0 8191 (lv 17 n))) ⟨[(3,t3),(4,t4),(6,t6),(8,t8),(15,t15),(77,t77),(78,t78),(79,t79)],h⟩
theorem JD (t3 t4 t6 t8 t15 t77 t78 t79:V) (n:Nat) (h:List V):O4 t3 t4 t6 t8 t15 t77 t78 t79 n h=
 (AL .lss t79 t78).bind fun a1=>V.ite a1
  ((EQ 39 t77 t79).bind fun a2=>(CP h 39 a2).bind fun a3=>(Cl 61 (AB h [a3]) []).bind fun a4=>(ext a4.1 0).bind fun a5=>(ext a4.1 1).bind fun a6=>(fA 44 42 2 t15).bind fun a7=>(BM h 42 a7).bind fun a8=>(Ny 9 false (ck [tyS a5] [a5])).bind fun a9=>(GK 9 tyS false a8.2 a8.1 a9).bind fun a10=>(fA 44 42 2 t15).bind fun a11=>(Cb (tyL 9) 42 a8.2 a11 a10).bind fun a12=>(AL .add t79 (V.int .i64 1)).bind fun a13=>O4 t3 t4 t6 t8 t15 t77 t78 a13 n a12)
  ((AU h 29 t3).bind fun a14=>if Dl t3 t3=true then(AU h 29 t3).bind fun a15=>if Dl t3 t3=true then(AU h 29 t3).bind fun a16=>if Dl t3 t3=true then(AU h 29 t3).bind fun a17=>(AU h 29 t3).bind fun a18=>(BI a18).bind fun a19=>(fA 103 35 6 a19).bind fun a20=>(CP h 35 a20).bind fun a21=>if Dl t8 t8=true then(CP h 35 t8).bind fun a22=>if Dl t4 t4=true then(AU h 3 t4).bind fun a23=>(AL .add a23 (V.int .i64 1)).bind fun a24=>(BI a14).bind fun a25=>(fA 103 35 5 a25).bind fun a26=>if avB h a26 [t3,t8,t4]=true then(Cb (tyL 86) 35 h a26 a21).bind fun a27=>(BI a15).bind fun a28=>(fA 103 35 6 a28).bind fun a29=>if avB a27 a29 [t3,t4]=true then(Cb (tyL 86) 35 a27 a29 a22).bind fun a30=>(BI a16).bind fun a31=>(fA 103 3 4 a31).bind fun a32=>if avB a30 a32 [t3]=true then(Cb (tyI .i64) 3 a30 a32 a24).bind fun a33=>(BI a17).bind fun a34=>(fA 103 4 7 a34).bind fun a35=>(Cb tyB 4 a33 a35 (V.bool true)).bind fun a36=>(CP a36 44 t15).bind fun a37=>(Cb (tyG 43) 44 a36 t6 a37).bind fun a38=>(CP a38 44 t6).bind fun a39=>AP n a38 a39 else none else none else none else none else none else none else none else none):=
 DF (by kernel_rfl)
theorem Ur (t0 t1 t2:V) (h:List V):Cl 17 [t0,t1,t2] h=
 if(tyP t0&&V.under (List.length h) t0)=true then if((tyI .i64) t1&&V.under (List.length (h++[t0])) t1)=true then if((tyL 152) (V.weak t2)&&V.under (List.length ((h++[t0])++[t1])) (V.weak t2))=true then jn (fun a40=>
 V.ite a40
  (((ck [(tyI .i64) (V.int .i64 131)] [(V.int .i64 131),(V.str []),(V.lst 9 .nil [])]).map (.agg 43)).bind fun a41=>(Cb (tyG 43) 44 ((((h++[t0])++[t1])++[(V.weak t2)])++[(V.agg 43 [(V.int .i64 0),(V.str []),(V.lst 9 .nil [])])]) (V.ref (List.length (((h++[t0])++[t1])++[(V.weak t2)])) [] 44) a41).bind fun a42=>(CP a42 44 (V.ref (List.length (((h++[t0])++[t1])++[(V.weak t2)])) [] 44)).bind fun a43=>AP (List.length h) a42 a43)
  ((AU (((((((h++[t0])++[t1])++[(V.weak t2)])++[(V.agg 43 [(V.int .i64 0),(V.str []),(V.lst 9 .nil [])])])++[(V.lst 86 .nil [])])++[(V.lst 86 .nil [])])++[(V.lst 152 .nil [])]) 29 (V.ref (List.length h) [] 29)).bind fun a44=>(BI a44).bind fun a45=>(fA 103 35 6 a45).bind fun a46=>(CP (((((((h++[t0])++[t1])++[(V.weak t2)])++[(V.agg 43 [(V.int .i64 0),(V.str []),(V.lst 9 .nil [])])])++[(V.lst 86 .nil [])])++[(V.lst 86 .nil [])])++[(V.lst 152 .nil [])]) 35 a46).bind fun a47=>(if(List.all [(V.ref (List.length h) [] 29),(V.ref (List.length ((h++[t0])++[t1])) [] 39),(V.ref (List.length ((((h++[t0])++[t1])++[(V.weak t2)])++[(V.agg 43 [(V.int .i64 0),(V.str []),(V.lst 9 .nil [])])])) [] 35)] V.capOk)=true then some (V.clo 54 [(V.ref (List.length h) [] 29),(V.ref (List.length ((h++[t0])++[t1])) [] 39),(V.ref (List.length ((((h++[t0])++[t1])++[(V.weak t2)])++[(V.agg 43 [(V.int .i64 0),(V.str []),(V.lst 9 .nil [])])])) [] 35)])else none).bind fun a48=>(Cl 53 (AV [a47,a48]) (((((((h++[t0])++[t1])++[(V.weak t2)])++[(V.agg 43 [(V.int .i64 0),(V.str []),(V.lst 9 .nil [])])])++[(V.lst 86 .nil [])])++[(V.lst 86 .nil [])])++[(V.lst 152 .nil [])])).bind fun a49=>(AL .eql a49.1 (V.int .i64 0)).bind fun a50=>jn (fun a51 a52=>(AL .neq a51 (V.int .i64 0)).bind fun a53=>V.ite a53
  (((ck [(tyI .i64) a51] [a51,(V.str []),(V.lst 9 .nil [])]).map (.agg 43)).bind fun a54=>(Cb (tyG 43) 44 a52 (V.ref (List.length (((h++[t0])++[t1])++[(V.weak t2)])) [] 44) a54).bind fun a55=>(CP a55 44 (V.ref (List.length (((h++[t0])++[t1])++[(V.weak t2)])) [] 44)).bind fun a56=>AP (List.length h) a55 a56)
  ((AU a52 29 (V.ref (List.length h) [] 29)).bind fun a57=>(BI a57).bind fun a58=>(fA 103 3 2 a58).bind fun a59=>(AU a52 3 a59).bind fun a60=>(CP a52 39 (V.ref (List.length ((((((h++[t0])++[t1])++[(V.weak t2)])++[(V.agg 43 [(V.int .i64 0),(V.str []),(V.lst 9 .nil [])])])++[(V.lst 86 .nil [])])++[(V.lst 86 .nil [])])) [] 39)).bind fun a61=>(Cl 58 (AB a52 [a60,a61]) []).bind fun a62=>(Ou a62.1 0).bind fun a63=>(ext a62.1 1).bind fun a64=>(AU a52 29 (V.ref (List.length h) [] 29)).bind fun a65=>(BI a65).bind fun a66=>(fA 103 3 3 a66).bind fun a67=>(AU a52 3 a67).bind fun a68=>(AU a52 3 (V.ref (List.length (h++[t0])) [] 3)).bind fun a69=>(CP a52 35 (V.ref (List.length (((((h++[t0])++[t1])++[(V.weak t2)])++[(V.agg 43 [(V.int .i64 0),(V.str []),(V.lst 9 .nil [])])])++[(V.lst 86 .nil [])])) [] 35)).bind fun a70=>if SQ true [a68,a69,a70,(V.weak a63)]=true then(Cl 59 (AB a52 [a68,a69,a70,(V.weak a63)]) []).bind fun a71=>(Ou a71.1 0).bind fun a72=>(ext a71.1 1).bind fun a73=>(Cb (tyG 76) 77 (a52++[(V.agg 76 [(V.int .i64 0),(V.int .i64 0),(V.agg 65 (List.replicate 32 (V.int .u8 0))),(V.lst 66 .nil [])])]) (V.ref (List.length a52) [] 77) a72).bind fun a74=>(CP (a74++[(V.agg 43 [(V.int .i64 0),(V.str []),(V.lst 9 .nil [])])]) 77 (V.ref (List.length a52) [] 77)).bind fun a75=>(Cl 60 (AB (a74++[(V.agg 43 [(V.int .i64 0),(V.str []),(V.lst 9 .nil [])])]) [a75]) []).bind fun a76=>(ext a76.1 0).bind fun a77=>(ext a76.1 1).bind fun a78=>(fA 44 9 1 (V.ref (List.length a74) [] 44)).bind fun a79=>(Cb tyS 9 (a74++[(V.agg 43 [(V.int .i64 0),(V.str []),(V.lst 9 .nil [])])]) a79 a77).bind fun a80=>(EZ a63).bind fun a81=>O4 (V.ref (List.length h) [] 29) (V.ref (List.length (h++[t0])) [] 3) (V.ref (List.length (((h++[t0])++[t1])++[(V.weak t2)])) [] 44) (V.ref (List.length (((((h++[t0])++[t1])++[(V.weak t2)])++[(V.agg 43 [(V.int .i64 0),(V.str []),(V.lst 9 .nil [])])])++[(V.lst 86 .nil [])])) [] 35) (V.ref (List.length a74) [] 44) a63 a81 (V.int .i64 0) (List.length h) a80 else none))
  (fun(j0:V→List V→Rv)=>V.ite a50
  ((CP a49.2 35 (V.ref (List.length ((((h++[t0])++[t1])++[(V.weak t2)])++[(V.agg 43 [(V.int .i64 0),(V.str []),(V.lst 9 .nil [])])])) [] 35)).bind fun a82=>(if(List.all [(V.ref (List.length h) [] 29),(V.ref (List.length (h++[t0])) [] 3),(V.ref (List.length (((((h++[t0])++[t1])++[(V.weak t2)])++[(V.agg 43 [(V.int .i64 0),(V.str []),(V.lst 9 .nil [])])])++[(V.lst 86 .nil [])])) [] 35),(V.ref (List.length ((((((h++[t0])++[t1])++[(V.weak t2)])++[(V.agg 43 [(V.int .i64 0),(V.str []),(V.lst 9 .nil [])])])++[(V.lst 86 .nil [])])++[(V.lst 86 .nil [])])) [] 39)] V.capOk)=true then some (V.clo 56 [(V.ref (List.length h) [] 29),(V.ref (List.length (h++[t0])) [] 3),(V.ref (List.length (((((h++[t0])++[t1])++[(V.weak t2)])++[(V.agg 43 [(V.int .i64 0),(V.str []),(V.lst 9 .nil [])])])++[(V.lst 86 .nil [])])) [] 35),(V.ref (List.length ((((((h++[t0])++[t1])++[(V.weak t2)])++[(V.agg 43 [(V.int .i64 0),(V.str []),(V.lst 9 .nil [])])])++[(V.lst 86 .nil [])])++[(V.lst 86 .nil [])])) [] 39)])else none).bind fun a83=>(Cl 53 (AV [a82,a83]) a49.2).bind fun a84=>j0 a84.1 a84.2)
  (j0 a49.1 a49.2)))) (fun(a85:V→Rv)=>(AU ((((h++[t0])++[t1])++[(V.weak t2)])++[(V.agg 43 [(V.int .i64 0),(V.str []),(V.lst 9 .nil [])])]) 3 (V.ref (List.length (h++[t0])) [] 3)).bind fun a86=>(AU ((((h++[t0])++[t1])++[(V.weak t2)])++[(V.agg 43 [(V.int .i64 0),(V.str []),(V.lst 9 .nil [])])]) 29 (V.ref (List.length h) [] 29)).bind fun a87=>(BI a87).bind fun a88=>(fA 103 3 4 a88).bind fun a89=>(AU ((((h++[t0])++[t1])++[(V.weak t2)])++[(V.agg 43 [(V.int .i64 0),(V.str []),(V.lst 9 .nil [])])]) 3 a89).bind fun a90=>(AL .neq a86 a90).bind fun a91=>V.ite a91 (a85 (V.bool true)) ((AU ((((h++[t0])++[t1])++[(V.weak t2)])++[(V.agg 43 [(V.int .i64 0),(V.str []),(V.lst 9 .nil [])])]) 3 (V.ref (List.length (h++[t0])) [] 3)).bind fun a92=>(AU ((((h++[t0])++[t1])++[(V.weak t2)])++[(V.agg 43 [(V.int .i64 0),(V.str []),(V.lst 9 .nil [])])]) 29 (V.ref (List.length h) [] 29)).bind fun a93=>(BI a93).bind fun a94=>(fA 103 26 1 a94).bind fun a95=>(fA 26 3 2 a95).bind fun a96=>(AU ((((h++[t0])++[t1])++[(V.weak t2)])++[(V.agg 43 [(V.int .i64 0),(V.str []),(V.lst 9 .nil [])])]) 3 a96).bind fun a97=>(AL .geq a92 a97).bind fun a98=>a85 a98))else none else none else none:=
 Ar (by kernel_rfl)
theorem ALx (t0:V) (h:List V):Cl 28 [t0] h=
 (BI t0).bind fun a1=>(fA 103 35 6 a1).bind fun a2=>(CP (h++[(V.agg 65 (List.replicate 32 (V.int .u8 0)))]) 35 a2).bind fun a3=>(Cl 83 (AB (h++[(V.agg 65 (List.replicate 32 (V.int .u8 0)))]) [a3]) []).bind fun a4=>(Cb (tyG 65) 66 (h++[(V.agg 65 (List.replicate 32 (V.int .u8 0)))]) (V.ref (List.length h) [] 66) a4.1).bind fun a5=>(AU a5 66 (V.ref (List.length h) [] 66)).bind fun a6=>AP (List.length h) a5 a6:=
 Ar (by kernel_rfl)
theorem ALy (t0:V):Cl 34 [t0] []=
 (Cl 89 (AB [(V.agg 65 (List.replicate 32 (V.int .u8 0)))] [t0]) []).bind fun a1=>(Cl 88 (AB [(V.agg 65 (List.replicate 32 (V.int .u8 0)))] [a1.1]) []).bind fun a2=>(Cb (tyG 65) 66 [(V.agg 65 (List.replicate 32 (V.int .u8 0)))] (V.ref 0 [] 66) a2.1).bind fun a3=>(AU a3 66 (V.ref 0 [] 66)).bind fun a4=>AP 0 a3 a4:=
 Ar (by kernel_rfl)
theorem ALz (t0 t1:V):Cl 37 [t0,t1] []=
 if((tyG 23) (V.weak t0)&&V.under 0 (V.weak t0))=true then if((tyG 25) t1&&V.under 1 t1)=true then jn (fun a1=>
 AP 0 [(V.weak t0),t1] a1) (fun(a2:V→Rv)=>(CP [(V.weak t0),t1] 24 (V.ref 0 [] 24)).bind fun a3=>(Cl 95 (AB [(V.weak t0),t1] [a3]) []).bind fun a4=>(AL .eql a4.1 (V.int .i64 0)).bind fun a5=>V.ite a5 ((fA 26 9 0 (V.ref 1 [] 26)).bind fun a6=>(AU [(V.weak t0),t1] 9 a6).bind fun a7=>(Cl 96 (AB [(V.weak t0),t1] [a7]) []).bind fun a8=>V.ite a8.1 ((fA 26 3 1 (V.ref 1 [] 26)).bind fun a9=>(AU [(V.weak t0),t1] 3 a9).bind fun a10=>(AL .geq a10 (V.int .i64 0)).bind fun a11=>V.ite a11 ((fA 26 3 1 (V.ref 1 [] 26)).bind fun a12=>(AU [(V.weak t0),t1] 3 a12).bind fun a13=>(fA 24 3 0 (V.ref 0 [] 24)).bind fun a14=>(AU [(V.weak t0),t1] 3 a14).bind fun a15=>(AL .lss a13 a15).bind fun a16=>V.ite a16 ((fA 26 3 2 (V.ref 1 [] 26)).bind fun a17=>(AU [(V.weak t0),t1] 3 a17).bind fun a18=>(AL .geq a18 (V.int .i64 1)).bind fun a19=>V.ite a19 ((fA 26 3 2 (V.ref 1 [] 26)).bind fun a20=>(AU [(V.weak t0),t1] 3 a20).bind fun a21=>(AL .leq a21 (V.int .i64 64)).bind fun a22=>a2 a22) (a2 (V.bool false))) (a2 (V.bool false))) (a2 (V.bool false))) (a2 (V.bool false))) (a2 (V.bool false)))else none else none:=
 Ar (by kernel_rfl)
theorem AL0 (t0 t1:V):Cl 41 [t0,t1] []=
 if((tyG 23) (V.weak t0)&&V.under 0 (V.weak t0))=true then if((tyG 25) t1&&V.under 1 t1)=true then jn (fun a1=>
 V.ite a1
  (AP 0 [(V.weak t0),t1] (V.int .i64 70))
  (AP 0 [(V.weak t0),t1] (V.int .i64 0))) (fun(a2:V→Rv)=>(CP [(V.weak t0),t1] 24 (V.ref 0 [] 24)).bind fun a3=>(Cl 102 (AB [(V.weak t0),t1] [a3]) []).bind fun a4=>(AL .neq a4.1 (V.int .i64 0)).bind fun a5=>V.ite a5 (a2 (V.bool true)) ((fA 26 9 0 (V.ref 1 [] 26)).bind fun a6=>(AU [(V.weak t0),t1] 9 a6).bind fun a7=>(Cl 103 (AB [(V.weak t0),t1] [a7]) []).bind fun a8=>(un .not a8.1).bind fun a9=>V.ite a9 (a2 (V.bool true)) ((fA 26 3 1 (V.ref 1 [] 26)).bind fun a10=>(AU [(V.weak t0),t1] 3 a10).bind fun a11=>(AL .lss a11 (V.int .i64 0)).bind fun a12=>V.ite a12 (a2 (V.bool true)) ((fA 26 3 1 (V.ref 1 [] 26)).bind fun a13=>(AU [(V.weak t0),t1] 3 a13).bind fun a14=>(fA 24 3 0 (V.ref 0 [] 24)).bind fun a15=>(AU [(V.weak t0),t1] 3 a15).bind fun a16=>(AL .geq a14 a16).bind fun a17=>V.ite a17 (a2 (V.bool true)) ((fA 26 3 2 (V.ref 1 [] 26)).bind fun a18=>(AU [(V.weak t0),t1] 3 a18).bind fun a19=>(AL .lss a19 (V.int .i64 1)).bind fun a20=>V.ite a20 (a2 (V.bool true)) ((fA 26 3 2 (V.ref 1 [] 26)).bind fun a21=>(AU [(V.weak t0),t1] 3 a21).bind fun a22=>(AL .gtr a22 (V.int .i64 64)).bind fun a23=>a2 a23))))))else none else none:=
 Ar (by kernel_rfl)
def O5 (t8 t9 t25 t26:V) (h:List V):Rv:=lp W 42 0 (cd 42 303) (bk 0 (sk 42 0 63 (lv 42 0))) ⟨[(8,t8),(9,t9),(25,t25),(26,t26)],h⟩
theorem TG (t8 t9 t25 t26:V) (h:List V):O5 t8 t9 t25 t26 h=
 (AL .lss t26 t25).bind fun a1=>V.ite a1
  (BG P CO W t8 [t26] h fun a2 a3=>if V.noOwn a2=true then V.ite a2
  ((Ny 3 false (ck [(tyI .i64) t26] [t26])).bind fun a4=>(GK 3 (tyI .i64) false a3 t9 a4).bind fun a5=>(AL .add t26 (V.int .i64 1)).bind fun a6=>O5 t8 a5 t25 a6 a3)
  ((AL .add t26 (V.int .i64 1)).bind fun a7=>O5 t8 t9 t25 a7 a3)else none)
  (if(List.all [(V.int .i64 0),t9] V.okE)=true then AP 0 h (V.tup [t9,(V.int .i64 0)])else none):=
 DF (by kernel_rfl)
theorem AL1 (t0 t1 t2:V):Cl 42 [t0,t1,t2] []=
 if((tyI .i64) t1&&V.under 0 t1)=true then if((tyI .i64) t2&&V.under 1 t2)=true then jn (fun a8=>
 V.ite a8
  (if(List.all [(V.int .i64 60),(V.weak (V.lst 3 .nil []))] V.okE)=true then AP 0 [t1,t2] (V.tup [(V.weak (V.lst 3 .nil [])),(V.int .i64 60)])else none)
  ((if(List.all [(V.ref 0 [] 3),(V.ref 1 [] 3)] V.capOk)=true then some (V.clo 105 [(V.ref 0 [] 3),(V.ref 1 [] 3)])else none).bind fun a9=>O5 a9 (V.weak (V.lst 3 .nil [])) t0 (V.int .i64 0) [t1,t2])) (fun(a10:V→Rv)=>(AU [t1,t2] 3 (V.ref 0 [] 3)).bind fun a11=>(Cl 104 (AB [t1,t2] [t0,a11]) []).bind fun a12=>(un .not a12.1).bind fun a13=>V.ite a13 (a10 (V.bool true)) ((AU [t1,t2] 3 (V.ref 1 [] 3)).bind fun a14=>(AL .lss a14 (V.int .i64 0)).bind fun a15=>V.ite a15 (a10 (V.bool true)) ((AU [t1,t2] 3 (V.ref 1 [] 3)).bind fun a16=>(AU [t1,t2] 3 (V.ref 0 [] 3)).bind fun a17=>(AL .geq a16 a17).bind fun a18=>a10 a18)))else none else none:=
 Ar (by kernel_rfl)
theorem ZK (t0:V):Cl 43 [t0] []=
 (NI .eql (V.weak t0) (V.lst 96 .nil [])).bind fun a1=>V.ite a1
  (AP 0 [] (V.weak (V.lst 96 .nil [])))
  ((Ny 96 false (ck [] [])).bind fun a2=>(GK 96 (tyG 95) false [] a2 t0).bind fun a3=>AP 0 [] a3):=
 Ar (by kernel_rfl)
theorem AL2 (t0 t1:V):Cl 44 [t0,t1] []=
 if((tyG 25) t0&&V.under 0 t0)=true then(fA 26 9 0 (V.ref 0 [] 26)).bind fun a1=>(AU [t0,(V.agg 85 [(V.int .i64 0),(V.int .i64 0),(V.bool false),(V.bool false),(V.int .i64 0)])] 9 a1).bind fun a2=>(Cl 103 (AB [t0,(V.agg 85 [(V.int .i64 0),(V.int .i64 0),(V.bool false),(V.bool false),(V.int .i64 0)])] [a2]) []).bind fun a3=>(un .not a3.1).bind fun a4=>V.ite a4
  (((ck [] [(V.int .i64 0),(V.int .i64 0),(V.bool false),(V.bool false),(V.int .i64 0)]).map (.agg 85)).bind fun a5=>(Cb (tyG 85) 86 [t0,(V.agg 85 [(V.int .i64 0),(V.int .i64 0),(V.bool false),(V.bool false),(V.int .i64 0)])] (V.ref 1 [] 86) a5).bind fun a6=>(AU a6 86 (V.ref 1 [] 86)).bind fun a7=>AP 0 a6 a7)
  (((ck [(tyI .i64) t1,tyB (V.bool true)] [t1,(V.int .i64 0),(V.bool true),(V.bool false),(V.int .i64 0)]).map (.agg 85)).bind fun a8=>(Cb (tyG 85) 86 [t0,(V.agg 85 [(V.int .i64 0),(V.int .i64 0),(V.bool false),(V.bool false),(V.int .i64 0)]),(V.agg 85 [(V.int .i64 0),(V.int .i64 0),(V.bool false),(V.bool false),(V.int .i64 0)])] (V.ref 2 [] 86) a8).bind fun a9=>(fA 26 9 0 (V.ref 0 [] 26)).bind fun a10=>(AU a9 9 a10).bind fun a11=>(AL .eql a11 (V.str [109,97,120])).bind fun a12=>V.ite a12
  ((AL .mul (V.int .i64 37) t1).bind fun a13=>(AL .add a13 (V.int .i64 11)).bind fun a14=>(AL .rem a14 (V.int .i64 64)).bind fun a15=>(fA 86 2 1 (V.ref 2 [] 86)).bind fun a16=>(Cb (tyI .i64) 2 a9 a16 a15).bind fun a17=>(AU a17 86 (V.ref 2 [] 86)).bind fun a18=>(Cb (tyG 85) 86 a17 (V.ref 1 [] 86) a18).bind fun a19=>(AU a19 86 (V.ref 1 [] 86)).bind fun a20=>AP 0 a19 a20)
  ((AL .eql a11 (V.str [108,97,98,101,108])).bind fun a21=>V.ite a21
  ((fA 86 2 1 (V.ref 2 [] 86)).bind fun a22=>(Cb (tyI .i64) 2 a9 a22 t1).bind fun a23=>(AU a23 86 (V.ref 2 [] 86)).bind fun a24=>(Cb (tyG 85) 86 a23 (V.ref 1 [] 86) a24).bind fun a25=>(AU a25 86 (V.ref 1 [] 86)).bind fun a26=>AP 0 a25 a26)
  ((AL .eql a11 (V.str [98,102,115])).bind fun a27=>V.ite a27
  ((fA 26 3 1 (V.ref 0 [] 26)).bind fun a28=>(AU a9 3 a28).bind fun a29=>(AL .neq t1 a29).bind fun a30=>V.ite a30
  ((fA 86 2 1 (V.ref 2 [] 86)).bind fun a31=>(Cb (tyI .i64) 2 a9 a31 (V.int .i64 (-1))).bind fun a32=>(AU a32 86 (V.ref 2 [] 86)).bind fun a33=>(Cb (tyG 85) 86 a32 (V.ref 1 [] 86) a33).bind fun a34=>(AU a34 86 (V.ref 1 [] 86)).bind fun a35=>AP 0 a34 a35)
  ((AU a9 86 (V.ref 2 [] 86)).bind fun a36=>(Cb (tyG 85) 86 a9 (V.ref 1 [] 86) a36).bind fun a37=>(AU a37 86 (V.ref 1 [] 86)).bind fun a38=>AP 0 a37 a38))
  ((AL .eql a11 (V.str [115,115,115,112])).bind fun a39=>V.ite a39
  ((fA 26 3 1 (V.ref 0 [] 26)).bind fun a40=>(AU a9 3 a40).bind fun a41=>(AL .neq t1 a41).bind fun a42=>V.ite a42
  ((fA 86 2 1 (V.ref 2 [] 86)).bind fun a43=>(Cb (tyI .i64) 2 a9 a43 (V.int .i64 (-1))).bind fun a44=>(AU a44 86 (V.ref 2 [] 86)).bind fun a45=>(Cb (tyG 85) 86 a44 (V.ref 1 [] 86) a45).bind fun a46=>(AU a46 86 (V.ref 1 [] 86)).bind fun a47=>AP 0 a46 a47)
  ((AU a9 86 (V.ref 2 [] 86)).bind fun a48=>(Cb (tyG 85) 86 a9 (V.ref 1 [] 86) a48).bind fun a49=>(AU a49 86 (V.ref 1 [] 86)).bind fun a50=>AP 0 a49 a50))
  ((AL .eql a11 (V.str [114,97,110,107])).bind fun a51=>V.ite a51
  ((fA 86 2 1 (V.ref 2 [] 86)).bind fun a52=>(Cb (tyI .i64) 2 a9 a52 (V.int .i64 65536)).bind fun a53=>(AU a53 86 (V.ref 2 [] 86)).bind fun a54=>(Cb (tyG 85) 86 a53 (V.ref 1 [] 86) a54).bind fun a55=>(AU a55 86 (V.ref 1 [] 86)).bind fun a56=>AP 0 a55 a56)
  ((AL .eql a11 (V.str [119,97,108,107,115])).bind fun a57=>V.ite a57
  ((fA 86 2 1 (V.ref 2 [] 86)).bind fun a58=>(Cb (tyI .i64) 2 a9 a58 (V.int .i64 1)).bind fun a59=>(AU a59 86 (V.ref 2 [] 86)).bind fun a60=>(Cb (tyG 85) 86 a59 (V.ref 1 [] 86) a60).bind fun a61=>(AU a61 86 (V.ref 1 [] 86)).bind fun a62=>AP 0 a61 a62)
  ((AU a9 86 (V.ref 2 [] 86)).bind fun a63=>(Cb (tyG 85) 86 a9 (V.ref 1 [] 86) a63).bind fun a64=>(AU a64 86 (V.ref 1 [] 86)).bind fun a65=>AP 0 a64 a65)))))))else none:=
 Ar (by kernel_rfl)
def Jy (t1 t8 t9 t10:V) (n:Nat) (h:List V):Rv:=lp W 53 0 (cd 53 37) (bk 0 (sk 53 0 7 (lv 53 n))) ⟨[(1,t1),(8,t8),(9,t9),(10,t10)],h⟩
theorem Cc (t1 t8 t9 t10:V) (n:Nat) (h:List V):Jy t1 t8 t9 t10 n h=
 (AL .lss t10 t9).bind fun a1=>V.ite a1
  ((EQ 86 t8 t10).bind fun a2=>(AU h 86 a2).bind fun a3=>(Cb (tyG 85) 86 (h++[(V.agg 85 [(V.int .i64 0),(V.int .i64 0),(V.bool false),(V.bool false),(V.int .i64 0)])]) (V.ref (List.length h) [] 86) a3).bind fun a4=>(AU a4 86 (V.ref (List.length h) [] 86)).bind fun a5=>BG P CO W t1 [a5] a4 fun a6 a7=>if V.noOwn a6=true then(AL .neq a6 (V.int .i64 0)).bind fun a8=>V.ite a8
  (AP n a7 a6)
  ((AL .add t10 (V.int .i64 1)).bind fun a9=>if AZ (List.length h) [t1,t8,t9,a9]=true then Jy t1 t8 t9 a9 n (List.take (List.length h) a7)else none)else none)
  (AP n h (V.int .i64 0)):=
 DF (by kernel_rfl)
theorem Us (t0 t1:V) (h:List V):Cl 53 [t0,t1] h=
 (EZ t0).bind fun a10=>Jy t1 t0 a10 (V.int .i64 0) (List.length h) h:=
 Ar (by kernel_rfl)
theorem AEP (t0 t1 t2 t3:V) (h:List V):Cl 54 [t0,t1,t2,t3] h=
 if((tyG 85) t0&&V.under (List.length h) t0)=true then(AU (h++[t0]) 29 t1).bind fun a1=>(BI a1).bind fun a2=>(fA 103 26 1 a2).bind fun a3=>(fA 26 9 0 a3).bind fun a4=>(AU (h++[t0]) 9 a4).bind fun a5=>(CP (h++[t0]) 39 t2).bind fun a6=>(fA 86 3 0 (V.ref (List.length h) [] 86)).bind fun a7=>(AU (h++[t0]) 3 a7).bind fun a8=>(Cl 55 (AB (h++[t0]) [a5,a6,a8]) []).bind fun a9=>(ext a9.1 0).bind fun a10=>(ext a9.1 1).bind fun a11=>(ext a9.1 2).bind fun a12=>(fA 86 4 3 (V.ref (List.length h) [] 86)).bind fun a13=>(Cb tyB 4 (h++[t0]) a13 a11).bind fun a14=>(fA 86 2 4 (V.ref (List.length h) [] 86)).bind fun a15=>(Cb (tyI .i64) 2 a14 a15 a10).bind fun a16=>(BM a16 35 t3).bind fun a17=>(AU a17.2 86 (V.ref (List.length h) [] 86)).bind fun a18=>(Ny 86 false (ck [(tyG 85) a18] [a18])).bind fun a19=>(GK 86 (tyG 85) false a17.2 a17.1 a19).bind fun a20=>(Cb (tyL 86) 35 a17.2 t3 a20).bind fun a21=>AP (List.length h) a21 a12 else none:=
 Ar (by kernel_rfl)
def Ut (t0 t9 t10 t35 t36 t37:V) (h:List V):Rv:=lp W 55 0 (cd 55 607) (bk 0 (sk 55 0 127 (lv 55 0))) ⟨[(0,t0),(9,t9),(10,t10),(35,t35),(36,t36),(37,t37)],h⟩
theorem L8 (t0 t9 t10 t35 t36 t37:V) (h:List V):Ut t0 t9 t10 t35 t36 t37 h=
 (AL .lss t37 t36).bind fun a1=>V.ite a1
  ((EQ 152 t35 t37).bind fun a2=>(AU h 152 a2).bind fun a3=>(Cb (tyG 151) 152 (h++[(V.agg 151 [(V.int .i64 0),(V.int .i64 0),(V.int .i64 0)])]) (V.ref (List.length h) [] 152) a3).bind fun a4=>(AL .neq t10 (V.int .i64 0)).bind fun a5=>V.ite a5
  ((AL .neq t10 (V.int .i64 0)).bind fun a6=>V.ite a6
  (if(List.all [t10,(V.bool false),(V.int .i64 0)] V.okE)=true then AP 0 a4 (V.tup [(V.int .i64 0),(V.bool false),t10])else none)
  (if(List.all [(V.int .i64 0),(V.bool true),t9] V.okE)=true then AP 0 a4 (V.tup [t9,(V.bool true),(V.int .i64 0)])else none))
  ((fA 152 2 2 (V.ref (List.length h) [] 152)).bind fun a7=>(AU a4 2 a7).bind fun a8=>(Cl 115 (AB a4 [t0,t9,a8]) []).bind fun a9=>(ext a9.1 0).bind fun a10=>(ext a9.1 1).bind fun a11=>(AL .add t37 (V.int .i64 1)).bind fun a12=>if AZ (List.length h) [t0,a10,a11,t35,t36,a12]=true then Ut t0 a10 a11 t35 t36 a12 (List.take (List.length h) a4)else none))
  ((AL .neq t10 (V.int .i64 0)).bind fun a13=>V.ite a13
  (if(List.all [t10,(V.bool false),(V.int .i64 0)] V.okE)=true then AP 0 h (V.tup [(V.int .i64 0),(V.bool false),t10])else none)
  (if(List.all [(V.int .i64 0),(V.bool true),t9] V.okE)=true then AP 0 h (V.tup [t9,(V.bool true),(V.int .i64 0)])else none)):=
 DF (by kernel_rfl)
theorem AEQ (t0 t1 t2:V):Cl 55 [t0,t1,t2] []=
 (Cl 103 (AB [] [t0]) []).bind fun a14=>(un .not a14.1).bind fun a15=>V.ite a15
  (if(List.all [(V.int .i64 70),(V.bool false),(V.int .i64 0)] V.okE)=true then AP 0 [] (V.tup [(V.int .i64 0),(V.bool false),(V.int .i64 70)])else none)
  ((Cl 114 (AB [] [t1,t2]) []).bind fun a16=>(EZ (V.weak a16.1)).bind fun a17=>(AL .eql a17 (V.int .i64 0)).bind fun a18=>V.ite a18
  (if(List.all [(V.int .i64 0),(V.bool false),(V.int .i64 0)] V.okE)=true then AP 0 [] (V.tup [(V.int .i64 0),(V.bool false),(V.int .i64 0)])else none)
  ((EQ 152 (V.weak a16.1) (V.int .i64 0)).bind fun a19=>(fA 152 2 2 a19).bind fun a20=>(AU [] 2 a20).bind fun a21=>(EQ 152 (V.weak a16.1) (V.int .i64 0)).bind fun a22=>(fA 152 2 2 a22).bind fun a23=>(AU [] 2 a23).bind fun a24=>(Cl 115 (AB [] [(V.str [109,97,120]),a21,a24]) []).bind fun a25=>(ext a25.1 0).bind fun a26=>(ext a25.1 1).bind fun a27=>(WL 152 a16.1 (some (V.int .i64 1)) none none).bind fun a28=>(EZ a28).bind fun a29=>Ut t0 a26 a27 a28 a29 (V.int .i64 0) [])):=
 Ar (by kernel_rfl)
theorem AER (t0 t1 t2 t3 t4:V) (h:List V):Cl 56 [t0,t1,t2,t3,t4] h=
 if((tyG 85) t0&&V.under (List.length h) t0)=true then(AU (h++[t0]) 29 t1).bind fun a1=>(BI a1).bind fun a2=>(fA 103 24 0 a2).bind fun a3=>(CP (h++[t0]) 24 a3).bind fun a4=>(AU (h++[t0]) 29 t1).bind fun a5=>(BI a5).bind fun a6=>(fA 103 26 1 a6).bind fun a7=>(AU (h++[t0]) 26 a7).bind fun a8=>(AU (h++[t0]) 3 t2).bind fun a9=>(AU (h++[t0]) 86 (V.ref (List.length h) [] 86)).bind fun a10=>if SQ true [a4,a8,a9,a10]=true then(Cl 57 (AB (h++[t0]) [a4,a8,a9,a10]) []).bind fun a11=>(ext a11.1 0).bind fun a12=>(Ou a11.1 1).bind fun a13=>(ext a11.1 2).bind fun a14=>(Cb (tyG 85) 86 ((h++[t0])++[(V.agg 85 [(V.int .i64 0),(V.int .i64 0),(V.bool false),(V.bool false),(V.int .i64 0)])]) (V.ref (List.length (h++[t0])) [] 86) a12).bind fun a15=>if(Jd t3 t4&&(Jd t3 (V.ref (List.length (h++[t0])) [] 86)&&(Jd t4 (V.ref (List.length (h++[t0])) [] 86)&&true)))=true then if Dl t3 t3=true then(BM a15 35 t3).bind fun a16=>if Dl (V.ref (List.length (h++[t0])) [] 86) (V.ref (List.length (h++[t0])) [] 86)=true then(AU a16.2 86 (V.ref (List.length (h++[t0])) [] 86)).bind fun a17=>(Ny 86 false (ck [(tyG 85) a17] [a17])).bind fun a18=>if SQ true [a16.1,a18]=true then(GK 86 (tyG 85) false a16.2 a16.1 a18).bind fun a19=>if Dl t4 t4=true then(BM a16.2 39 t4).bind fun a20=>(GK 152 (tyG 151) false a20.2 a20.1 a13).bind fun a21=>(Cb (tyL 86) 35 a20.2 t3 a19).bind fun a22=>(Cb (tyL 152) 39 a22 t4 a21).bind fun a23=>AP (List.length h) a23 a14 else none else none else none else none else none else none else none:=
 Ar (by kernel_rfl)
def L9 (t7 t8 t12 t13 t14 t16 t17 t18 t88 t89 t90:V) (h:List V):Rv:=lp W 57 0 (cd 57 19455) (bk 0 (sk 57 0 4095 (lv 57 0))) ⟨[(7,t7),(8,t8),(12,t12),(13,t13),(14,t14),(16,t16),(17,t17),(18,t18),(88,t88),(89,t89),(90,t90)],h⟩
theorem TI (t7 t8 t12 t13 t14 t16 t17 t18 t88 t89 t90:V) (h:List V):L9 t7 t8 t12 t13 t14 t16 t17 t18 t88 t89 t90 h=
 (AL .lss t90 t89).bind fun a1=>V.ite a1
  ((EQ 96 t88 t90).bind fun a2=>(AU h 96 a2).bind fun a3=>(Cb (tyG 95) 96 (h++[(V.agg 95 [(V.int .i64 0),(V.int .i64 0),(V.int .i64 0)])]) (V.ref (List.length h) [] 96) a3).bind fun a4=>V.ite t14
  ((AU a4 96 (V.ref (List.length h) [] 96)).bind fun a5=>BG P CO W t18 [a5] a4 fun a6 a7=>if V.noOwn a6=true then(AL .add t90 (V.int .i64 1)).bind fun a8=>if AZ (List.length h) [t7,t8,t12,t13,t14,t16,t17,t18,t88,t89,a8]=true then L9 t7 t8 t12 t13 t14 t16 t17 t18 t88 t89 a8 (List.take (List.length h) a7)else none else none)
  ((AL .add t90 (V.int .i64 1)).bind fun a9=>if AZ (List.length h) [t7,t8,t12,t13,t14,t16,t17,t18,t88,t89,a9]=true then L9 t7 t8 t12 t13 t14 t16 t17 t18 t88 t89 a9 (List.take (List.length h) a4)else none))
  ((AU h 4 t17).bind fun a10=>V.ite a10
  (((ck [] [(V.int .i64 0),(V.int .i64 0),(V.bool false),(V.bool false),(V.int .i64 0)]).map (.agg 85)).bind fun a11=>(Cb (tyG 85) 86 h t8 a11).bind fun a12=>(AU a12 86 t8).bind fun a13=>if(List.all [(V.int .i64 71),(V.weak (V.lst 152 .nil [])),a13] V.okE)=true then AP 0 a12 (V.tup [a13,(V.weak (V.lst 152 .nil [])),(V.int .i64 71)])else none)
  (if(Jd t8 t16&&true)=true then(fA 86 3 0 t7).bind fun a14=>(AU h 3 a14).bind fun a15=>((ck [(tyI .i64) a15,(tyI .i64) t12,tyB t13] [a15,t12,t13,(V.bool false),(V.int .i64 0)]).map (.agg 85)).bind fun a16=>if Dl t16 t16=true then(CP h 39 t16).bind fun a17=>if Dl t8 t8=true then(Cb (tyG 85) 86 h t8 a16).bind fun a18=>(AU a18 86 t8).bind fun a19=>if(List.all [(V.int .i64 0),a17,a19] V.okE)=true then AP 0 a18 (V.tup [a19,a17,(V.int .i64 0)])else none else none else none else none)):=
 DF (by kernel_rfl)
theorem AL3 (t0 t1 t2 t3:V):Cl 57 [t0,t1,t2,t3] []=
 if((tyG 23) (V.weak t0)&&V.under 0 (V.weak t0))=true then if((tyG 25) t1&&V.under 1 t1)=true then if((tyG 85) t3&&V.under 2 t3)=true then jn (fun a20=>
 V.ite a20
  (((ck [] [(V.int .i64 0),(V.int .i64 0),(V.bool false),(V.bool false),(V.int .i64 0)]).map (.agg 85)).bind fun a21=>(Cb (tyG 85) 86 [(V.weak t0),t1,t3,(V.agg 85 [(V.int .i64 0),(V.int .i64 0),(V.bool false),(V.bool false),(V.int .i64 0)])] (V.ref 3 [] 86) a21).bind fun a22=>(AU a22 86 (V.ref 3 [] 86)).bind fun a23=>if(List.all [(V.int .i64 70),(V.weak (V.lst 152 .nil [])),a23] V.okE)=true then AP 0 a22 (V.tup [a23,(V.weak (V.lst 152 .nil [])),(V.int .i64 70)])else none)
  (jn (fun a24=>
 V.ite a24
  (((ck [] [(V.int .i64 0),(V.int .i64 0),(V.bool false),(V.bool false),(V.int .i64 0)]).map (.agg 85)).bind fun a25=>(Cb (tyG 85) 86 [(V.weak t0),t1,t3,(V.agg 85 [(V.int .i64 0),(V.int .i64 0),(V.bool false),(V.bool false),(V.int .i64 0)])] (V.ref 3 [] 86) a25).bind fun a26=>(AU a26 86 (V.ref 3 [] 86)).bind fun a27=>if(List.all [(V.int .i64 71),(V.weak (V.lst 152 .nil [])),a27] V.okE)=true then AP 0 a26 (V.tup [a27,(V.weak (V.lst 152 .nil [])),(V.int .i64 71)])else none)
  (jn (fun a28=>
 V.ite a28
  ((AU [(V.weak t0),t1,t3,(V.agg 85 [(V.int .i64 0),(V.int .i64 0),(V.bool false),(V.bool false),(V.int .i64 0)])] 86 (V.ref 2 [] 86)).bind fun a29=>(Cb (tyG 85) 86 [(V.weak t0),t1,t3,(V.agg 85 [(V.int .i64 0),(V.int .i64 0),(V.bool false),(V.bool false),(V.int .i64 0)])] (V.ref 3 [] 86) a29).bind fun a30=>(AU a30 86 (V.ref 3 [] 86)).bind fun a31=>if(List.all [(V.int .i64 0),(V.weak (V.lst 152 .nil [])),a31] V.okE)=true then AP 0 a30 (V.tup [a31,(V.weak (V.lst 152 .nil [])),(V.int .i64 0)])else none)
  ((fA 86 4 3 (V.ref 2 [] 86)).bind fun a32=>(AU [(V.weak t0),t1,t3,(V.agg 85 [(V.int .i64 0),(V.int .i64 0),(V.bool false),(V.bool false),(V.int .i64 0)])] 4 a32).bind fun a33=>(un .not a33).bind fun a34=>jn (fun a35=>(CP a35 24 (V.ref 0 [] 24)).bind fun a36=>(fA 86 3 0 (V.ref 2 [] 86)).bind fun a37=>(AU a35 3 a37).bind fun a38=>(Cl 117 (AB a35 [a36,a38]) []).bind fun a39=>(AU a35 26 (V.ref 1 [] 26)).bind fun a40=>(AU a35 86 (V.ref 2 [] 86)).bind fun a41=>(EZ (V.weak a39.1)).bind fun a42=>(Cl 118 (AB a35 [a40,t2,a41,a42]) []).bind fun a43=>(ext a43.1 0).bind fun a44=>(ext a43.1 1).bind fun a45=>(ext a43.1 2).bind fun a46=>(ext a43.1 3).bind fun a47=>(Cb (tyI .i64) 2 (a35++[(V.int .i64 0)]) (V.ref (List.length a35) [] 2) a47).bind fun a48=>(Cl 116 (AB (a48++[(V.lst 152 .nil [])]) [a44]) []).bind fun a49=>(Cb tyB 4 ((a48++[(V.lst 152 .nil [])])++[(V.bool false)]) (V.ref (List.length (a48++[(V.lst 152 .nil [])])) [] 4) a49.1).bind fun a50=>(if(List.all [(V.ref 2 [] 86),(V.ref (List.length a35) [] 2),(V.ref 1 [] 26),(V.ref (List.length (a48++[(V.lst 152 .nil [])])) [] 4),(V.ref (List.length a48) [] 39)] V.capOk)=true then some (V.clo 119 [(V.ref 2 [] 86),(V.ref (List.length a35) [] 2),(V.ref 1 [] 26),(V.ref (List.length (a48++[(V.lst 152 .nil [])])) [] 4),(V.ref (List.length a48) [] 39)])else none).bind fun a51=>(EZ a39.1).bind fun a52=>L9 (V.ref 2 [] 86) (V.ref 3 [] 86) a44 a45 a46 (V.ref (List.length a48) [] 39) (V.ref (List.length (a48++[(V.lst 152 .nil [])])) [] 4) a51 a39.1 a52 (V.int .i64 0) a50)
  (fun(j0:List V→Rv)=>V.ite a34
  ((fA 86 2 4 (V.ref 2 [] 86)).bind fun a53=>(Cb (tyI .i64) 2 [(V.weak t0),t1,t3,(V.agg 85 [(V.int .i64 0),(V.int .i64 0),(V.bool false),(V.bool false),(V.int .i64 0)])] a53 (V.int .i64 0)).bind fun a54=>j0 a54)
  (j0 [(V.weak t0),t1,t3,(V.agg 85 [(V.int .i64 0),(V.int .i64 0),(V.bool false),(V.bool false),(V.int .i64 0)])])))) (fun(a55:V→Rv)=>(fA 86 4 2 (V.ref 2 [] 86)).bind fun a56=>(AU [(V.weak t0),t1,t3,(V.agg 85 [(V.int .i64 0),(V.int .i64 0),(V.bool false),(V.bool false),(V.int .i64 0)])] 4 a56).bind fun a57=>(un .not a57).bind fun a58=>V.ite a58 ((fA 86 4 3 (V.ref 2 [] 86)).bind fun a59=>(AU [(V.weak t0),t1,t3,(V.agg 85 [(V.int .i64 0),(V.int .i64 0),(V.bool false),(V.bool false),(V.int .i64 0)])] 4 a59).bind fun a60=>(un .not a60).bind fun a61=>a55 a61) (a55 (V.bool false))))) (fun(a62:V→Rv)=>(fA 86 2 1 (V.ref 2 [] 86)).bind fun a63=>(AU [(V.weak t0),t1,t3,(V.agg 85 [(V.int .i64 0),(V.int .i64 0),(V.bool false),(V.bool false),(V.int .i64 0)])] 2 a63).bind fun a64=>(Cl 116 (AB [(V.weak t0),t1,t3,(V.agg 85 [(V.int .i64 0),(V.int .i64 0),(V.bool false),(V.bool false),(V.int .i64 0)])] [a64]) []).bind fun a65=>V.ite a65.1 (a62 (V.bool true)) ((fA 86 2 4 (V.ref 2 [] 86)).bind fun a66=>(AU [(V.weak t0),t1,t3,(V.agg 85 [(V.int .i64 0),(V.int .i64 0),(V.bool false),(V.bool false),(V.int .i64 0)])] 2 a66).bind fun a67=>(Cl 116 (AB [(V.weak t0),t1,t3,(V.agg 85 [(V.int .i64 0),(V.int .i64 0),(V.bool false),(V.bool false),(V.int .i64 0)])] [a67]) []).bind fun a68=>a62 a68.1)))) (fun(a69:V→Rv)=>(CP [(V.weak t0),t1,t3,(V.agg 85 [(V.int .i64 0),(V.int .i64 0),(V.bool false),(V.bool false),(V.int .i64 0)])] 24 (V.ref 0 [] 24)).bind fun a70=>(AU [(V.weak t0),t1,t3,(V.agg 85 [(V.int .i64 0),(V.int .i64 0),(V.bool false),(V.bool false),(V.int .i64 0)])] 26 (V.ref 1 [] 26)).bind fun a71=>(Cl 41 (AB [(V.weak t0),t1,t3,(V.agg 85 [(V.int .i64 0),(V.int .i64 0),(V.bool false),(V.bool false),(V.int .i64 0)])] [a70,a71]) []).bind fun a72=>(AL .neq a72.1 (V.int .i64 0)).bind fun a73=>V.ite a73 (a69 (V.bool true)) ((fA 86 3 0 (V.ref 2 [] 86)).bind fun a74=>(AU [(V.weak t0),t1,t3,(V.agg 85 [(V.int .i64 0),(V.int .i64 0),(V.bool false),(V.bool false),(V.int .i64 0)])] 3 a74).bind fun a75=>(AL .lss a75 (V.int .i64 0)).bind fun a76=>V.ite a76 (a69 (V.bool true)) ((fA 86 3 0 (V.ref 2 [] 86)).bind fun a77=>(AU [(V.weak t0),t1,t3,(V.agg 85 [(V.int .i64 0),(V.int .i64 0),(V.bool false),(V.bool false),(V.int .i64 0)])] 3 a77).bind fun a78=>(fA 24 3 0 (V.ref 0 [] 24)).bind fun a79=>(AU [(V.weak t0),t1,t3,(V.agg 85 [(V.int .i64 0),(V.int .i64 0),(V.bool false),(V.bool false),(V.int .i64 0)])] 3 a79).bind fun a80=>(AL .geq a78 a80).bind fun a81=>V.ite a81 (a69 (V.bool true)) ((AL .lss t2 (V.int .i64 0)).bind fun a82=>V.ite a82 (a69 (V.bool true)) ((fA 26 3 2 (V.ref 1 [] 26)).bind fun a83=>(AU [(V.weak t0),t1,t3,(V.agg 85 [(V.int .i64 0),(V.int .i64 0),(V.bool false),(V.bool false),(V.int .i64 0)])] 3 a83).bind fun a84=>(AL .geq t2 a84).bind fun a85=>a69 a85)))))else none else none else none:=
 Ar (by kernel_rfl)
def Uu (t1 t2 t6 t21 t22:V) (h:List V):Rv:=lp W 58 0 (cd 58 151) (bk 0 (sk 58 0 31 (lv 58 0))) ⟨[(1,t1),(2,t2),(6,t6),(21,t21),(22,t22)],h⟩
theorem TJ (t1 t2 t6 t21 t22:V) (h:List V):Uu t1 t2 t6 t21 t22 h=
 (AL .lss t22 t21).bind fun a1=>V.ite a1
  ((Cb (tyI .i64) 3 (h++[(V.int .i64 0)]) (V.ref (List.length h) [] 3) t22).bind fun a2=>if Dl (V.ref (List.length h) [] 3) (V.ref (List.length h) [] 3)=true then(AU a2 3 (V.ref (List.length h) [] 3)).bind fun a3=>(if(List.all [t2,(V.ref (List.length h) [] 3)] V.capOk)=true then some (V.clo 124 [t2,(V.ref (List.length h) [] 3)])else none).bind fun a4=>EH P CO W true none [(V.ref (List.length h) [] 3)] (V.clo 123 []) [(V.weak t1),a4] a2 fun a5 a6=>(Cl 101 (AB a6 [a5]) []).bind fun a7=>(EQ 39 (V.weak t6) a3).bind fun a8=>(Cb (tyL 152) 39 a6 a8 a7.1).bind fun a9=>(AL .add t22 (V.int .i64 1)).bind fun a10=>if AZ (List.length h) [t1,t2,t6,t21,a10]=true then Uu t1 t2 t6 t21 a10 (List.take (List.length h) a9)else none else none)
  (if(List.all [(V.int .i64 0),t6] V.okE)=true then AP 0 h (V.tup [t6,(V.int .i64 0)])else none):=
 DF (by kernel_rfl)
theorem AL4 (t0 t1:V):Cl 58 [t0,t1] []=
 if((tyI .i64) t0&&V.under 0 t0)=true then jn (fun a11 a12=>
 V.ite a11
  (if(List.all [(V.int .i64 80),(V.weak (V.lst 39 .nil []))] V.okE)=true then AP 0 a12 (V.tup [(V.weak (V.lst 39 .nil [])),(V.int .i64 80)])else none)
  ((AU a12 3 (V.ref 0 [] 3)).bind fun a13=>(mkL 39 (V.lst 152 .nil []) a13 a13).bind fun a14=>(DR a12 a14).bind fun a15=>(EZ (V.weak a15.1)).bind fun a16=>Uu t1 (V.ref 0 [] 3) a15.1 a16 (V.int .i64 0) a15.2)) (fun(a17:V→List V→Rv)=>(AU [t0] 3 (V.ref 0 [] 3)).bind fun a18=>(AL .lss a18 (V.int .i64 1)).bind fun a19=>V.ite a19 (a17 (V.bool true) [t0]) ((AU [t0] 3 (V.ref 0 [] 3)).bind fun a20=>(AL .gtr a20 (V.int .i64 64)).bind fun a21=>V.ite a21 (a17 (V.bool true) [t0]) ((Cl 121 (AV [(V.weak t1),(V.clo 122 [])]) [t0]).bind fun a22=>a17 a22.1 a22.2)))else none:=
 Ar (by kernel_rfl)
def Uw (t8 t10 t18 t19 t20:V) (h:List V):Rv:=lp W 59 0 (cd 59 75) (bk 0 (sk 59 0 15 (lv 59 0))) ⟨[(8,t8),(10,t10),(18,t18),(19,t19),(20,t20)],h⟩
theorem MB (t8 t10 t18 t19 t20:V) (h:List V):Uw t8 t10 t18 t19 t20 h=
 (AL .lss t20 t19).bind fun a1=>V.ite a1
  ((EQ 39 t18 t20).bind fun a2=>(CP h 39 a2).bind fun a3=>(fA 77 49 3 t10).bind fun a4=>if Dl t10 a4=true then(BM h 49 a4).bind fun a5=>DX P CO W (some t10) (V.clo 34 []) [a3] a5.2 fun a6 a7=>(Ny 66 false (ck [(tyG 65) a6] [a6])).bind fun a8=>(GK 66 (tyG 65) false a7 a5.1 a8).bind fun a9=>(fA 77 49 3 t10).bind fun a10=>(Cb (tyL 66) 49 a7 a10 a9).bind fun a11=>(AL .add t20 (V.int .i64 1)).bind fun a12=>Uw t8 t10 t18 t19 a12 a11 else none)
  ((CP h 77 t10).bind fun a13=>(Cl 125 (AB h [a13]) []).bind fun a14=>(un .not a14.1).bind fun a15=>V.ite a15
  (((ck [] [(V.int .i64 0),(V.int .i64 0),(V.agg 65 (List.replicate 32 (V.int .u8 0))),(V.lst 66 .nil [])]).map (.agg 76)).bind fun a16=>(Cb (tyG 76) 77 h t8 a16).bind fun a17=>(CP a17 77 t8).bind fun a18=>if(List.all [(V.int .i64 120),a18] V.okE)=true then AP 0 a17 (V.tup [a18,(V.int .i64 120)])else none)
  ((CP h 77 t10).bind fun a19=>(Cb (tyG 76) 77 h t8 a19).bind fun a20=>(CP a20 77 t8).bind fun a21=>if(List.all [(V.int .i64 0),a21] V.okE)=true then AP 0 a20 (V.tup [a21,(V.int .i64 0)])else none)):=
 DF (by kernel_rfl)
theorem AL5 (t0 t1 t2 t3:V):Cl 59 [t0,t1,t2,t3] []=
 (Cl 83 (AB [(V.agg 76 [(V.int .i64 0),(V.int .i64 0),(V.agg 65 (List.replicate 32 (V.int .u8 0))),(V.lst 66 .nil [])])] [t2]) []).bind fun a22=>((ck [(tyI .i64) t0,(tyI .i64) t1,(tyG 65) a22.1] [t0,t1,a22.1,(V.lst 66 .nil [])]).map (.agg 76)).bind fun a23=>(Cb (tyG 76) 77 [(V.agg 76 [(V.int .i64 0),(V.int .i64 0),(V.agg 65 (List.replicate 32 (V.int .u8 0))),(V.lst 66 .nil [])]),(V.agg 76 [(V.int .i64 0),(V.int .i64 0),(V.agg 65 (List.replicate 32 (V.int .u8 0))),(V.lst 66 .nil [])])] (V.ref 1 [] 77) a23).bind fun a24=>(EZ t3).bind fun a25=>Uw (V.ref 0 [] 77) (V.ref 1 [] 77) t3 a25 (V.int .i64 0) a24:=
 Ar (by kernel_rfl)
def Ux (t4 t34 t35 t36:V) (h:List V):Rv:=lp W 60 0 (cd 60 4863) (bk 0 (sk 60 0 1023 (lv 60 0))) ⟨[(4,t4),(34,t34),(35,t35),(36,t36)],h⟩
theorem TL (t4 t34 t35 t36:V) (h:List V):Ux t4 t34 t35 t36 h=
 (AL .lss t36 t35).bind fun a1=>V.ite a1
  ((EQ 66 t34 t36).bind fun a2=>(AU h 66 a2).bind fun a3=>(Cb (tyG 65) 66 (h++[(V.agg 65 (List.replicate 32 (V.int .u8 0)))]) (V.ref (List.length h) [] 66) a3).bind fun a4=>(AU a4 66 (V.ref (List.length h) [] 66)).bind fun a5=>(Cl 126 (AV [t4,a5]) a4).bind fun a6=>(AL .add t36 (V.int .i64 1)).bind fun a7=>if AZ (List.length h) [t4,t34,t35,a7]=true then Ux t4 t34 t35 a7 (List.take (List.length h) a6.2)else none)
  ((Cl 71 (AV [t4]) h).bind fun a8=>if(List.all [(V.int .i64 0),a8.1] V.okE)=true then AP 0 a8.2 (V.tup [a8.1,(V.int .i64 0)])else none):=
 DF (by kernel_rfl)
theorem AES (t0:V):Cl 60 [t0] []=
 if((tyG 76) (V.weak t0)&&V.under 0 (V.weak t0))=true then(CP [(V.weak t0)] 77 (V.ref 0 [] 77)).bind fun a9=>(Cl 125 (AB [(V.weak t0)] [a9]) []).bind fun a10=>(un .not a10.1).bind fun a11=>V.ite a11
  (if(List.all [(V.int .i64 120),(V.str [])] V.okE)=true then AP 0 [(V.weak t0)] (V.tup [(V.str []),(V.int .i64 120)])else none)
  ((Cl 68 (AV []) [(V.weak t0)]).bind fun a12=>(Cl 69 (AV [a12.1,(V.int .u64 67)]) a12.2).bind fun a13=>(fA 77 3 0 (V.ref 0 [] 77)).bind fun a14=>(AU a13.2 3 a14).bind fun a15=>(Un .u64 a15).bind fun a16=>(Cl 69 (AV [a12.1,a16]) a13.2).bind fun a17=>(fA 77 3 1 (V.ref 0 [] 77)).bind fun a18=>(AU a17.2 3 a18).bind fun a19=>(Un .u64 a19).bind fun a20=>(Cl 69 (AV [a12.1,a20]) a17.2).bind fun a21=>(fA 77 66 2 (V.ref 0 [] 77)).bind fun a22=>(AU a21.2 66 a22).bind fun a23=>(Cl 126 (AV [a12.1,a23]) a21.2).bind fun a24=>(fA 77 49 3 (V.ref 0 [] 77)).bind fun a25=>(CP a24.2 49 a25).bind fun a26=>(EZ a26).bind fun a27=>(Un .u64 a27).bind fun a28=>(Cl 69 (AV [a12.1,a28]) a24.2).bind fun a29=>(fA 77 49 3 (V.ref 0 [] 77)).bind fun a30=>(CP a29.2 49 a30).bind fun a31=>(EZ a31).bind fun a32=>Ux a12.1 a31 a32 (V.int .i64 0) a29.2)else none:=
 Ar (by kernel_rfl)
def AET (k:Rv):Rv:=
 k
def AEU (t0:V) (h:List V) (k:V→Rv):Rv:=
 (Cl 127 (AB h [(V.weak t0)]) []).bind fun r=>k r.1
def AEV (t4:V) (k:V→Rv):Rv:=
 (AL .neq t4 (V.int .i64 0)).bind fun t11=>k t11
def AEW (t4:V) (k:V→V→Rv):Rv:=
 k (V.str []) t4
def AEX (h:List V) (k:V→List V→Rv):Rv:=
 (Cl 68 (AV []) h).bind fun r=>k r.1 r.2
def AEY (t0 t5:V) (h:List V) (k:List V→Rv):Rv:=
 (lenV P 39 (V.weak t0)).bind fun t16=>(conv P h 3 132 t16).bind fun t17=>(Cl 69 (AV [t5,t17]) h).bind fun r=>k r.2
def AEZ (t0:V) (h:List V) (k:V→V→V→Rv):Rv:=
 (Cl 89 (AB h [t0]) []).bind fun r=>(lenV P 42 r.1).bind fun t21=>k r.1 t21 (V.int .i64 0)
def Uy (t5 t20 t21 t22:V) (h:List V):Rv:=lp W 61 0 (cd 61 303) (bk 0 (sk 61 0 63 (lv 61 0))) ⟨[(5,t5),(20,t20),(21,t21),(22,t22)],h⟩
def ZL (t21 t22:V) (k:V→Rv):Rv:=
 (AL .lss t22 t21).bind fun t23=>k t23
def AEa (t20 t22:V) (h:List V) (k:V→Rv):Rv:=
 (AX P 42 t20 t22).bind fun t24=>(AU h 9 t24).bind fun t25=>k t25
def AEb (t5 t7:V) (h:List V) (k:List V→Rv):Rv:=
 (Cl 70 (AV [t5,t7]) h).bind fun r=>k r.2
def AAU (t22:V) (k:V→Rv):Rv:=
 (AL .add t22 (V.int .i64 1)).bind fun t29=>k t29
def AAV (t5:V) (h:List V) (k:V→V→List V→Rv):Rv:=
 (Cl 71 (AV [t5]) h).bind fun r=>k r.1 (V.int .i64 0) r.2
theorem TM (t5 t20 t21 t22:V) (h:List V):Uy t5 t20 t21 t22 h=
 ZL t21 t22 fun a1=>
  V.ite a1
  (AEa t20 t22 h fun a2=>
  AEb t5 a2 h fun a3=>
  AAU t22 fun a4=>
  Uy t5 t20 t21 a4 a3)
  (AAV t5 h fun a5 a6 a7=>
  if(List.all [a6,a5] V.okE)=true then AP 0 a7 (V.tup [a5,a6])else none):=
 DF (by kernel_rfl)
theorem AL6 (t0:V):Cl 61 [t0] []=
 AET (AEU t0 [] fun a8=>
  AEV a8 fun a9=>
  V.ite a9
  (AEW a8 fun a10 a11=>
  if(List.all [a11,a10] V.okE)=true then AP 0 [] (V.tup [a10,a11])else none)
  (AEX [] fun a12 a13=>
  AEY t0 a12 a13 fun a14=>
  AEZ t0 a14 fun a15 a16 a17=>
  Uy a12 a15 a16 a17 a14)):=
 Ar (by kernel_rfl)
theorem AEc (t0:V):Cl 62 [t0] []=
 if((tyG 85) t0&&V.under 0 t0)=true then(AU [t0] 86 (V.ref 0 [] 86)).bind fun a1=>(Cl 128 (AB [t0] [a1]) []).bind fun a2=>(AL .neq a2.1 (V.int .i64 0)).bind fun a3=>V.ite a3
  (AP 0 [t0] (V.str []))
  ((Cl 68 (AV []) [t0]).bind fun a4=>(fA 86 3 0 (V.ref 0 [] 86)).bind fun a5=>(AU a4.2 3 a5).bind fun a6=>(Un .u64 a6).bind fun a7=>(Cl 69 (AV [a4.1,a7]) a4.2).bind fun a8=>(fA 86 2 1 (V.ref 0 [] 86)).bind fun a9=>(AU a8.2 2 a9).bind fun a10=>(Cl 129 (AV [a4.1,a10]) a8.2).bind fun a11=>(fA 86 4 2 (V.ref 0 [] 86)).bind fun a12=>(AU a11.2 4 a12).bind fun a13=>(Cl 130 (AB a11.2 [a13]) []).bind fun a14=>(Cl 69 (AV [a4.1,a14.1]) a11.2).bind fun a15=>(fA 86 4 3 (V.ref 0 [] 86)).bind fun a16=>(AU a15.2 4 a16).bind fun a17=>(Cl 130 (AB a15.2 [a17]) []).bind fun a18=>(Cl 69 (AV [a4.1,a18.1]) a15.2).bind fun a19=>(fA 86 2 4 (V.ref 0 [] 86)).bind fun a20=>(AU a19.2 2 a20).bind fun a21=>(Cl 129 (AV [a4.1,a21]) a19.2).bind fun a22=>(Cl 71 (AV [a4.1]) a22.2).bind fun a23=>AP 0 a23.2 a23.1)else none:=
 Ar (by kernel_rfl)
def Uz (t3 t9 t10 t11:V) (h:List V):Rv:=lp W 64 0 (cd 64 75) (bk 0 (sk 64 0 15 (lv 64 0))) ⟨[(3,t3),(9,t9),(10,t10),(11,t11)],h⟩
theorem TN (t3 t9 t10 t11:V) (h:List V):Uz t3 t9 t10 t11 h=
 (AL .lss t11 t10).bind fun a1=>V.ite a1
  ((EQ 86 t9 t11).bind fun a2=>(AU h 86 a2).bind fun a3=>(Cb (tyG 85) 86 (h++[(V.agg 85 [(V.int .i64 0),(V.int .i64 0),(V.bool false),(V.bool false),(V.int .i64 0)])]) (V.ref (List.length h) [] 86) a3).bind fun a4=>(AU a4 86 (V.ref (List.length h) [] 86)).bind fun a5=>(Cl 62 (AB a4 [a5]) []).bind fun a6=>(EQ 9 (V.weak t3) t11).bind fun a7=>(Cb tyS 9 a4 a7 a6.1).bind fun a8=>(AL .add t11 (V.int .i64 1)).bind fun a9=>if AZ (List.length h) [t3,t9,t10,a9]=true then Uz t3 t9 t10 a9 (List.take (List.length h) a8)else none)
  (AP 0 h t3):=
 DF (by kernel_rfl)
theorem AL7 (t0:V):Cl 64 [t0] []=
 (EZ (V.weak t0)).bind fun a10=>(mkL 9 (V.str []) a10 a10).bind fun a11=>(DR [] a11).bind fun a12=>(EZ t0).bind fun a13=>Uz a12.1 t0 a13 (V.int .i64 0) a12.2:=
 Ar (by kernel_rfl)
def AEd (k:Rv):Rv:=
 k
def AEe (h:List V) (k:V→List V→Rv):Rv:=
 (bld P 191 []).bind fun t1=>if(Bo P 191 (V.weak t1)&&V.under (List.length h) (V.weak t1))=true then k (V.ref (List.length h) [] 191) (h++[(V.weak t1)])else none
theorem AL8 (h:List V):Cl 68 [] h=
 AEd (AEe h fun a1 a2=>
  Ul a2 a1):=
 Ar (by kernel_rfl)
def U0 (t0 t1:V) (n:Nat) (h:List V):Rv:=lp W 69 0 (cd 69 8) (bk 0 (sk 69 0 3 (lv 69 n))) ⟨[(0,t0),(1,t1)],h⟩
def AEf (t1:V) (k:V→Rv):Rv:=
 (AL .geq t1 (V.int .u64 128)).bind fun t5=>k t5
def AEg (t0 t1:V) (h:List V) (k:List V→Rv):Rv:=
 (BI t0).bind fun t10=>(BD P 191 0 t10).bind fun t11=>(BM h 172 t11).bind fun r=>(conv P r.2 132 5 t1).bind fun t14=>(AL .or t14 (V.int .u8 128)).bind fun t15=>(CU P 172 1 [(0,t15)]).bind fun t16=>(Dv P 172 r.2 r.1 t16).bind fun t17=>(BI t0).bind fun t18=>(BD P 191 0 t18).bind fun t19=>(Gv P r.2 172 t19 t17).bind fun a1=>k a1
def AEh (t1:V) (k:V→Rv):Rv:=
 (AL .shr t1 (V.int .u64 7)).bind fun t7=>k t7
def AEi (t0 t1:V) (h:List V) (k:List V→Rv):Rv:=
 (BI t0).bind fun t22=>(BD P 191 0 t22).bind fun t23=>(BM h 172 t23).bind fun r=>(conv P r.2 132 5 t1).bind fun t26=>(CU P 172 1 [(0,t26)]).bind fun t27=>(Dv P 172 r.2 r.1 t27).bind fun t28=>(BI t0).bind fun t29=>(BD P 191 0 t29).bind fun t30=>(Gv P r.2 172 t30 t28).bind fun a1=>k a1
theorem AC5 (t0 t1:V) (n:Nat) (h:List V):U0 t0 t1 n h=
 AEf t1 fun a2=>
  V.ite a2
  (AEg t0 t1 h fun a3=>
  AEh t1 fun a4=>
  U0 t0 a4 n a3)
  (AEi t0 t1 h fun a5=>
  if(List.all [] V.okE)=true then AP n a5 (V.tup [])else none):=
 DF (by kernel_rfl)
theorem AL9 (t0 t1:V) (h:List V):Cl 69 [t0,t1] h=
 U0 t0 t1 (List.length h) h:=
 Ar (by kernel_rfl)
def AEj (t0 t1:V) (h:List V) (k:List V→Rv):Rv:=
 (lenV P 9 t1).bind fun t6=>(conv P h 3 132 t6).bind fun t7=>(Cl 69 (AV [t0,t7]) h).bind fun r=>k r.2
def AEk (t0 t1:V) (h:List V) (k:List V→Rv):Rv:=
 (BI t0).bind fun t11=>(BD P 191 0 t11).bind fun t12=>(BM h 172 t12).bind fun r=>(Dv P 172 r.2 r.1 t1).bind fun t15=>(BI t0).bind fun t16=>(BD P 191 0 t16).bind fun t17=>(Gv P r.2 172 t17 t15).bind fun a1=>k a1
theorem AMA (t0 t1:V) (h:List V):Cl 70 [t0,t1] h=
 AEj t0 t1 h fun a1=>
  AEk t0 t1 a1 fun a2=>
  if(List.all [] V.okE)=true then AP (List.length h) a2 (V.tup [])else none:=
 Ar (by kernel_rfl)
def AEl (k:Rv):Rv:=
 k
def AEm (t0:V) (h:List V) (k:V→Rv):Rv:=
 (BI t0).bind fun t4=>(BD P 191 0 t4).bind fun t5=>(CP h 172 t5).bind fun t6=>(conv P h 172 9 t6).bind fun t7=>k t7
theorem AMB (t0:V) (h:List V):Cl 71 [t0] h=
 AEl (AEm t0 h fun a1=>
  AP (List.length h) h a1):=
 Ar (by kernel_rfl)
theorem AMC (t0:V):Cl 83 [t0] []=
 (Cl 64 (AB [(V.agg 65 (List.replicate 32 (V.int .u8 0)))] [t0]) []).bind fun a1=>(Cl 88 (AB [(V.agg 65 (List.replicate 32 (V.int .u8 0)))] [a1.1]) []).bind fun a2=>(Cb (tyG 65) 66 [(V.agg 65 (List.replicate 32 (V.int .u8 0)))] (V.ref 0 [] 66) a2.1).bind fun a3=>(AU a3 66 (V.ref 0 [] 66)).bind fun a4=>AP 0 a3 a4:=
 Ar (by kernel_rfl)
theorem AMD (t0:V):Cl 88 [t0] []=
 (EZ (V.weak t0)).bind fun a1=>(Cl 133 (AB [(V.agg 65 (List.replicate 32 (V.int .u8 0)))] [t0]) []).bind fun a2=>(Cl 146 (AB [(V.agg 65 (List.replicate 32 (V.int .u8 0)))] [a1,a2.1]) []).bind fun a3=>(Cb (tyG 65) 66 [(V.agg 65 (List.replicate 32 (V.int .u8 0)))] (V.ref 0 [] 66) a3.1).bind fun a4=>(AU a4 66 (V.ref 0 [] 66)).bind fun a5=>AP 0 a4 a5:=
 Ar (by kernel_rfl)
def AEn (k:Rv):Rv:=
 k
def AEo (k:V→Rv):Rv:=
 k (V.weak (V.lst 9 .nil []))
def AEp (t0:V) (h:List V) (k:V→V→V→Rv):Rv:=
 (Cl 101 (AB h [t0]) []).bind fun r=>(lenV P 39 r.1).bind fun t8=>k r.1 t8 (V.int .i64 0)
def U1 (t3 t7 t8 t9:V) (h:List V):Rv:=lp W 89 0 (cd 89 75) (bk 0 (sk 89 0 15 (lv 89 0))) ⟨[(3,t3),(7,t7),(8,t8),(9,t9)],h⟩
def ZM (t8 t9:V) (k:V→Rv):Rv:=
 (AL .lss t9 t8).bind fun t10=>k t10
def AEq (t7 t9:V) (h:List V) (k:V→List V→Rv):Rv:=
 (AX P 39 t7 t9).bind fun t11=>(AU h 152 t11).bind fun t12=>(Gv P (h++[zero P 152]) 152 (V.ref (List.length h) [] 152) t12).bind fun a1=>k (V.ref (List.length h) [] 152) a1
def AEr (t3 t5:V) (h:List V) (k:V→Rv):Rv:=
 (AU h 152 t5).bind fun t14=>(Cl 147 (AB h [t14]) []).bind fun r=>(CU P 42 1 [(0,r.1)]).bind fun t16=>(Dv P 42 h t3 t16).bind fun t17=>k t17
def AEs (t9:V) (k:V→Rv):Rv:=
 (AL .add t9 (V.int .i64 1)).bind fun t18=>k t18
def AEt (t3:V) (k:V→Rv):Rv:=
 k t3
theorem TP (t3 t7 t8 t9:V) (h:List V):U1 t3 t7 t8 t9 h=
 ZM t8 t9 fun a2=>
  V.ite a2
  (AEq t7 t9 h fun a3 a4=>
  AEr t3 a3 a4 fun a5=>
  AEs t9 fun a6=>
  if AZ (List.length h) [a5,t7,t8,a6]=true then U1 a5 t7 t8 a6 (List.take (List.length h) a4)else none)
  (AEt t3 fun a7=>
  AP 0 h a7):=
 DF (by kernel_rfl)
theorem AME (t0:V):Cl 89 [t0] []=
 AEn (AEo fun a8=>
  AEp t0 [] fun a9 a10 a11=>
  U1 a8 a9 a10 a11 []):=
 Ar (by kernel_rfl)
def O6 (t1 t3 t4:V) (h:List V):Rv:=lp W 95 0 (cd 95 151) (bk 0 (sk 95 0 31 (lv 95 0))) ⟨[(1,t1),(3,t3),(4,t4)],h⟩
def U2 (t1 t3 t4 t5 t6:V) (m0:Nat) (h:List V):Rv:=lp W 95 2 (cd 95 40087) (bk 2 (bk 1 (sk 95 0 919 (lk 95 0 m0 151 (bk 0 (sk 95 0 31 (lv 95 0))))))) ⟨[(1,t1),(3,t3),(4,t4),(5,t5),(6,t6)],h⟩
theorem TQ (t1 t3 t4 t5 t6:V) (m0:Nat) (h:List V):U2 t1 t3 t4 t5 t6 m0 h=
 (AL .lss t6 t4).bind fun a1=>V.ite a1
  (jn (fun a2=>
 (AL .add t6 (V.int .i64 1)).bind fun a3=>U2 t1 a2 t4 t5 a3 m0 h) (fun(a4:V→Rv)=>V.ite t3 (a4 (V.bool true)) ((fA 24 22 1 t1).bind fun a5=>(CP h 22 a5).bind fun a6=>(EQ 96 a6 t6).bind fun a7=>(fA 96 3 0 a7).bind fun a8=>(AU h 3 a8).bind fun a9=>(fA 96 3 0 t5).bind fun a10=>(AU h 3 a10).bind fun a11=>(AL .eql a9 a11).bind fun a12=>V.ite a12 ((fA 24 22 1 t1).bind fun a13=>(CP h 22 a13).bind fun a14=>(EQ 96 a14 t6).bind fun a15=>(fA 96 3 1 a15).bind fun a16=>(AU h 3 a16).bind fun a17=>(fA 96 3 1 t5).bind fun a18=>(AU h 3 a18).bind fun a19=>(AL .eql a17 a19).bind fun a20=>a4 a20) (a4 (V.bool false)))))
  ((AL .add t4 (V.int .i64 1)).bind fun a21=>if AZ m0 [t1,t3,a21]=true then O6 t1 t3 a21 (List.take m0 h)else none):=
 DF (by kernel_rfl)
theorem TR (t1 t3 t4:V) (h:List V):O6 t1 t3 t4 h=
 (fA 24 22 1 t1).bind fun a22=>(CP h 22 a22).bind fun a23=>(EZ a23).bind fun a24=>(AL .lss t4 a24).bind fun a25=>V.ite a25
  ((fA 24 22 1 t1).bind fun a26=>(CP h 22 a26).bind fun a27=>(EQ 96 a27 t4).bind fun a28=>(AU h 96 a28).bind fun a29=>(Cb (tyG 95) 96 (h++[(V.agg 95 [(V.int .i64 0),(V.int .i64 0),(V.int .i64 0)])]) (V.ref (List.length h) [] 96) a29).bind fun a30=>jn (fun a31=>
 V.ite a31
  (AP 0 a30 (V.int .i64 50))
  (U2 t1 t3 t4 (V.ref (List.length h) [] 96) (V.int .i64 0) (List.length h) a30)) (fun(a32:V→Rv)=>(fA 96 3 0 (V.ref (List.length h) [] 96)).bind fun a33=>(AU a30 3 a33).bind fun a34=>(AL .lss a34 (V.int .i64 0)).bind fun a35=>V.ite a35 (a32 (V.bool true)) ((fA 96 3 0 (V.ref (List.length h) [] 96)).bind fun a36=>(AU a30 3 a36).bind fun a37=>(fA 24 3 0 t1).bind fun a38=>(AU a30 3 a38).bind fun a39=>(AL .geq a37 a39).bind fun a40=>V.ite a40 (a32 (V.bool true)) ((fA 96 3 1 (V.ref (List.length h) [] 96)).bind fun a41=>(AU a30 3 a41).bind fun a42=>(AL .lss a42 (V.int .i64 0)).bind fun a43=>V.ite a43 (a32 (V.bool true)) ((fA 96 3 1 (V.ref (List.length h) [] 96)).bind fun a44=>(AU a30 3 a44).bind fun a45=>(fA 24 3 0 t1).bind fun a46=>(AU a30 3 a46).bind fun a47=>(AL .geq a45 a47).bind fun a48=>V.ite a48 (a32 (V.bool true)) ((fA 96 2 2 (V.ref (List.length h) [] 96)).bind fun a49=>(AU a30 2 a49).bind fun a50=>(AL .lss a50 (V.int .i64 0)).bind fun a51=>V.ite a51 (a32 (V.bool true)) ((fA 96 2 2 (V.ref (List.length h) [] 96)).bind fun a52=>(AU a30 2 a52).bind fun a53=>(AL .gtr a53 (V.int .i64 1048576)).bind fun a54=>a32 a54)))))))
  (V.ite t3
  (AP 0 h (V.int .i64 51))
  (AP 0 h (V.int .i64 0))):=
 DF (by kernel_rfl)
theorem U3 (t0:V):Cl 95 [t0] []=
 if((tyG 23) (V.weak t0)&&V.under 0 (V.weak t0))=true then jn (fun a55=>
 V.ite a55
  (AP 0 [(V.weak t0)] (V.int .i64 50))
  (O6 (V.ref 0 [] 24) (V.bool false) (V.int .i64 0) [(V.weak t0)])) (fun(a56:V→Rv)=>(fA 24 3 0 (V.ref 0 [] 24)).bind fun a57=>(AU [(V.weak t0)] 3 a57).bind fun a58=>(AL .lss a58 (V.int .i64 1)).bind fun a59=>V.ite a59 (a56 (V.bool true)) ((fA 24 3 0 (V.ref 0 [] 24)).bind fun a60=>(AU [(V.weak t0)] 3 a60).bind fun a61=>(AL .gtr a61 (V.int .i64 64)).bind fun a62=>V.ite a62 (a56 (V.bool true)) ((fA 24 22 1 (V.ref 0 [] 24)).bind fun a63=>(CP [(V.weak t0)] 22 a63).bind fun a64=>(EZ a64).bind fun a65=>(AL .gtr a65 (V.int .i64 512)).bind fun a66=>a56 a66)))else none:=
 Ar (by kernel_rfl)
theorem AMF (t0:V):Cl 96 [t0] []=
 jn (fun a1=>
 AP 0 [] a1) (fun(a2:V→Rv)=>(AL .eql t0 (V.str [109,97,120])).bind fun a3=>V.ite a3 (a2 (V.bool true)) ((AL .eql t0 (V.str [108,97,98,101,108])).bind fun a4=>V.ite a4 (a2 (V.bool true)) ((AL .eql t0 (V.str [115,115,115,112])).bind fun a5=>V.ite a5 (a2 (V.bool true)) ((AL .eql t0 (V.str [98,102,115])).bind fun a6=>V.ite a6 (a2 (V.bool true)) ((AL .eql t0 (V.str [100,101,103,114,101,101])).bind fun a7=>V.ite a7 (a2 (V.bool true)) ((AL .eql t0 (V.str [114,97,110,107])).bind fun a8=>V.ite a8 (a2 (V.bool true)) ((AL .eql t0 (V.str [119,97,108,107,115])).bind fun a9=>a2 a9))))))):=
 Ar (by kernel_rfl)
def AAW (k:Rv):Rv:=
 k
def AAX (t0:V) (h:List V) (k:V→List V→Rv):Rv:=
 (Dv P 39 h (V.lst 152 .nil []) t0).bind fun v=>(DR h v).bind fun r=>k r.1 r.2
def AAY (t3:V) (h:List V) (k:List V→Rv):Rv:=
 (Y7 2000153 152 [(V.weak t3),(V.clo 153 [])] h).bind fun r=>k r.2
def AAZ (t3:V) (k:V→Rv):Rv:=
 k t3
theorem AHp (t0:V):Cl 101 [t0] []=
 AAW (AAX t0 [] fun a1 a2=>
  AAY a1 a2 fun a3=>
  AAZ a1 fun a4=>
  AP 0 a3 a4):=
 Ar (by kernel_rfl)
def KO (t4 t5:V) (h:List V):Rv:=lp W 102 0 (cd 102 303) (bk 0 (sk 102 0 63 (lv 102 0))) ⟨[(4,t4),(5,t5)],h⟩
theorem Jz (t4 t5:V) (h:List V):KO t4 t5 h=
 (EZ (V.weak t4)).bind fun a1=>(AL .lss t5 a1).bind fun a2=>V.ite a2
  ((AL .sub t5 (V.int .i64 1)).bind fun a3=>(EQ 96 (V.weak t4) a3).bind fun a4=>(AU h 96 a4).bind fun a5=>(EQ 96 (V.weak t4) t5).bind fun a6=>(AU h 96 a6).bind fun a7=>(Cl 158 (AB h [a5,a7]) []).bind fun a8=>(AL .eql a8.1 (V.int .i64 0)).bind fun a9=>V.ite a9
  (AP 0 h (V.int .i64 51))
  ((AL .add t5 (V.int .i64 1)).bind fun a10=>KO t4 a10 h))
  (AP 0 h (V.int .i64 0)):=
 DF (by kernel_rfl)
theorem KP (t0:V):Cl 102 [t0] []=
 if((tyG 23) (V.weak t0)&&V.under 0 (V.weak t0))=true then(if(List.all [(V.ref 0 [] 24)] V.capOk)=true then some (V.clo 154 [(V.ref 0 [] 24)])else none).bind fun a11=>jn (fun a12 a13=>
 V.ite a12
  (AP 0 a13 (V.int .i64 50))
  ((fA 24 22 1 (V.ref 0 [] 24)).bind fun a14=>(CP a13 22 a14).bind fun a15=>(Cl 157 (AV [a15]) a13).bind fun a16=>(Cl 156 (AV [a16.1,(V.clo 158 [])]) a16.2).bind fun a17=>KO a17.1 (V.int .i64 1) a17.2)) (fun(a18:V→List V→Rv)=>(fA 24 3 0 (V.ref 0 [] 24)).bind fun a19=>(AU [(V.weak t0)] 3 a19).bind fun a20=>(AL .lss a20 (V.int .i64 1)).bind fun a21=>V.ite a21 (a18 (V.bool true) [(V.weak t0)]) ((fA 24 3 0 (V.ref 0 [] 24)).bind fun a22=>(AU [(V.weak t0)] 3 a22).bind fun a23=>(AL .gtr a23 (V.int .i64 64)).bind fun a24=>V.ite a24 (a18 (V.bool true) [(V.weak t0)]) ((fA 24 22 1 (V.ref 0 [] 24)).bind fun a25=>(CP [(V.weak t0)] 22 a25).bind fun a26=>(EZ a26).bind fun a27=>(AL .gtr a27 (V.int .i64 512)).bind fun a28=>V.ite a28 (a18 (V.bool true) [(V.weak t0)]) ((fA 24 22 1 (V.ref 0 [] 24)).bind fun a29=>(CP [(V.weak t0)] 22 a29).bind fun a30=>(Cl 155 (AV [a30,a11]) [(V.weak t0)]).bind fun a31=>a18 a31.1 a31.2))))else none:=
 Ar (by kernel_rfl)
theorem AHq (t0:V):Cl 103 [t0] []=
 (Ny 9 false (ck [tyS (V.str [109,97,120]),tyS (V.str [108,97,98,101,108]),tyS (V.str [115,115,115,112]),tyS (V.str [98,102,115]),tyS (V.str [100,101,103,114,101,101]),tyS (V.str [114,97,110,107]),tyS (V.str [119,97,108,107,115])] [(V.str [109,97,120]),(V.str [108,97,98,101,108]),(V.str [115,115,115,112]),(V.str [98,102,115]),(V.str [100,101,103,114,101,101]),(V.str [114,97,110,107]),(V.str [119,97,108,107,115])])).bind fun a1=>(Cl 159 (AB [] [a1,t0]) []).bind fun a2=>AP 0 [] a2.1:=
 Ar (by kernel_rfl)
theorem AHr (t0 t1:V):Cl 104 [t0,t1] []=
 jn (fun a1=>
 AP 0 [] a1) (fun(a2:V→Rv)=>(AL .geq t0 (V.int .i64 1)).bind fun a3=>V.ite a3 ((AL .leq t0 (V.int .i64 64)).bind fun a4=>V.ite a4 ((AL .geq t1 (V.int .i64 1)).bind fun a5=>V.ite a5 ((AL .leq t1 (V.int .i64 64)).bind fun a6=>a2 a6) (a2 (V.bool false))) (a2 (V.bool false))) (a2 (V.bool false))):=
 Ar (by kernel_rfl)
theorem AHs (t0 t1 t2:V) (h:List V):Cl 105 [t0,t1,t2] h=
 (AU h 3 t1).bind fun a1=>(Cl 106 (AB h [t0,a1]) []).bind fun a2=>(AU h 3 t2).bind fun a3=>(AL .eql a2.1 a3).bind fun a4=>AP (List.length h) h a4:=
 Ar (by kernel_rfl)
theorem AHt (t0 t1:V):Cl 106 [t0,t1] []=
 jn (fun a1=>
 V.ite a1
  (AP 0 [] (V.int .i64 (-1)))
  ((Un .u32 t0).bind fun a2=>(Cl 160 (AB [] [a2]) []).bind fun a3=>(Un .u32 t1).bind fun a4=>(AL .rem a3.1 a4).bind fun a5=>(Un .i64 a5).bind fun a6=>AP 0 [] a6)) (fun(a7:V→Rv)=>(AL .lss t0 (V.int .i64 0)).bind fun a8=>V.ite a8 (a7 (V.bool true)) ((AL .lss t1 (V.int .i64 1)).bind fun a9=>V.ite a9 (a7 (V.bool true)) ((AL .gtr t1 (V.int .i64 64)).bind fun a10=>a7 a10))):=
 Ar (by kernel_rfl)
theorem AHu (t0 t1:V):Cl 114 [t0,t1] []=
 if((tyI .i64) t1&&V.under 0 t1)=true then(if(List.all [(V.ref 0 [] 3)] V.capOk)=true then some (V.clo 167 [(V.ref 0 [] 3)])else none).bind fun a1=>(Cl 123 (AV [t0,a1]) [t1]).bind fun a2=>(Cl 101 (AB a2.2 [a2.1]) []).bind fun a3=>AP 0 a2.2 a3.1 else none:=
 Ar (by kernel_rfl)
theorem GV (t0 t1 t2:V):Cl 115 [t0,t1,t2] []=
 (Cl 103 (AB [] [t0]) []).bind fun a1=>(un .not a1.1).bind fun a2=>V.ite a2
  (if(List.all [(V.int .i64 70),(V.int .i64 0)] V.okE)=true then AP 0 [] (V.tup [(V.int .i64 0),(V.int .i64 70)])else none)
  (jn (fun a3=>
 V.ite a3
  (if(List.all [(V.int .i64 71),(V.int .i64 0)] V.okE)=true then AP 0 [] (V.tup [(V.int .i64 0),(V.int .i64 71)])else none)
  ((AL .add t1 t2).bind fun a4=>(AL .eql t0 (V.str [109,97,120])).bind fun a5=>V.ite a5
  ((V8 t1 t2).bind fun a6=>(Cl 116 (AB [] [a6]) []).bind fun a7=>V.ite a7.1
  (if(List.all [(V.int .i64 71),(V.int .i64 0)] V.okE)=true then AP 0 [] (V.tup [(V.int .i64 0),(V.int .i64 71)])else none)
  (if(List.all [(V.int .i64 0),a6] V.okE)=true then AP 0 [] (V.tup [a6,(V.int .i64 0)])else none))
  ((AL .eql t0 (V.str [108,97,98,101,108])).bind fun a8=>V.ite a8
  (V.ite a8
  ((Uj t1 t2).bind fun a9=>(Cl 116 (AB [] [a9]) []).bind fun a10=>V.ite a10.1
  (if(List.all [(V.int .i64 71),(V.int .i64 0)] V.okE)=true then AP 0 [] (V.tup [(V.int .i64 0),(V.int .i64 71)])else none)
  (if(List.all [(V.int .i64 0),a9] V.okE)=true then AP 0 [] (V.tup [a9,(V.int .i64 0)])else none))
  ((Cl 116 (AB [] [a4]) []).bind fun a11=>V.ite a11.1
  (if(List.all [(V.int .i64 71),(V.int .i64 0)] V.okE)=true then AP 0 [] (V.tup [(V.int .i64 0),(V.int .i64 71)])else none)
  (if(List.all [(V.int .i64 0),a4] V.okE)=true then AP 0 [] (V.tup [a4,(V.int .i64 0)])else none)))
  ((AL .eql t0 (V.str [115,115,115,112])).bind fun a12=>V.ite a12
  (V.ite a12
  ((Uj t1 t2).bind fun a13=>(Cl 116 (AB [] [a13]) []).bind fun a14=>V.ite a14.1
  (if(List.all [(V.int .i64 71),(V.int .i64 0)] V.okE)=true then AP 0 [] (V.tup [(V.int .i64 0),(V.int .i64 71)])else none)
  (if(List.all [(V.int .i64 0),a13] V.okE)=true then AP 0 [] (V.tup [a13,(V.int .i64 0)])else none))
  ((Cl 116 (AB [] [a4]) []).bind fun a15=>V.ite a15.1
  (if(List.all [(V.int .i64 71),(V.int .i64 0)] V.okE)=true then AP 0 [] (V.tup [(V.int .i64 0),(V.int .i64 71)])else none)
  (if(List.all [(V.int .i64 0),a4] V.okE)=true then AP 0 [] (V.tup [a4,(V.int .i64 0)])else none)))
  ((AL .eql t0 (V.str [98,102,115])).bind fun a16=>V.ite a16
  ((Uj t1 t2).bind fun a17=>(Cl 116 (AB [] [a17]) []).bind fun a18=>V.ite a18.1
  (if(List.all [(V.int .i64 71),(V.int .i64 0)] V.okE)=true then AP 0 [] (V.tup [(V.int .i64 0),(V.int .i64 71)])else none)
  (if(List.all [(V.int .i64 0),a17] V.okE)=true then AP 0 [] (V.tup [a17,(V.int .i64 0)])else none))
  ((Cl 116 (AB [] [a4]) []).bind fun a19=>V.ite a19.1
  (if(List.all [(V.int .i64 71),(V.int .i64 0)] V.okE)=true then AP 0 [] (V.tup [(V.int .i64 0),(V.int .i64 71)])else none)
  (if(List.all [(V.int .i64 0),a4] V.okE)=true then AP 0 [] (V.tup [a4,(V.int .i64 0)])else none))))))) (fun(a20:V→Rv)=>(Cl 116 (AB [] [t1]) []).bind fun a21=>V.ite a21.1 (a20 (V.bool true)) ((Cl 116 (AB [] [t2]) []).bind fun a22=>a20 a22.1))):=
 Ar (by kernel_rfl)
theorem AHv (t0:V):Cl 116 [t0] []=
 jn (fun a1=>
 AP 0 [] a1) (fun(a2:V→Rv)=>(AL .gtr t0 (V.int .i64 1125899906842624)).bind fun a3=>V.ite a3 (a2 (V.bool true)) ((AL .lss t0 (V.int .i64 (-1125899906842624))).bind fun a4=>a2 a4)):=
 Ar (by kernel_rfl)
theorem AHw (t0 t1:V):Cl 117 [t0,t1] []=
 if((tyG 23) (V.weak t0)&&V.under 0 (V.weak t0))=true then if((tyI .i64) t1&&V.under 1 t1)=true then(CP [(V.weak t0),t1] 24 (V.ref 0 [] 24)).bind fun a1=>(if(List.all [(V.ref 1 [] 3)] V.capOk)=true then some (V.clo 169 [(V.ref 1 [] 3)])else none).bind fun a2=>(Cl 168 (AV [a1,a2]) [(V.weak t0),t1]).bind fun a3=>AP 0 a3.2 a3.1 else none else none:=
 Ar (by kernel_rfl)
def AAa (t0 t1 t2:V) (h:List V) (k:V→V→V→List V→Rv):Rv:=
 if((tyG 25) t0&&V.under (List.length h) t0)=true then if((tyI .i64) t1&&V.under (List.length (h++[t0])) t1)=true then if((tyG 85) t2&&V.under (List.length ((h++[t0])++[t1])) t2)=true then k (V.ref (List.length h) [] 26) (V.ref (List.length (h++[t0])) [] 3) (V.ref (List.length ((h++[t0])++[t1])) [] 86) (((h++[t0])++[t1])++[t2])else none else none else none
def AAb (t5 t6:V) (h:List V) (k:V→List V→Rv):Rv:=
 (AU h 3 t5).bind fun t15=>(AL .gtr t15 (V.int .i64 0)).bind fun t16=>V.ite t16 ((fA 86 4 3 t6).bind fun t18=>(AU h 4 t18).bind fun t19=>(Cb tyB 4 (h++[(V.bool false)]) (V.ref (List.length h) [] 4) t19).bind fun a1=>k (V.ref (List.length h) [] 4) a1) ((Cb tyB 4 (h++[(V.bool false)]) (V.ref (List.length h) [] 4) (V.bool false)).bind fun a2=>k (V.ref (List.length h) [] 4) a2)
def AAc (t5 t6 t12:V) (k:V→Rv):Rv:=
 (if(List.all [t5,t6,t12] V.capOk)=true then some (V.clo 170 [t5,t6,t12])else none).bind fun t21=>k t21
def AAd (t4:V) (h:List V) (k:V→Rv):Rv:=
 (fA 26 9 0 t4).bind fun t22=>(AU h 9 t22).bind fun t23=>k t23
def AAe (t23:V) (k:V→Rv):Rv:=
 (AL .eql t23 (V.str [109,97,120])).bind fun t25=>k t25
def AAf (t6 t13:V) (h:List V) (k:V→V→V→V→List V→Rv):Rv:=
 (fA 86 2 4 t6).bind fun t27=>(AU h 2 t27).bind fun t28=>(fA 86 2 1 t6).bind fun t29=>(AU h 2 t29).bind fun t30=>(AL .gtr t28 t30).bind fun t31=>BG P CO W t13 [t31] h fun t32 a1=>if V.noOwn t32=true then(ext t32 0).bind fun t33=>(ext t32 1).bind fun t34=>(ext t32 2).bind fun t35=>(ext t32 3).bind fun t36=>k t33 t34 t35 t36 a1 else none
def AAg (t23:V) (k:V→Rv):Rv:=
 (AL .eql t23 (V.str [108,97,98,101,108])).bind fun t38=>k t38
def AAh (t6 t13:V) (h:List V) (k:V→V→V→V→List V→Rv):Rv:=
 (fA 86 2 4 t6).bind fun t40=>(AU h 2 t40).bind fun t41=>(fA 86 2 1 t6).bind fun t42=>(AU h 2 t42).bind fun t43=>(AL .lss t41 t43).bind fun t44=>BG P CO W t13 [t44] h fun t45 a1=>if V.noOwn t45=true then(ext t45 0).bind fun t46=>(ext t45 1).bind fun t47=>(ext t45 2).bind fun t48=>(ext t45 3).bind fun t49=>k t46 t47 t48 t49 a1 else none
def AAi (t23:V) (k:V→Rv):Rv:=
 (AL .eql t23 (V.str [115,115,115,112])).bind fun t51=>k t51
def O7 (t5:V) (h:List V) (k:V→Rv):Rv:=
 (AU h 3 t5).bind fun t53=>(AL .eql t53 (V.int .i64 0)).bind fun t54=>k t54
def O8 (t4 t6:V) (h:List V) (k:V→V→V→V→Rv):Rv:=
 (fA 86 2 1 t6).bind fun t55=>(AU h 2 t55).bind fun t56=>(fA 86 3 0 t6).bind fun t57=>(AU h 3 t57).bind fun t58=>(fA 26 3 1 t4).bind fun t59=>(AU h 3 t59).bind fun t60=>(AL .eql t58 t60).bind fun t61=>k t56 (V.bool false) t61 (V.int .i64 0)
def O9 (t6 t13:V) (h:List V) (k:V→V→V→V→List V→Rv):Rv:=
 (fA 86 2 1 t6).bind fun t63=>(AU h 2 t63).bind fun t64=>(AL .lss t64 (V.int .i64 0)).bind fun t65=>V.ite t65 (BG P CO W t13 [(V.bool true)] h fun t73 a1=>if V.noOwn t73=true then(ext t73 0).bind fun t74=>(ext t73 1).bind fun t75=>(ext t73 2).bind fun t76=>(ext t73 3).bind fun t77=>k t74 t75 t76 t77 a1 else none) ((fA 86 2 4 t6).bind fun t67=>(AU h 2 t67).bind fun t68=>(fA 86 2 1 t6).bind fun t69=>(AU h 2 t69).bind fun t70=>(AL .lss t68 t70).bind fun t71=>BG P CO W t13 [t71] h fun a3 a2=>if V.noOwn a3=true then(ext a3 0).bind fun a4=>(ext a3 1).bind fun a5=>(ext a3 2).bind fun a6=>(ext a3 3).bind fun a7=>k a4 a5 a6 a7 a2 else none)
def PD (t23:V) (k:V→Rv):Rv:=
 (AL .eql t23 (V.str [100,101,103,114,101,101])).bind fun t79=>k t79
def PE (t12:V) (h:List V) (k:V→Rv):Rv:=
 (AU h 4 t12).bind fun t80=>k t80
def PG (t6:V) (h:List V) (k:V→V→V→V→Rv):Rv:=
 (fA 86 2 4 t6).bind fun t81=>(AU h 2 t81).bind fun t82=>k t82 (V.bool false) (V.bool false) (V.int .i64 0)
def PI (t5 t6:V) (h:List V) (k:V→V→V→V→Rv):Rv:=
 (fA 86 2 1 t6).bind fun t83=>(AU h 2 t83).bind fun t84=>(AU h 3 t5).bind fun t85=>(AL .eql t85 (V.int .i64 0)).bind fun t86=>k t84 (V.bool false) t86 (V.int .i64 1)
def PK (t23:V) (k:V→Rv):Rv:=
 (AL .eql t23 (V.str [119,97,108,107,115])).bind fun t88=>k t88
def PL (t5:V) (h:List V) (k:V→Rv):Rv:=
 (AU h 3 t5).bind fun t89=>(AL .eql t89 (V.int .i64 0)).bind fun t90=>k t90
def PN (t6:V) (h:List V) (k:V→V→V→V→Rv):Rv:=
 (fA 86 2 1 t6).bind fun t91=>(AU h 2 t91).bind fun t92=>k t92 (V.bool false) (V.bool true) (V.int .i64 1)
def PO (t6 t12:V) (h:List V) (k:V→V→V→V→Rv):Rv:=
 (fA 86 2 1 t6).bind fun t93=>(AU h 2 t93).bind fun t94=>(fA 86 2 4 t6).bind fun t95=>(AU h 2 t95).bind fun t96=>(AL .add t94 t96).bind fun t97=>(AU h 4 t12).bind fun t98=>(fA 86 2 4 t6).bind fun t99=>(AU h 2 t99).bind fun t100=>k t97 (V.bool false) t98 t100
def PS (t6:V) (h:List V) (k:V→Rv):Rv:=
 (fA 86 2 1 t6).bind fun t101=>(AU h 2 t101).bind fun t102=>k t102
def PU (t5:V) (h:List V) (k:V→Rv):Rv:=
 (AU h 3 t5).bind fun t103=>(AL .gtr t103 (V.int .i64 0)).bind fun t104=>k t104
def PV (t4 t5:V) (h:List V) (k:V→Rv):Rv:=
 (AU h 3 t5).bind fun t110=>(fA 26 3 2 t4).bind fun t111=>(AU h 3 t111).bind fun t112=>(AL .sub t112 (V.int .i64 1)).bind fun t113=>(AL .eql t110 t113).bind fun t114=>k t114
def PW (t14:V) (k:V→V→V→V→Rv):Rv:=
 k t14 (V.bool false) (V.bool false) (V.int .i64 0)
def PX (t3 t14:V) (h:List V) (k:V→V→V→V→Rv):Rv:=
 (AL .gtr t3 (V.int .i64 0)).bind fun t118=>(V8 t3 (V.int .i64 1)).bind fun t121=>(Cl 171 (AB h [t14,t121]) []).bind fun r=>k t14 (V.bool true) t118 r.1
def PY (t6:V) (h:List V) (k:V→Rv):Rv:=
 (fA 86 2 4 t6).bind fun t105=>(AU h 2 t105).bind fun t106=>(AL .mul t106 (V.int .i64 85)).bind fun t107=>(Cl 171 (AB h [t107,(V.int .i64 100)]) []).bind fun r=>(AL .add (V.int .i64 9830) r.1).bind fun t109=>k t109
def AAj (t23:V) (k:V→Rv):Rv:=
 (AL .eql t23 (V.str [98,102,115])).bind fun t52=>k t52
theorem AHx (t0 t1 t2 t3:V):Cl 118 [t0,t1,t2,t3] []=
 AAa t0 t1 t2 [] fun a8 a9 a10 a11=>
  AAb a9 a10 a11 fun a12 a13=>
  AAc a9 a10 a12 fun a14=>
  AAd a8 a13 fun a15=>
  AAe a15 fun a16=>
  V.ite a16
  (AAf a10 a14 a13 fun a17 a18 a19 a20 a21=>
  if(List.all [a20,a19,a18,a17] V.okE)=true then AP 0 a21 (V.tup [a17,a18,a19,a20])else none)
  (AAg a15 fun a22=>
  V.ite a22
  (AAh a10 a14 a13 fun a23 a24 a25 a26 a27=>
  if(List.all [a26,a25,a24,a23] V.okE)=true then AP 0 a27 (V.tup [a23,a24,a25,a26])else none)
  (AAi a15 fun a28=>
  V.ite a28
  (V.ite a28
  (O7 a9 a13 fun a29=>
  V.ite a29
  (O8 a8 a10 a13 fun a30 a31 a32 a33=>
  if(List.all [a33,a32,a31,a30] V.okE)=true then AP 0 a13 (V.tup [a30,a31,a32,a33])else none)
  (O9 a10 a14 a13 fun a34 a35 a36 a37 a38=>
  if(List.all [a37,a36,a35,a34] V.okE)=true then AP 0 a38 (V.tup [a34,a35,a36,a37])else none))
  (PD a15 fun a39=>
  V.ite a39
  (PE a12 a13 fun a40=>
  V.ite a40
  (PG a10 a13 fun a41 a42 a43 a44=>
  if(List.all [a44,a43,a42,a41] V.okE)=true then AP 0 a13 (V.tup [a41,a42,a43,a44])else none)
  (PI a9 a10 a13 fun a45 a46 a47 a48=>
  if(List.all [a48,a47,a46,a45] V.okE)=true then AP 0 a13 (V.tup [a45,a46,a47,a48])else none))
  (PK a15 fun a49=>
  V.ite a49
  (PL a9 a13 fun a50=>
  V.ite a50
  (PN a10 a13 fun a51 a52 a53 a54=>
  if(List.all [a54,a53,a52,a51] V.okE)=true then AP 0 a13 (V.tup [a51,a52,a53,a54])else none)
  (PO a10 a12 a13 fun a55 a56 a57 a58=>
  if(List.all [a58,a57,a56,a55] V.okE)=true then AP 0 a13 (V.tup [a55,a56,a57,a58])else none))
  (PS a10 a13 fun a59=>
  PU a9 a13 fun a60=>
  jn (fun a61=>PV a8 a9 a13 fun a62=>
  V.ite a62
  (PW a61 fun a63 a64 a65 a66=>
  if(List.all [a66,a65,a64,a63] V.okE)=true then AP 0 a13 (V.tup [a63,a64,a65,a66])else none)
  (PX t3 a61 a13 fun a67 a68 a69 a70=>
  if(List.all [a70,a69,a68,a67] V.okE)=true then AP 0 a13 (V.tup [a67,a68,a69,a70])else none))
  (fun(j0:V→Rv)=>V.ite a60
  (PY a10 a13 fun a71=>
  j0 a71)
  (j0 a59))))))
  (AAj a15 fun a72=>
  V.ite a72
  (O7 a9 a13 fun a73=>
  V.ite a73
  (O8 a8 a10 a13 fun a74 a75 a76 a77=>
  if(List.all [a77,a76,a75,a74] V.okE)=true then AP 0 a13 (V.tup [a74,a75,a76,a77])else none)
  (O9 a10 a14 a13 fun a78 a79 a80 a81 a82=>
  if(List.all [a81,a80,a79,a78] V.okE)=true then AP 0 a82 (V.tup [a78,a79,a80,a81])else none))
  (PD a15 fun a83=>
  V.ite a83
  (PE a12 a13 fun a84=>
  V.ite a84
  (PG a10 a13 fun a85 a86 a87 a88=>
  if(List.all [a88,a87,a86,a85] V.okE)=true then AP 0 a13 (V.tup [a85,a86,a87,a88])else none)
  (PI a9 a10 a13 fun a89 a90 a91 a92=>
  if(List.all [a92,a91,a90,a89] V.okE)=true then AP 0 a13 (V.tup [a89,a90,a91,a92])else none))
  (PK a15 fun a93=>
  V.ite a93
  (PL a9 a13 fun a94=>
  V.ite a94
  (PN a10 a13 fun a95 a96 a97 a98=>
  if(List.all [a98,a97,a96,a95] V.okE)=true then AP 0 a13 (V.tup [a95,a96,a97,a98])else none)
  (PO a10 a12 a13 fun a99 a100 a101 a102=>
  if(List.all [a102,a101,a100,a99] V.okE)=true then AP 0 a13 (V.tup [a99,a100,a101,a102])else none))
  (PS a10 a13 fun a103=>
  PU a9 a13 fun a104=>
  jn (fun a105=>PV a8 a9 a13 fun a106=>
  V.ite a106
  (PW a105 fun a107 a108 a109 a110=>
  if(List.all [a110,a109,a108,a107] V.okE)=true then AP 0 a13 (V.tup [a107,a108,a109,a110])else none)
  (PX t3 a105 a13 fun a111 a112 a113 a114=>
  if(List.all [a114,a113,a112,a111] V.okE)=true then AP 0 a13 (V.tup [a111,a112,a113,a114])else none))
  (fun(j1:V→Rv)=>V.ite a104
  (PY a10 a13 fun a115=>
  j1 a115)
  (j1 a103)))))))):=
 Ar (DU<|Dw (fun K u4 u5 u6 h'=>K ⟨[(3,t3),(4,u4),(5,u5),(6,u6)],h'⟩) (funext fun a8=>funext fun a9=>funext fun a10=>funext fun a11=>CB<|DU<|Dw (fun K u12 h'=>K ⟨[(3,t3),(4,a8),(5,a9),(6,a10),(12,u12)],h'⟩) (funext fun a12=>funext fun a13=>CB<|DU<|Dw (fun K u13=>K ⟨[(3,t3),(4,a8),(5,a9),(6,a10),(12,a12),(13,u13)],a13⟩) (funext fun a14=>CB<|DU<|DU<|Dw (fun K u23=>K ⟨[(3,t3),(4,a8),(5,a9),(6,a10),(12,a12),(13,a14),(23,u23)],a13⟩) (funext fun a15=>CB<|AHn<|DU<|Dw (fun K u24=>K ⟨[(3,t3),(4,a8),(5,a9),(6,a10),(12,a12),(13,a14),(23,a15),(24,u24)],a13⟩) (funext fun a16=>CB<|EP (by kernel_rfl) (DU<|Dw (fun K u37=>K ⟨[(3,t3),(4,a8),(5,a9),(6,a10),(12,a12),(13,a14),(23,a15),(37,u37)],a13⟩) (funext fun a22=>CB<|EP (by kernel_rfl) (DU<|DU<|Dw (fun K u50=>K ⟨[(3,t3),(4,a8),(5,a9),(6,a10),(12,a12),(13,a14),(23,a15),(50,u50)],a13⟩) (funext fun a28=>CB<|EP (Jw<|CB<|EP (by kernel_rfl) (DU<|Dw (fun K u78=>K ⟨[(3,t3),(4,a8),(5,a9),(6,a10),(12,a12),(23,a15),(78,u78)],a13⟩) (funext fun a39=>CB<|EP (by kernel_rfl) (DU<|Dw (fun K u87=>K ⟨[(3,t3),(4,a8),(5,a9),(6,a10),(12,a12),(87,u87)],a13⟩) (funext fun a49=>CB<|EP (by kernel_rfl) (Jw<|WJ<|CB<|DU<|Dw (fun K u14=>K ⟨[(3,t3),(4,a8),(5,a9),(6,a10),(14,u14)],a13⟩) (funext fun a59=>CB<|DU<|DU<|Dw (fun K u104=>K ⟨[(3,t3),(4,a8),(5,a9),(6,a10),(14,a59),(104,u104)],a13⟩) (funext fun a60=>CB<|ALq (fun K a61=>K ⟨[(3,t3),(4,a8),(5,a9),(14,a61)],a13⟩) (funext fun a61=>by kernel_rfl) (EP (Dw (fun K u14=>K ⟨[(3,t3),(4,a8),(5,a9),(14,u14)],a13⟩) (funext fun a71=>rfl)) (Jw<|AOe)))))))))) (Dw (fun K u50=>K ⟨[(3,t3),(4,a8),(5,a9),(6,a10),(12,a12),(13,a14),(23,a15),(50,u50)],a13⟩) (funext fun a72=>CB<|EP (by kernel_rfl) (DU<|Dw (fun K u78=>K ⟨[(3,t3),(4,a8),(5,a9),(6,a10),(12,a12),(23,a15),(78,u78)],a13⟩) (funext fun a83=>CB<|EP (by kernel_rfl) (DU<|Dw (fun K u87=>K ⟨[(3,t3),(4,a8),(5,a9),(6,a10),(12,a12),(87,u87)],a13⟩) (funext fun a93=>CB<|EP (by kernel_rfl) (Jw<|WJ<|CB<|DU<|Dw (fun K u14=>K ⟨[(3,t3),(4,a8),(5,a9),(6,a10),(14,u14)],a13⟩) (funext fun a103=>CB<|DU<|DU<|Dw (fun K u104=>K ⟨[(3,t3),(4,a8),(5,a9),(6,a10),(14,a103),(104,u104)],a13⟩) (funext fun a104=>CB<|ALq (fun K a105=>K ⟨[(3,t3),(4,a8),(5,a9),(14,a105)],a13⟩) (funext fun a105=>by kernel_rfl) (EP (Dw (fun K u14=>K ⟨[(3,t3),(4,a8),(5,a9),(14,u14)],a13⟩) (funext fun a115=>rfl)) (Jw<|AOe)))))))))))))))))))))
theorem AHy (t0 t1 t2 t3 t4 t5:V) (h:List V):Cl 119 [t0,t1,t2,t3,t4,t5] h=
 if((tyG 95) t0&&V.under (List.length h) t0)=true then(fA 86 3 0 t1).bind fun a1=>(AU (h++[t0]) 3 a1).bind fun a2=>(fA 96 3 1 (V.ref (List.length h) [] 96)).bind fun a3=>(AU (h++[t0]) 3 a3).bind fun a4=>(AU (h++[t0]) 2 t2).bind fun a5=>(fA 26 9 0 t3).bind fun a6=>(AU (h++[t0]) 9 a6).bind fun a7=>(AU (h++[t0]) 96 (V.ref (List.length h) [] 96)).bind fun a8=>if SQ true [a7,a8]=true then(Cl 120 (AB (h++[t0]) [a7,a8]) []).bind fun a9=>(AL .add a5 a9.1).bind fun a10=>((ck [(tyI .i64) a2,(tyI .i64) a4,(tyI .i64) a10] [a2,a4,a10]).map (.agg 151)).bind fun a11=>(Cb (tyG 151) 152 ((h++[t0])++[(V.agg 151 [(V.int .i64 0),(V.int .i64 0),(V.int .i64 0)])]) (V.ref (List.length (h++[t0])) [] 152) a11).bind fun a12=>jn (fun a13=>
 (BM a13 39 t5).bind fun a14=>(AU a14.2 152 (V.ref (List.length (h++[t0])) [] 152)).bind fun a15=>(Ny 152 false (ck [(tyG 151) a15] [a15])).bind fun a16=>(GK 152 (tyG 151) false a14.2 a14.1 a16).bind fun a17=>(Cb (tyL 152) 39 a14.2 t5 a17).bind fun a18=>if(List.all [] V.okE)=true then AP (List.length h) a18 (V.tup [])else none) (fun(a19:List V→Rv)=>(AU a12 4 t4).bind fun a20=>V.ite a20 ((Cb tyB 4 a12 t4 (V.bool true)).bind fun a21=>a19 a21) ((fA 152 2 2 (V.ref (List.length (h++[t0])) [] 152)).bind fun a22=>(AU a12 2 a22).bind fun a23=>(Cl 116 (AB a12 [a23]) []).bind fun a24=>(Cb tyB 4 a12 t4 a24.1).bind fun a25=>a19 a25))else none else none:=
 Ar (by kernel_rfl)
theorem AHz (t0 t1:V):Cl 120 [t0,t1] []=
 if((tyG 95) t1&&V.under 0 t1)=true then(AL .eql t0 (V.str [115,115,115,112])).bind fun a1=>V.ite a1
  ((fA 96 2 2 (V.ref 0 [] 96)).bind fun a2=>(AU [t1] 2 a2).bind fun a3=>AP 0 [t1] a3)
  ((AL .eql t0 (V.str [98,102,115])).bind fun a4=>V.ite a4
  (AP 0 [t1] (V.int .i64 1))
  (AP 0 [t1] (V.int .i64 0)))else none:=
 Ar (by kernel_rfl)
theorem AH0 (t0 t1:V) (h:List V):Cl 121 [t0,t1] h=
 (Cl 172 (AV [t0,t1]) h).bind fun a1=>(AL .geq a1.1 (V.int .i64 0)).bind fun a2=>AP (List.length h) a1.2 a2:=
 Ar (by kernel_rfl)
theorem AH1 (t0:V):Cl 122 [t0] []=
 if((tyG 151) t0&&V.under 0 t0)=true then(fA 152 3 1 (V.ref 0 [] 152)).bind fun a1=>(AU [t0] 3 a1).bind fun a2=>(AL .lss a2 (V.int .i64 0)).bind fun a3=>AP 0 [t0] a3 else none:=
 Ar (by kernel_rfl)
def KQ (t1 t5 t8 t9 t10:V) (n:Nat) (h:List V):Rv:=lp W 123 0 (cd 123 75) (bk 0 (sk 123 0 15 (lv 123 n))) ⟨[(1,t1),(5,t5),(8,t8),(9,t9),(10,t10)],h⟩
theorem J3 (t1 t5 t8 t9 t10:V) (n:Nat) (h:List V):KQ t1 t5 t8 t9 t10 n h=
 (AL .lss t10 t9).bind fun a1=>V.ite a1
  ((EQ 152 t8 t10).bind fun a2=>(AU h 152 a2).bind fun a3=>(Cb (tyG 151) 152 (h++[(V.agg 151 [(V.int .i64 0),(V.int .i64 0),(V.int .i64 0)])]) (V.ref (List.length h) [] 152) a3).bind fun a4=>(AU a4 152 (V.ref (List.length h) [] 152)).bind fun a5=>BG P CO W t1 [a5] a4 fun a6 a7=>if V.noOwn a6=true then V.ite a6
  ((AU a7 152 (V.ref (List.length h) [] 152)).bind fun a8=>(Ny 152 false (ck [(tyG 151) a8] [a8])).bind fun a9=>(GK 152 (tyG 151) false a7 t5 a9).bind fun a10=>(AL .add t10 (V.int .i64 1)).bind fun a11=>if AZ (List.length h) [t1,a10,t8,t9,a11]=true then KQ t1 a10 t8 t9 a11 n (List.take (List.length h) a7)else none)
  ((AL .add t10 (V.int .i64 1)).bind fun a12=>if AZ (List.length h) [t1,t5,t8,t9,a12]=true then KQ t1 t5 t8 t9 a12 n (List.take (List.length h) a7)else none)else none)
  (AP n h t5):=
 DF (by kernel_rfl)
theorem AH2 (t0 t1:V) (h:List V):Cl 123 [t0,t1] h=
 (EZ t0).bind fun a13=>KQ t1 (V.weak (V.lst 152 .nil [])) t0 a13 (V.int .i64 0) (List.length h) h:=
 Ar (by kernel_rfl)
theorem AH3 (t0 t1 t2:V) (h:List V):Cl 124 [t0,t1,t2] h=
 if((tyG 151) t0&&V.under (List.length h) t0)=true then(fA 152 3 1 (V.ref (List.length h) [] 152)).bind fun a1=>(AU (h++[t0]) 3 a1).bind fun a2=>(AU (h++[t0]) 3 t1).bind fun a3=>(Cl 106 (AB (h++[t0]) [a2,a3]) []).bind fun a4=>(AU (h++[t0]) 3 t2).bind fun a5=>(AL .eql a4.1 a5).bind fun a6=>AP (List.length h) (h++[t0]) a6 else none:=
 Ar (by kernel_rfl)
theorem AH4 (t0:V):Cl 125 [t0] []=
 if((tyG 76) (V.weak t0)&&V.under 0 (V.weak t0))=true then jn (fun a1 a2=>
 AP 0 a2 a1) (fun(a3:V→List V→Rv)=>(fA 77 3 0 (V.ref 0 [] 77)).bind fun a4=>(AU [(V.weak t0)] 3 a4).bind fun a5=>BG P CO W (V.clo 173 []) [a5,(V.int .i64 0),(V.int .i64 63)] [(V.weak t0)] fun a6 a7=>if V.noOwn a6=true then V.ite a6 ((fA 77 3 1 (V.ref 0 [] 77)).bind fun a8=>(AU a7 3 a8).bind fun a9=>BG P CO W (V.clo 173 []) [a9,(V.int .i64 0),(V.int .i64 63)] a7 fun a10 a11=>if V.noOwn a10=true then V.ite a10 ((fA 77 49 3 (V.ref 0 [] 77)).bind fun a12=>(CP a11 49 a12).bind fun a13=>(EZ a13).bind fun a14=>BG P CO W (V.clo 173 []) [a14,(V.int .i64 1),(V.int .i64 64)] a11 fun a15 a16=>if V.noOwn a15=true then a3 a15 a16 else none) (a3 (V.bool false) a11)else none) (a3 (V.bool false) a7)else none)else none:=
 Ar (by kernel_rfl)
theorem AH5 (t0 t1:V) (h:List V):Cl 126 [t0,t1] h=
 if((tyG 65) t1&&V.under (List.length h) t1)=true then(BI t0).bind fun a1=>(fA 191 172 0 a1).bind fun a2=>(BM (h++[t1]) 172 a2).bind fun a3=>(slA 66 65 32 5 (V.ref (List.length h) [] 66) none none none).bind fun a4=>(GK 5 (tyI .u8) false a3.2 a3.1 a4).bind fun a5=>(BI t0).bind fun a6=>(fA 191 172 0 a6).bind fun a7=>(Cb (tyL 5) 172 a3.2 a7 a5).bind fun a8=>if(List.all [] V.okE)=true then AP (List.length h) a8 (V.tup [])else none else none:=
 Ar (by kernel_rfl)
def AAk (k:Rv):Rv:=
 k
def AAl (k:V→Rv):Rv:=
 k (V.clo 174 [])
def AAm (t0:V) (k:V→Rv):Rv:=
 (lenV P 39 (V.weak t0)).bind fun t9=>(AL .gtr t9 (V.int .i64 512)).bind fun t10=>k t10
def AAn (k:V→Rv):Rv:=
 k (V.int .i64 110)
def AAo (t0:V) (h:List V) (k:V→Rv):Rv:=
 (Cl 101 (AB h [t0]) []).bind fun r=>k r.1
def AAp (t4:V) (k:V→V→V→Rv):Rv:=
 (lenV P 39 (V.weak t4)).bind fun t14=>k (V.weak t4) t14 (V.int .i64 0)
def Nz (t3 t4 t13 t14 t15:V) (h:List V):Rv:=lp W 127 0 (cd 127 303) (bk 0 (sk 127 0 63 (lv 127 0))) ⟨[(3,t3),(4,t4),(13,t13),(14,t14),(15,t15)],h⟩
def U4 (t14 t15:V) (k:V→Rv):Rv:=
 (AL .lss t15 t14).bind fun t16=>k t16
def AAq (t13 t15:V) (h:List V) (k:V→V→List V→Rv):Rv:=
 (AX P 39 t13 t15).bind fun t18=>(AU h 152 t18).bind fun t19=>(Gv P (h++[zero P 152]) 152 (V.ref (List.length h) [] 152) t19).bind fun a1=>k t15 (V.ref (List.length h) [] 152) a1
def U5 (t4 t5 t6:V) (h:List V) (k:V→Rv):Rv:=
 (AL .gtr t5 (V.int .i64 0)).bind fun t21=>V.ite t21 ((AL .sub t5 (V.int .i64 1)).bind fun t25=>(AX P 39 (V.weak t4) t25).bind fun t26=>(BD P 152 0 t26).bind fun t27=>(AU h 3 t27).bind fun t28=>(BD P 152 0 t6).bind fun t29=>(AU h 3 t29).bind fun t30=>(AL .eql t28 t30).bind fun t31=>V.ite t31 ((AL .sub t5 (V.int .i64 1)).bind fun t36=>(AX P 39 (V.weak t4) t36).bind fun t37=>(BD P 152 1 t37).bind fun t38=>(AU h 3 t38).bind fun t39=>(BD P 152 1 t6).bind fun t40=>(AU h 3 t40).bind fun t41=>(AL .eql t39 t41).bind fun t42=>k t42) (k (V.bool false))) (k (V.bool false))
def U6 (t3 t6 t7:V) (h:List V) (k:V→List V→Rv):Rv:=
 (BD P 152 0 t6).bind fun t45=>(AU h 3 t45).bind fun t46=>BG P CO W t3 [t46] h fun t47 a1=>if V.noOwn t47=true then(un .not t47).bind fun t48=>V.ite t48 (k (V.bool true) a1) ((BD P 152 1 t6).bind fun t51=>(AU a1 3 t51).bind fun t52=>BG P CO W t3 [t52] a1 fun t53 a2=>if V.noOwn t53=true then(un .not t53).bind fun t54=>V.ite t54 (k (V.bool true) a2) ((BD P 152 2 t6).bind fun t57=>(AU a2 2 t57).bind fun t58=>(AL .gtr t58 (V.int .i64 1125899906842624)).bind fun t59=>V.ite t59 (k (V.bool true) a2) ((BD P 152 2 t6).bind fun t62=>(AU a2 2 t62).bind fun t63=>(AL .lss t63 (V.int .i64 (-1125899906842624))).bind fun t64=>V.ite t64 (k (V.bool true) a2) (k t7 a2)))else none)else none
def WO (k:V→Rv):Rv:=
 k (V.int .i64 110)
def WQ (t15:V) (k:V→Rv):Rv:=
 (AL .add t15 (V.int .i64 1)).bind fun t69=>k t69
def WR (k:V→Rv):Rv:=
 k (V.int .i64 0)
theorem PZ (t3 t4 t13 t14 t15:V) (h:List V):Nz t3 t4 t13 t14 t15 h=
 U4 t14 t15 fun a3=>
  V.ite a3
  (AAq t13 t15 h fun a4 a5 a6=>
  U5 t4 a4 a5 a6 fun a7=>
  U6 t3 a5 a7 a6 fun a8 a9=>
  V.ite a8
  (WO fun a10=>
  AP 0 a9 a10)
  (WQ t15 fun a11=>
  if AZ (List.length h) [t3,t4,t13,t14,a11]=true then Nz t3 t4 t13 t14 a11 (List.take (List.length h) a9)else none))
  (WR fun a12=>
  AP 0 h a12):=
 DF (by kernel_rfl)
theorem AH6 (t0:V):Cl 127 [t0] []=
 AAk (AAl fun a13=>
  AAm t0 fun a14=>
  V.ite a14
  (AAn fun a15=>
  AP 0 [] a15)
  (AAo t0 [] fun a16=>
  AAp a16 fun a17 a18 a19=>
  Nz a13 a16 a17 a18 a19 [])):=
 Ar (by kernel_rfl)
theorem Hg (t0:V):Cl 128 [t0] []=
 if((tyG 85) t0&&V.under 0 t0)=true then jn (fun a1=>
 V.ite a1
  (AP 0 [t0] (V.int .i64 100))
  (AP 0 [t0] (V.int .i64 0))) (fun(a2:V→Rv)=>(fA 86 3 0 (V.ref 0 [] 86)).bind fun a3=>(AU [t0] 3 a3).bind fun a4=>(AL .lss a4 (V.int .i64 0)).bind fun a5=>V.ite a5 (a2 (V.bool true)) ((fA 86 3 0 (V.ref 0 [] 86)).bind fun a6=>(AU [t0] 3 a6).bind fun a7=>(AL .geq a7 (V.int .i64 64)).bind fun a8=>V.ite a8 (a2 (V.bool true)) ((fA 86 2 1 (V.ref 0 [] 86)).bind fun a9=>(AU [t0] 2 a9).bind fun a10=>(Cl 175 (AB [t0] [a10]) []).bind fun a11=>V.ite a11.1 (a2 (V.bool true)) ((fA 86 2 4 (V.ref 0 [] 86)).bind fun a12=>(AU [t0] 2 a12).bind fun a13=>(Cl 175 (AB [t0] [a13]) []).bind fun a14=>V.ite a14.1 (a2 (V.bool true)) ((fA 86 4 3 (V.ref 0 [] 86)).bind fun a15=>(AU [t0] 4 a15).bind fun a16=>(un .not a16).bind fun a17=>V.ite a17 ((fA 86 2 4 (V.ref 0 [] 86)).bind fun a18=>(AU [t0] 2 a18).bind fun a19=>(AL .neq a19 (V.int .i64 0)).bind fun a20=>a2 a20) (a2 (V.bool false)))))))else none:=
 Ar (by kernel_rfl)
def AAr (t0 t1:V) (h:List V) (k:List V→Rv):Rv:=
 (conv P h 2 132 t1).bind fun t6=>(AL .shl t6 (V.int .u64 1)).bind fun t7=>(AL .shr t1 (V.int .u64 63)).bind fun t9=>(conv P h 2 132 t9).bind fun t10=>(AL .xor t7 t10).bind fun t11=>(Cl 69 (AV [t0,t11]) h).bind fun r=>k r.2
theorem AH7 (t0 t1:V) (h:List V):Cl 129 [t0,t1] h=
 AAr t0 t1 h fun a1=>
  if(List.all [] V.okE)=true then AP (List.length h) a1 (V.tup [])else none:=
 Ar (by kernel_rfl)
theorem AH8 (t0:V):Cl 130 [t0] []=
 V.ite t0
  (AP 0 [] (V.int .u64 1))
  (AP 0 [] (V.int .u64 0)):=
 Ar (by kernel_rfl)
def N7 (t0 t3:V):Rv:=lp W 132 0 (cd 132 71) (bk 0 (sk 132 0 31 (lv 132 0))) ⟨[(0,t0),(3,t3)],[]⟩
theorem ZN (t0 t3:V):N7 t0 t3=
 (AL .sub t0 t3).bind fun a1=>(AL .lss t3 a1).bind fun a2=>V.ite a2
  ((AL .mul t3 (V.int .i64 2)).bind fun a3=>N7 t0 a3)
  (AP 0 [] t3):=
 DF (by kernel_rfl)
theorem AH9 (t0:V):Cl 132 [t0] []=
 (AL .lss t0 (V.int .i64 2)).bind fun a4=>V.ite a4
  (AP 0 [] (V.int .i64 0))
  (N7 t0 (V.int .i64 1)):=
 Ar (by kernel_rfl)
theorem AAs (t0:V):Cl 133 [t0] []=
 (EZ (V.weak t0)).bind fun a1=>(AL .eql a1 (V.int .i64 0)).bind fun a2=>V.ite a2
  ((Ny 5 false (ck [(tyI .u8) (V.int .u8 2)] [(V.int .u8 2)])).bind fun a3=>(Ny 172 true (ck [(tyL 5) a3] [(V.weak a3)])).bind fun a4=>(Cl 176 (AB [(V.agg 65 (List.replicate 32 (V.int .u8 0)))] [a4]) []).bind fun a5=>(Cb (tyG 65) 66 [(V.agg 65 (List.replicate 32 (V.int .u8 0)))] (V.ref 0 [] 66) a5.1).bind fun a6=>(AU a6 66 (V.ref 0 [] 66)).bind fun a7=>AP 0 a6 a7)
  ((AL .eql a1 (V.int .i64 1)).bind fun a8=>V.ite a8
  ((EQ 9 t0 (V.int .i64 0)).bind fun a9=>(AU [(V.agg 65 (List.replicate 32 (V.int .u8 0)))] 9 a9).bind fun a10=>(Cl 177 (AB [(V.agg 65 (List.replicate 32 (V.int .u8 0)))] [a10]) []).bind fun a11=>(Cb (tyG 65) 66 [(V.agg 65 (List.replicate 32 (V.int .u8 0)))] (V.ref 0 [] 66) a11.1).bind fun a12=>(AU a12 66 (V.ref 0 [] 66)).bind fun a13=>AP 0 a12 a13)
  ((EZ (V.weak t0)).bind fun a14=>(Cl 132 (AB [(V.agg 65 (List.replicate 32 (V.int .u8 0)))] [a14]) []).bind fun a15=>(WL 9 (V.weak t0) none (some a15.1) (some a15.1)).bind fun a16=>(Cl 133 (AB [(V.agg 65 (List.replicate 32 (V.int .u8 0)))] [a16]) []).bind fun a17=>(WL 9 (V.weak t0) (some a15.1) none none).bind fun a18=>(Cl 133 (AB [(V.agg 65 (List.replicate 32 (V.int .u8 0)))] [a18]) []).bind fun a19=>(Cl 178 (AB [(V.agg 65 (List.replicate 32 (V.int .u8 0)))] [a17.1,a19.1]) []).bind fun a20=>(Cb (tyG 65) 66 [(V.agg 65 (List.replicate 32 (V.int .u8 0)))] (V.ref 0 [] 66) a20.1).bind fun a21=>(AU a21 66 (V.ref 0 [] 66)).bind fun a22=>AP 0 a21 a22)):=
 Ar (by kernel_rfl)
def AAt (t1:V) (h:List V) (k:V→V→List V→Rv):Rv:=
 if(Bo P 66 t1&&V.under (List.length h) t1)=true then k (V.ref (List.length h) [] 66) (V.ref (List.length (h++[t1])) [] 66) ((h++[t1])++[zero P 66])else none
def AAu (h:List V) (k:V→List V→Rv):Rv:=
 (Cl 68 (AV []) h).bind fun r=>k r.1 r.2
def AAv (t0 t5:V) (h:List V) (k:List V→Rv):Rv:=
 (conv P h 3 132 t0).bind fun t9=>(Cl 69 (AV [t5,t9]) h).bind fun r=>k r.2
def AAw (t3 t4 t5:V) (h:List V) (k:List V→Rv):Rv:=
 (CU P 172 1 [(0,(V.int .u8 3))]).bind fun t11=>(Cl 71 (AV [t5]) h).bind fun r=>(conv P r.2 9 172 r.1).bind fun t14=>(NJ P 66 t3 none none none).bind fun t15=>(CU P 245 3 [(0,t11),(1,t14),(2,t15)]).bind fun t16=>(Cl 176 (AB r.2 [t16]) []).bind fun a1=>(Gv P r.2 66 t4 a1.1).bind fun a2=>k a2
theorem AIA (t0 t1:V):Cl 146 [t0,t1] []=
 AAt t1 [] fun a3 a4 a5=>
  AAu a5 fun a6 a7=>
  AAv t0 a6 a7 fun a8=>
  AAw a3 a4 a6 a8 fun a9=>
  (AU a9 66 a4).bind fun a10=>AP 0 a9 a10:=
 Ar (by kernel_rfl)
def AAx (t0:V) (h:List V) (k:V→List V→Rv):Rv:=
 if(Bo P 152 t0&&V.under (List.length h) t0)=true then k (V.ref (List.length h) [] 152) (h++[t0])else none
def AAy (t1:V) (h:List V) (k:V→Rv):Rv:=
 (BD P 152 0 t1).bind fun t4=>(AU h 3 t4).bind fun t5=>(AL .lss t5 (V.int .i64 0)).bind fun t6=>V.ite t6 (k (V.bool true)) ((BD P 152 1 t1).bind fun t8=>(AU h 3 t8).bind fun t9=>(AL .lss t9 (V.int .i64 0)).bind fun t10=>k t10)
def U7 (k:V→Rv):Rv:=
 k (V.str [])
def AAz (h:List V) (k:V→List V→Rv):Rv:=
 (Cl 68 (AV []) h).bind fun r=>k r.1 r.2
def AA0 (t1 t3:V) (h:List V) (k:List V→Rv):Rv:=
 (BD P 152 0 t1).bind fun t14=>(AU h 3 t14).bind fun t15=>(conv P h 3 132 t15).bind fun t16=>(Cl 69 (AV [t3,t16]) h).bind fun r=>k r.2
def AA1 (t1 t3:V) (h:List V) (k:List V→Rv):Rv:=
 (BD P 152 1 t1).bind fun t19=>(AU h 3 t19).bind fun t20=>(conv P h 3 132 t20).bind fun t21=>(Cl 69 (AV [t3,t21]) h).bind fun r=>k r.2
def AA2 (t1 t3:V) (h:List V) (k:List V→Rv):Rv:=
 (BD P 152 2 t1).bind fun t24=>(AU h 2 t24).bind fun t25=>(Cl 129 (AV [t3,t25]) h).bind fun r=>k r.2
def AA3 (t3:V) (h:List V) (k:V→List V→Rv):Rv:=
 (Cl 71 (AV [t3]) h).bind fun r=>k r.1 r.2
theorem AIB (t0:V):Cl 147 [t0] []=
 AAx t0 [] fun a1 a2=>
  AAy a1 a2 fun a3=>
  V.ite a3
  (U7 fun a4=>
  AP 0 a2 a4)
  (AAz a2 fun a5 a6=>
  AA0 a1 a5 a6 fun a7=>
  AA1 a1 a5 a7 fun a8=>
  AA2 a1 a5 a8 fun a9=>
  AA3 a5 a9 fun a10 a11=>
  AP 0 a11 a10):=
 Ar (by kernel_rfl)
def AA4 (k:Rv):Rv:=
 k
def AA5 (t0:V) (h:List V) (k:V→Rv):Rv:=
 (conv P h 9 172 t0).bind fun t26=>(CU P 172 1 [(0,(V.int .u8 128))]).bind fun t27=>(Dv P 172 h t26 t27).bind fun t28=>k t28
def N8 (t0 t3:V) (h:List V):Rv:=lp W 151 0 (cd 151 35) (bk 0 (sk 151 0 15 (lv 151 0))) ⟨[(0,t0),(3,t3)],h⟩
def U8 (t3:V) (k:V→Rv):Rv:=
 (lenV P 172 (V.weak t3)).bind fun t30=>(AL .rem t30 (V.int .i64 64)).bind fun t31=>(AL .neq t31 (V.int .i64 56)).bind fun t32=>k t32
def AA6 (t3:V) (h:List V) (k:V→Rv):Rv:=
 (CU P 172 1 [(0,(V.int .u8 0))]).bind fun t34=>(Dv P 172 h t3 t34).bind fun t35=>k t35
def AA7 (t0:V) (h:List V) (k:V→Rv):Rv:=
 (lenV P 9 t0).bind fun t37=>(AL .mul (V.int .i64 8) t37).bind fun t38=>(conv P h 3 132 t38).bind fun t39=>k t39
def AA8 (k:V→Rv):Rv:=
 k (V.int .i64 7)
def N9 (t3 t4 t5:V) (h:List V):Rv:=lp W 151 2 (cd 151 303) (bk 2 (sk 151 0 63 (lv 151 0))) ⟨[(3,t3),(4,t4),(5,t5)],h⟩
def U9 (t5:V) (k:V→Rv):Rv:=
 (AL .geq t5 (V.int .i64 0)).bind fun t41=>k t41
def AA9 (t3 t4 t5:V) (h:List V) (k:V→Rv):Rv:=
 (AL .mul (V.int .i64 8) t5).bind fun t47=>(Cl 179 (AB h [t47]) []).bind fun r=>(AL .quo t4 r.1).bind fun t49=>(AL .rem t49 (V.int .u64 256)).bind fun t50=>(conv P h 132 5 t50).bind fun t51=>(CU P 172 1 [(0,t51)]).bind fun t52=>(Dv P 172 h t3 t52).bind fun t53=>k t53
def ABA (t5:V) (k:V→Rv):Rv:=
 (AL .sub t5 (V.int .i64 1)).bind fun t43=>k t43
def ABB (h:List V) (k:V→Rv):Rv:=
 (Cl 180 (AB h []) []).bind fun r=>k r.1
def WS (h:List V) (k:V→List V→Rv):Rv:=
 (CU P 231 8 [(0,(V.int .u64 1779033703)),(1,(V.int .u64 3144134277)),(2,(V.int .u64 1013904242)),(3,(V.int .u64 2773480762)),(4,(V.int .u64 1359893119)),(5,(V.int .u64 2600822924)),(6,(V.int .u64 528734635)),(7,(V.int .u64 1541459225))]).bind fun v=>(DR h v).bind fun r=>k r.1 r.2
def WT (k:V→Rv):Rv:=
 k (V.int .i64 0)
def Em (t3 t6 t7 t8:V) (h:List V):Rv:=lp W 151 4 (cd 151 2431) (bk 4 (sk 151 0 511 (lv 151 0))) ⟨[(3,t3),(6,t6),(7,t7),(8,t8)],h⟩
def Pe (t3 t8:V) (k:V→Rv):Rv:=
 (lenV P 172 (V.weak t3)).bind fun t58=>(AL .lss t8 t58).bind fun t59=>k t59
def WU (k:V→Rv):Rv:=
 (CU P 231 0 []).bind fun t62=>k t62
def WV (k:V→Rv):Rv:=
 k (V.int .i64 0)
def JE (t3 t6 t7 t8 t9 t10:V) (m4:Nat) (h:List V):Rv:=lp W 151 6 (cd 151 608639) (bk 6 (sk 151 5 117119 (bk 5 (sk 151 4 14719 (lk 151 4 m4 2431 (bk 4 (sk 151 0 511 (lv 151 0)))))))) ⟨[(3,t3),(6,t6),(7,t7),(8,t8),(9,t9),(10,t10)],h⟩
def KR (t10:V) (k:V→Rv):Rv:=
 (AL .lss t10 (V.int .i64 64)).bind fun t64=>k t64
def Pg (t10:V) (k:V→Rv):Rv:=
 (AL .lss t10 (V.int .i64 16)).bind fun t68=>k t68
def WW (t3 t8 t10:V) (k:V→Rv):Rv:=
 (AL .mul (V.int .i64 4) t10).bind fun t72=>(AL .add t8 t72).bind fun t73=>(AL .mul (V.int .i64 4) t10).bind fun t76=>(AL .add t8 t76).bind fun t77=>(AL .add t77 (V.int .i64 4)).bind fun t78=>(NJ P 172 (V.weak t3) (some t73) (some t78) none).bind fun t79=>k t79
def Ph (t9 t11:V) (h:List V) (k:V→Rv):Rv:=
 (AX P 172 (V.weak t11) (V.int .i64 0)).bind fun t82=>(AU h 5 t82).bind fun t83=>(conv P h 5 132 t83).bind fun t84=>(AL .mul t84 (V.int .u64 16777216)).bind fun t85=>(AX P 172 (V.weak t11) (V.int .i64 1)).bind fun t87=>(AU h 5 t87).bind fun t88=>(conv P h 5 132 t88).bind fun t89=>(AL .mul t89 (V.int .u64 65536)).bind fun t90=>(AL .add t85 t90).bind fun t91=>(AX P 172 (V.weak t11) (V.int .i64 2)).bind fun t93=>(AU h 5 t93).bind fun t94=>(conv P h 5 132 t94).bind fun t95=>(AL .mul t95 (V.int .u64 256)).bind fun t96=>(AL .add t91 t96).bind fun t97=>(AX P 172 (V.weak t11) (V.int .i64 3)).bind fun t99=>(AU h 5 t99).bind fun t100=>(conv P h 5 132 t100).bind fun t101=>(AL .add t97 t101).bind fun t102=>(CU P 231 1 [(0,t102)]).bind fun t103=>(Dv P 231 h t9 t103).bind fun t104=>k t104
def KT (t10:V) (k:V→Rv):Rv:=
 (AL .add t10 (V.int .i64 1)).bind fun t66=>k t66
def Pj (t9 t10:V) (h:List V) (k:V→V→Rv):Rv:=
 (AL .sub t10 (V.int .i64 15)).bind fun t107=>(AX P 231 (V.weak t9) t107).bind fun t108=>(AU h 132 t108).bind fun t109=>(AL .sub t10 (V.int .i64 2)).bind fun t112=>(AX P 231 (V.weak t9) t112).bind fun t113=>(AU h 132 t113).bind fun t114=>k t109 t114
def Pm (t9 t10 t12 t13:V) (h:List V) (k:V→Rv):Rv:=
 (AL .sub t10 (V.int .i64 16)).bind fun t118=>(AX P 231 (V.weak (V.weak t9)) t118).bind fun t119=>(AU h 132 t119).bind fun t120=>(AL .sub t10 (V.int .i64 7)).bind fun t123=>(AX P 231 (V.weak (V.weak t9)) t123).bind fun t124=>(AU h 132 t124).bind fun t125=>(AL .add t120 t125).bind fun t126=>(Cl 182 (AB h [t12,(V.int .i64 7)]) []).bind fun r=>(Cl 182 (AB h [t12,(V.int .i64 18)]) []).bind fun a1=>(AL .xor r.1 a1.1).bind fun t131=>(AL .quo t12 (V.int .u64 8)).bind fun t133=>(AL .xor t131 t133).bind fun t134=>(AL .add t126 t134).bind fun t135=>(Cl 182 (AB h [t13,(V.int .i64 17)]) []).bind fun a2=>(Cl 182 (AB h [t13,(V.int .i64 19)]) []).bind fun a3=>(AL .xor a2.1 a3.1).bind fun t140=>(AL .quo t13 (V.int .u64 1024)).bind fun t142=>(AL .xor t140 t142).bind fun t143=>(AL .add t135 t143).bind fun t144=>(Cl 181 (AB h [t144]) []).bind fun a4=>(CU P 231 1 [(0,a4.1)]).bind fun t146=>(Dv P 231 h t9 t146).bind fun t147=>k t147
def Pn (t7:V) (h:List V) (k:V→Rv):Rv:=
 (CU P 231 0 []).bind fun t148=>(Dv P 231 h t148 (V.weak t7)).bind fun t150=>k t150
def WX (k:V→Rv):Rv:=
 k (V.int .i64 0)
def OA (t3 t6 t7 t8 t9 t14 t15:V) (m4:Nat) (h:List V):Rv:=lp W 151 8 (cd 151 2476415) (bk 8 (sk 151 5 510335 (bk 5 (sk 151 4 14719 (lk 151 4 m4 2431 (bk 4 (sk 151 0 511 (lv 151 0)))))))) ⟨[(3,t3),(6,t6),(7,t7),(8,t8),(9,t9),(14,t14),(15,t15)],h⟩
def Po (t15:V) (k:V→Rv):Rv:=
 (AL .lss t15 (V.int .i64 64)).bind fun t152=>k t152
def Pq (t14:V) (h:List V) (k:V→V→Rv):Rv:=
 (AX P 231 (V.weak t14) (V.int .i64 0)).bind fun t156=>(AU h 132 t156).bind fun t157=>(AX P 231 (V.weak t14) (V.int .i64 4)).bind fun t159=>(AU h 132 t159).bind fun t160=>k t157 t160
def Pv (t14 t17:V) (h:List V) (k:V→Rv):Rv:=
 (AX P 231 (V.weak t14) (V.int .i64 5)).bind fun t163=>(AU h 132 t163).bind fun t164=>(AL .and t17 t164).bind fun t165=>(AL .sub (V.int .u64 4294967295) t17).bind fun t167=>(AX P 231 (V.weak t14) (V.int .i64 6)).bind fun t169=>(AU h 132 t169).bind fun t170=>(AL .and t167 t170).bind fun t171=>(AL .xor t165 t171).bind fun t172=>k t172
def Px (t14 t16:V) (h:List V) (k:V→Rv):Rv:=
 (AX P 231 (V.weak t14) (V.int .i64 1)).bind fun t175=>(AU h 132 t175).bind fun t176=>(AL .and t16 t176).bind fun t177=>(AX P 231 (V.weak t14) (V.int .i64 2)).bind fun t180=>(AU h 132 t180).bind fun t181=>(AL .and t16 t181).bind fun t182=>(AL .xor t177 t182).bind fun t183=>(AX P 231 (V.weak t14) (V.int .i64 1)).bind fun t185=>(AU h 132 t185).bind fun t186=>(AX P 231 (V.weak t14) (V.int .i64 2)).bind fun t188=>(AU h 132 t188).bind fun t189=>(AL .and t186 t189).bind fun t190=>(AL .xor t183 t190).bind fun t191=>k t191
def Py (t6 t9 t14 t15 t17 t18:V) (h:List V) (k:V→Rv):Rv:=
 (AX P 231 (V.weak t14) (V.int .i64 7)).bind fun t193=>(AU h 132 t193).bind fun t194=>(Cl 182 (AB h [t17,(V.int .i64 6)]) []).bind fun r=>(Cl 182 (AB h [t17,(V.int .i64 11)]) []).bind fun a1=>(AL .xor r.1 a1.1).bind fun t199=>(Cl 182 (AB h [t17,(V.int .i64 25)]) []).bind fun a2=>(AL .xor t199 a2.1).bind fun t202=>(AL .add t194 t202).bind fun t203=>(AL .add t203 t18).bind fun t205=>(AX P 231 (V.weak t6) t15).bind fun t208=>(AU h 132 t208).bind fun t209=>(AL .add t205 t209).bind fun t210=>(AX P 231 (V.weak t9) t15).bind fun t213=>(AU h 132 t213).bind fun t214=>(AL .add t210 t214).bind fun t215=>k t215
def Pz (t16 t19:V) (h:List V) (k:V→Rv):Rv:=
 (Cl 182 (AB h [t16,(V.int .i64 2)]) []).bind fun r=>(Cl 182 (AB h [t16,(V.int .i64 13)]) []).bind fun a1=>(AL .xor r.1 a1.1).bind fun t220=>(Cl 182 (AB h [t16,(V.int .i64 22)]) []).bind fun a2=>(AL .xor t220 a2.1).bind fun t223=>(AL .add t223 t19).bind fun t225=>k t225
def P5 (t14 t16 t17 t20 t21:V) (h:List V) (k:V→Rv):Rv:=
 (AL .add t20 t21).bind fun t228=>(Cl 181 (AB h [t228]) []).bind fun r=>(AX P 231 (V.weak t14) (V.int .i64 1)).bind fun t232=>(AU h 132 t232).bind fun t233=>(AX P 231 (V.weak t14) (V.int .i64 2)).bind fun t235=>(AU h 132 t235).bind fun t236=>(AX P 231 (V.weak t14) (V.int .i64 3)).bind fun t238=>(AU h 132 t238).bind fun t239=>(AL .add t239 t20).bind fun t241=>(Cl 181 (AB h [t241]) []).bind fun a1=>(AX P 231 (V.weak t14) (V.int .i64 5)).bind fun t245=>(AU h 132 t245).bind fun t246=>(AX P 231 (V.weak t14) (V.int .i64 6)).bind fun t248=>(AU h 132 t248).bind fun t249=>(CU P 231 8 [(0,r.1),(1,t16),(2,t233),(3,t236),(4,a1.1),(5,t17),(6,t246),(7,t249)]).bind fun t250=>k t250
def WY (t15:V) (k:V→Rv):Rv:=
 (AL .add t15 (V.int .i64 1)).bind fun t154=>k t154
def WZ (k:V→Rv):Rv:=
 k (V.int .i64 0)
def KU (t3 t6 t7 t8 t14 t22:V) (m4:Nat) (h:List V):Rv:=lp W 151 10 (cd 151 2607487) (bk 10 (bk 5 (sk 151 4 14719 (lk 151 4 m4 2431 (bk 4 (sk 151 0 511 (lv 151 0))))))) ⟨[(3,t3),(6,t6),(7,t7),(8,t8),(14,t14),(22,t22)],h⟩
def P6 (t22:V) (k:V→Rv):Rv:=
 (AL .lss t22 (V.int .i64 8)).bind fun t252=>k t252
def Wh (t7 t14 t22:V) (h:List V) (k:List V→Rv):Rv:=
 (AX P 231 (V.weak t7) t22).bind fun t259=>(AU h 132 t259).bind fun t260=>(AX P 231 (V.weak t14) t22).bind fun t263=>(AU h 132 t263).bind fun t264=>(AL .add t260 t264).bind fun t265=>(Cl 181 (AB h [t265]) []).bind fun r=>(AX P 231 (V.weak t7) t22).bind fun t267=>(Gv P h 132 t267 r.1).bind fun a5=>k a5
def Wi (t22:V) (k:V→Rv):Rv:=
 (AL .add t22 (V.int .i64 1)).bind fun t254=>k t254
def Wj (t8:V) (k:V→Rv):Rv:=
 (AL .add t8 (V.int .i64 64)).bind fun t61=>k t61
theorem NM (t3 t6 t7 t8 t14 t22:V) (m4:Nat) (h:List V):KU t3 t6 t7 t8 t14 t22 m4 h=
 P6 t22 fun a6=>
  V.ite a6
  (Wh t7 t14 t22 h fun a7=>
  Wi t22 fun a8=>
  KU t3 t6 t7 t8 t14 a8 m4 a7)
  (Wj t8 fun a9=>
  Em t3 t6 t7 a9 h):=
 DF (by kernel_rfl)
theorem P7 (t3 t6 t7 t8 t9 t14 t15:V) (m4:Nat) (h:List V):OA t3 t6 t7 t8 t9 t14 t15 m4 h=
 Po t15 fun a10=>
  V.ite a10
  (Pq t14 h fun a11 a12=>
  Pv t14 a12 h fun a13=>
  Px t14 a11 h fun a14=>
  Py t6 t9 t14 t15 a12 a13 h fun a15=>
  Pz a11 a14 h fun a16=>
  P5 t14 a11 a12 a15 a16 h fun a17=>
  WY t15 fun a18=>
  OA t3 t6 t7 t8 t9 a17 a18 m4 h)
  (WZ fun a19=>
  KU t3 t6 t7 t8 t14 a19 m4 h):=
 DF (by kernel_rfl)
theorem J4 (t3 t6 t7 t8 t9 t10:V) (m4:Nat) (h:List V):JE t3 t6 t7 t8 t9 t10 m4 h=
 KR t10 fun a20=>
  V.ite a20
  (Pg t10 fun a21=>
  V.ite a21
  (WW t3 t8 t10 fun a22=>
  Ph t9 a22 h fun a23=>
  KT t10 fun a24=>
  JE t3 t6 t7 t8 a23 a24 m4 h)
  (Pj t9 t10 h fun a25 a26=>
  Pm t9 t10 a25 a26 h fun a27=>
  KT t10 fun a28=>
  JE t3 t6 t7 t8 a27 a28 m4 h))
  (Pn t7 h fun a29=>
  WX fun a30=>
  OA t3 t6 t7 t8 t9 a29 a30 m4 h):=
 DF (by kernel_rfl)
def Wl (k:V→Rv):Rv:=
 (CU P 172 0 []).bind fun t268=>k t268
def Wn (k:V→Rv):Rv:=
 k (V.int .i64 0)
def KW (t7 t23 t24:V) (h:List V):Rv:=lp W 151 12 (cd 151 9727) (bk 12 (sk 151 0 2047 (lv 151 0))) ⟨[(7,t7),(23,t23),(24,t24)],h⟩
def P8 (t24:V) (k:V→Rv):Rv:=
 (AL .lss t24 (V.int .i64 8)).bind fun t270=>k t270
def P9 (t7 t23 t24:V) (h:List V) (k:V→Rv):Rv:=
 (AX P 231 (V.weak t7) t24).bind fun t276=>(AU h 132 t276).bind fun t277=>(AL .quo t277 (V.int .u64 16777216)).bind fun t278=>(conv P h 132 5 t278).bind fun t279=>(AX P 231 (V.weak t7) t24).bind fun t282=>(AU h 132 t282).bind fun t283=>(AL .quo t283 (V.int .u64 65536)).bind fun t284=>(AL .rem t284 (V.int .u64 256)).bind fun t285=>(conv P h 132 5 t285).bind fun t286=>(AX P 231 (V.weak t7) t24).bind fun t289=>(AU h 132 t289).bind fun t290=>(AL .quo t290 (V.int .u64 256)).bind fun t291=>(AL .rem t291 (V.int .u64 256)).bind fun t292=>(conv P h 132 5 t292).bind fun t293=>(AX P 231 (V.weak t7) t24).bind fun t296=>(AU h 132 t296).bind fun t297=>(AL .rem t297 (V.int .u64 256)).bind fun t298=>(conv P h 132 5 t298).bind fun t299=>(CU P 172 4 [(0,t279),(1,t286),(2,t293),(3,t299)]).bind fun t300=>(Dv P 172 h t23 t300).bind fun t301=>k t301
def Wp (t24:V) (k:V→Rv):Rv:=
 (AL .add t24 (V.int .i64 1)).bind fun t272=>k t272
def Wq (t23:V) (h:List V) (k:V→Rv):Rv:=
 (conv P h 172 9 t23).bind fun t303=>k t303
theorem NP (t7 t23 t24:V) (h:List V):KW t7 t23 t24 h=
 P8 t24 fun a31=>
  V.ite a31
  (P9 t7 t23 t24 h fun a32=>
  Wp t24 fun a33=>
  KW t7 a32 a33 h)
  (Wq t23 h fun a34=>
  AP 0 h a34):=
 DF (by kernel_rfl)
theorem QA (t3 t6 t7 t8:V) (h:List V):Em t3 t6 t7 t8 h=
 Pe t3 t8 fun a35=>
  V.ite a35
  (WU fun a36=>
  WV fun a37=>
  JE t3 t6 t7 t8 a36 a37 (List.length h) h)
  (Wl fun a38=>
  Wn fun a39=>
  KW t7 a38 a39 h):=
 DF (by kernel_rfl)
theorem QB (t3 t4 t5:V) (h:List V):N9 t3 t4 t5 h=
 U9 t5 fun a40=>
  V.ite a40
  (AA9 t3 t4 t5 h fun a41=>
  ABA t5 fun a42=>
  N9 a41 t4 a42 h)
  (ABB h fun a43=>
  WS h fun a44 a45=>
  WT fun a46=>
  Em t3 a43 a44 a46 a45):=
 DF (by kernel_rfl)
theorem QC (t0 t3:V) (h:List V):N8 t0 t3 h=
 U8 t3 fun a47=>
  V.ite a47
  (AA6 t3 h fun a48=>
  N8 t0 a48 h)
  (AA7 t0 h fun a49=>
  AA8 fun a50=>
  N9 t3 a49 a50 h):=
 DF (by kernel_rfl)
theorem AIC (t0:V):Cl 151 [t0] []=
 AA4 (AA5 t0 [] fun a51=>
  N8 t0 a51 []):=
 Ar (by kernel_rfl)
theorem AID (t0 t1:V) (h:List V):Cl 154 [t0,t1] h=
 if((tyG 95) t0&&V.under (List.length h) t0)=true then jn (fun a1=>
 AP (List.length h) (h++[t0]) a1) (fun(a2:V→Rv)=>(fA 96 3 0 (V.ref (List.length h) [] 96)).bind fun a3=>(AU (h++[t0]) 3 a3).bind fun a4=>(AL .lss a4 (V.int .i64 0)).bind fun a5=>V.ite a5 (a2 (V.bool true)) ((fA 96 3 0 (V.ref (List.length h) [] 96)).bind fun a6=>(AU (h++[t0]) 3 a6).bind fun a7=>(fA 24 3 0 t1).bind fun a8=>(AU (h++[t0]) 3 a8).bind fun a9=>(AL .geq a7 a9).bind fun a10=>V.ite a10 (a2 (V.bool true)) ((fA 96 3 1 (V.ref (List.length h) [] 96)).bind fun a11=>(AU (h++[t0]) 3 a11).bind fun a12=>(AL .lss a12 (V.int .i64 0)).bind fun a13=>V.ite a13 (a2 (V.bool true)) ((fA 96 3 1 (V.ref (List.length h) [] 96)).bind fun a14=>(AU (h++[t0]) 3 a14).bind fun a15=>(fA 24 3 0 t1).bind fun a16=>(AU (h++[t0]) 3 a16).bind fun a17=>(AL .geq a15 a17).bind fun a18=>V.ite a18 (a2 (V.bool true)) ((fA 96 2 2 (V.ref (List.length h) [] 96)).bind fun a19=>(AU (h++[t0]) 2 a19).bind fun a20=>(AL .lss a20 (V.int .i64 0)).bind fun a21=>V.ite a21 (a2 (V.bool true)) ((fA 96 2 2 (V.ref (List.length h) [] 96)).bind fun a22=>(AU (h++[t0]) 2 a22).bind fun a23=>(AL .gtr a23 (V.int .i64 1048576)).bind fun a24=>a2 a24))))))else none:=
 Ar (by kernel_rfl)
theorem AIE (t0 t1:V) (h:List V):Cl 155 [t0,t1] h=
 (Cl 188 (AV [t0,t1]) h).bind fun a1=>(AL .geq a1.1 (V.int .i64 0)).bind fun a2=>AP (List.length h) a1.2 a2:=
 Ar (by kernel_rfl)
theorem ABC (t0 t1:V) (h:List V):Cl 156 [t0,t1] h=
 (Cl 189 (AV [t0]) h).bind fun a1=>(Y7 1000158 96 [(V.weak a1.1),t1] a1.2).bind fun a2=>AP (List.length h) a2.2 a1.1:=
 Ar (by kernel_rfl)
theorem ABD (t0:V) (h:List V):Cl 157 [t0] h=
 if((tyL 96) (V.weak t0)&&V.under (List.length h) (V.weak t0))=true then(if(List.all [(V.ref (List.length h) [] 22)] V.capOk)=true then some (V.clo 191 [(V.ref (List.length h) [] 22)])else none).bind fun a1=>Ul (h++[(V.weak t0)]) a1 else none:=
 Ar (by kernel_rfl)
theorem AIF (t0 t1:V):Cl 158 [t0,t1] []=
 if((tyG 95) t0&&V.under 0 t0)=true then if((tyG 95) t1&&V.under 1 t1)=true then(fA 96 3 0 (V.ref 0 [] 96)).bind fun a1=>(AU [t0,t1] 3 a1).bind fun a2=>(fA 96 3 0 (V.ref 1 [] 96)).bind fun a3=>(AU [t0,t1] 3 a3).bind fun a4=>(AL .neq a2 a4).bind fun a5=>V.ite a5
  ((fA 96 3 0 (V.ref 0 [] 96)).bind fun a6=>(AU [t0,t1] 3 a6).bind fun a7=>(fA 96 3 0 (V.ref 1 [] 96)).bind fun a8=>(AU [t0,t1] 3 a8).bind fun a9=>(AL .sub a7 a9).bind fun a10=>AP 0 [t0,t1] a10)
  ((fA 96 3 1 (V.ref 0 [] 96)).bind fun a11=>(AU [t0,t1] 3 a11).bind fun a12=>(fA 96 3 1 (V.ref 1 [] 96)).bind fun a13=>(AU [t0,t1] 3 a13).bind fun a14=>(AL .sub a12 a14).bind fun a15=>AP 0 [t0,t1] a15)else none else none:=
 Ar (by kernel_rfl)
theorem AIH (t0 t1:V):Cl 159 [t0,t1] []=
 (Cl 192 (AB [] [t0,t1]) []).bind fun a1=>(AL .geq a1.1 (V.int .i64 0)).bind fun a2=>AP 0 [] a2:=
 Ar (by kernel_rfl)
theorem AII (t0:V):Cl 160 [t0] []=
 (AL .mul t0 (V.int .u32 2654435761)).bind fun a1=>(AL .shr a1 (V.int .u64 15)).bind fun a2=>(AL .xor a1 a2).bind fun a3=>(AL .mul a3 (V.int .u32 2246822519)).bind fun a4=>(AL .shr a4 (V.int .u64 13)).bind fun a5=>(AL .xor a4 a5).bind fun a6=>AP 0 [] a6:=
 Ar (by kernel_rfl)
theorem AIJ (t0 t1:V) (h:List V):Cl 167 [t0,t1] h=
 if((tyG 151) t0&&V.under (List.length h) t0)=true then(fA 152 3 1 (V.ref (List.length h) [] 152)).bind fun a1=>(AU (h++[t0]) 3 a1).bind fun a2=>(AU (h++[t0]) 3 t1).bind fun a3=>(AL .eql a2 a3).bind fun a4=>AP (List.length h) (h++[t0]) a4 else none:=
 Ar (by kernel_rfl)
def KX (t1 t7 t16 t17 t18:V) (n:Nat) (h:List V):Rv:=lp W 168 0 (cd 168 151) (bk 0 (sk 168 0 31 (lv 168 n))) ⟨[(1,t1),(7,t7),(16,t16),(17,t17),(18,t18)],h⟩
theorem J5 (t1 t7 t16 t17 t18:V) (n:Nat) (h:List V):KX t1 t7 t16 t17 t18 n h=
 (AL .lss t18 t17).bind fun a1=>V.ite a1
  ((EQ 96 t16 t18).bind fun a2=>(AU h 96 a2).bind fun a3=>(Cb (tyG 95) 96 (h++[(V.agg 95 [(V.int .i64 0),(V.int .i64 0),(V.int .i64 0)])]) (V.ref (List.length h) [] 96) a3).bind fun a4=>(AU a4 96 (V.ref (List.length h) [] 96)).bind fun a5=>BG P CO W t1 [a5] a4 fun a6 a7=>if V.noOwn a6=true then V.ite a6
  ((AU a7 96 (V.ref (List.length h) [] 96)).bind fun a8=>(Ny 96 false (ck [(tyG 95) a8] [a8])).bind fun a9=>(GK 96 (tyG 95) false a7 t7 a9).bind fun a10=>(AL .add t18 (V.int .i64 1)).bind fun a11=>if AZ (List.length h) [t1,a10,t16,t17,a11]=true then KX t1 a10 t16 t17 a11 n (List.take (List.length h) a7)else none)
  ((AL .add t18 (V.int .i64 1)).bind fun a12=>if AZ (List.length h) [t1,t7,t16,t17,a12]=true then KX t1 t7 t16 t17 a12 n (List.take (List.length h) a7)else none)else none)
  (AP n h t7):=
 DF (by kernel_rfl)
theorem AIK (t0 t1:V) (h:List V):Cl 168 [t0,t1] h=
 if((tyG 23) (V.weak t0)&&V.under (List.length h) (V.weak t0))=true then(CP (h++[(V.weak t0)]) 24 (V.ref (List.length h) [] 24)).bind fun a13=>(Cl 193 (AB (h++[(V.weak t0)]) [a13]) []).bind fun a14=>(Ou a14.1 0).bind fun a15=>(ext a14.1 1).bind fun a16=>(Cb (tyG 23) 24 ((h++[(V.weak t0)])++[(V.agg 23 [(V.int .i64 0),(V.lst 96 .nil [])])]) (V.ref (List.length (h++[(V.weak t0)])) [] 24) a15).bind fun a17=>(fA 24 22 1 (V.ref (List.length (h++[(V.weak t0)])) [] 24)).bind fun a18=>(CP a17 22 a18).bind fun a19=>(EZ a19).bind fun a20=>KX t1 (V.weak (V.lst 96 .nil [])) a19 a20 (V.int .i64 0) (List.length h) a17 else none:=
 Ar (by kernel_rfl)
theorem AIL (t0 t1:V) (h:List V):Cl 169 [t0,t1] h=
 if((tyG 95) t0&&V.under (List.length h) t0)=true then(fA 96 3 0 (V.ref (List.length h) [] 96)).bind fun a1=>(AU (h++[t0]) 3 a1).bind fun a2=>(AU (h++[t0]) 3 t1).bind fun a3=>(AL .eql a2 a3).bind fun a4=>AP (List.length h) (h++[t0]) a4 else none:=
 Ar (by kernel_rfl)
theorem AIM (t0 t1 t2 t3:V) (h:List V):Cl 170 [t0,t1,t2,t3] h=
 (AU h 3 t1).bind fun a1=>(AL .eql a1 (V.int .i64 0)).bind fun a2=>V.ite a2
  ((fA 86 2 1 t2).bind fun a3=>(AU h 2 a3).bind fun a4=>(fA 86 2 1 t2).bind fun a5=>(AU h 2 a5).bind fun a6=>if(List.all [a6,(V.bool true),(V.bool false),a4] V.okE)=true then AP (List.length h) h (V.tup [a4,(V.bool false),(V.bool true),a6])else none)
  (jn (fun a7=>
 V.ite a7
  ((fA 86 2 4 t2).bind fun a8=>(AU h 2 a8).bind fun a9=>(fA 86 2 4 t2).bind fun a10=>(AU h 2 a10).bind fun a11=>if(List.all [a11,(V.bool true),(V.bool false),a9] V.okE)=true then AP (List.length h) h (V.tup [a9,(V.bool false),(V.bool true),a11])else none)
  ((fA 86 2 1 t2).bind fun a12=>(AU h 2 a12).bind fun a13=>if(List.all [(V.int .i64 0),(V.bool false),(V.bool false),a13] V.okE)=true then AP (List.length h) h (V.tup [a13,(V.bool false),(V.bool false),(V.int .i64 0)])else none)) (fun(a14:V→Rv)=>(AU h 4 t3).bind fun a15=>V.ite a15 (a14 t0) (a14 (V.bool false)))):=
 Ar (by kernel_rfl)
theorem AIN (t0 t1:V):Cl 171 [t0,t1] []=
 (AL .quo t0 t1).bind fun a1=>(AL .rem t0 t1).bind fun a2=>(AL .lss a2 (V.int .i64 0)).bind fun a3=>V.ite a3
  ((AL .sub a1 (V.int .i64 1)).bind fun a4=>AP 0 [] a4)
  (AP 0 [] a1):=
 Ar (by kernel_rfl)
def OB (t0 t1 t7 t8:V) (n:Nat) (h:List V):Rv:=lp W 172 0 (cd 172 37) (bk 0 (sk 172 0 7 (lv 172 n))) ⟨[(0,t0),(1,t1),(7,t7),(8,t8)],h⟩
theorem QD (t0 t1 t7 t8:V) (n:Nat) (h:List V):OB t0 t1 t7 t8 n h=
 (AL .lss t8 t7).bind fun a1=>V.ite a1
  ((EQ 152 (V.weak t0) t8).bind fun a2=>(AU h 152 a2).bind fun a3=>BG P CO W t1 [a3] h fun a4 a5=>if V.noOwn a4=true then V.ite a4
  (AP n a5 t8)
  ((AL .add t8 (V.int .i64 1)).bind fun a6=>OB t0 t1 t7 a6 n a5)else none)
  (AP n h (V.int .i64 (-1))):=
 DF (by kernel_rfl)
theorem AIO (t0 t1:V) (h:List V):Cl 172 [t0,t1] h=
 (EZ (V.weak t0)).bind fun a7=>OB t0 t1 a7 (V.int .i64 0) (List.length h) h:=
 Ar (by kernel_rfl)
theorem AIP (t0 t1 t2:V):Cl 173 [t0,t1,t2] []=
 jn (fun a1=>
 AP 0 [] a1) (fun(a2:V→Rv)=>(AL .geq t0 t1).bind fun a3=>V.ite a3 ((AL .leq t0 t2).bind fun a4=>a2 a4) (a2 (V.bool false))):=
 Ar (by kernel_rfl)
def ABE (k:Rv):Rv:=
 k
def ABF (t0:V) (k:V→Rv):Rv:=
 (AL .geq t0 (V.int .i64 0)).bind fun t4=>V.ite t4 ((AL .lss t0 (V.int .i64 64)).bind fun t7=>k t7) (k (V.bool false))
theorem AIQ (t0:V):Cl 174 [t0] []=
 ABE (ABF t0 fun a1=>
  AP 0 [] a1):=
 Ar (by kernel_rfl)
theorem AIR (t0:V):Cl 175 [t0] []=
 jn (fun a1=>
 AP 0 [] a1) (fun(a2:V→Rv)=>(AL .gtr t0 (V.int .i64 1125899906842624)).bind fun a3=>V.ite a3 (a2 (V.bool true)) ((AL .lss t0 (V.int .i64 (-1125899906842624))).bind fun a4=>a2 a4)):=
 Ar (by kernel_rfl)
def ABG (h:List V) (k:V→List V→Rv):Rv:=
 k (V.ref (List.length h) [] 66) (h++[zero P 66])
def ABH (t0:V) (h:List V) (k:V→Rv):Rv:=
 (Cl 194 (AB h [t0,(V.lst 5 .nil [])]) []).bind fun r=>k r.1
def ABJ (t3:V) (h:List V) (k:V→Rv):Rv:=
 (lenV P 172 (V.weak t3)).bind fun t12=>(conv P h 3 132 t12).bind fun t13=>(AL .mul t13 (V.int .u64 8)).bind fun t14=>k t14
def ABK (t3:V) (h:List V) (k:V→Rv):Rv:=
 (CU P 172 1 [(0,(V.int .u8 128))]).bind fun t16=>(Dv P 172 h t3 t16).bind fun t17=>k t17
def OC (t2 t3 t4:V) (h:List V):Rv:=lp W 176 0 (cd 176 143) (bk 0 (sk 176 0 63 (lv 176 0))) ⟨[(2,t2),(3,t3),(4,t4)],h⟩
def VA (t3:V) (k:V→Rv):Rv:=
 (lenV P 172 (V.weak t3)).bind fun t19=>(AL .rem t19 (V.int .i64 64)).bind fun t20=>(AL .neq t20 (V.int .i64 56)).bind fun t21=>k t21
def ABL (t3:V) (h:List V) (k:V→Rv):Rv:=
 (CU P 172 1 [(0,(V.int .u8 0))]).bind fun t23=>(Dv P 172 h t3 t23).bind fun t24=>k t24
def ABM (k:V→Rv):Rv:=
 k (V.int .i64 0)
def OD (t2 t3 t4 t25:V) (h:List V):Rv:=lp W 176 2 (cd 176 607) (bk 2 (sk 176 0 127 (lv 176 0))) ⟨[(2,t2),(3,t3),(4,t4),(25,t25)],h⟩
def VB (t25:V) (k:V→Rv):Rv:=
 (AL .lss t25 (V.int .i64 8)).bind fun t26=>k t26
def ABN (t25:V) (k:V→Rv):Rv:=
 k t25
def ABO (t3 t4 t5:V) (h:List V) (k:V→Rv):Rv:=
 (AL .mul (V.int .i64 8) t5).bind fun t31=>(AL .sub (V.int .i64 56) t31).bind fun t32=>(conv P h 3 192 t32).bind fun t33=>(AL .shr t4 t33).bind fun t34=>(conv P h 132 5 t34).bind fun t35=>(CU P 172 1 [(0,t35)]).bind fun t36=>(Dv P 172 h t3 t36).bind fun t37=>k t37
def Ws (t25:V) (k:V→Rv):Rv:=
 (AL .add t25 (V.int .i64 1)).bind fun t38=>k t38
def Wu (h:List V) (k:V→List V→Rv):Rv:=
 (AU h 247 (V.rop 247 TD)).bind fun t39=>(Gv P (h++[zero P 247]) 247 (V.ref (List.length h) [] 247) t39).bind fun a1=>k (V.ref (List.length h) [] 247) a1
def OE (t2 t3 t6:V) (h:List V):Rv:=lp W 176 4 (cd 176 1151) (bk 4 (sk 176 0 511 (lv 176 0))) ⟨[(2,t2),(3,t3),(6,t6)],h⟩
def QE (t3:V) (k:V→Rv):Rv:=
 (lenV P 172 (V.weak t3)).bind fun t41=>(AL .gtr t41 (V.int .i64 0)).bind fun t42=>k t42
def Wv (t3 t6:V) (h:List V) (k:List V→Rv):Rv:=
 (AU h 247 t6).bind fun t45=>(NJ P 172 (V.weak t3) none (some (V.int .i64 64)) none).bind fun t47=>(Cl 195 (AB h [t45,t47]) []).bind fun r=>(Gv P h 247 t6 r.1).bind fun a1=>k a1
def Wx (t3:V) (k:V→Rv):Rv:=
 (NJ P 172 t3 (some (V.int .i64 64)) none none).bind fun t44=>k t44
def Wy (h:List V) (k:V→List V→Rv):Rv:=
 k (V.ref (List.length h) [] 66) (h++[zero P 66])
def W9 (k:V→Rv):Rv:=
 k (V.int .i64 0)
def OG (t2 t6 t7 t49:V) (h:List V):Rv:=lp W 176 6 (cd 176 9727) (bk 6 (sk 176 0 2047 (lv 176 0))) ⟨[(2,t2),(6,t6),(7,t7),(49,t49)],h⟩
def QF (t49:V) (k:V→Rv):Rv:=
 (AL .lss t49 (V.int .i64 32)).bind fun t50=>k t50
def XA (t49:V) (k:V→Rv):Rv:=
 k t49
def QG (t6 t7 t8:V) (h:List V) (k:List V→Rv):Rv:=
 (AL .quo t8 (V.int .i64 4)).bind fun t54=>(AX P 247 t6 t54).bind fun t55=>(AU h 203 t55).bind fun t56=>(AL .rem t8 (V.int .i64 4)).bind fun t58=>(AL .mul (V.int .i64 8) t58).bind fun t59=>(AL .sub (V.int .i64 24) t59).bind fun t60=>(conv P h 3 192 t60).bind fun t61=>(AL .shr t56 t61).bind fun t62=>(conv P h 203 5 t62).bind fun t63=>(AX P 66 t7 t8).bind fun t64=>(Gv P h 5 t64 t63).bind fun a1=>k a1
def XB (t49:V) (k:V→Rv):Rv:=
 (AL .add t49 (V.int .i64 1)).bind fun t65=>k t65
def XC (t2 t7:V) (h:List V) (k:List V→Rv):Rv:=
 (AU h 66 t7).bind fun t66=>(Gv P h 66 t2 t66).bind fun a1=>k a1
theorem QH (t2 t6 t7 t49:V) (h:List V):OG t2 t6 t7 t49 h=
 QF t49 fun a2=>
  V.ite a2
  (XA t49 fun a3=>
  QG t6 t7 a3 h fun a4=>
  XB t49 fun a5=>
  OG t2 t6 t7 a5 a4)
  (XC t2 t7 h fun a6=>
  (AU a6 66 t2).bind fun a7=>AP 0 a6 a7):=
 DF (by kernel_rfl)
theorem QI (t2 t3 t6:V) (h:List V):OE t2 t3 t6 h=
 QE t3 fun a8=>
  V.ite a8
  (Wv t3 t6 h fun a9=>
  Wx t3 fun a10=>
  OE t2 a10 t6 a9)
  (Wy h fun a11 a12=>
  W9 fun a13=>
  OG t2 t6 a11 a13 a12):=
 DF (by kernel_rfl)
theorem QJ (t2 t3 t4 t25:V) (h:List V):OD t2 t3 t4 t25 h=
 VB t25 fun a14=>
  V.ite a14
  (ABN t25 fun a15=>
  ABO t3 t4 a15 h fun a16=>
  Ws t25 fun a17=>
  OD t2 a16 t4 a17 h)
  (Wu h fun a18 a19=>
  OE t2 t3 a18 a19):=
 DF (by kernel_rfl)
theorem QK (t2 t3 t4:V) (h:List V):OC t2 t3 t4 h=
 VA t3 fun a20=>
  V.ite a20
  (ABL t3 h fun a21=>
  OC t2 a21 t4 h)
  (ABM fun a22=>
  OD t2 t3 t4 a22 h):=
 DF (by kernel_rfl)
theorem AIS (t0:V):Cl 176 [t0] []=
 ABG [] fun a23 a24=>
  ABH t0 a24 fun a25=>
  ABJ a25 a24 fun a26=>
  ABK a25 a24 fun a27=>
  OC a23 a27 a26 a24:=
 Ar (by kernel_rfl)
def ABP (h:List V) (k:V→List V→Rv):Rv:=
 k (V.ref (List.length h) [] 66) (h++[zero P 66])
def ABQ (t0 t2:V) (h:List V) (k:List V→Rv):Rv:=
 (CU P 172 1 [(0,(V.int .u8 0))]).bind fun t3=>(conv P h 9 172 t0).bind fun t5=>(CU P 245 2 [(0,t3),(1,t5)]).bind fun t6=>(Cl 176 (AB h [t6]) []).bind fun r=>(Gv P h 66 t2 r.1).bind fun a1=>k a1
theorem AIT (t0:V):Cl 177 [t0] []=
 ABP [] fun a2 a3=>
  ABQ t0 a2 a3 fun a4=>
  (AU a4 66 a2).bind fun a5=>AP 0 a4 a5:=
 Ar (by kernel_rfl)
theorem AIU (t0 t1:V):Cl 178 [t0,t1] []=
 if((tyG 65) t0&&V.under 0 t0)=true then if((tyG 65) t1&&V.under 1 t1)=true then(Ny 5 false (ck [(tyI .u8) (V.int .u8 1)] [(V.int .u8 1)])).bind fun a1=>(slA 66 65 32 5 (V.ref 0 [] 66) none none none).bind fun a2=>(slA 66 65 32 5 (V.ref 1 [] 66) none none none).bind fun a3=>(Ny 172 true (ck [(tyL 5) a1,(tyL 5) a2,(tyL 5) a3] [(V.weak a1),(V.weak a2),(V.weak a3)])).bind fun a4=>(Cl 176 (AB [t0,t1,(V.agg 65 (List.replicate 32 (V.int .u8 0)))] [a4]) []).bind fun a5=>(Cb (tyG 65) 66 [t0,t1,(V.agg 65 (List.replicate 32 (V.int .u8 0)))] (V.ref 2 [] 66) a5.1).bind fun a6=>(AU a6 66 (V.ref 2 [] 66)).bind fun a7=>AP 0 a6 a7 else none else none:=
 Ar (by kernel_rfl)
def ABR (k:Rv):Rv:=
 k
def ABS (k:V→Rv):Rv:=
 k (V.int .u64 1)
def ABT (k:V→Rv):Rv:=
 k (V.int .i64 0)
def OH (t0 t3 t4:V):Rv:=lp W 179 0 (cd 179 75) (bk 0 (sk 179 0 15 (lv 179 0))) ⟨[(0,t0),(3,t3),(4,t4)],[]⟩
def VD (t0 t4:V) (k:V→Rv):Rv:=
 (AL .lss t4 t0).bind fun t7=>k t7
def ABU (t3:V) (k:V→Rv):Rv:=
 (AL .mul (V.int .u64 2) t3).bind fun t11=>k t11
def ABV (t4:V) (k:V→Rv):Rv:=
 (AL .add t4 (V.int .i64 1)).bind fun t9=>k t9
def ABW (t3:V) (k:V→Rv):Rv:=
 k t3
theorem QL (t0 t3 t4:V):OH t0 t3 t4=
 VD t0 t4 fun a1=>
  V.ite a1
  (ABU t3 fun a2=>
  ABV t4 fun a3=>
  OH t0 a2 a3)
  (ABW t3 fun a4=>
  AP 0 [] a4):=
 DF (by kernel_rfl)
theorem AIV (t0:V):Cl 179 [t0] []=
 ABR (ABS fun a5=>
  ABT fun a6=>
  OH t0 a5 a6):=
 Ar (by kernel_rfl)
def ABX (k:Rv):Rv:=
 k
def AIW (k:V→Rv):Rv:=
 (CU P 231 64 [(0,(V.int .u64 1116352408)),(1,(V.int .u64 1899447441)),(2,(V.int .u64 3049323471)),(3,(V.int .u64 3921009573)),(4,(V.int .u64 961987163)),(5,(V.int .u64 1508970993)),(6,(V.int .u64 2453635748)),(7,(V.int .u64 2870763221)),(8,(V.int .u64 3624381080)),(9,(V.int .u64 310598401)),(10,(V.int .u64 607225278)),(11,(V.int .u64 1426881987)),(12,(V.int .u64 1925078388)),(13,(V.int .u64 2162078206)),(14,(V.int .u64 2614888103)),(15,(V.int .u64 3248222580)),(16,(V.int .u64 3835390401)),(17,(V.int .u64 4022224774)),(18,(V.int .u64 264347078)),(19,(V.int .u64 604807628)),(20,(V.int .u64 770255983)),(21,(V.int .u64 1249150122)),(22,(V.int .u64 1555081692)),(23,(V.int .u64 1996064986)),(24,(V.int .u64 2554220882)),(25,(V.int .u64 2821834349)),(26,(V.int .u64 2952996808)),(27,(V.int .u64 3210313671)),(28,(V.int .u64 3336571891)),(29,(V.int .u64 3584528711)),(30,(V.int .u64 113926993)),(31,(V.int .u64 338241895)),(32,(V.int .u64 666307205)),(33,(V.int .u64 773529912)),(34,(V.int .u64 1294757372)),(35,(V.int .u64 1396182291)),(36,(V.int .u64 1695183700)),(37,(V.int .u64 1986661051)),(38,(V.int .u64 2177026350)),(39,(V.int .u64 2456956037)),(40,(V.int .u64 2730485921)),(41,(V.int .u64 2820302411)),(42,(V.int .u64 3259730800)),(43,(V.int .u64 3345764771)),(44,(V.int .u64 3516065817)),(45,(V.int .u64 3600352804)),(46,(V.int .u64 4094571909)),(47,(V.int .u64 275423344)),(48,(V.int .u64 430227734)),(49,(V.int .u64 506948616)),(50,(V.int .u64 659060556)),(51,(V.int .u64 883997877)),(52,(V.int .u64 958139571)),(53,(V.int .u64 1322822218)),(54,(V.int .u64 1537002063)),(55,(V.int .u64 1747873779)),(56,(V.int .u64 1955562222)),(57,(V.int .u64 2024104815)),(58,(V.int .u64 2227730452)),(59,(V.int .u64 2361852424)),(60,(V.int .u64 2428436474)),(61,(V.int .u64 2756734187)),(62,(V.int .u64 3204031479)),(63,(V.int .u64 3329325298))]).bind fun t1=>k t1
theorem AIX:Cl 180 [] []=
 ABX (AIW fun a1=>
  AP 0 [] a1):=
 Ar (by kernel_rfl)
def ABY (k:Rv):Rv:=
 k
def ABZ (t0:V) (k:V→Rv):Rv:=
 (AL .rem t0 (V.int .u64 4294967296)).bind fun t4=>k t4
theorem AIY (t0:V):Cl 181 [t0] []=
 ABY (ABZ t0 fun a1=>
  AP 0 [] a1):=
 Ar (by kernel_rfl)
def ABa (k:Rv):Rv:=
 k
def ABb (t0 t1:V) (k:V→Rv):Rv:=
 (Cl 179 (AB [] [t1]) []).bind fun r=>(AL .quo t0 r.1).bind fun t8=>(Cl 179 (AB [] [t1]) []).bind fun a1=>(AL .rem t0 a1.1).bind fun t12=>(AL .sub (V.int .i64 32) t1).bind fun t14=>(Cl 179 (AB [] [t14]) []).bind fun a2=>(AL .mul t12 a2.1).bind fun t16=>(AL .add t8 t16).bind fun t17=>k t17
theorem AIZ (t0 t1:V):Cl 182 [t0,t1] []=
 ABa (ABb t0 t1 fun a3=>
  AP 0 [] a3):=
 Ar (by kernel_rfl)
def OI (t0 t1 t7 t8:V) (n:Nat) (h:List V):Rv:=lp W 188 0 (cd 188 37) (bk 0 (sk 188 0 7 (lv 188 n))) ⟨[(0,t0),(1,t1),(7,t7),(8,t8)],h⟩
theorem QM (t0 t1 t7 t8:V) (n:Nat) (h:List V):OI t0 t1 t7 t8 n h=
 (AL .lss t8 t7).bind fun a1=>V.ite a1
  ((EQ 96 (V.weak t0) t8).bind fun a2=>(AU h 96 a2).bind fun a3=>BG P CO W t1 [a3] h fun a4 a5=>if V.noOwn a4=true then V.ite a4
  (AP n a5 t8)
  ((AL .add t8 (V.int .i64 1)).bind fun a6=>OI t0 t1 t7 a6 n a5)else none)
  (AP n h (V.int .i64 (-1))):=
 DF (by kernel_rfl)
theorem AIa (t0 t1:V) (h:List V):Cl 188 [t0,t1] h=
 (EZ (V.weak t0)).bind fun a7=>OI t0 t1 a7 (V.int .i64 0) (List.length h) h:=
 Ar (by kernel_rfl)
theorem ABc (t0:V) (h:List V):Cl 189 [t0] h=
 (Y7 191 96 [(V.lst 96 .nil []),t0] h).bind fun a1=>Ul a1.2 a1.1:=
 Ar (by kernel_rfl)
def OJ (t0 t1 t7 t8:V):Rv:=lp W 192 0 (cd 192 37) (bk 0 (sk 192 0 7 (lv 192 0))) ⟨[(0,t0),(1,t1),(7,t7),(8,t8)],[]⟩
theorem QN (t0 t1 t7 t8:V):OJ t0 t1 t7 t8=
 (AL .lss t8 t7).bind fun a1=>V.ite a1
  ((EQ 9 (V.weak t0) t8).bind fun a2=>(AU [] 9 a2).bind fun a3=>(AL .eql t1 a3).bind fun a4=>V.ite a4
  (AP 0 [] t8)
  ((AL .add t8 (V.int .i64 1)).bind fun a5=>OJ t0 t1 t7 a5))
  (AP 0 [] (V.int .i64 (-1))):=
 DF (by kernel_rfl)
theorem AIb (t0 t1:V):Cl 192 [t0,t1] []=
 (EZ (V.weak t0)).bind fun a6=>OJ t0 t1 a6 (V.int .i64 0):=
 Ar (by kernel_rfl)
theorem ABd (t0:V):Cl 193 [t0] []=
 if((tyG 23) (V.weak t0)&&V.under 0 (V.weak t0))=true then(CP [(V.weak t0),(V.agg 23 [(V.int .i64 0),(V.lst 96 .nil [])])] 24 (V.ref 0 [] 24)).bind fun a1=>(Cl 102 (AB [(V.weak t0),(V.agg 23 [(V.int .i64 0),(V.lst 96 .nil [])])] [a1]) []).bind fun a2=>(AL .neq a2.1 (V.int .i64 0)).bind fun a3=>V.ite a3
  (((ck [] [(V.int .i64 0),(V.lst 96 .nil [])]).map (.agg 23)).bind fun a4=>(Cb (tyG 23) 24 [(V.weak t0),(V.agg 23 [(V.int .i64 0),(V.lst 96 .nil [])])] (V.ref 1 [] 24) a4).bind fun a5=>(CP a5 24 (V.ref 1 [] 24)).bind fun a6=>if(List.all [a2.1,a6] V.okE)=true then AP 0 a5 (V.tup [a6,a2.1])else none)
  ((fA 24 3 0 (V.ref 0 [] 24)).bind fun a7=>if Dl (V.ref 0 [] 24) a7=true then(AU [(V.weak t0),(V.agg 23 [(V.int .i64 0),(V.lst 96 .nil [])])] 3 a7).bind fun a8=>(fA 24 22 1 (V.ref 0 [] 24)).bind fun a9=>(CP [(V.weak t0),(V.agg 23 [(V.int .i64 0),(V.lst 96 .nil [])])] 22 a9).bind fun a10=>DX P CO W (some (V.ref 0 [] 24)) (V.clo 157 []) [a10] [(V.weak t0),(V.agg 23 [(V.int .i64 0),(V.lst 96 .nil [])])] fun a11 a12=>DX P CO W (some (V.ref 0 [] 24)) (V.clo 156 []) [a11,(V.clo 158 [])] a12 fun a13 a14=>((ck [(tyI .i64) a8,(tyL 96) a13] [a8,(V.weak a13)]).map (.agg 23)).bind fun a15=>(Cb (tyG 23) 24 a14 (V.ref 1 [] 24) a15).bind fun a16=>(CP a16 24 (V.ref 1 [] 24)).bind fun a17=>if(List.all [(V.int .i64 0),a17] V.okE)=true then AP 0 a16 (V.tup [a17,(V.int .i64 0)])else none else none)else none:=
 Ar (by kernel_rfl)
def ABe (k:Rv):Rv:=
 k
def ABf (t0:V) (k:V→Rv):Rv:=
 (lenV P 245 (V.weak t0)).bind fun t13=>(AL .eql t13 (V.int .i64 0)).bind fun t14=>k t14
def AIc (h:List V) (k:V→List V→Rv):Rv:=
 (CU P 172 0 []).bind fun v=>(DR h v).bind fun r=>k r.1 r.2
def ABg (t0:V) (k:V→Rv):Rv:=
 (lenV P 245 (V.weak t0)).bind fun t17=>(AL .eql t17 (V.int .i64 1)).bind fun t18=>k t18
def ABh (t0:V) (h:List V) (k:V→List V→Rv):Rv:=
 (AX P 245 t0 (V.int .i64 0)).bind fun t20=>(CP h 172 t20).bind fun t21=>(Dv P 172 h (V.lst 5 .nil []) t21).bind fun v=>(DR h v).bind fun r=>k r.1 r.2
def ABi (k:V→Rv):Rv:=
 k (V.int .i64 0)
def ABj (t1:V) (k:V→Rv):Rv:=
 (lenV P 172 (V.weak t1)).bind fun t24=>(AL .gtr t24 (V.int .i64 0)).bind fun t25=>k t25
def XD (t0:V) (k:V→V→V→Rv):Rv:=
 (lenV P 245 (V.weak t0)).bind fun t43=>k (V.weak t0) t43 (V.int .i64 0)
def OM (t0 t1 t5 t42 t43 t44:V) (h:List V):Rv:=lp W 194 0 (cd 194 607) (bk 0 (sk 194 0 127 (lv 194 0))) ⟨[(0,t0),(1,t1),(5,t5),(42,t42),(43,t43),(44,t44)],h⟩
def QO (t43 t44:V) (k:V→Rv):Rv:=
 (AL .lss t44 t43).bind fun t45=>k t45
def XE (t42 t44:V) (h:List V) (k:V→Rv):Rv:=
 (AX P 245 t42 t44).bind fun t46=>(CP h 172 t46).bind fun t47=>k t47
def XF (t5 t7:V) (k:V→Rv):Rv:=
 (lenV P 172 (V.weak t7)).bind fun t49=>(AL .sub (V.int .i64 9223372036854775807) t5).bind fun t51=>(AL .gtr t49 t51).bind fun t52=>k t52
def XG (t5 t7:V) (k:V→Rv):Rv:=
 (lenV P 172 t7).bind fun t56=>(AL .add t5 t56).bind fun t57=>k t57
def XH (t44:V) (k:V→Rv):Rv:=
 (AL .add t44 (V.int .i64 1)).bind fun t58=>k t58
def XI (t5:V) (h:List V) (k:V→List V→Rv):Rv:=
 mnz P 0 210 [t5] h fun t60 a1=>(NJ P 172 t60 none (some t5) (some t5)).bind fun t63=>k t63 a1
def XJ (t0 t8:V) (h:List V) (k:V→List V→Rv):Rv:=
 (AX P 245 (V.weak t0) (V.int .i64 0)).bind fun t66=>(CP h 172 t66).bind fun t67=>(cpy P 172 h (V.weak t8) t67).bind fun r=>k r.1 r.2
def XK (t0:V) (k:V→V→V→Rv):Rv:=
 (NJ P 245 t0 (some (V.int .i64 1)) none none).bind fun t70=>(lenV P 245 t70).bind fun t71=>k t70 t71 (V.int .i64 0)
def OO (t1 t8 t9 t70 t71 t72:V) (h:List V):Rv:=lp W 194 2 (cd 194 4863) (bk 2 (sk 194 0 1023 (lv 194 0))) ⟨[(1,t1),(8,t8),(9,t9),(70,t70),(71,t71),(72,t72)],h⟩
def QR (t71 t72:V) (k:V→Rv):Rv:=
 (AL .lss t72 t71).bind fun t73=>k t73
def XL (t70 t72:V) (h:List V) (k:V→Rv):Rv:=
 (AX P 245 t70 t72).bind fun t74=>(CP h 172 t74).bind fun t75=>k t75
def XM (t1 t8 t9:V) (h:List V) (k:V→List V→Rv):Rv:=
 (NJ P 172 (V.weak t8) (some t9) none none).bind fun t79=>(cpy P 172 h t79 (V.weak t1)).bind fun r=>(AL .add t9 r.1).bind fun t82=>k t82 r.2
def XO (t8 t9 t11:V) (h:List V) (k:V→List V→Rv):Rv:=
 (NJ P 172 (V.weak t8) (some t9) none none).bind fun t86=>(cpy P 172 h t86 t11).bind fun r=>(AL .add t9 r.1).bind fun t89=>k t89 r.2
def XP (t72:V) (k:V→Rv):Rv:=
 (AL .add t72 (V.int .i64 1)).bind fun t90=>k t90
def XQ (t8:V) (k:V→Rv):Rv:=
 k t8
theorem QT (t1 t8 t9 t70 t71 t72:V) (h:List V):OO t1 t8 t9 t70 t71 t72 h=
 QR t71 t72 fun a2=>
  V.ite a2
  (XL t70 t72 h fun a3=>
  XM t1 t8 t9 h fun a4 a5=>
  XO t8 a4 a3 a5 fun a6 a7=>
  XP t72 fun a8=>
  OO t1 t8 a6 t70 t71 a8 a7)
  (XQ t8 fun a9=>
  SS 0 h a9):=
 DF (by kernel_rfl)
theorem QU (t0 t1 t5 t42 t43 t44:V) (h:List V):OM t0 t1 t5 t42 t43 t44 h=
 QO t43 t44 fun a10=>
  V.ite a10
  (XE t42 t44 h fun a11=>
  XF t5 a11 fun a12=>
  V.ite a12
  (none)
  (XG t5 a11 fun a13=>
  XH t44 fun a14=>
  OM t0 t1 a13 t42 t43 a14 h))
  (XI t5 h fun a15 a16=>
  XJ t0 a15 a16 fun a17 a18=>
  XK t0 fun a19 a20 a21=>
  OO t1 a15 a17 a19 a20 a21 a18):=
 DF (by kernel_rfl)
def AId (t0 t1:V) (k:V→Rv):Rv:=
 (lenV P 172 (V.weak t1)).bind fun t27=>(lenV P 245 (V.weak t0)).bind fun t29=>(AL .sub t29 (V.int .i64 1)).bind fun t30=>(AL .quo (V.int .i64 9223372036854775807) t30).bind fun t31=>(AL .geq t27 t31).bind fun t32=>k t32
def AIe (t0 t1 t5:V) (k:V→Rv):Rv:=
 (lenV P 172 (V.weak t1)).bind fun t36=>(lenV P 245 (V.weak t0)).bind fun t38=>(AL .sub t38 (V.int .i64 1)).bind fun t39=>(AL .mul t36 t39).bind fun t40=>(AL .add t5 t40).bind fun t41=>k t41
theorem AIf (t0 t1:V):Cl 194 [t0,t1] []=
 ABe (ABf t0 fun a22=>
  V.ite a22
  (AIc [] fun a23 a24=>
  SS 0 a24 a23)
  (ABg t0 fun a25=>
  V.ite a25
  (ABh t0 [] fun a26 a27=>
  SS 0 a27 a26)
  (ABi fun a28=>
  ABj t1 fun a29=>
  jn (fun a30=>XD t0 fun a31 a32 a33=>
  OM t0 t1 a30 a31 a32 a33 [])
  (fun(j0:V→Rv)=>V.ite a29
  (AId t0 t1 fun a34=>
  V.ite a34
  (none)
  (AIe t0 t1 a28 fun a35=>
  j0 a35))
  (j0 a28))))):=
 Ar (DU<|Dw (fun K=>K ⟨[(0,t0),(1,t1)],[]⟩) (CB<|DU<|DU<|Dw (fun K u14=>K ⟨[(0,t0),(1,t1),(14,u14)],[]⟩) (funext fun a22=>CB<|EP (by kernel_rfl) (Jw<|CB<|DU<|DU<|Dw (fun K u18=>K ⟨[(0,t0),(1,t1),(18,u18)],[]⟩) (funext fun a25=>CB<|EP (by kernel_rfl) (Jw<|CB<|DU<|Dw (fun K u5=>K ⟨[(0,t0),(1,t1),(5,u5)],[]⟩) (funext fun a28=>CB<|DU<|DU<|Dw (fun K u25=>K ⟨[(0,t0),(1,t1),(5,a28),(25,u25)],[]⟩) (funext fun a29=>CB<|ALq (fun K a30=>K ⟨[(0,t0),(1,t1),(5,a30)],[]⟩) (funext fun a30=>by kernel_rfl) (EP (by kernel_rfl) (by kernel_rfl))))))))))
def ABk (t0:V) (h:List V) (k:V→V→List V→Rv):Rv:=
 if(Bo P 247 t0&&V.under (List.length h) t0)=true then k (V.ref (List.length h) [] 247) (V.ref (List.length (h++[t0])) [] 247) ((h++[t0])++[zero P 247])else none
def ABl (h:List V) (k:V→List V→Rv):Rv:=
 k (V.ref (List.length h) [] 261) (h++[zero P 261])
def ABm (k:V→Rv):Rv:=
 k (V.int .i64 0)
def OQ (t1 t2 t4 t5 t23:V) (h:List V):Rv:=lp W 195 0 (cd 195 75) (bk 0 (sk 195 0 15 (lv 195 0))) ⟨[(1,t1),(2,t2),(4,t4),(5,t5),(23,t23)],h⟩
def VE (t23:V) (k:V→Rv):Rv:=
 (AL .lss t23 (V.int .i64 16)).bind fun t24=>k t24
def ABn (t23:V) (k:V→Rv):Rv:=
 k t23
def ABo (t1 t6:V) (k:V→Rv):Rv:=
 (AL .mul (V.int .i64 4) t6).bind fun t28=>(AL .mul (V.int .i64 4) t6).bind fun t30=>(AL .add t30 (V.int .i64 4)).bind fun t31=>(NJ P 172 (V.weak t1) (some t28) (some t31) none).bind fun t32=>k t32
def VF (t5 t6 t7:V) (h:List V) (k:List V→Rv):Rv:=
 (AX P 172 (V.weak t7) (V.int .i64 0)).bind fun t35=>(AU h 5 t35).bind fun t36=>(conv P h 5 203 t36).bind fun t37=>(AL .shl t37 (V.int .u64 24)).bind fun t38=>(AX P 172 (V.weak t7) (V.int .i64 1)).bind fun t40=>(AU h 5 t40).bind fun t41=>(conv P h 5 203 t41).bind fun t42=>(AL .shl t42 (V.int .u64 16)).bind fun t43=>(AL .or t38 t43).bind fun t44=>(AX P 172 (V.weak t7) (V.int .i64 2)).bind fun t46=>(AU h 5 t46).bind fun t47=>(conv P h 5 203 t47).bind fun t48=>(AL .shl t48 (V.int .u64 8)).bind fun t49=>(AL .or t44 t49).bind fun t50=>(AX P 172 (V.weak t7) (V.int .i64 3)).bind fun t52=>(AU h 5 t52).bind fun t53=>(conv P h 5 203 t53).bind fun t54=>(AL .or t50 t54).bind fun t55=>(AX P 261 t5 t6).bind fun t56=>(Gv P h 203 t56 t55).bind fun a1=>k a1
def ABp (t23:V) (k:V→Rv):Rv:=
 (AL .add t23 (V.int .i64 1)).bind fun t57=>k t57
def ABq (k:V→Rv):Rv:=
 k (V.int .i64 16)
def OT (t2 t4 t5 t8:V) (h:List V):Rv:=lp W 195 2 (cd 195 151) (bk 2 (sk 195 0 31 (lv 195 0))) ⟨[(2,t2),(4,t4),(5,t5),(8,t8)],h⟩
def VG (t8:V) (k:V→Rv):Rv:=
 (AL .lss t8 (V.int .i64 64)).bind fun t59=>k t59
def QV (t5 t8:V) (h:List V) (k:V→Rv):Rv:=
 (AL .sub t8 (V.int .i64 15)).bind fun t63=>(AX P 261 t5 t63).bind fun t64=>(AU h 203 t64).bind fun t65=>(Cl 211 (AB h [t65,(V.int .i64 7)]) []).bind fun r=>(AL .sub t8 (V.int .i64 15)).bind fun t68=>(AX P 261 t5 t68).bind fun t69=>(AU h 203 t69).bind fun t70=>(Cl 211 (AB h [t70,(V.int .i64 18)]) []).bind fun a2=>(AL .xor r.1 a2.1).bind fun t72=>(AL .sub t8 (V.int .i64 15)).bind fun t74=>(AX P 261 t5 t74).bind fun t75=>(AU h 203 t75).bind fun t76=>(AL .shr t76 (V.int .u64 3)).bind fun t77=>(AL .xor t72 t77).bind fun t78=>k t78
def QW (t5 t8:V) (h:List V) (k:V→Rv):Rv:=
 (AL .sub t8 (V.int .i64 2)).bind fun t80=>(AX P 261 t5 t80).bind fun t81=>(AU h 203 t81).bind fun t82=>(Cl 211 (AB h [t82,(V.int .i64 17)]) []).bind fun r=>(AL .sub t8 (V.int .i64 2)).bind fun t85=>(AX P 261 t5 t85).bind fun t86=>(AU h 203 t86).bind fun t87=>(Cl 211 (AB h [t87,(V.int .i64 19)]) []).bind fun a2=>(AL .xor r.1 a2.1).bind fun t89=>(AL .sub t8 (V.int .i64 2)).bind fun t91=>(AX P 261 t5 t91).bind fun t92=>(AU h 203 t92).bind fun t93=>(AL .shr t93 (V.int .u64 10)).bind fun t94=>(AL .xor t89 t94).bind fun t95=>k t95
def QX (t5 t8 t9 t10:V) (h:List V) (k:List V→Rv):Rv:=
 (AL .sub t8 (V.int .i64 16)).bind fun t98=>(AX P 261 t5 t98).bind fun t99=>(AU h 203 t99).bind fun t100=>(AL .sub t8 (V.int .i64 7)).bind fun t102=>(AX P 261 t5 t102).bind fun t103=>(AU h 203 t103).bind fun t104=>(AL .add t100 t104).bind fun t105=>(AL .add t105 t9).bind fun t107=>(AL .add t107 t10).bind fun t109=>(AX P 261 t5 t8).bind fun t110=>(Gv P h 203 t110 t109).bind fun a1=>k a1
def XR (t8:V) (k:V→Rv):Rv:=
 (AL .add t8 (V.int .i64 1)).bind fun t61=>k t61
def XT (t2:V) (h:List V) (k:V→List V→Rv):Rv:=
 (AU h 247 t2).bind fun t111=>(Gv P (h++[zero P 247]) 247 (V.ref (List.length h) [] 247) t111).bind fun a1=>k (V.ref (List.length h) [] 247) a1
def AEu (k:V→Rv):Rv:=
 k (V.int .i64 0)
def OU (t2 t4 t5 t11 t112:V) (h:List V):Rv:=lp W 195 4 (cd 195 607) (bk 4 (sk 195 0 127 (lv 195 0))) ⟨[(2,t2),(4,t4),(5,t5),(11,t11),(112,t112)],h⟩
def QY (t112:V) (k:V→Rv):Rv:=
 (AL .lss t112 (V.int .i64 64)).bind fun t113=>k t113
def XU (t112:V) (k:V→Rv):Rv:=
 k t112
def QZ (t11:V) (h:List V) (k:V→V→V→V→V→V→Rv):Rv:=
 (AX P 247 t11 (V.int .i64 0)).bind fun t115=>(AU h 203 t115).bind fun t116=>(AX P 247 t11 (V.int .i64 1)).bind fun t117=>(AU h 203 t117).bind fun t118=>(AX P 247 t11 (V.int .i64 2)).bind fun t119=>(AU h 203 t119).bind fun t120=>(AX P 247 t11 (V.int .i64 4)).bind fun t121=>(AU h 203 t121).bind fun t122=>(AX P 247 t11 (V.int .i64 5)).bind fun t123=>(AU h 203 t123).bind fun t124=>(AX P 247 t11 (V.int .i64 6)).bind fun t125=>(AU h 203 t125).bind fun t126=>k t116 t118 t120 t122 t124 t126
def Qa (t5 t11 t12 t16 t17 t18:V) (h:List V) (k:V→Rv):Rv:=
 (AX P 247 t11 (V.int .i64 7)).bind fun t127=>(AU h 203 t127).bind fun t128=>(Cl 211 (AB h [t16,(V.int .i64 6)]) []).bind fun r=>(Cl 211 (AB h [t16,(V.int .i64 11)]) []).bind fun a2=>(AL .xor r.1 a2.1).bind fun t133=>(Cl 211 (AB h [t16,(V.int .i64 25)]) []).bind fun a3=>(AL .xor t133 a3.1).bind fun t136=>(AL .add t128 t136).bind fun t137=>(AL .xor t17 t18).bind fun t142=>(AL .and t16 t142).bind fun t143=>(AL .xor t18 t143).bind fun t144=>(AL .add t137 t144).bind fun t145=>(AX P 261 (V.rop 261 O0) t12).bind fun t147=>(AU h 203 t147).bind fun t148=>(AL .add t145 t148).bind fun t149=>(AX P 261 t5 t12).bind fun t151=>(AU h 203 t151).bind fun t152=>(AL .add t149 t152).bind fun t153=>k t153
def Qb (t13 t14 t15:V) (h:List V) (k:V→Rv):Rv:=
 (Cl 211 (AB h [t13,(V.int .i64 2)]) []).bind fun r=>(Cl 211 (AB h [t13,(V.int .i64 13)]) []).bind fun a2=>(AL .xor r.1 a2.1).bind fun t158=>(Cl 211 (AB h [t13,(V.int .i64 22)]) []).bind fun a3=>(AL .xor t158 a3.1).bind fun t161=>(AL .and t13 t14).bind fun t164=>(AL .or t13 t14).bind fun t168=>(AL .and t15 t168).bind fun t169=>(AL .or t164 t169).bind fun t170=>(AL .add t161 t170).bind fun t171=>k t171
def Qc (t11 t13 t14 t15 t16 t17 t18 t19 t20:V) (h:List V) (k:List V→Rv):Rv:=
 (AL .add t19 t20).bind fun t174=>(AX P 247 t11 (V.int .i64 3)).bind fun t178=>(AU h 203 t178).bind fun t179=>(AL .add t179 t19).bind fun t181=>(bld P 247 [(0,t174),(1,t13),(2,t14),(3,t15),(4,t181),(5,t16),(6,t17),(7,t18)]).bind fun t185=>(Gv P h 247 t11 t185).bind fun a1=>k a1
def XV (t112:V) (k:V→Rv):Rv:=
 (AL .add t112 (V.int .i64 1)).bind fun t186=>k t186
def XW (t11:V) (h:List V) (k:V→V→Rv):Rv:=
 (AU h 247 t11).bind fun t187=>k t187 (V.int .i64 0)
def OV (t2 t4 t187 t188:V) (h:List V):Rv:=lp W 195 6 (cd 195 1215) (bk 6 (sk 195 0 255 (lv 195 0))) ⟨[(2,t2),(4,t4),(187,t187),(188,t188)],h⟩
def Qd (t188:V) (k:V→Rv):Rv:=
 (AL .lss t188 (V.int .i64 8)).bind fun t189=>k t189
def XY (t187 t188:V) (k:V→V→Rv):Rv:=
 (Lr P 247 t187 t188).bind fun t191=>k t188 t191
def XZ (t2 t21 t22:V) (h:List V) (k:List V→Rv):Rv:=
 (AX P 247 t2 t21).bind fun t193=>(AU h 203 t193).bind fun t194=>(AL .add t194 t22).bind fun t196=>(AX P 247 t2 t21).bind fun t197=>(Gv P h 203 t197 t196).bind fun a1=>k a1
def Xa (t188:V) (k:V→Rv):Rv:=
 (AL .add t188 (V.int .i64 1)).bind fun t198=>k t198
def Xb (t2 t4:V) (h:List V) (k:List V→Rv):Rv:=
 (AU h 247 t2).bind fun t199=>(Gv P h 247 t4 t199).bind fun a1=>k a1
theorem Qe (t2 t4 t187 t188:V) (h:List V):OV t2 t4 t187 t188 h=
 Qd t188 fun a4=>
  V.ite a4
  (XY t187 t188 fun a5 a6=>
  XZ t2 a5 a6 h fun a7=>
  Xa t188 fun a8=>
  OV t2 t4 t187 a8 a7)
  (Xb t2 t4 h fun a9=>
  (AU a9 247 t4).bind fun a10=>AP 0 a9 a10):=
 DF (by kernel_rfl)
theorem Qg (t2 t4 t5 t11 t112:V) (h:List V):OU t2 t4 t5 t11 t112 h=
 QY t112 fun a11=>
  V.ite a11
  (XU t112 fun a12=>
  QZ t11 h fun a13 a14 a15 a16 a17 a18=>
  Qa t5 t11 a12 a16 a17 a18 h fun a19=>
  Qb a13 a14 a15 h fun a20=>
  Qc t11 a13 a14 a15 a16 a17 a18 a19 a20 h fun a21=>
  XV t112 fun a22=>
  OU t2 t4 t5 t11 a22 a21)
  (XW t11 h fun a23 a24=>
  OV t2 t4 a23 a24 h):=
 DF (by kernel_rfl)
theorem Qh (t2 t4 t5 t8:V) (h:List V):OT t2 t4 t5 t8 h=
 VG t8 fun a25=>
  V.ite a25
  (QV t5 t8 h fun a26=>
  QW t5 t8 h fun a27=>
  QX t5 t8 a26 a27 h fun a28=>
  XR t8 fun a29=>
  OT t2 t4 t5 a29 a28)
  (XT t2 h fun a30 a31=>
  AEu fun a32=>
  OU t2 t4 t5 a30 a32 a31):=
 DF (by kernel_rfl)
theorem Qi (t1 t2 t4 t5 t23:V) (h:List V):OQ t1 t2 t4 t5 t23 h=
 VE t23 fun a33=>
  V.ite a33
  (ABn t23 fun a34=>
  ABo t1 a34 fun a35=>
  VF t5 a34 a35 h fun a36=>
  ABp t23 fun a37=>
  OQ t1 t2 t4 t5 a37 a36)
  (ABq fun a38=>
  OT t2 t4 t5 a38 h):=
 DF (by kernel_rfl)
theorem AIg (t0 t1:V):Cl 195 [t0,t1] []=
 ABk t0 [] fun a39 a40 a41=>
  ABl a41 fun a42 a43=>
  ABm fun a44=>
  OQ t1 a39 a40 a42 a44 a43:=
 Ar (by kernel_rfl)
def ABr (k:Rv):Rv:=
 k
def ABs (t0 t1:V) (k:V→Rv):Rv:=
 (un .neg t1).bind fun t7=>(Cl 225 (AB [] [t0,t7]) []).bind fun r=>k r.1
theorem AIh (t0 t1:V):Cl 211 [t0,t1] []=
 ABr (ABs t0 t1 fun a1=>
  AP 0 [] a1):=
 Ar (by kernel_rfl)
def ABt (k:Rv):Rv:=
 k
def ABu (t1:V) (k:V→Rv):Rv:=
 (conv P [] 3 192 t1).bind fun t7=>(AL .and t7 (V.int .u64 31)).bind fun t8=>k t8
def ABv (t0 t5:V) (k:V→Rv):Rv:=
 (AL .shl t0 t5).bind fun t11=>(AL .sub (V.int .u64 32) t5).bind fun t14=>(AL .shr t0 t14).bind fun t15=>(AL .or t11 t15).bind fun t16=>k t16
theorem AIi (t0 t1:V):Cl 225 [t0,t1] []=
 ABt (ABu t1 fun a1=>
  ABv t0 a1 fun a2=>
  AP 0 [] a2):=
 Ar (by kernel_rfl)
end
end Go.Proofs.YtoakaehjnbhgmaaGreatDoor
